/-
  Part 5 of the texts. Conditions: none.
-/
import Derived.Test.YtignopbnnaimaaaGreatDoorTWi4
import Derived.Laws.MakeOwn
import Derived.Laws.CopyRow
import Derived.Laws.IdiomCopy
import Derived.OrdersIn
namespace Go.Proofs.YtignopbnnaimaaaGreatDoor
open Go Go.RowKit
set_option linter.unusedVariables false
set_option maxHeartbeats 400000
def Mi (P:Program) (t:TypeId):Option (Bool × Nat):=match P.underlying t,P.info? t with
 | some d,some i=>some (Dt d,if Dt d then i.size else 1)
 | _,_=>none
def Qk (v:Value):Option SV:=match Jk v with
 | some (.st c)=>some c
 | some (.full xs)=>some (.list xs)
 | _=>none
def GR:List Value→Option (List SV)
 | []=>some []
 | v :: vs=>match Qk v,GR vs with
  | some c,some cs=>some (c :: cs)
  | _,_=>none
def isP (mu:List Nat):Option Nat→Bool
 | some d=>mu.contains (30000000 + d)
 | none=>false
def isB (mu:List Nat):Option Nat→Bool
 | some d=>mu.contains (90000000 + d)
 | none=>false
def isY (mu:List Nat):Option Nat→Bool
 | some d=>mu.contains (70000000 + d)
 | none=>false
def Nq (P:Program) (t:TypeId):Bool:=match P.underlying t with
 | some .string=>true
 | _=>false
theorem N7 {P:Program} {t:TypeId} (h:Nq P t=true):P.underlying t=some .string:=by
 unfold Nq at h
 split at h
 ·assumption
 ·cases h
def UI:Value→Bool
 | .int .u8 n=>decide (n=0)
 | _=>false
theorem Qs {v:Value} (h:UI v=true):v=.int .u8 0:=by
 unfold UI at h
 split at h
 ·rw [of_decide_eq_true h]
 ·cases h
def Gi (P:Program) (n:Nat) (mu:List Nat) (dst:Option Nat) (c:Call):Option Kd:=match c.callee with
 | .builtin .len=>match c.args.toList,c.argTypes.toList with
  | [x],[t]=>match AM n x,P.underlying t with
   | some x',some .string=>some (.len true x')
   | some x',some (.slice _)=>some (.len false x')
   | some x',some (.map _ _)=>some (.lenM x')
   | _,_=>none
  | _,_=>none
 | .builtin .append=>match c.args.toList,c.argTypes.toList with
  | [x,y],[t,t']=>match AM n x,AM n y,P.underlying t with
   | some x',some y',some (.slice e)=>match P.info? e with
    | some i=>match i.zero with
     | some z=>if t=t'∧z.cells.size=i.size∧0 < i.size then if isP mu dst then some (.appP e i.size i.bytes x' y') else some (.append (match dst with | some d=>mu.contains d | none=>false) e i.size i.bytes x' y') else if Nq P t'=true∧i.size=1∧i.bytes=1∧UI z=true then some (.appS e x' y') else none
     | none=>none
    | none=>none
   | _,_,_=>none
  | _,_=>none
 | .builtin .clear=>match c.args.toList,c.argTypes.toList with
  | [x],[t]=>match AM n x,P.underlying t with
   | some x',some (.slice e)=>match P.info? e with
    | some i=>match i.zero with
     | some z=>match GR z.cells.toList with
      | some zs=>if z.cells.size=i.size∧0 < i.size then some (.clearP e i.size zs x') else none
      | none=>none
     | none=>none
    | none=>none
   | _,_=>none
  | _,_=>none
 | .builtin .copy=>match c.args.toList,c.argTypes.toList with
  | [x,y],[t,t']=>match AM n x,AM n y,P.underlying t with
   | some x',some y',some (.slice e)=>if (P.info? e).map (·.size)=some 1 then some (.copyP x' y') else some .never
   | _,_,_=>some .never
  | _,_=>some .never
 | .builtin .min=>match c.args.toList with
  | [x,y]=>match AM n x,AM n y with
   | some x',some y'=>some (.mm false x' y')
   | _,_=>none
  | _=>none
 | .builtin .max=>match c.args.toList with
  | [x,y]=>match AM n x,AM n y with
   | some x',some y'=>some (.mm true x' y')
   | _,_=>none
  | _=>none
 | .value (.func f)=>if CS P f then (Bj n c.args.toList).map (fun xs=>match dst with
  | some d=>if mu.contains d then .callS f xs else if mu.contains (20000000 + d) then .callN f xs else if mu.contains (40000000 + d) then .callR f xs else if mu.contains (50000000 + d) then .callW f xs else if mu.contains (80000000 + d) then .callX f xs else .call f xs
  | none=>.callS f xs) else none
 | .value (.tmp t)=>match AM n (.tmp t),Bj n c.args.toList with
  | some f',some xs=>if isY mu dst then none else some (.callV f' xs)
  | _,_=>none
 | _=>none
def UJ (P:Program) (t:TypeId):Bool:=match P.underlying t with
 | some (.int _)=>true
 | some .string=>true
 | some .bool=>true
 | _=>false
def Je (P:Program) (t:TypeId):Option (TypeId × Option KK):=match P.underlying t with
 | some (.map k e)=>(Ll P k).map fun kt=>(e,kt)
 | _=>none
theorem F3 {P:Program} {t e:TypeId} {kt:Option KK} (h:Je P t=some (e,kt)):∃ k,P.underlying t=some (.map k e)∧Iq P k kt:=by
 unfold Je at h
 split at h
 ·rename_i k e' e1
  rw [Option.map_eq_some_iff] at h
  obtain ⟨q,h1,h2⟩:=h
  cases h2
  exact ⟨k,e1,Rz h1⟩
 ·cases h
def L0 (P:Program) (e:TypeId):Option AV:=match P.info? e with
 | some i=>match i.zero with
  | some z=>Jg z
  | none=>none
 | none=>none
theorem Im {P:Program} {e:TypeId} {zv:AV} (h:L0 P e=some zv):∃ i z,P.info? e=some i∧i.zero=some z∧Jg z=some zv:=by
 unfold L0 at h
 split at h
 ·rename_i i e1
  split at h
  ·rename_i z e2
   exact ⟨i,z,e1,e2,h⟩
  ·cases h
 ·cases h
def A8 (P:Program) (n:Nat) (mu:List Nat) (dst:Option Nat):Op→Option Kd
 | .move x=>(AM n x).map .mov
 | .assign x=>(AM n x).map .mov
 | .pick c x y=>match AM n c,AM n x,AM n y with
  | some c',some x',some y'=>some (.pick c' x' y')
  | _,_,_=>none
 | .alloc e=>match P.info? e with
  | some i=>match i.zero with
   | some z=>(C9 z.cells.toList).map (.alloc e)
   | none=>none
  | none=>none
 | .box e x=>(AM n x).map (.box e)
 | .build t ps=>match P.info? t,P.underlying t with
  | some it,some (.struct fs)=>match it.zero,fs.toList.mapM (fun f=>(P.info? f.type).map fun i=>(f.offset,i.size)) with
   | some z,some places=>match EA n places ps.toList,C9 z.cells.toList with
    | some ps',some cs=>some (.build cs ps')
    | _,_=>none
   | _,_=>none
  | some it,some (.array len e)=>match it.zero,P.info? e with
   | some z,some ie=>match EA n ((List.range len).map fun i=>(i * ie.size,ie.size)) ps.toList,C9 z.cells.toList with
    | some ps',some cs=>if 1 < ie.size then some (.build cs ps') else none
    | _,_=>none
   | _,_=>none
  | _,_=>none
 | .buildSlice t len ps=>match P.underlying t with
  | some (.slice e)=>match P.info? e with
   | some ie=>match ie.zero,Kh n 0 ps.toList with
    | some z,some xs=>if len * ie.size≤2 ^ 24∧0 < ie.size∧ps.size=len then (if UJ P e && ie.size == 1 && !(match dst with | some d=>mu.contains d | none=>false) then some (.buildFlat xs) else some (.buildSlice (match dst with | some d=>mu.contains d | none=>false) e ie.size xs)) else none
    | _,_=>none
   | none=>none
  | _=>none
 | .load t x=>match Mi P t,AM n x with
  | some (g,k),some x'=>some (.load g k x')
  | _,_=>none
 | .store t x v=>match P.info? t,AM n x,AM n v with
  | some i,some x',some v'=>some (.store i.size x' v')
  | _,_,_=>none
 | .fieldAddr t x f=>match P.underlying t,AM n x with
  | some (.struct fs),some x'=>match fs[f]? with
   | some fd=>match P.info? fd.type with
    | some i=>if i.size ≠ 0 then some (.fieldAddr fd.offset x') else none
    | none=>none
   | none=>none
  | _,_=>none
 | .field t x f=>match P.underlying t,AM n x with
  | some (.struct fs),some x'=>match fs[f]? with
   | some fd=>match Mi P fd.type with
    | some (g,k)=>some (.field g fd.offset k x')
    | none=>none
   | none=>none
  | _,_=>none
 | .indexAddr t x y=>match P.underlying t,AM n x,AM n y with
  | some (.slice e),some x',some y'=>match P.info? e with
   | some i=>if isP mu dst then some (.indexP i.size x' y') else some (.indexAddr i.size x' y')
   | none=>none
  | some (.array len e),some x',some y'=>match P.info? e with
   | some i=>some (.indexArr len i.size x' y')
   | none=>none
  | _,_,_=>none
 | .index t x y=>match P.underlying t,AM n x,AM n y with
  | some .string,some x',some y'=>some (.indexStr x' y')
  | _,_,_=>none
 | .binOp op t x y _=>match AM n x,AM n y with
  | some x',some y'=>match P.underlying t,op,y with
   | some .bool,.eql,_=>some (.eqB false x' y')
   | some .bool,.neq,_=>some (.eqB true x' y')
   | some (.slice _),.eql,.const (.slice none 0 0)=>some (.eqN false x')
   | some (.slice _),.neq,.const (.slice none 0 0)=>some (.eqN true x')
   | some (.interface _),.eql,.const .nilIface=>some (.eqE false x')
   | some (.interface _),.neq,.const .nilIface=>some (.eqE true x')
   | some (.pointer _),.eql,.const (.pointer none)=>some (.eqP false x')
   | some (.pointer _),.neq,.const (.pointer none)=>some (.eqP true x')
   | _,.and,_=>some (.bits op x' y')
   | _,.or,_=>some (.bits op x' y')
   | _,.shl,_=>some (.bits op x' y')
   | _,.shr,_=>if isB mu dst then some (.bits op x' y') else some (.bin op x' y')
   | _,_,_=>some (.bin op x' y')
  | _,_=>none
 | .unOp op _ x=>(AM n x).map (.un op)
 | .convert src dst x=>match P.underlying src,P.underlying dst,AM n x with
  | some _,some (.int k),some x'=>some (.conv k x')
  | some (.slice e),some .string,some x'=>match P.underlying e with
   | some (.int .u8)=>some (.strOf false x')
   | _=>none
  | some (.int _),some .string,some x'=>some (.strOf true x')
  | _,_,_=>none
 | .slice t x lo hi none=>match P.underlying t,AM n x,B2 n lo,B2 n hi with
  | some .string,some x',some lo',some hi'=>some (.sliceS x' lo' hi')
  | some (.slice e),some x',some lo',some hi'=>match P.info? e with
   | some i=>if isP mu dst then (match lo',hi' with | none,some h'=>some (.cutP i.size x' h') | some l',none=>some (.restP i.size x' l') | _,_=>none) else some (.sliceL i.size x' lo' hi')
   | none=>none
  | _,_,_,_=>none
 | .slice t x none (some hi) (some mx)=>match P.underlying t,AM n x,AM n hi,AM n mx with
  | some (.slice e),some x',some h',some m'=>(P.info? e).map fun i=>.sliceM i.size x' h' m'
  | _,_,_,_=>none
 | .extract x i=>(AM n x).map (.extract i)
 | .nilCheck x=>(AM n x).map .nilCheck
 | .call c=>Gi P n mu dst c
 | .makeSlice t x y=>match P.underlying t,AM n x,AM n y with
  | some (.slice e),some x',some y'=>match P.info? e with
   | some i=>match i.zero with
    | some z=>match GR z.cells.toList with
     | some zs=>if z.cells.size=i.size∧0 < i.size then some (.makeSlice e i.size i.bytes zs x' y') else none
     | none=>none
    | none=>none
   | none=>none
  | _,_,_=>none
 | .makeMap t none=>(Je P t).map fun q=>.makeMap q.2
 | .lookup t x k ok=>match Je P t,AM n x,AM n k with
  | some (e,kt),some x',some k'=>(L0 P e).map fun z=>.lookup kt ok z x' k'
  | _,_,_=>none
 | .mapUpdate t x k v=>match Je P t,AM n x,AM n k,AM n v with
  | some (_,kt),some x',some k',some v'=>some (.mapSet kt x' k' v')
  | _,_,_,_=>none
 | .insert t x k v=>match Je P t,AM n x,AM n k,AM n v with
  | some (_,kt),some x',some k',some v'=>some (.mapSet kt x' k' v')
  | _,_,_,_=>none
 | .mapEntry t x k=>match Je P t,AM n x,AM n k with
  | some (e,kt),some x',some k'=>(L0 P e).map fun z=>.mapEntry kt z x' k'
  | _,_,_=>none
 | .entryStore _ x k v=>match AM n x,AM n k,AM n v with
  | some x',some k',some v'=>some (.entrySet x' k' v')
  | _,_,_=>none
 | .range t x=>match P.underlying t,AM n x with
  | some (.map _ _),some x'=>some (.rangeM x')
  | _,_=>none
 | .next x false=>(AM n x).map .next
 | .entry x=>(AM n x).map .entry
 | .makeInterface t x=>match P.underlying t,AM n x with
  | some (.int _),some x'=>some (.iface t x')
  | _,_=>none
 | .makeFunc (.func g) first caps=>if first.size=0 then (Bj n caps.toList).map (.makeFunc g) else none
 | _=>none
def IU (n:Nat) (ops:List Oper):Option (Nat × Bool)→Option (Option (Nat × Bool))
 | none=>some none
 | some (j,want)=>match ops[j]? with
  | some o=>match o.dst with
   | some t=>if t < n then some (some (t,want)) else none
   | none=>none
  | none=>none
def I9 (P:Program) (n:Nat) (op:Op):Option Kd:=none
def S9 (mu:List Nat):Option Nat→Bool
 | some d=>mu.contains (60000000 + d)
 | none=>false
def Kd.stillIf (b:Bool) (k:Kd):Kd:=match b with
 | true=>k.stillOf
 | false=>k
theorem OL {P:Program} {d:Nat} {s:AS} {K:AV→AS→Prop} {b:Bool} {kd:Kd} (h:(kd.stillIf b).go P d s K):kd.go P d s (T7 K):=by
 have keep:kd.go P d s K→kd.go P d s (T7 K):=fun h=>go_mono h fun _ _ h=>.inl h
 cases b with
 | true =>
  by_cases ha:∃ mu e w b x y,kd=.append mu e w b x y
  ·obtain ⟨mu,e,w,b,x,y,rfl⟩:=ha
   exact Na h
  ·exact keep (Od (fun mu e w b x y he=>ha ⟨mu,e,w,b,x,y,he⟩) h)
 | false=>exact keep h
theorem KH {b:Bool} {kd:Kd} {f:Nat} {xs:List Opd} (h:kd.stillIf b=.callS f xs):kd=.callS f xs:=by
 cases b with
 | true=>exact KM h
 | false=>exact h
theorem NQ {b:Bool} {kd:Kd} {x:Opd} (h:kd.stillIf b=.pan x):kd=.pan x:=by
 cases b with
 | true=>exact MT h
 | false=>exact h
def Ti (P:Program) (n:Nat) (mu:List Nat) (dst:Option Nat) (op:Op):Option Kd:=match A8 P n mu dst op with
 | some k=>some (k.stillIf (S9 mu dst))
 | none=>match I9 P n op with
  | some k=>some k
  | none=>match op with
   | .panic x=>(AM n x).map .pan
   | .call c=>match c.callee with
    | .value (.tmp t)=>match AM n (.tmp t),Bj n c.args.toList with
     | some f',some xs=>some (.callY f' xs)
     | _,_=>some .never
    | _=>some .never
   | _=>some .never
def H0 (P:Program) (n:Nat) (mu:List Nat) (ops:List Oper) (o:Oper):Option Ins:=match IU n ops o.guard,Ti P n mu o.dst o.op with
 | some g,some k=>some ⟨o.dst,g,k,.no⟩
 | _,_=>none
def G_ (P:Program) (n:Nat) (mu:List Nat) (ops:List Oper):List Oper→Option (List Ins)
 | []=>some []
 | o :: os=>match H0 P n mu ops o,G_ P n mu ops os with
  | some i,some is=>some (i :: is)
  | _,_=>none
section
variable {P:Program} {C:Ctx} {o:Oper} {a:Act} {w:World} {σ:Sto} {ι:As} {s:AS} {d:Nat}
def Ax (C:Ctx) (s:AS) (a:Act) (w:World):Prop:=∃ σ ι,AT C σ ι s a w
theorem GY {t:TypeId} {g:Bool} {k:Nat} (h:Mi P t=some (g,k)):∃ dd i,P.underlying t=some dd∧P.info? t=some i∧g=Dt dd∧k=if g then i.size else 1:=by
 unfold Mi at h
 split at h
 ·rename_i dd i e1 e2
  simp only [Option.some.injEq,Prod.mk.injEq] at h
  obtain ⟨rfl,rfl⟩:=h
  exact ⟨dd,i,e1,e2,rfl,rfl⟩
 ·cases h
theorem Ri {f:FuncId} {xs:Array Operand} {ts:Array TypeId} {xs':List Opd} {K:AV→AS→Prop} {next:Act→World→Prop} {Q:Exit→Act→World→Prop} (ho:o.op=.call { callee:=.value (.func f),args:=xs,argTypes:=ts }) (hf:CS P f=true) (hx:Bj C.n xs.toList=some xs')
  (R:AT C σ ι s a w) (h:Kd.go P d s K (.call f xs')) (hn:∀ av s' a' w',K av s'→Ax C (s'.put o.dst av) a' w'→next a' w'):o.wp P a w next Q:=by
 simp only [Kd.go] at h
 split at h
 ·rename_i vs e1
  obtain ⟨r,hc,hK⟩:=h
  have rxs:=R.evs hx
  have hrun:(execOp a.eval o).run P w=.ok (.enter f (xs.map a.eval)) w:=by
   unfold CS at hf
   split at hf
   ·rename_i fn hfn
    simp only [Bool.and_eq_true,Bool.not_eq_true',beq_eq_false_iff_ne,Option.isSome_iff_exists] at hf
    obtain ⟨hname,c,hbody⟩:=hf
    simp [execOp,ho,resolve,Deferred.ofValue,Act.eval,invoke,callFunc,hfn,hname,hbody]
   ·cases hf
  have hvs:Af (AN σ noS noH) (xs.map a.eval).toList vs:=by
   have:=rxs
   rw [← Array.toList_map] at this
   have hlen:=this.len
   obtain ⟨q1,q2⟩:=AT.outVs R (cs:=s.evs xs') (cs':=vs) (c:=fun j=>((xs.map a.eval).toList[j]?).getD undef) (fun j b hb=>by
    obtain ⟨v,v1,v2⟩:=this.get hb
    rw [v1]
    exact v2) e1
   refine Af.of_get (by omega) fun j v b hv hb=>?_
   have:=q2 j b hb
   rw [hv] at this
   exact this
  unfold Oper.wp
  rw [hrun,Oper.upon_enter]
  have hcall:=hc σ w _ (C.glob.mono R.ext) R.fit hvs
  rw [Array.toArray_toList] at hcall
  refine hcall.mono fun e w' he=>?_
  obtain ⟨v,σ',rfl,hv,hf',hext,hb⟩:=he
  exact hn _ _ _ _ hK ⟨σ',ι,(R.more hext hf' hb).put (hv.mono (fun _ _ h=>h) (HF _ _))⟩
 ·exact h.elim
theorem Ss {mx:Bool} {x y:Operand} {ts:Array TypeId} {x' y':Opd} {K:AV→AS→Prop} (ho:o.op=.call { callee:=.builtin (if mx then .max else .min),args:=#[x,y],argTypes:=ts }) (hx:AM C.n x=some x') (hy:AM C.n y=some y') (R:AT C σ ι s a w) (h:Kd.go P d s K (.mm mx x' y')):BF P C o a w K:=by
 have rx:=R.ev hx
 have ry:=R.ev hy
 simp only [Kd.go] at h
 split at h
 ·rename_i k m k' n e1 e2
  rw [e1] at rx
  rw [e2] at ry
  obtain ⟨hex,h1⟩:=A7 rx
  obtain ⟨hey,h2⟩:=A7 ry
  obtain ⟨rfl,h⟩:=h
  cases mx with
  | true =>
   simp only [if_true] at h ho
   by_cases hlt:m < n
   ·rw [if_pos hlt] at h
    exact AZ R (.int k n) _ (by simp [execOp,ho,resolve,invoke,builtin,Builtin.max_,Builtin.max2,hex,hey,hlt]) h (.one (.st (.int h2)))
   ·rw [if_neg hlt] at h
    exact AZ R (.int k m) _ (by simp [execOp,ho,resolve,invoke,builtin,Builtin.max_,Builtin.max2,hex,hey,hlt]) h (.one (.st (.int h1)))
  | false =>
   simp only [Bool.false_eq_true,if_false] at h ho
   by_cases hlt:n < m
   ·rw [if_pos hlt] at h
    exact AZ R (.int k n) _ (by simp [execOp,ho,resolve,invoke,builtin,Builtin.min_,Builtin.min2,hex,hey,hlt]) h (.one (.st (.int h2)))
   ·rw [if_neg hlt] at h
    exact AZ R (.int k m) _ (by simp [execOp,ho,resolve,invoke,builtin,Builtin.min_,Builtin.min2,hex,hey,hlt]) h (.one (.st (.int h1)))
 ·exact h.elim
theorem Pl {v:Value} {c:SV} (h:Qk v=some c):A0 σ v c:=by
 unfold Qk at h
 split at h
 ·rename_i e
  cases h
  have:=El (σ:=σ) (S:=noS) (ι:=noH) e
  exact B0 this
 ·rename_i e
  cases h
  have:=El (σ:=σ) (S:=noS) (ι:=noH) e
  exact DM this
 ·cases h
theorem F9:∀ {vs:List Value} {cs:List SV},GR vs=some cs→Af (A0 σ) vs cs
 | [],cs,h=>by simp only [GR,Option.some.injEq] at h;subst h;exact .nil
 | v :: vs,cs,h=>by
  simp only [GR] at h
  split at h
  ·rename_i k1 k2
   cases h
   exact .cons (Pl k1) (F9 k2)
  ·cases h
theorem QQ {z:Array Value} {zs:List SV} (hzs:GR z.toList=some zs) (hpos:0 < z.size) (n:Nat):BC σ (Builtin.zeroCells z n).toList z.size (List.replicate n zs):=by
 have rz:=F9 (σ:=σ) hzs
 have hzl:=rz.len
 simp only [Array.length_toList] at hzl
 refine ⟨fun x hx=>by rw [(List.mem_replicate.1 hx).2];exact hzl.symm,fun k x j y hx hy=>?_⟩
 obtain ⟨hk1,hk2⟩:=List.getElem?_eq_some_iff.1 hx
 simp only [List.length_replicate] at hk1
 rw [List.getElem_replicate] at hk2
 subst hk2
 have hj:j < z.size:=by
  have:=(List.getElem?_eq_some_iff.1 hy).1
  omega
 obtain ⟨v,v1,v2⟩:=rz.get hy
 refine ⟨v,?_,v2⟩
 have hlt:k * z.size + j < n * z.size:=by
  have:(k + 1) * z.size≤n * z.size:=Nat.mul_le_mul_right _ hk1
  rw [Nat.add_mul] at this
  omega
 have em:(k * z.size + j) % z.size=j:=by rw [Nat.mul_comm,Nat.mul_add_mod,Nat.mod_eq_of_lt hj]
 have hv:z[j]?=some v:=by simpa using v1
 unfold Builtin.zeroCells
 simp only [Array.getElem?_toList,Array.getElem?_map,Array.getElem?_range,if_pos hlt,Option.map_some,em]
 simp only [Array.getElem!_eq_getD,Array.getD_eq_getD_getElem?,hv,Option.getD_some]
theorem R7 {z:Array Value} {zs:List SV} (hzs:GR z.toList=some zs) (hpos:0 < z.size) (n:Nat):∀ u ∈ (Builtin.zeroCells z n).toList,u.oneCell'=true:=fun u hu=>by
 have rz:=F9 (σ:=fun _=>none) hzs
 unfold Builtin.zeroCells at hu
 simp only [Array.toList_map,List.mem_map] at hu
 obtain ⟨q,_,rfl⟩:=hu
 have hq:q % z.size < z.size:=Nat.mod_lt _ hpos
 rw [getElem!_pos z (q % z.size) hq]
 obtain ⟨c,_,hc⟩:=rz.get' (show z.toList[q % z.size]?=some z[q % z.size] by simp [hq])
 exact hc.one
theorem OM {t e:TypeId} {i:TypeInfo} {z:Value} {zs:List SV} {x:Operand} {x':Opd} {K:AV→AS→Prop} (ho:o.op=.call { callee:=.builtin .clear,args:=#[x],argTypes:=#[t] }) (hx:AM C.n x=some x') (ht:P.underlying t=some (.slice e)) (hi:P.info? e=some i) (hz:i.zero=some z) (hzs:GR z.cells.toList=some zs) (hsz:z.cells.size=i.size) (hpos:0 < i.size)
  (R:AT C σ ι s a w) (h:Kd.go P d s K (.clearP e i.size zs x')):BF P C o a w K:=by
 have rx:=R.ev hx
 simp only [Kd.go] at h
 split at h
 ·rename_i id q m e1
  rw [e1] at rx
  replace rx:=Aa rx
  split at h
  ·rename_i e' w' xs hS
   obtain ⟨⟨hm,rfl,rfl⟩,hK⟩:=h
   obtain ⟨b,hb1,hb2,hb3⟩:=HX rx
   rw [hS] at hb1
   cases hb1
   obtain ⟨hqm,hex⟩:=hb3 hm
   have hb:=R.blk _ _ hS
   have hmm:m=xs.length:=hm
   have hex2:∀ v w2,(Builtin.clear_ #[t] o.type #[a.eval x]).run P w=.ok v w2→(execOp a.eval o).run P w=.ok (.value v) w2:=fun v w2 hr=>by
    simp only [execOp,ho,resolve,invoke,builtin,Sem.run_bind,Sem.run_pure,Result.andThen_ok,List.map_toArray,List.map_cons,List.map_nil,hr]
   have hlen:(xs.take q ++ List.replicate (m - q) zs).length=xs.length:=by simp;omega
   by_cases h0:m - q=0
   ·have hrun:=hex2 (.tuple #[]) w (by
     rw [hex,h0]
     generalize (if (ι id).cap=q then (ι id).p else Option.map (fun x=>x.add (q * (AU.mrow e' i.size xs).wid)) (ι id).p)=pp
     cases pp <;> simp [Builtin.clear_,run_underlying ht])
    have hq:q=xs.length:=by omega
    have hsame:s.set id (.mrow e' i.size (xs.take q ++ List.replicate (m - q) zs))=s:=by
     rw [h0,List.replicate_zero,List.append_nil,List.take_of_length_le (by omega)]
     obtain ⟨env,S⟩:=s
     simp only [AS.set,AS.mk.injEq,true_and]
     funext k
     unfold AK
     split
     ·rename_i hk;subst hk;exact hS.symm
     ·rfl
    rw [hsame] at hK
    exact ⟨_,_,s,σ,ι,w,.inl hrun,hK,R,.tup (fun _=>undef) rfl (by simp) (by simp)⟩
   ·cases hb with
    | mnil k1=>simp at hmm;omega
    | @mrow _ _ _ g vs k1 k2 k3 k4 k5 k6 k7 k8 k9 =>
     have hcap:xs.length * i.size≤(ι id).cap * i.size:=Nat.mul_le_mul_right _ k4
     have hqw:q * i.size + (m - q) * i.size=xs.length * i.size:=by rw [← Nat.add_mul];congr 1;omega
     have hzl:(Builtin.zeroCells z.cells (m - q)).toList.length=(m - q) * i.size:=by rw [Array.length_toList,size_zeroCells,hsz]
     have hst:=run_storeCells_at P g (q * i.size) e' (Builtin.zeroCells z.cells (m - q)).toList 0 vs w k3 (by rw [hzl];omega) (R7 hzs (by omega) _)
     rw [Nat.add_zero,hzl] at hst
     generalize hA:(vs.toList.take (q * i.size) ++ (Builtin.zeroCells z.cells (m - q)).toList ++ vs.toList.drop (q * i.size + (m - q) * i.size)).toArray=A at hst
     have hne:¬ (ι id).cap=q:=by omega
     have hrun:=hex2 (.tuple #[]) (w.setRow g A) (by
      rw [hex,if_neg hne,k2]
      obtain ⟨n',hn'⟩:∃ n',m - q=n' + 1:=⟨m - q - 1,by omega⟩
      simp only [Option.map_some,BW,Nat.zero_add,AU.wid]
      rw [hn'] at hst ⊢
      simp [Builtin.clear_,run_underlying ht,zeroValue,typeInfo,hi,hz,hst])
     have hheap:(w.setRow g A).heap[g]?=some (.cells A e' (0,0)):=setRow_heap w _ _ _ _ _ k3
     have hlaidAll:BC σ vs.toList i.size xs:=⟨k7,fun kk x j y hx hy=>by
      obtain ⟨v,v1,v2⟩:=k8 kk x j y hx hy
      exact ⟨v,by simpa using v1,v2⟩⟩
     have hl:BC σ A.toList i.size (xs.take q ++ List.replicate (m - q) zs):=by
      have h2:=QQ (σ:=σ) hzs (by omega) (m - q)
      have htl:(vs.toList.take (q * i.size)).length=(xs.take q).length * i.size:=by
       have e1:(xs.take q).length=q:=by rw [List.length_take];omega
       have e2:vs.toList.length=(ι id).cap * i.size:=by rw [Array.length_toList,k6]
       rw [e1,List.length_take,e2]
       omega
      rw [hsz] at h2
      have h3:=((F6 hlaidAll q).append h2 htl).more (vs.toList.drop (q * i.size + (m - q) * i.size))
      rw [← hA]
      exact h3
     have hAs:A.size=(ι id).cap * i.size:=by
      rw [← hA]
      simp only [List.size_toArray,List.length_append,List.length_take,List.length_drop,hzl,Array.length_toList,k6]
      omega
     obtain ⟨hu,R'⟩:=R.turn (w':=w.setRow g A) hS (.mrow e' i.size (xs.take q ++ List.replicate (m - q) zs)) (ι id) (σ':=σ) (fun _ _ h=>h)
      (fun _ _ _=>rfl) (R.fit.row k9 fun k hk=>setRow_other _ _ _ _ hk) (by simp only [AU.len,hlen];exact Nat.le_refl _) (fun _=>⟨rfl,rfl⟩) (BU _ _) (by simp) (fun k hk hne=>setRow_other _ _ _ _ (fun e=>hne (by rw [e];exact k1))) (fun g h=>.inl h)
      (fun hu=>.mrow k1 k2 hheap (by rw [hlen];exact k4) k5 hAs hl.1 (Cj hl fun j v hv=>by simpa using hv) k9)
     exact ⟨_,_,_,_,_,_,.inl hrun,hK,R',.tup (fun _=>undef) rfl (by simp) (by simp)⟩
  ·exact h.elim
 ·exact h.elim
theorem Pp {t t' e:TypeId} {x y:Operand} {x' y':Opd} {K:AV→AS→Prop} (ho:o.op=.call { callee:=.builtin .copy,args:=#[x,y],argTypes:=#[t,t'] }) (hx:AM C.n x=some x') (hy:AM C.n y=some y') (ht:P.underlying t=some (.slice e)) (hi:(P.info? e).map (·.size)=some 1)
  (R:AT C σ ι s a w) (h:Kd.go P d s K (.copyP x' y')):BF P C o a w K:=by
 have rx:=R.ev hx
 have ry:=R.ev hy
 simp only [Kd.go] at h
 split at h
 ·rename_i id q m id2 u m2 e1 e2
  rw [e1] at rx
  rw [e2] at ry
  replace rx:=Aa rx
  replace ry:=Aa ry
  split at h
  ·rename_i e' w' xs hS
   obtain ⟨⟨rfl,hm,hm2,rfl⟩,hK⟩:=h
   subst hm
   subst hm2
   obtain ⟨b,hb1,hb2,hb3⟩:=HX rx
   rw [hS] at hb1
   cases hb1
   obtain ⟨hqm,hex⟩:=hb3 rfl
   obtain ⟨b,hb1,hb2',hb3'⟩:=HX ry
   rw [hS] at hb1
   cases hb1
   obtain ⟨hum,hey⟩:=hb3' rfl
   have hb:=R.blk _ _ hS
   have hex2:∀ v w2,(Builtin.copy_ #[t,t'] o.type #[a.eval x,a.eval y]).run P w=.ok v w2→(execOp a.eval o).run P w=.ok (.value v) w2:=fun v w2 hr=>by
    simp only [execOp,ho,resolve,invoke,builtin,Sem.run_bind,Sem.run_pure,Result.andThen_ok,List.map_toArray,List.map_cons,List.map_nil,hr]
   generalize hN:min (xs.length - u) (xs.length - q)=N at hK
   have hlen:(xs.take q ++ ((xs.drop u).take N ++ xs.drop (q + N))).length=xs.length:=by simp;omega
   by_cases h0:N=0
   ·subst h0
    have hrun:=hex2 (goInt 0) w (by
     rw [hex,hey]
     exact run_copy_none w t t' o.type e _ _ _ _ _ _ ht hi (by show min _ _=0;exact hN))
    have hsame:s.set id (.mrow e' 1 (xs.take q ++ ((xs.drop u).take 0 ++ xs.drop (q + 0))))=s:=by
     rw [List.take_zero,List.nil_append,Nat.add_zero,List.take_append_drop]
     obtain ⟨env,S⟩:=s
     simp only [AS.set,AS.mk.injEq,true_and]
     funext k
     unfold AK
     split
     ·rename_i hk;subst hk;exact hS.symm
     ·rfl
    rw [hsame] at hK
    exact ⟨_,_,s,σ,ι,w,.inl hrun,hK,R,.any⟩
   ·cases hb with
    | mnil k1=>simp at hN;omega
    | @mrow _ _ _ g vs k1 k2 k3 k4 k5 k6 k7 k8 k9 =>
     have hcq:¬ (ι id).cap=q:=by omega
     have hcu:¬ (ι id).cap=u:=by omega
     have hlaidAll:BC σ vs.toList 1 xs:=⟨k7,fun kk x j y hx hy=>by
      obtain ⟨v,v1,v2⟩:=k8 kk x j y hx hy
      exact ⟨v,by simpa using v1,v2⟩⟩
     have h1:BC σ (vs.toList.take (q * 1)) 1 (xs.take q):=F6 hlaidAll q
     have h2:BC σ ((vs.toList.drop (u * 1)).take (N * 1)) 1 ((xs.drop u).take N):=F6 (Hn hlaidAll u) N
     have h3:BC σ (vs.toList.drop ((q + N) * 1)) 1 (xs.drop (q + N)):=Hn hlaidAll (q + N)
     simp only [Nat.mul_one] at h1 h2 h3 k6
     have hcl:((vs.toList.drop u).take N).length=N:=by simp;omega
     have hone:∀ v ∈ (vs.toList.drop u).take N,v.oneCell'=true:=fun v hv=>by
      obtain ⟨j,hj⟩:=List.getElem?_of_mem hv
      have hjN:j < N:=by have:=(List.getElem?_eq_some_iff.1 hj).1;omega
      have hxl:j < ((xs.drop u).take N).length:=by simp;omega
      have hw1:=h2.1 _ (List.getElem_mem hxl)
      obtain ⟨v',v1,v2⟩:=h2.2 j _ 0 (((xs.drop u).take N)[j][0]'(by omega)) (List.getElem?_eq_getElem hxl) (List.getElem?_eq_getElem (by omega))
      rw [Nat.mul_one,Nat.add_zero,hj] at v1
      cases v1
      exact v2.one
     have hr:=run_copy_row (P:=P) w t t' o.type e g q (xs.length - q) ((ι id).cap - q) ⟨g,u,none⟩ (xs.length - u) ((ι id).cap - u) vs e' ((vs.toList.drop u).take N) ht hi k3 (by rw [hcl,← hN]) (fun j v hv=>by
      rw [BW]
      rw [List.getElem?_take] at hv
      split at hv
      ·rw [List.getElem?_drop] at hv
       rw [cell_of_row w g _ _ _ _ k3]
       simpa using hv
      ·cases hv) (by rw [hcl];omega) hone
     rw [hcl] at hr
     generalize hA:(vs.toList.take q ++ (vs.toList.drop u).take N ++ vs.toList.drop (q + N)).toArray=A at hr
     have hrun:=hex2 (goInt N) (w.setRow g A) (by
      rw [hex,hey,if_neg hcq,if_neg hcu,k2]
      simp only [Option.map_some,BW,Nat.zero_add,AU.wid,Nat.mul_one]
      exact hr)
     have hheap:(w.setRow g A).heap[g]?=some (.cells A e' (0,0)):=setRow_heap w _ _ _ _ _ k3
     have hl:BC σ A.toList 1 (xs.take q ++ ((xs.drop u).take N ++ xs.drop (q + N))):=by
      rw [← hA,List.append_assoc]
      exact h1.append (h2.append h3 (by rw [hcl];simp;omega)) (by simp;omega)
     have hAs:A.size=(ι id).cap * 1:=by
      rw [← hA]
      simp only [List.size_toArray,List.length_append,List.length_take,List.length_drop,Array.length_toList]
      omega
     obtain ⟨hu,R'⟩:=R.turn (w':=w.setRow g A) hS (.mrow e' 1 (xs.take q ++ ((xs.drop u).take N ++ xs.drop (q + N)))) (ι id) (σ':=σ) (fun _ _ h=>h)
      (fun _ _ _=>rfl) (R.fit.row k9 fun k hk=>setRow_other _ _ _ _ hk) (by simp only [AU.len,hlen];exact Nat.le_refl _) (fun _=>⟨rfl,rfl⟩) (BU _ _) (by simp) (fun k hk hne=>setRow_other _ _ _ _ (fun e=>hne (by rw [e];exact k1))) (fun g h=>.inl h)
      (fun hu=>.mrow k1 k2 hheap (by rw [hlen];exact k4) k5 hAs hl.1 (Cj hl fun j v hv=>by simpa using hv) k9)
     exact ⟨_,_,_,_,_,_,.inl hrun,hK,R',.any⟩
  ·exact h.elim
 ·exact h.elim
theorem J7 {t e:TypeId} {i:TypeInfo} {z:Value} {zs:List SV} {x y:Operand} {x' y':Opd} {K:AV→AS→Prop} (ho:o.op=.makeSlice t x y) (hx:AM C.n x=some x') (hy:AM C.n y=some y') (ht:P.underlying t=some (.slice e)) (hi:P.info? e=some i) (hz:i.zero=some z) (hzs:GR z.cells.toList=some zs) (hsz:z.cells.size=i.size) (hpos:0 < i.size)
  (R:AT C σ ι s a w) (h:Kd.go P d s K (.makeSlice e i.size i.bytes zs x' y')):BF P C o a w K:=by
 have rx:=R.ev hx
 have ry:=R.ev hy
 simp only [Kd.go] at h
 split at h
 ·rename_i k m k' n e1 e2
  rw [e1] at rx
  rw [e2] at ry
  obtain ⟨hex,-⟩:=A7 rx
  obtain ⟨hey,-⟩:=A7 ry
  obtain ⟨rfl,h0,h63,hby,hid,hK⟩:=h
  obtain ⟨q,rfl⟩:∃ q:Nat,m=q:=⟨m.toNat,by omega⟩
  simp only [Int.toNat_natCast] at hK
  have hr:=run_make (P:=P) w t e i z ht hi hz k k' (q:Int) (q:Int) (by omega) (Int.le_refl _) (by rw [Int.mul_comm];omega) h63
  simp only [Int.toNat_natCast] at hr
  have rz:=F9 (σ:=σ) hzs
  have hzl:=rz.len
  have hmax:q≤maxLen:=by simp only [maxLen];omega
  obtain ⟨hu,R'⟩:=R.fresh (w':=w.alloc (.cells (madeCells z.cells (q * i.size)) e)) hid (.mrow e i.size (List.replicate q zs)) ⟨some ⟨w.heap.size,0,none⟩,q,some w.heap.size⟩ (Ext.refl _ _) (R.fit.alloc _) (D5.alloc _ _) (by simp)
   (fun S' ι' hu=>.mrow rfl rfl (heap_alloc_new w _) (by simp) hmax (by simp [madeCells]) (fun x hx=>by rw [(List.mem_replicate.1 hx).2];simp at hzl;omega) (fun kk x j y hx hy=>by
    obtain ⟨hk1,hk2⟩:=List.getElem?_eq_some_iff.1 hx
    simp only [List.length_replicate] at hk1
    rw [List.getElem_replicate] at hk2
    subst hk2
    have hj:j < i.size:=by
     have:=(List.getElem?_eq_some_iff.1 hy).1
     simp at hzl
     omega
    obtain ⟨v,v1,v2⟩:=rz.get hy
    refine ⟨v,?_,v2⟩
    have hlt:kk * i.size + j < q * i.size:=by
     have:(kk + 1) * i.size≤q * i.size:=Nat.mul_le_mul_right _ hk1
     rw [Nat.add_mul] at this
     omega
    have hjz:j < z.cells.size:=by omega
    have em:(kk * i.size + j) % z.cells.size=j:=by rw [hsz,Nat.mul_comm,Nat.mul_add_mod,Nat.mod_eq_of_lt hj]
    have hv:z.cells[j]?=some v:=by simpa using v1
    unfold madeCells
    rw [Array.getElem?_map,Array.getElem?_range,if_pos hlt,Option.map_some,em]
    simp only [Array.getElem!_eq_getD,Array.getD_eq_getD_getElem?,hv,Option.getD_some]) (fun p hp=>R.fit.no (by omega)))
  exact ⟨_,_,_,σ,_,_,.inl (by simp only [execOp,ho,hex,hey,Sem.run_bind,hr,Result.andThen_ok];rfl),hK,R',.one (.row (b:=.mrow e i.size (List.replicate q zs)) (by simp [AS.set,AD]) (by simp [AU.len]) rfl fun _=>by simp [AD])⟩
 ·exact h.elim
theorem JM (R:AT C σ ι s a w):∀ {xs:List Operand} {xs':List Opd} {cs:List AC},Bj C.n xs=some xs'→s.caps xs'=some cs→Af (Aq σ s.S ι) (xs.map a.eval) cs
 | [],xs',cs,h1,h2=>by
  simp only [Bj,Option.some.injEq] at h1
  subst h1
  simp only [AS.caps,Option.some.injEq] at h2
  subst h2
  exact .nil
 | x :: xs,xs',cs,h1,h2=>by
  simp only [Bj] at h1
  split at h1
  ·rename_i k1 k2
   cases h1
   simp only [AS.caps] at h2
   split at h2
   ·rename_i e1 e2
    cases h2
    have rx:=R.ev k1
    rw [e1] at rx
    exact .cons (Aa rx) (JM R k2 e2)
   ·cases h2
  ·cases h1
theorem LV {g:FuncId} {first caps:Array Operand} {xs:List Opd} {K:AV→AS→Prop} (ho:o.op=.makeFunc (.func g) first caps) (hf:first.size=0) (hx:Bj C.n caps.toList=some xs) (R:AT C σ ι s a w) (h:Kd.go P d s K (.makeFunc g xs)):BF P C o a w K:=by
 simp only [Kd.go] at h
 split at h
 ·rename_i cs e1
  have rc:=JM R hx e1
  have e0:first=#[]:=Array.eq_empty_of_size_eq_zero hf
  subst e0
  have hl:=rc.len
  refine AZ R (.func (.func g) #[] (caps.map a.eval)) _ (by simp [execOp,ho,Instr.makeFunc]) h (.one (.fn (fun j=>((caps.toList.map a.eval)[j]?).getD undef) (by simpa using hl) (fun j b hb=>?_) (fun j b hb=>?_)))
  ·obtain ⟨v,v1,v2⟩:=rc.get hb
   rw [v1]
   simpa using v1
  ·obtain ⟨v,v1,v2⟩:=rc.get hb
   rw [v1]
   exact v2
 ·exact h.elim
theorem Ev {f:FuncId} {vs:List Value} {avs:List AV} {r:AV} {S':AA} {next:Act→World→Prop} {Q:Exit→Act→World→Prop} (R:AT C σ ι s a w) (hrun:(execOp a.eval o).run P w=.ok (.enter f vs.toArray) w) (hvs:Af (AN σ s.S ι) vs avs)
  (h:Ay P f (AV.rens up1 avs) (upS s.S) r S') (hn:∀ a' w',Ax C ((⟨s.env,dnS S'⟩:AS).put o.dst (r.ren dn1)) a' w'→next a' w'):o.wp P a w next Q:=by
 have hup:∀ i,dn1 (up1 i)=i:=DF
 have hS:∀ i b,s.S i=some b→upS s.S (up1 i)=some (b.ren up1):=fun i b hb=>A1 hb
 obtain ⟨ι1,hι1⟩:∃ ι1:As,∀ i,ι1 i=ι (dn1 i):=⟨fun i=>ι (dn1 i),fun _=>rfl⟩
 have hι:∀ i b,s.S i=some b→ι1 (up1 i)=ι i:=fun i b _=>by rw [hι1,hup]
 have hown:Cz σ (upS s.S) ι1 w:=by
  refine ⟨fun id b hb=>?_,fun id id' b b' g h1 h2 g1 g2=>?_⟩
  ·obtain ⟨hle,b',h1,rfl⟩:=Bo hb
   have:=Bc.ren (S2:=upS s.S) (ι2:=ι1) (ρ:=up1) hS hι (R.blk _ _ h1)
   rw [hι1]
   exact this
  ·obtain ⟨l1,c1,k1,_⟩:=Bo h1
   obtain ⟨l2,c2,k2,_⟩:=Bo h2
   rw [hι1] at g1 g2
   have:=R.inj _ _ _ _ g k1 k2 g1 g2
   rw [← Ea l1,← Ea l2,this]
 have hargs:Af (AN σ (upS s.S) ι1) vs (AV.rens up1 avs):=by
  rw [AV.rens_eq]
  exact (hvs.mono fun _ _ x=>AN.ren (S2:=upS s.S) (ι2:=ι1) (ρ:=up1) hS hι x).map_right
 unfold Oper.wp
 rw [hrun,Oper.upon_enter]
 refine (h (Ee _) σ w vs _ (C.glob.mono R.ext) R.fit hown hargs).mono fun e w' he=>?_
 obtain ⟨v,σ',ι',rfl,hclean,hupd,hown',hv,hf',hkeep,hold,hos,hsz,hsame,hbase⟩:=he
 have hSd:∀ i b,S' i=some b→dnS S' (dn1 i)=some (b.ren dn1):=fun i b hb=>Fq (hclean i b hb).1 hb
 obtain ⟨ι2,hι2⟩:∃ ι2:As,∀ i,ι2 i=ι' (up1 i):=⟨fun i=>ι' (up1 i),fun _=>rfl⟩
 have hιd:∀ i b,S' i=some b→ι2 (dn1 i)=ι' i:=fun i b hb=>by
  rw [hι2,Ea (hclean i b hb).1]
 have hu:Upd s.S ι (dnS S') ι2:=fun id b hb=>by
  obtain ⟨b',h1,h2,h3⟩:=hupd _ _ (hS id b hb)
  have h4:=hSd _ _ h1
  rw [hup] at h4
  refine ⟨_,h4,by rw [BH] at h2 ⊢;exact h2,fun hl=>?_⟩
  rw [BH] at hl
  obtain ⟨q1,q2⟩:=h3 (by rw [BH];exact hl)
  refine ⟨by rw [F0] at q1 ⊢;exact q1,?_⟩
  rw [hι2,q2,hι1,hup]
 have hnot:∀ g,g < C.N→¬ C.G g→BZ (upS s.S) ι1 g:=fun g h1 h2 id b hb hg=>by
  obtain ⟨_,b',k1,_⟩:=Bo hb
  rw [hι1] at hg
  rcases R.base _ _ g k1 hg with h | h
  ·omega
  ·exact h2 h
 have R':AT C σ' ι2 ⟨s.env,dnS S'⟩ a w':=by
  refine ⟨R.size,fun i hi=>(R.env i hi).mono hkeep hu,R.nod.mono (fun D h=>(hsame D (Array.getElem?_eq_some_iff.1 h).1 (DK hown.1 h)).trans h),hf',fun id b hb=>?_,fun id id' b b' g h1 h2 g1 g2=>?_,fun id b g hb hg=>?_,fun p x hx=>hkeep _ _ (R.ext p x hx),fun p h1 h2=>?_,⟨hos.1.trans R.os.1,hos.2.1.trans R.os.2.1,hos.2.2.trans R.os.2.2⟩,⟨Nat.le_trans R.grown.1 hsz,Nat.le_trans R.grown.2 hsz⟩,fun g h1 h2=>?_,R.upd.trans hu⟩
  ·obtain ⟨b',h1,rfl⟩:=Bz hb
   have:=Bc.ren (S2:=dnS S') (ι2:=ι2) (ρ:=dn1) hSd hιd (hown'.1 _ _ h1)
   rw [hι2]
   exact this
  ·obtain ⟨c1,k1,_⟩:=Bz h1
   obtain ⟨c2,k2,_⟩:=Bz h2
   rw [hι2] at g1 g2
   have:=congrArg dn1 (hown'.2 _ _ _ _ g k1 k2 g1 g2)
   rw [hup,hup] at this
   exact this
  ·obtain ⟨b',h1,_⟩:=Bz hb
   rw [hι2] at hg
   rcases hbase _ _ g h1 hg with h2 | h2
   ·exact .inl (by have:=R.grown.1;omega)
   ·by_cases hN:g < C.N
    ·by_cases hG:C.G g
     ·exact .inr hG
     ·exact absurd (hnot g hN hG) h2
    ·exact .inl (by omega)
  ·exact (hold p (by have:=R.grown.1;omega) (hnot _ h1 h2)).trans (R.old p h1 h2)
  ·exact (hsame g (by have:=R.grown.1;omega) (hnot g h1 h2)).trans (R.same g h1 h2)
 exact hn _ _ ⟨σ',_,R'.put (AN.ren (S2:=dnS S') (ι2:=ι2) (ρ:=dn1) hSd hιd hv)⟩
theorem QA {f:FuncId} {xs:Array Operand} {ts:Array TypeId} {xs':List Opd} {d:Nat} {K:AV→AS→Prop} {next:Act→World→Prop} {Q:Exit→Act→World→Prop} (ho:o.op=.call { callee:=.value (.func f),args:=xs,argTypes:=ts }) (hf:CS P f=true) (hx:Bj C.n xs.toList=some xs')
  (R:AT C σ ι s a w) (h:Kd.go P d s K (.callN f xs')) (hn:∀ av s' a' w',K av s'→Ax C (s'.put o.dst av) a' w'→next a' w'):o.wp P a w next Q:=by
 simp only [Kd.go] at h
 split at h
 ·rename_i vs e1
  obtain ⟨mu,e,wd,ys,hc,hd,hK⟩:=h
  have rxs:=R.evs hx
  have hrun:(execOp a.eval o).run P w=.ok (.enter f (xs.map a.eval)) w:=by
   unfold CS at hf
   split at hf
   ·rename_i fn hfn
    simp only [Bool.and_eq_true,Bool.not_eq_true',beq_eq_false_iff_ne,Option.isSome_iff_exists] at hf
    obtain ⟨hname,c,hbody⟩:=hf
    simp [execOp,ho,resolve,Deferred.ofValue,Act.eval,invoke,callFunc,hfn,hname,hbody]
   ·cases hf
  have hvs:Af (AN σ noS noH) (xs.map a.eval).toList vs:=by
   have:=rxs
   rw [← Array.toList_map] at this
   have hlen:=this.len
   obtain ⟨q1,q2⟩:=AT.outVs R (cs:=s.evs xs') (cs':=vs) (c:=fun j=>((xs.map a.eval).toList[j]?).getD undef) (fun j b hb=>by
    obtain ⟨v,v1,v2⟩:=this.get hb
    rw [v1]
    exact v2) e1
   refine Af.of_get (by omega) fun j v b hv hb=>?_
   have:=q2 j b hb
   rw [hv] at this
   exact this
  unfold Oper.wp
  rw [hrun,Oper.upon_enter]
  have hno:∀ g,BZ noS noH g:=fun g id b hb=>by cases hb
  have hcl:An noS:=fun i b hb=>by cases hb
  have how:Cz σ noS noH w:=⟨fun id b hb=>(by cases hb),fun id id' b b' g hb=>(by cases hb)⟩
  have hcall:=hc hcl σ w _ noH (C.glob.mono R.ext) R.fit how hvs
  rw [Array.toArray_toList] at hcall
  refine hcall.mono fun ex w' he=>?_
  obtain ⟨v,σ',ι',rfl,hclean,hupd,hown',hv,hf',hkeep,hold,hos,hsz,hsame,hbase⟩:=he
  have hblk:=hown'.1 1000 (GB mu e wd ys) (by simp)
  obtain ⟨hu,R'⟩:=R.fresh (w':=w') hd (GB mu e wd ys) (ι' 1000) (σ':=σ') ⟨hkeep,fun p hp=>hold p hp (hno _)⟩ hf' ⟨hos.1,hos.2.1,hos.2.2,hsz,fun g hg=>hsame g hg (hno _)⟩ (fun g hg=>by
   rcases hbase 1000 (GB mu e wd ys) g (by simp) hg with h1 | h1
   ·exact h1
   ·exact absurd (hno g) h1) (fun S2 ι2 _=>by
   cases mu with
   | false =>
    cases hblk with
    | afull h1 h2 h3 h4=>exact .afull h1 h2 h3 h4
    | arow h1 h2 h3 h4 h5 h6 h7 h8 h9 hh=>exact .arow h1 h2 h3 h4 h5 h6 h7 h8 h9 hh
   | true =>
    cases hblk with
    | mnil h1 h2=>exact .mnil h1 h2
    | mrow h1 h2 h3 h4 h5 h6 h7 h8 h9=>exact .mrow h1 h2 h3 h4 h5 h6 h7 h8 h9)
  refine hn _ _ _ _ hK ⟨σ',_,R'.put ?_⟩
  cases hv with
  | one hv =>
   cases hv with
   | row k1 k2 k3 k4 =>
    simp only [if_true,Option.some.injEq] at k1
    subst k1
    exact .one (.row (b:=GB mu e wd ys) (by simp [AS.set,AD]) (by cases mu <;> exact Nat.le_refl _) k3 (fun hl=>by rw [AD];exact k4 hl))
 ·exact h.elim
theorem Ct {f:FuncId} {args:Array Value} (hf:CS P f=true):(callFunc f args).run P w=.ok (.enter f args) w:=by
 unfold CS at hf
 split at hf
 ·rename_i fn hfn
  simp only [Bool.and_eq_true,Bool.not_eq_true',beq_eq_false_iff_ne,Option.isSome_iff_exists] at hf
  obtain ⟨hname,c,hbody⟩:=hf
  simp [callFunc,hfn,hname,hbody]
 ·cases hf
theorem Ky {f:FuncId} {xs:Array Operand} {ts:Array TypeId} {xs':List Opd} {K:AV→AS→Prop} {next:Act→World→Prop} {Q:Exit→Act→World→Prop} (ho:o.op=.call { callee:=.value (.func f),args:=xs,argTypes:=ts }) (hf:CS P f=true) (hx:Bj C.n xs.toList=some xs')
  (R:AT C σ ι s a w) (h:Kd.go P d s K (.callS f xs')) (hn:∀ av s' a' w',K av s'→Ax C (s'.put o.dst av) a' w'→next a' w'):o.wp P a w next Q:=by
 simp only [Kd.go] at h
 obtain ⟨r,S',hc,hK⟩:=h
 refine Ev (vs:=xs.toList.map a.eval) R ?_ (R.evs hx) hc fun a' w' hH=>hn _ _ _ _ hK hH
 have:=Ct (P:=P) (w:=w) (args:=xs.map a.eval) hf
 have e:(xs.toList.map a.eval).toArray=xs.map a.eval:=by rw [← Array.toList_map,Array.toArray_toList]
 rw [e]
 simp [execOp,ho,resolve,Deferred.ofValue,Act.eval,invoke,this]
theorem Pd {f:FuncId} {xs:Array Operand} {ts:Array TypeId} {xs':List Opd} {K:AV→AS→Prop} {next:Act→World→Prop} {Q:Exit→Act→World→Prop} (ho:o.op=.call { callee:=.value (.func f),args:=xs,argTypes:=ts }) (hf:CS P f=true) (hx:Bj C.n xs.toList=some xs')
  (R:AT C σ ι s a w) (h:Kd.go P d s K (.callR f xs')) (hn:∀ av s' a' w',K av s'→Ax C (s'.put o.dst av) a' w'→next a' w'):o.wp P a w next Q:=by
 simp only [Kd.go] at h
 obtain ⟨r,rows,h0,hc,hK⟩:=h
 refine Ev (vs:=xs.toList.map a.eval) R ?_ (R.evs hx) (hc s.S h0) fun a' w' hH=>hn _ s _ _ hK (by rw [Dy] at hH;exact hH)
 have:=Ct (P:=P) (w:=w) (args:=xs.map a.eval) hf
 have e:(xs.toList.map a.eval).toArray=xs.map a.eval:=by rw [← Array.toList_map,Array.toArray_toList]
 rw [e]
 simp [execOp,ho,resolve,Deferred.ofValue,Act.eval,invoke,this]
theorem QB {f:FuncId} {xs:Array Operand} {ts:Array TypeId} {xs':List Opd} {K:AV→AS→Prop} {next:Act→World→Prop} {Q:Exit→Act→World→Prop} (ho:o.op=.call { callee:=.value (.func f),args:=xs,argTypes:=ts }) (hf:CS P f=true) (hx:Bj C.n xs.toList=some xs')
  (R:AT C σ ι s a w) (h:Kd.go P d s K (.callW f xs')) (hn:∀ av s' a' w',K av s'→Ax C (s'.put o.dst av) a' w'→next a' w'):o.wp P a w next Q:=by
 simp only [Kd.go] at h
 obtain ⟨r,rows,h0,hc,hK⟩:=h
 refine Ev (vs:=xs.toList.map a.eval) R ?_ (R.evs hx) (hc s.S h0) fun a' w' hH=>hn _ _ _ _ hK (by rw [Dy] at hH;exact hH)
 have:=Ct (P:=P) (w:=w) (args:=xs.map a.eval) hf
 have e:(xs.toList.map a.eval).toArray=xs.map a.eval:=by rw [← Array.toList_map,Array.toArray_toList]
 rw [e]
 simp [execOp,ho,resolve,Deferred.ofValue,Act.eval,invoke,this]
theorem Pc {f:FuncId} {xs:Array Operand} {ts:Array TypeId} {xs':List Opd} {K:AV→AS→Prop} {next:Act→World→Prop} {Q:Exit→Act→World→Prop} (ho:o.op=.call { callee:=.value (.func f),args:=xs,argTypes:=ts }) (hf:CS P f=true) (hx:Bj C.n xs.toList=some xs')
  (R:AT C σ ι s a w) (h:Kd.go P d s K (.callX f xs')) (hn:∀ av s' a' w',K av s'→Ax C (s'.put o.dst av) a' w'→next a' w'):o.wp P a w next Q:=by
 simp only [Kd.go] at h
 obtain ⟨T,Post,hT,hST,hh,hc,hK⟩:=h
 have hrun:(execOp a.eval o).run P w=.ok (.enter f (xs.map a.eval)) w:=by
  have:=Ct (P:=P) (w:=w) (args:=xs.map a.eval) hf
  simp [execOp,ho,resolve,Deferred.ofValue,Act.eval,invoke,this]
 unfold Oper.wp
 rw [hrun,Oper.upon_enter]
 have e:(xs.toList.map a.eval).toArray=xs.map a.eval:=by rw [← Array.toList_map,Array.toArray_toList]
 rw [← e]
 refine (hc hT σ w _ ι (C.glob.mono R.ext) R.fit (R.ownT hST hT) (R.argsT hST hh (R.evs hx))).mono fun e w' he=>?_
 obtain ⟨v,r,S',σ',ι2,rfl,hP,hS',R',hv⟩:=R.join hST hT he
 exact hn _ _ _ _ (hK r S' hS' hP) ⟨σ',ι2,R'.put hv⟩
theorem Qc {t:Nat} {xs:Array Operand} {ts:Array TypeId} {f':Opd} {xs':List Opd} {K:AV→AS→Prop} {next:Act→World→Prop} {Q:Exit→Act→World→Prop} (ho:o.op=.call { callee:=.value (.tmp t),args:=xs,argTypes:=ts }) (hf:AM C.n (.tmp t)=some f') (hx:Bj C.n xs.toList=some xs')
  (R:AT C σ ι s a w) (h:Kd.go P d s K (.callY f' xs')) (hn:∀ av s' a' w',K av s'→Ax C (s'.put o.dst av) a' w'→next a' w'):o.wpIn (fen C.ro) 0 P a w next Q:=by
 have rf:=R.ev hf
 simp only [Kd.go] at h
 obtain ⟨T,Post,hT,hST,hh,hc,hK⟩:=h
 rw [Bool.and_eq_true] at hh
 have e:(xs.toList.map a.eval).toArray=xs.map a.eval:=by rw [← Array.toList_map,Array.toArray_toList]
 obtain ⟨l,hl,hy⟩:=hc hT σ w _ _ ι (C.glob.mono R.ext) R.fit (R.ownT hST hT) (rf.low (fun i b hi hb=>by rw [← hST i hi];exact hb) hh.1) (R.argsT hST hh.2 (R.evs hx))
 obtain ⟨fn,tmps,assign,body,hrun,hR⟩:=hy C.ro
 rw [e] at hrun
 refine ⟨fun _ _=>trivial,?_⟩
 rw [Oper.semAt_eq _ _ _ (fun c e=>by rw [e] at ho;cases ho)]
 have hev':a.tmps.getD t undef=.func (.yield l) #[] #[]:=hl
 have hrun':(execOp a.eval o).run P w=.ok (.round l fn tmps assign body) w:=by
  simp only [execOp,ho,resolve,Act.eval,hev',Deferred.ofValue,invoke,Sem.run_bind,Sem.run_pure,Result.andThen_ok]
  rw [show (#[] ++ Array.map a.eval xs)=xs.map a.eval by simp]
  exact hrun
 rw [hrun']
 refine ⟨fun h=>by simp [fen,Fence.wide] at h,hR.mono fun e w' he=>?_⟩
 obtain ⟨v,r,S',σ',ι2,rfl,hP,hS',R',hv⟩:=R.join hST hT he
 exact hn _ _ _ _ (hK r S' hS' hP) ⟨σ',ι2,R'.put hv⟩
theorem Rf {S:AA} {v:Value} {av:AV} {g:Nat} {caps:List AC} (h:AN σ S ι v av) (e:av.fnOf=some (g,caps)):∃ vs,v=.func (.func g) #[] vs∧Af (AN σ S ι) vs.toList (caps.map .one):=by
 unfold AV.fnOf at e
 split at e
 ·cases e
  have rf:=Aa h
  cases rf with
  | @fn _ vs _ c h1 h2 h3 =>
   exact ⟨vs,rfl,(Af.of_get (R:=fun v c=>AN σ S ι v (.one c)) (by simpa using h1) fun j v b hv hb=>by
    have e:=h2 j b hb
    have e2:vs.toList[j]?=some (c j):=by simpa using e
    rw [hv] at e2
    cases e2
    exact .one (h3 j b hb)).map_right⟩
 ·cases e
  have rf:=Aa h
  cases rf with
  | st hs =>
   obtain ⟨vs,rfl,hv⟩:=Rc hs
   exact ⟨vs,rfl,((hv S ι).mono fun _ _ x=>AN.one x).map_right⟩
 ·split at e
  ·rename_i hab
   cases e
   have rf:=Aa h
   cases rf with
   | st hs =>
    cases hs
    rw [Array.eq_empty_of_size_eq_zero hab.1,Array.eq_empty_of_size_eq_zero hab.2]
    exact ⟨#[],rfl,.nil⟩
  ·cases e
 ·cases e
theorem Pq {t:Nat} {xs:Array Operand} {ts:Array TypeId} {f':Opd} {xs':List Opd} {K:AV→AS→Prop} {next:Act→World→Prop} {Q:Exit→Act→World→Prop} (ho:o.op=.call { callee:=.value (.tmp t),args:=xs,argTypes:=ts }) (hf:AM C.n (.tmp t)=some f') (hx:Bj C.n xs.toList=some xs')
  (R:AT C σ ι s a w) (h:Kd.go P d s K (.callV f' xs')) (hn:∀ av s' a' w',K av s'→Ax C (s'.put o.dst av) a' w'→next a' w'):o.wp P a w next Q:=by
 have rf:=R.ev hf
 simp only [Kd.go] at h
 split at h
 ·rename_i g caps e1
  obtain ⟨hp,r,S',hc,hK⟩:=h
  obtain ⟨vs,hev,hcaps⟩:=Rf rf e1
  refine Ev (vs:=xs.toList.map a.eval ++ vs.toList) R ?_ ((R.evs hx).append hcaps) hc fun a' w' hH=>hn _ _ _ _ hK hH
  have:=Ct (P:=P) (w:=w) (args:=xs.map a.eval ++ vs) hp
  have hev':a.tmps.getD t undef=.func (.func g) #[] vs:=hev
  simp only [execOp,ho,resolve,hev,Deferred.ofValue,invoke,Sem.run_bind,Sem.run_pure,Result.andThen_ok]
  rw [show (#[] ++ Array.map a.eval xs ++ vs)=xs.map a.eval ++ vs by simp,this]
  congr 1
  simp
 ·exact h.elim
theorem QV {mu:List Nat} {k:Kd} (htr:A8 P C.n mu o.dst o.op=some k) {K:AV→AS→Prop} {next:Act→World→Prop} {Q:Exit→Act→World→Prop} (R:AT C σ ι s a w) (h:Kd.go P d s K k) (hn:∀ av s' a' w',K av s'→Ax C (s'.put o.dst av) a' w'→next a' w'):o.wp P a w next Q:=by
 have fin:BF P C o a w K→o.wp P a w next Q:=fun hg=>hg.wp fun av s' σ' ι' a' w' hk R'=>hn _ _ _ _ hk ⟨σ',ι',R'⟩
 cases ho:o.op with
 | move x =>
  rw [ho] at htr
  simp only [A8,Option.map_eq_some_iff] at htr
  obtain ⟨x',hx,rfl⟩:=htr
  exact fin (PS (.inl ho) hx R h)
 | assign x =>
  rw [ho] at htr
  simp only [A8,Option.map_eq_some_iff] at htr
  obtain ⟨x',hx,rfl⟩:=htr
  exact fin (PS (.inr ho) hx R h)
 | pick c x y =>
  rw [ho] at htr
  simp only [A8] at htr
  split at htr
  ·cases htr
   rename_i e1 e2 e3
   exact fin (R8 ho e1 e2 e3 R h)
  ·cases htr
 | alloc e =>
  rw [ho] at htr
  simp only [A8] at htr
  split at htr
  ·rename_i i e1
   split at htr
   ·rename_i z e2
    rw [Option.map_eq_some_iff] at htr
    obtain ⟨cs,hcs,rfl⟩:=htr
    exact fin (Ph ho e1 e2 hcs R h)
   ·cases htr
  ·cases htr
 | box e x =>
  rw [ho] at htr
  simp only [A8,Option.map_eq_some_iff] at htr
  obtain ⟨x',hx,rfl⟩:=htr
  exact fin (TL ho hx R h)
 | build t ps =>
  rw [ho] at htr
  simp only [A8] at htr
  split at htr
  ·rename_i it fs e1 e2
   split at htr
   ·rename_i z places e3 e4
    split at htr
    ·rename_i ps' cs e5 e6
     cases htr
     exact fin (PX ho e1 e3 e2 e4 e5 e6 R h)
    ·cases htr
   ·cases htr
  ·rename_i it len e e1 e2
   split at htr
   ·rename_i z ie e3 e4
    split at htr
    ·rename_i ps' cs e5 e6
     split at htr
     ·cases htr
      exact fin (Mh ho e1 e3 e2 e4 e5 e6 R h)
     ·cases htr
    ·cases htr
   ·cases htr
  ·cases htr
 | buildSlice t len ps =>
  rw [ho] at htr
  simp only [A8] at htr
  split at htr
  ·rename_i e e1
   split at htr
   ·rename_i ie e2
    split at htr
    ·rename_i z xs e3 e4
     split at htr
     ·rename_i hc
      split at htr
      all_goals
       split at htr
       ·rename_i hp
        cases htr
        simp only [Bool.and_eq_true,beq_iff_eq] at hp
        have h':=Th (e:=e) h
        rw [← hp.1.2] at h'
        exact fin (Fo ho e1 e2 e3 hc.1 hc.2.1 hc.2.2 e4 R h')
       ·cases htr
        exact fin (Fo ho e1 e2 e3 hc.1 hc.2.1 hc.2.2 e4 R h)
     ·cases htr
    ·cases htr
   ·cases htr
  ·cases htr
 | load t x =>
  rw [ho] at htr
  simp only [A8] at htr
  split at htr
  ·rename_i g kk x' e1 e2
   cases htr
   obtain ⟨dd,i,q1,q2,q3,q4⟩:=GY e1
   exact fin (SD ho e2 q1 q2 g q3 kk q4 R h)
  ·cases htr
 | store t x v =>
  rw [ho] at htr
  simp only [A8] at htr
  split at htr
  ·rename_i e1 e2 e3
   cases htr
   exact fin (QE ho e2 e3 e1 R h)
  ·cases htr
 | fieldAddr t x f =>
  rw [ho] at htr
  simp only [A8] at htr
  split at htr
  ·rename_i fs x' e1 e2
   split at htr
   ·rename_i fd e3
    split at htr
    ·rename_i i e4
     split at htr
     ·rename_i hz
      cases htr
      exact fin (KL ho e2 e1 e3 e4 hz R h)
     ·cases htr
    ·cases htr
   ·cases htr
  ·cases htr
 | field t x f =>
  rw [ho] at htr
  simp only [A8] at htr
  split at htr
  ·rename_i fs x' e1 e2
   split at htr
   ·rename_i fd e3
    split at htr
    ·rename_i g kk e4
     cases htr
     obtain ⟨dd,i,q1,q2,q3,q4⟩:=GY e4
     exact fin (QJ ho e2 e1 e3 q1 q2 g q3 kk q4 R h)
    ·cases htr
   ·cases htr
  ·cases htr
 | indexAddr t x y =>
  rw [ho] at htr
  simp only [A8] at htr
  split at htr
  ·rename_i e x' y' e1 e2 e3
   split at htr
   ·rename_i i e4
    split at htr
    ·cases htr
     exact fin (OC ho e2 e3 e1 e4 R h)
    ·cases htr
     exact fin (KI ho e2 e3 e1 e4 R h)
   ·cases htr
  ·rename_i len e x' y' e1 e2 e3
   split at htr
   ·rename_i i e4
    cases htr
    exact fin (Lq ho e2 e3 e1 e4 R h)
   ·cases htr
  ·cases htr
 | index t x y =>
  rw [ho] at htr
  simp only [A8] at htr
  split at htr
  ·rename_i e1 e2 e3
   cases htr
   exact fin (LC ho e2 e3 e1 R h)
  ·cases htr
 | binOp op t x y t' =>
  rw [ho] at htr
  simp only [A8] at htr
  split at htr
  ·rename_i x' y' e1 e2
   split at htr
   ·rename_i e3
    cases htr
    exact fin (PJ (neg:=false) ho e1 e2 e3 R h)
   ·rename_i e3
    cases htr
    exact fin (PJ (neg:=true) ho e1 e2 e3 R h)
   ·rename_i e3
    cases htr
    exact fin (O_ (neg:=false) ho e1 e3 R h)
   ·rename_i e3
    cases htr
    exact fin (O_ (neg:=true) ho e1 e3 R h)
   ·rename_i e3
    cases htr
    exact fin (PA (neg:=false) ho e1 e3 R h)
   ·rename_i e3
    cases htr
    exact fin (PA (neg:=true) ho e1 e3 R h)
   ·rename_i e3
    cases htr
    exact fin (O4 (neg:=false) ho e1 e3 R h)
   ·rename_i e3
    cases htr
    exact fin (O4 (neg:=true) ho e1 e3 R h)
   ·cases htr
    exact fin (HD ho e1 e2 R h)
   ·cases htr
    exact fin (HD ho e1 e2 R h)
   ·cases htr
    exact fin (HD ho e1 e2 R h)
   ·split at htr
    ·cases htr
     exact fin (HD ho e1 e2 R h)
    ·cases htr
     exact fin (PD ho e1 e2 R h)
   ·cases htr
    exact fin (PD ho e1 e2 R h)
  ·cases htr
 | unOp op t x =>
  rw [ho] at htr
  simp only [A8,Option.map_eq_some_iff] at htr
  obtain ⟨x',hx,rfl⟩:=htr
  exact fin (UM ho hx R h)
 | convert src dst x =>
  rw [ho] at htr
  simp only [A8] at htr
  split at htr
  ·rename_i e1 e2 e3
   cases htr
   exact fin (RD ho e3 (by rw [e1];rfl) e2 R h)
  ·rename_i e1 e2 e3
   split at htr
   ·rename_i e4
    cases htr
    exact fin (QG ho e3 e1 e4 e2 R h)
   ·cases htr
  ·rename_i e1 e2 e3
   cases htr
   exact fin (Rv ho e3 e1 e2 R h)
  ·cases htr
 | slice t x lo hi mx =>
  rw [ho] at htr
  cases mx with
  | some m =>
   cases lo with
   | some _=>simp [A8] at htr
   | none =>
   cases hi with
   | none=>simp [A8] at htr
   | some hi =>
   simp only [A8] at htr
   split at htr
   ·rename_i e1 e2 e3 e4
    rw [Option.map_eq_some_iff] at htr
    obtain ⟨i,e5,rfl⟩:=htr
    exact fin (Oa ho e2 e3 e4 e1 e5 R h)
   ·cases htr
  | none =>
  simp only [A8] at htr
  split at htr
  ·rename_i e1 e2 e3 e4
   cases htr
   exact fin (N3 ho e2 e3 e4 e1 R h)
  ·rename_i e1 e2 e3 e4
   split at htr
   ·rename_i i e5
    split at htr
    ·split at htr
     ·cases htr
      exact fin (RX ho e2 e3 e4 e1 e5 R h)
     ·cases htr
      exact fin (Pv ho e2 e3 e4 e1 e5 R h)
     ·cases htr
    ·cases htr
     exact fin (Nm ho e2 e3 e4 e1 e5 R h)
   ·cases htr
  ·cases htr
 | extract x i =>
  rw [ho] at htr
  simp only [A8,Option.map_eq_some_iff] at htr
  obtain ⟨x',hx,rfl⟩:=htr
  exact fin (Mz ho hx R h)
 | nilCheck x =>
  rw [ho] at htr
  simp only [A8,Option.map_eq_some_iff] at htr
  obtain ⟨x',hx,rfl⟩:=htr
  exact fin (LM ho hx R h)
 | call c =>
  rw [ho] at htr
  obtain ⟨callee,args,argTypes⟩:=c
  simp only [A8,Gi] at htr
  split at htr
  ·split at htr
   ·rename_i x t e1 e2
    have e1':args=#[x]:=Array.ext' e1
    have e2':argTypes=#[t]:=Array.ext' e2
    subst e1' e2'
    split at htr
    ·rename_i e3 e4
     cases htr
     exact fin (Ou (str:=true) ho e3 e4 R h)
    ·rename_i e3 e4
     cases htr
     exact fin (Ou (str:=false) ho e3 ⟨_,e4⟩ R h)
    ·rename_i e3 e4
     cases htr
     exact fin (Sh ho e3 e4 R h)
    ·cases htr
   ·cases htr
  ·split at htr
   ·rename_i x y t t' e1 e2
    have e1':args=#[x,y]:=Array.ext' e1
    have e2':argTypes=#[t,t']:=Array.ext' e2
    subst e1' e2'
    split at htr
    ·rename_i e e3 e4 e5
     split at htr
     ·rename_i i e6
      split at htr
      ·rename_i z e7
       split at htr
       ·rename_i hc
        obtain ⟨rfl,hz,hp⟩:=hc
        split at htr
        ·cases htr
         exact fin (Sj ho e3 e4 e5 e6 e7 hz hp R h)
        cases htr
        exact fin (Nj ho e3 e4 e5 e6 e7 hz hp R h)
       ·split at htr
        ·rename_i hc
         obtain ⟨hu,hz,hp,h8⟩:=hc
         cases htr
         exact fin (Sc ho e3 e4 e5 (N7 hu) e6 (by rw [e7,Qs h8]) hz hp R h)
        ·cases htr
      ·cases htr
     ·cases htr
    ·cases htr
   ·cases htr
  ·split at htr
   ·rename_i x t e1 e2
    have e1':args=#[x]:=Array.ext' e1
    have e2':argTypes=#[t]:=Array.ext' e2
    subst e1' e2'
    split at htr
    ·rename_i e e3 e4
     split at htr
     ·rename_i i e5
      split at htr
      ·rename_i z e6
       split at htr
       ·rename_i zs e7
        split at htr
        ·rename_i hc
         cases htr
         exact fin (OM ho e3 e4 e5 e6 e7 hc.1 hc.2 R h)
        ·cases htr
       ·cases htr
      ·cases htr
     ·cases htr
    ·cases htr
   ·cases htr
  ·split at htr
   ·rename_i x y t t' e1 e2
    have e1':args=#[x,y]:=Array.ext' e1
    have e2':argTypes=#[t,t']:=Array.ext' e2
    subst e1' e2'
    split at htr
    ·rename_i e e3 e4 e5
     split at htr
     ·rename_i hc
      cases htr
      exact fin (Pp ho e3 e4 e5 hc R h)
     ·cases htr
      exact False.elim h
    ·cases htr
     exact False.elim h
   ·cases htr
    exact False.elim h
  ·split at htr
   ·rename_i x y e1
    have e1':args=#[x,y]:=Array.ext' e1
    subst e1'
    split at htr
    ·rename_i e3 e4
     cases htr
     exact fin (Ss (mx:=false) ho e3 e4 R h)
    ·cases htr
   ·cases htr
  ·split at htr
   ·rename_i x y e1
    have e1':args=#[x,y]:=Array.ext' e1
    subst e1'
    split at htr
    ·rename_i e3 e4
     cases htr
     exact fin (Ss (mx:=true) ho e3 e4 R h)
    ·cases htr
   ·cases htr
  ·rename_i f
   split at htr
   ·rename_i hf
    rw [Option.map_eq_some_iff] at htr
    obtain ⟨xs',hx,htr⟩:=htr
    split at htr
    ·split at htr
     ·subst htr
      exact Ky ho hf hx R h hn
     ·split at htr
      ·subst htr
       exact QA ho hf hx R h hn
      ·split at htr
       ·subst htr
        exact Pd ho hf hx R h hn
       ·split at htr
        ·subst htr
         exact QB ho hf hx R h hn
        ·split at htr
         ·subst htr
          exact Pc ho hf hx R h hn
         ·subst htr
          exact Ri ho hf hx R h hn
    ·subst htr
     exact Ky ho hf hx R h hn
   ·cases htr
  ·split at htr
   ·rename_i e3 e4
    split at htr
    ·cases htr
    ·cases htr
     exact Pq ho e3 e4 R h hn
   ·cases htr
  ·cases htr
 | makeSlice t x y =>
  rw [ho] at htr
  simp only [A8] at htr
  split at htr
  ·rename_i e x' y' e1 e2 e3
   split at htr
   ·rename_i i e4
    split at htr
    ·rename_i z e5
     split at htr
     ·rename_i zs e6
      split at htr
      ·rename_i hc
       cases htr
       exact fin (J7 ho e2 e3 e1 e4 e5 e6 hc.1 hc.2 R h)
      ·cases htr
     ·cases htr
    ·cases htr
   ·cases htr
  ·cases htr
 | makeMap t rs =>
  rw [ho] at htr
  cases rs with
  | none =>
   simp only [A8,Option.map_eq_some_iff] at htr
   obtain ⟨⟨e,kt⟩,hx,rfl⟩:=htr
   exact fin (MK ho R h)
  | some _=>simp [A8] at htr
 | lookup t x k ok =>
  rw [ho] at htr
  simp only [A8] at htr
  split at htr
  ·rename_i e kt x' k' e1 e2 e3
   rw [Option.map_eq_some_iff] at htr
   obtain ⟨z,hz,rfl⟩:=htr
   obtain ⟨kk,m1,m2⟩:=F3 e1
   obtain ⟨i,zz,z1,z2,z3⟩:=Im hz
   exact fin (No ho e2 e3 m1 m2 z1 z2 z3 R h)
  ·cases htr
 | mapUpdate t x k v =>
  rw [ho] at htr
  simp only [A8] at htr
  split at htr
  ·rename_i e kt x' k' v' e1 e2 e3 e4
   cases htr
   obtain ⟨kk,m1,m2⟩:=F3 e1
   exact fin (Jn (.inl ho) e2 e3 e4 m1 m2 R h)
  ·cases htr
 | insert t x k v =>
  rw [ho] at htr
  simp only [A8] at htr
  split at htr
  ·rename_i e kt x' k' v' e1 e2 e3 e4
   cases htr
   obtain ⟨kk,m1,m2⟩:=F3 e1
   exact fin (Jn (.inr ho) e2 e3 e4 m1 m2 R h)
  ·cases htr
 | mapEntry t x k =>
  rw [ho] at htr
  simp only [A8] at htr
  split at htr
  ·rename_i e kt x' k' e1 e2 e3
   rw [Option.map_eq_some_iff] at htr
   obtain ⟨z,hz,rfl⟩:=htr
   obtain ⟨kk,m1,m2⟩:=F3 e1
   obtain ⟨i,zz,z1,z2,z3⟩:=Im hz
   exact fin (Lw ho e2 e3 m1 m2 z1 z2 z3 R h)
  ·cases htr
 | entryStore t x k v =>
  rw [ho] at htr
  simp only [A8] at htr
  split at htr
  ·rename_i x' k' v' e1 e2 e3
   cases htr
   exact fin (Ln ho e1 e2 e3 R h)
  ·cases htr
 | range t x =>
  rw [ho] at htr
  simp only [A8] at htr
  split at htr
  ·rename_i x' e1 e2
   cases htr
   exact fin (OV ho e2 e1 R h)
  ·cases htr
 | next x b =>
  rw [ho] at htr
  cases b with
  | false =>
   simp only [A8,Option.map_eq_some_iff] at htr
   obtain ⟨x',hx,rfl⟩:=htr
   exact fin (Qv ho hx R h)
  | true=>simp [A8] at htr
 | entry x =>
  rw [ho] at htr
  simp only [A8,Option.map_eq_some_iff] at htr
  obtain ⟨x',hx,rfl⟩:=htr
  exact fin (QM ho hx R h)
 | makeInterface t x =>
  rw [ho] at htr
  simp only [A8] at htr
  split at htr
  ·rename_i e1 e2
   cases htr
   exact fin (Qd ho e2 e1 R h)
  ·cases htr
 | makeFunc fn first caps =>
  rw [ho] at htr
  cases fn with
  | func g =>
   simp only [A8] at htr
   split at htr
   ·rename_i hf
    rw [Option.map_eq_some_iff] at htr
    obtain ⟨xs,hx,rfl⟩:=htr
    exact fin (LV ho hf hx R h)
   ·cases htr
  | _=>simp [A8] at htr
 | _=>rw [ho] at htr;simp [A8] at htr
theorem QT {k:Kd} (htr:I9 P C.n o.op=some k) {K:AV→AS→Prop} {next:Act→World→Prop} {Q:Exit→Act→World→Prop} (R:AT C σ ι s a w) (h:Kd.go P d s K k) (hn:∀ av s' a' w',K av s'→Ax C (s'.put o.dst av) a' w'→next a' w'):o.wp P a w next Q:=by cases htr
theorem Sk {mu:List Nat} {k:Kd} (htr:Ti P C.n mu o.dst o.op=some k) {K:AV→AS→Prop} {next:Act→World→Prop} {Q:Exit→Act→World→Prop} (R:AT C σ ι s a w) (h:Kd.go P d s K k) (hn:∀ av s' a' w',K av s'→Ax C (s'.put o.dst av) a' w'→next a' w'):o.wpIn (fen C.ro) 0 P a w next Q:=by
 unfold Ti at htr
 split at htr
 ·rename_i k' hk
  cases htr
  refine Ey (fun c e=>by rw [e] at hk;simp [A8] at hk) (QV hk R (OL h) fun av s' a' w' hK hH=>?_)
  rcases hK with hK | ⟨v',ho,hK⟩
  ·exact hn _ _ _ _ hK hH
  ·refine hn _ _ _ _ hK ?_
   obtain ⟨σ',ι',R'⟩:=hH
   cases hd:o.dst with
   | none=>rw [hd] at R';exact ⟨σ',ι',R'⟩
   | some t =>
    rw [hd] at R'
    refine ⟨σ',ι',{ R' with env:=fun i hi=>?_ }⟩
    have hR:=R'.env i hi
    by_cases e:i=t
    ·subst e
     have e1:(s'.put (some i) av).env i=av:=AD _ _ _
     have e2:(s'.put (some i) v').env i=v':=AD _ _ _
     rw [e1] at hR
     rw [e2]
     exact (R'.outV hR ho).mono (fun _ _ h=>h) (HF _ _)
    ·have e1:(s'.put (some t) av).env i=s'.env i:=AJ _ e _
     have e2:(s'.put (some t) v').env i=s'.env i:=AJ _ e _
     rw [e1] at hR
     rw [e2]
     exact hR
 ·split at htr
  ·rename_i k' hk
   cases htr
   exact Ey (fun c e=>by rw [e] at hk;simp [I9] at hk) (QT hk R h hn)
  ·split at htr
   ·rw [Option.map_eq_some_iff] at htr
    obtain ⟨x',hx,rfl⟩:=htr
    exact (show False from h).elim
   ·rename_i c ho
    split at htr
    ·rename_i t hcal
     split at htr
     ·rename_i f' xs e1 e2
      cases htr
      obtain ⟨cal,args,tys⟩:=c
      dsimp only at hcal
      subst hcal
      exact Qc ho e1 e2 R h hn
     ·cases htr
      exact (show False from h).elim
    ·cases htr
     exact (show False from h).elim
   ·cases htr
    exact (show False from h).elim
end

section
variable {P:Program} {C:Ctx} {a:Act} {w:World} {σ:Sto} {ι:As} {s:AS} {Q:Exit→Act→World→Prop}
theorem RF {v:Value} (h:AN σ s.S ι v (.tup [])):v=.tuple #[]:=by
 cases h with
 | @tup vs _ c h1 =>
  have e:vs=#[]:=Array.eq_empty_of_size_eq_zero (by simpa using h1)
  rw [e]
theorem F5 {mu:List Nat} {ops:Array Oper} {i:Nat} {o:Oper} {k k':Ins} (hi:ops[i]?=some o) (htr:H0 P C.n mu ops.toList o=some k) (hk':k'.dst=k.dst∧k'.guard=k.guard∧k'.kd=k.kd) {K:AS→Prop} {next:Act→World→Prop} (R:AT C σ ι s a w) (h:k'.go P s K) (hn:∀ s' a' w',K s'→Ax C s' a' w'→next a' w') :
  wpOpIn (fen C.ro) 0 P ops Q i next a w:=by
 unfold H0 at htr
 split at htr
 ·rename_i g kd e1 e2
  cases htr
  obtain ⟨dst',g',kd',tag'⟩:=k'
  obtain ⟨hk1,hk2,hk3⟩:=hk'
  dsimp only at hk1 hk2 hk3
  subst hk1 hk2 hk3
  unfold wpOpIn
  rw [hi]
  dsimp only
  have body:∀ {K':AV→AS→Prop},kd'.goT P (o.dst.getD 0) s tag' K'→(∀ av s',K' av s'→K (s'.put o.dst av))→o.wpIn (fen C.ro) 0 P a w next Q:=fun hk hK'=>Sk e2 R (UC hk) fun av s' a' w' hav hH=>hn _ _ _ (hK' _ _ hav) hH
  unfold Ins.go at h
  dsimp only at h
  cases hg:o.guard with
  | none =>
   rw [hg] at e1
   simp only [IU,Option.some.injEq] at e1
   subst e1
   rw [if_pos (by simp [Region.wanted,hg])]
   exact body h fun _ _ hk=>hk
  | some jw =>
   obtain ⟨j,want⟩:=jw
   rw [hg] at e1
   simp only [IU] at e1
   split at e1
   ·rename_i oj hoj
    split at e1
    ·rename_i t ht
     split at e1
     ·rename_i hlt
      cases e1
      dsimp only at h
      have hoj':ops[j]?=some oj:=by simpa using hoj
      have rt:=R.env t hlt
      have hsz:t < a.tmps.size:=Nat.lt_of_lt_of_le hlt R.size
      have hy:∀ b,a.tmps.getD t undef=.bool b→yielded ops a.tmps j=some b:=fun b hb=>by
       unfold yielded
       rw [hoj']
       simp only [Option.bind_some,ht]
       rw [Array.getD_eq_getD_getElem?,Array.getElem?_eq_getElem hsz] at hb
       rw [Array.getElem?_eq_getElem hsz]
       simp only [Option.getD_some] at hb
       rw [hb]
      split at h
      ·rename_i b e3
       rw [e3] at rt
       have hb:=hy b (DL rt)
       by_cases hw:b=want
       ·rw [if_pos (by simp [Region.wanted,hg,hb,hw])]
        exact body (h.1 hw) fun _ _ hk=>hk
       ·rw [if_neg (by simp [Region.wanted,hg,hb,hw])]
        exact ⟨fun _ _=>trivial,hn _ _ _ (h.2 hw) ⟨σ,ι,R.put (.tup (fun _=>undef) rfl (by simp) (by simp))⟩⟩
      ·rename_i e3
       rw [e3] at rt
       have hv:=RF rt
       have hb:yielded ops a.tmps j=none:=by
        unfold yielded
        rw [hoj']
        simp only [Option.bind_some,ht]
        rw [Array.getD_eq_getD_getElem?,Array.getElem?_eq_getElem hsz] at hv
        rw [Array.getElem?_eq_getElem hsz]
        simp only [Option.getD_some] at hv
        rw [hv]
       rw [if_neg (by simp [Region.wanted,hg,hb])]
       exact ⟨fun _ _=>trivial,hn _ _ _ h ⟨σ,ι,R.put (.tup (fun _=>undef) rfl (by simp) (by simp))⟩⟩
      ·exact h.elim
     ·cases e1
    ·cases e1
   ·cases e1
 ·cases htr
theorem EQ {n:Nat} {mu:List Nat} {ops:List Oper}:∀ {l:List Oper} {ks:List Ins},G_ P n mu ops l=some ks→l.length=ks.length∧∀ (i:Nat) (o:Oper),l[i]?=some o→∃ k,ks[i]?=some k∧H0 P n mu ops o=some k
 | [],ks,h=>by
  simp only [G_,Option.some.injEq] at h
  subst h
  simp
 | o :: os,ks,h=>by
  simp only [G_] at h
  split at h
  ·rename_i k ks' e1 e2
   cases h
   obtain ⟨h1,h2⟩:=EQ e2
   refine ⟨by simp [h1],fun i o' ho'=>?_⟩
   cases i with
   | zero =>
    simp at ho'
    subst ho'
    exact ⟨k,rfl,e1⟩
   | succ i=>simpa using h2 i o' (by simpa using ho')
  ·cases h
theorem E_ {α:Type}:∀ l:List α,(List.range l.length).filterMap (fun i=>l[i]?)=l
 | []=>rfl
 | x :: l=>by
  rw [List.length_cons,List.range_succ_eq_map,List.filterMap_cons,List.filterMap_map]
  simp only [List.getElem?_cons_zero]
  congr 1
  have:=E_ l
  exact this
theorem NT {mu:List Nat} {ops:Array Oper} {ks:List Ins} {id:Nat} (htr:G_ P C.n mu ops.toList ops.toList=some ks) {K:AS→Prop} (R:AT C σ ι s a w) (h:Run P ks s K) (hn:∀ s' a' w',K s'→Ax C s' a' w'→Q .normal a' w') :
  (Code.region id ops false).wpIn (fen C.ro) 0 P Q a w:=by
 obtain ⟨hl,hget⟩:=EQ htr
 refine wpIn_region ?_
 have key:∀ (m k:Nat) (s:AS) (a:Act) (w:World),k + m=ops.size→Ax C s a w→Run P (ks.drop k) s K→wpOpsIn (fen C.ro) 0 P ops Q (List.range' k m) a w:=by
  intro m
  induction m with
  | zero =>
   intro k s a w hk hH hr
   have:ks.drop k=[]:=List.drop_of_length_le (by simp at hl;omega)
   rw [this] at hr
   exact hn _ _ _ hr hH
  | succ m ih =>
   intro k s a w hk hH hr
   have hlt:k < ops.toList.length:=by simp;omega
   obtain ⟨kk,h1,h2⟩:=hget k _ (List.getElem?_eq_getElem hlt)
   have hd:ks.drop k=kk :: ks.drop (k + 1):=by
    have hk':=(List.getElem?_eq_some_iff.1 h1).1
    rw [List.drop_eq_getElem_cons hk']
    congr 1
    exact (List.getElem?_eq_some_iff.1 h1).2
   rw [hd,Fh] at hr
   obtain ⟨σ,ι,R⟩:=hH
   rw [List.range'_succ,wpOpsIn_cons]
   exact F5 (i:=k) (by rw [← Array.getElem?_toList];exact List.getElem?_eq_getElem hlt) h2 ⟨rfl,rfl,rfl⟩ R hr fun s' a' w' hK hH'=>ih (k + 1) s' a' w' (by omega) hH' hK
 rw [List.range_eq_range']
 exact key ops.size 0 s a w (by omega) ⟨σ,ι,R⟩ (by simpa using h)
def Em (ops:List Oper):Nat→Nat→Nat→Bool
 | 0,_,_=>false
 | f + 1,j,i=>match ops[i]? with
  | some o=>o.after.any fun e=>Region.binds .any e && (e.on == j || Em ops f j e.on)
  | none=>false
def Ig (ops:List Oper) (ks:List Ins):Bool :=
 (List.range ops.length).all fun i =>
  (match ops[i]? with | some o=>o.after.all (fun e=>!Region.binds .any e || e.on < i) | none=>true) &&
  (List.range i).all fun j=>match ks[j]?,ks[i]? with
   | some x,some y=>x.indep y || Em ops ops.length j i
   | _,_=>true
theorem GJ {ops:Array Oper} {listed:Array Bool} (hdc:∀ k o,ops[k]?=some o→listed.getD k true=true→k < ops.size→∀ e ∈ o.after,Region.binds .any e=true→listed.getD e.on false=true) {i:Nat} :
  ∀ (f j i:Nat),(∀ o,ops[i]?=some o→∀ e ∈ o.after,Region.binds .any e=true→listed.getD e.on false=true)→Em ops.toList f j i=true→listed.getD j false=true:=by
 intro f
 induction f with
 | zero=>intro j i _ h;simp [Em] at h
 | succ f ih =>
  intro j i hi h
  simp only [Em] at h
  split at h
  ·rename_i o ho
   have ho':ops[i]?=some o:=by simpa using ho
   obtain ⟨k,hk,h2⟩:=Array.any_eq_true.1 h
   simp only [Bool.and_eq_true,Bool.or_eq_true,beq_iff_eq] at h2
   have hl:=hi o ho' _ (Array.getElem_mem hk) h2.1
   rcases h2.2 with h3 | h3
   ·rw [← h3];exact hl
   ·refine ih j _ (fun o2 ho2 e he hb=>?_) h3
    have hlt:=(Array.getElem?_eq_some_iff.1 ho2).1
    refine hdc _ o2 ho2 ?_ hlt e he hb
    rcases Nat.lt_or_ge (o.after[k]).on listed.size with h' | h'
    ·simp [h'] at hl ⊢;exact hl
    ·simp [Array.getElem?_eq_none h']
  ·cases h
def JF (ks ks':List Ins):Prop:=ks.length=ks'.length∧∀ (i:Nat) k,ks[i]?=some k→∃ k':Ins,ks'[i]?=some k'∧k'.dst=k.dst∧k'.guard=k.guard∧k'.kd=k.kd
def PM (f:Nat→Tag):Nat→List Ins→List Ins
 | _,[]=>[]
 | i,k :: ks=>⟨k.dst,k.guard,k.kd,f i⟩ :: PM f (i + 1) ks
theorem JV (f:Nat→Tag):∀ (n:Nat) (ks:List Ins),JF ks (PM f n ks)
 | _,[]=>⟨rfl,fun i k h=>by simp at h⟩
 | n,k :: ks=>by
  obtain ⟨h1,h2⟩:=JV f (n + 1) ks
  refine ⟨by simp [PM,h1],fun i k' hk'=>?_⟩
  cases i with
  | zero =>
   simp only [List.getElem?_cons_zero,Option.some.injEq] at hk'
   subst hk'
   exact ⟨_,rfl,rfl,rfl,rfl⟩
  | succ i=>exact h2 i k' (by simpa using hk')
theorem JF.refl (ks:List Ins):JF ks ks:=⟨rfl,fun i k h=>⟨k,h,rfl,rfl,rfl⟩⟩
theorem J2 {mu:List Nat} {ops:Array Oper} {ks0 ks:List Ins} {id:Nat} (hmix:P.follows .mixedOrders=true) (htr:G_ P C.n mu ops.toList ops.toList=some ks0) (hre:JF ks0 ks) (hok:Ig ops.toList ks=true) {K:AS→Prop} (R:AT C σ ι s a w) (h:Run P ks s K) (hn:∀ s' a' w',K s'→Ax C s' a' w'→Q .normal a' w') :
  (Code.region id ops true).wpIn (fen C.ro) 0 P Q a w:=by
 obtain ⟨hl0,hget0⟩:=EQ htr
 have hl:ops.size=ks.length:=by
  rw [← hre.1,← hl0,Array.length_toList]
 have hget:∀ (i:Nat) (o:Oper),ops.toList[i]?=some o→∃ k',ks[i]?=some k'∧∃ k,H0 P C.n mu ops.toList o=some k∧k'.dst=k.dst∧k'.guard=k.guard∧k'.kd=k.kd:=fun i o ho=>by
  obtain ⟨k,h1,h2⟩:=hget0 i o ho
  obtain ⟨k',q1,q2⟩:=hre.2 i k h1
  exact ⟨k',q1,k,h2,q2⟩
 refine wpIn_region_any hmix ?_
 have hchk:∀ i,i < ops.size→(∀ o,ops[i]?=some o→∀ e ∈ o.after,Region.binds .any e=true→e.on < i)∧∀ j,j < i→∀ x y,ks[j]?=some x→ks[i]?=some y→x.indep y=true ∨ Em ops.toList ops.toList.length j i=true:=fun i hi=>by
  have h1:=List.all_eq_true.1 hok i (List.mem_range.2 (by simpa using hi))
  simp only [Bool.and_eq_true] at h1
  refine ⟨fun o ho e he hb=>?_,fun j hj x y hx hy=>?_⟩
  ·have h2:=h1.1
   rw [show ops.toList[i]?=some o by simpa using ho] at h2
   dsimp only at h2
   obtain ⟨k,hk,rfl⟩:=Array.getElem_of_mem he
   have h3:=(Array.all_eq_true.1 h2) k hk
   simpa [hb] using h3
  ·have h2:=List.all_eq_true.1 h1.2 j (List.mem_range.2 hj)
   rw [hx,hy] at h2
   simpa using h2
 have key:∀ (f:Nat) (T:List Nat) (listed:Array Bool) (s:AS) (a:Act) (w:World),T.length≤f→listed.size=ops.size→T.Pairwise (· < ·)→(∀ i,i ∈ T ↔ i < ops.size∧listed.getD i true=false) →
   (∀ k o,ops[k]?=some o→listed.getD k true=true→k < ops.size→∀ e ∈ o.after,Region.binds .any e=true→listed.getD e.on false=true)→Ax C s a w→Run P (T.filterMap fun i=>ks[i]?) s K→wpAnyIn (fen C.ro) 0 P .any ops Q f listed a w:=by
  intro f
  induction f with
  | zero =>
   intro T listed s a w hf hsz hs hT hdc hH hr
   have hT0:T=[]:=List.eq_nil_of_length_eq_zero (by omega)
   subst hT0
   refine ⟨?_,hn _ _ _ hr hH⟩
   rw [List.eq_nil_iff_forall_not_mem]
   intro i hi
   obtain ⟨q1,o,q2,q3⟩:=mem_ready.1 hi
   have:=(hT i).2 ⟨(Array.getElem?_eq_some_iff.1 q2).1,q1⟩
   cases this
  | succ f ih =>
   intro T listed s a w hf hsz hs hT hdc hH hr
   refine ⟨fun hready=>?_,fun i hi=>?_⟩
   ·-- nothing may come up: nothing is left
    cases T with
    | nil=>exact hn _ _ _ hr hH
    | cons i T =>
     exfalso
     obtain ⟨hi1,hi2⟩:=(hT i).1 (by simp)
     have:i ∈ Region.ready .any ops listed:=by
      refine mem_ready.2 ⟨hi2,ops[i],Array.getElem?_eq_getElem hi1,fun e he hb=>?_⟩
      have hlt:=(hchk i hi1).1 _ (Array.getElem?_eq_getElem hi1) e he hb
      cases hq:listed.getD e.on true with
      | true =>
       simp [show e.on < listed.size by omega] at hq ⊢
       exact hq
      | false =>
       have hmem:=(hT e.on).2 ⟨by omega,hq⟩
       rcases List.mem_cons.1 hmem with h | h
       ·omega
       ·have:=(List.pairwise_cons.1 hs).1 _ h
        omega
     rw [hready] at this
     cases this
   ·obtain ⟨q1,o,q2,q3⟩:=mem_ready.1 hi
    have hi1:=(Array.getElem?_eq_some_iff.1 q2).1
    have hmem:=(hT i).2 ⟨hi1,q1⟩
    obtain ⟨pre,post,rfl⟩:=List.append_of_mem hmem
    obtain ⟨y,hy1,y0,hy2,hy3⟩:=hget i o (by simpa using q2)
    rw [List.filterMap_append,List.filterMap_cons,hy1] at hr
    dsimp only at hr
    have hpre:∀ j ∈ pre,j < i:=fun j hj=>(List.pairwise_append.1 hs).2.2 j hj i (by simp)
    have hfront:=LA (P:=P) (K:=K) (pre:=pre.filterMap fun i=>ks[i]?) (y:=y) (post:=post.filterMap fun i=>ks[i]?) (fun x hx=>by
     obtain ⟨j,hj,hxj⟩:=List.mem_filterMap.1 hx
     have hji:=hpre j hj
     rcases (hchk i hi1).2 j hji x y hxj hy1 with hind | hbe
     ·exact hind
     ·exfalso
      have h1:=GJ (ops:=ops) (listed:=listed) hdc (i:=i) _ j i (fun o2 ho2 e he hb=>by
       rw [q2] at ho2
       cases ho2
       exact q3 e he hb) hbe
      have h2:=((hT j).1 (by simp [hj])).2
      have h3:=((hT j).1 (by simp [hj])).1
      simp [show j < listed.size by omega] at h1 h2
      rw [h1] at h2
      cases h2) hr
    obtain ⟨σ,ι,R⟩:=hH
    refine F5 q2 hy2 hy3 R hfront fun s' a' w' hK hH'=>?_
    rw [← List.filterMap_append] at hK
    have hsub:(pre ++ post).Pairwise (· < ·):=by
     refine hs.sublist ?_
     exact List.Sublist.append (List.Sublist.refl pre) (List.sublist_cons_self i post)
    have hni:i ∉ pre ++ post:=fun hm=>by
     rcases List.mem_append.1 hm with hm | hm
     ·have:=hpre i hm;omega
     ·have:=(List.pairwise_cons.1 (List.pairwise_append.1 hs).2.1).1 i hm;omega
    refine ih (pre ++ post) (listed.setIfInBounds i true) s' a' w' (by simp at hf ⊢;omega) (by simpa using hsz) hsub (fun j=>?_) (fun k ok hok2 hlk hkk e he hb=>?_) hH' hK
    ·constructor
     ·intro hj
      have hji:i ≠ j:=fun e=>hni (e ▸ hj)
      have:=(hT j).1 (by
       rcases List.mem_append.1 hj with h | h
       ·simp [h]
       ·simp [h])
      rw [getD_set_ne true hji]
      exact this
     ·rintro ⟨h1,h2⟩
      have hji:i ≠ j:=fun e=>by
       subst e
       simp [show i < listed.size by omega] at h2
      rw [getD_set_ne true hji] at h2
      have:=(hT j).2 ⟨h1,h2⟩
      rcases List.mem_append.1 this with h | h
      ·exact List.mem_append.2 (.inl h)
      ·rcases List.mem_cons.1 h with h | h
       ·exact absurd h.symm hji
       ·exact List.mem_append.2 (.inr h)
    ·by_cases hki:i=k
     ·subst hki
      rw [q2] at hok2
      cases hok2
      exact getD_set_true (q3 e he hb)
     ·rw [getD_set_ne true hki] at hlk
      exact getD_set_true (hdc k ok hok2 hlk hkk e he hb)
 refine key ops.size (List.range ops.size) (Array.replicate ops.size false) s a _ (by simp) (by simp) List.pairwise_lt_range (fun i=>?_) (fun k o hk hlk hkk e he hb=>?_) ⟨σ,ι,R.drew⟩ ?_
 ·rw [List.mem_range]
  constructor
  ·intro hi;exact ⟨hi,by simp [hi]⟩
  ·exact fun h=>h.1
 ·simp [hkk] at hlk
 ·have e:(List.range ops.size).filterMap (fun i=>ks[i]?)=ks:=by
   rw [hl]
   exact E_ ks
  rw [e]
  exact h
end

def Lo (hints:List Nat) (ks:List Ins):Nat→Nat→Nat
 | 0,t=>t
 | f + 1,t=>match hints.find? fun m=>m / 10000 == 1000 + t with
  | some m=>m % 10000
  | none=>match ks.find? fun k=>k.dst == some t with
   | some k=>match k.kd with
    | .mov (.t u)=>Lo hints ks f u
    | .fieldAddr _ (.t u)=>Lo hints ks f u
    | .nilCheck (.t u)=>Lo hints ks f u
    | _=>t
   | none=>t
def Pk (ops:List Oper) (ks:List Ins):List (Nat × Nat) :=
 (List.range ops.length).flatMap fun i=>(List.range i).filterMap fun j=>match ks[j]?,ks[i]? with
  | some x,some y=>if x.indep y || Em ops ops.length j i then none else some (j,i)
  | _,_=>none
def LD (hints:List Nat) (ks:List Ins) (i:Nat):Option Nat:=match ks[i]? with
 | some k=>match k.kd with
  | .indexAddr _ (.t u) _=>(hints.find? fun m=>m / 10000 == 1000 + u).map (· % 10000)
  | .indexAddr _ _ _=>none
  | kd=>match kd.ptrOpd with
   | some (.t u)=>some (Lo hints ks ks.length u)
   | _=>none
 | none=>none
def Ue (hints:List Nat) (ks:List Ins) (conf:List (Nat × Nat)) (i:Nat):Tag :=
 if conf.any fun p=>p.1 == i || p.2 == i then match ks[i]? with
  | some k=>match k.kd with
   | .load _ _ _ | .store _ _ _ | .fieldAddr _ _ | .nilCheck _ | .indexAddr _ _ _=>match LD hints ks i with
    | some id=>.onb id
    | none=>.no
   | .callS _ _ | .callV _ _ | .callN _ _ | .append _ _ _ _ _ _=>.keeps (conf.filterMap fun p=>if p.1 == i then LD hints ks p.2 else if p.2 == i then LD hints ks p.1 else none)
   | _=>.no
  | none=>.no
 else .no
def Ql (mu:List Nat) (ops:List Oper) (ks:List Ins):List Ins:=PM (Ue (mu.filter fun m=>10000000≤m) ks (Pk ops ks)) 0 ks
def Az (P:Program) (n:Nat) (mu:List Nat):Code→Option IR
 | .skip=>some .skip
 | .region _ ops draw=>match G_ P n mu ops.toList ops.toList with
  | some ks=>if draw then if P.follows .mixedOrders && Ig ops.toList ks then some (.ops ks) else if P.follows .mixedOrders && Ig ops.toList (Ql mu ops.toList ks) then some (.ops (Ql mu ops.toList ks)) else none else some (.ops ks)
  | none=>none
 | .seq x y=>match Az P n mu x,Az P n mu y with
  | some x',some y'=>some (.seq x' y')
  | _,_=>none
 | .cond c x y=>match AM n c,Az P n mu x,Az P n mu y with
  | some c',some x',some y'=>some (.cond c' x' y')
  | _,_,_=>none
 | .block id x=>(Az P n mu x).map (.block id)
 | .loop x=>(Az P n mu x).map .loop
 | .rangeFunc g ps x y=>match AM n g,Az P n mu x,Az P n mu y with
  | some g',some x',some y'=>if ps.toList.all (fun p=>decide (p < n)) then some (.rangeF g' ps.toList x' y') else none
  | _,_,_=>none
 | .exit id=>some (.exit id)
 | .ret=>some .ret
 | _=>none
inductive AX where
 | normal
 | exit (id:Nat)
 | ret
 | pan (v:Value)
def Uo (C:Ctx) (Q:AX→AS→Prop):Exit→Act→World→Prop
 | .normal,a,w=>∃ s,Q .normal s∧Ax C s a w
 | .exit id,a,w=>∃ s,Q (.exit id) s∧Ax C s a w
 | .ret,a,w=>∃ s,Q .ret s∧Ax C s a w
 | .panic ch,a,w=>∃ s v,(Q (.pan v) s∧ch=[{ v:=v,recovered:=false }])∧Ax C s a w
 | _,_,_=>False
def IWP (P:Program) (C:Ctx) (mu:List Nat) (x:IR) (Q:AX→AS→Prop) (s:AS):Prop :=
 ∀ c,Az P C.n mu c=some x→∀ a w,Ax C s a w→c.wpIn (fen C.ro) 0 P (Uo C Q) a w
def Am (C:Ctx) (s s':AS):Prop:=∀ a w,Ax C s a w→Ax C s' a w
def AX.then (K:AS→Prop) (Q:AX→AS→Prop):AX→AS→Prop
 | .normal,s=>K s
 | e,s=>Q e s
def AX.inBlock (id:Nat) (Q:AX→AS→Prop):AX→AS→Prop
 | .exit id',s=>if id'=id then Q .normal s else Q (.exit id') s
 | e,s=>Q e s
section
variable {P:Program} {C:Ctx} {mu:List Nat} {Q Q':AX→AS→Prop} {s s':AS} {x y:IR}
theorem IWP.mono (h:IWP P C mu x Q s) (hq:∀ e s,Q e s→Q' e s):IWP P C mu x Q' s:=fun c hc a w hH=>wpIn_mono (h c hc a w hH) fun e a' w' he=>by
 cases e <;> first | exact he | (obtain ⟨s1,v,h1,h2⟩:=he;exact ⟨s1,v,⟨hq _ _ h1.1,h1.2⟩,h2⟩) | (obtain ⟨s1,h1,h2⟩:=he;exact ⟨s1,hq _ _ h1,h2⟩)
theorem IWP.ghost (hg:Am C s s') (h:IWP P C mu x Q s'):IWP P C mu x Q s:=fun c hc a w hH=>h c hc a w (hg a w hH)
theorem Am.refl (C:Ctx) (s:AS):Am C s s:=fun _ _ h=>h
theorem Am.trans {s1 s2 s3:AS} (h:Am C s1 s2) (k:Am C s2 s3):Am C s1 s3:=fun a w hH=>k a w (h a w hH)
theorem IWP.skip (h:Q .normal s):IWP P C mu .skip Q s:=fun c hc a w hH=>by
 cases c <;> simp only [Az] at hc <;> first | exact wpIn_skip ⟨s,h,hH⟩ | (exfalso;revert hc;(repeat' split) <;> simp)
theorem IWP.ops {l:List Ins} (h:Run P l s (Q .normal)):IWP P C mu (.ops l) Q s:=fun c hc a w hH=>by
 cases c <;> simp only [Az] at hc
 case region id ops draw =>
  split at hc
  ·rename_i ks e1
   obtain ⟨σ,ι,R⟩:=hH
   cases draw with
   | true =>
    simp only [if_true] at hc
    split at hc
    ·rename_i h1
     cases hc
     simp only [Bool.and_eq_true] at h1
     exact J2 h1.1 e1 (JF.refl _) h1.2 R h fun s' a' w' hs hh=>⟨s',hs,hh⟩
    ·split at hc
     ·rename_i h1
      cases hc
      simp only [Bool.and_eq_true] at h1
      exact J2 h1.1 e1 (JV _ 0 _) h1.2 R h fun s' a' w' hs hh=>⟨s',hs,hh⟩
     ·cases hc
   | false =>
    simp only [Bool.false_eq_true,if_false,Option.some.injEq,IR.ops.injEq] at hc
    subst hc
    exact NT e1 R h fun s' a' w' hs hh=>⟨s',hs,hh⟩
  ·cases hc
 all_goals (exfalso;revert hc;(repeat' split) <;> simp)
def Lx (P:Program) (C:Ctx) (mu:List Nat) (y:IR) (Q:AX→AS→Prop):AX→AS→Prop:=AX.then (IWP P C mu y Q) Q
theorem Hz (h:IWP P C mu y Q s):Lx P C mu y Q .normal s:=h
theorem Pa {id:Nat} (h:Q (.exit id) s):Lx P C mu y Q (.exit id) s:=h
theorem Sa (h:Q .ret s):Lx P C mu y Q .ret s:=h
theorem Jy {id:Nat} (h:Q .normal s):AX.inBlock id Q .normal s:=h
theorem Ld {id:Nat} (h:Q .normal s):AX.inBlock id Q (.exit id) s:=by simp only [AX.inBlock,if_true];exact h
theorem LW {id id':Nat} (hne:id' ≠ id) (h:Q (.exit id') s):AX.inBlock id Q (.exit id') s:=by simp only [AX.inBlock,hne,if_false];exact h
theorem Mg {id:Nat} (h:Q .ret s):AX.inBlock id Q .ret s:=h
theorem Ag {K:AS→Prop} (h:K s):AX.then K Q .normal s:=h
theorem QL {K:AS→Prop} {id:Nat} (h:Q (.exit id) s):AX.then K Q (.exit id) s:=h
theorem Re {K:AS→Prop} (h:Q .ret s):AX.then K Q .ret s:=h
theorem IWP.opsK {l:List Ins} (h:∀ K:AS→Prop,(∀ s,Q .normal s→K s)→Run P l s K):IWP P C mu (.ops l) Q s:=IWP.ops (h _ fun _ h=>h)
theorem IWP.seq (h:IWP P C mu x (Lx P C mu y Q) s):IWP P C mu (.seq x y) Q s:=fun c hc a w hH=>by
 cases c <;> simp only [Az] at hc
 case seq c1 c2 =>
  split at hc
  ·rename_i x' y' e1 e2
   cases hc
   refine wpIn_seq (wpIn_mono (h c1 e1 a w hH) fun e a' w' he=>?_)
   cases e <;> first | exact he | (obtain ⟨s1,h1,h2⟩:=he;exact h1 c2 e2 a' w' h2)
  ·cases hc
 all_goals (exfalso;revert hc;(repeat' split) <;> simp)
theorem IWP.cond {c0:Opd} (h:match s.ev c0 with | .one (.st (.bool b))=>(b=true→IWP P C mu x Q s)∧(b=false→IWP P C mu y Q s) | .one .ubool=>IWP P C mu x Q s∧IWP P C mu y Q s | _=>False):IWP P C mu (.cond c0 x y) Q s:=fun c hc a w hH=>by
 cases c <;> simp only [Az] at hc
 case cond cc c1 c2 =>
  split at hc
  ·rename_i c' x' y' e0 e1 e2
   cases hc
   split at h
   ·rename_i b eb
    obtain ⟨σ,ι,R⟩:=hH
    have rb:=R.ev e0
    rw [eb] at rb
    exact wpIn_cond_split (DL rb) (fun ht=>h.1 ht c1 e1 a w ⟨σ,ι,R⟩) (fun ht=>h.2 ht c2 e2 a w ⟨σ,ι,R⟩)
   ·rename_i eb
    obtain ⟨σ,ι,R⟩:=hH
    have rb:=R.ev e0
    rw [eb] at rb
    obtain ⟨b,hb⟩:=OP rb
    exact wpIn_cond_split hb (fun _=>h.1 c1 e1 a w ⟨σ,ι,R⟩) (fun _=>h.2 c2 e2 a w ⟨σ,ι,R⟩)
   ·exact h.elim
  ·cases hc
 all_goals (exfalso;revert hc;(repeat' split) <;> simp)
theorem IWP.block {id:Nat} (h:IWP P C mu x (AX.inBlock id Q) s):IWP P C mu (.block id x) Q s:=fun c hc a w hH=>by
 cases c <;> simp only [Az] at hc
 case block id' c1 =>
  rw [Option.map_eq_some_iff] at hc
  obtain ⟨x',e1,e2⟩:=hc
  cases e2
  refine wpIn_block (wpIn_mono (h c1 e1 a w hH) fun e a' w' he=>?_)
  cases e <;> first | exact he | skip
  case exit id2 =>
   obtain ⟨s1,h1,h2⟩:=he
   simp only [AX.inBlock] at h1
   simp only [Exit.inBlock]
   by_cases e:id2=id
   ·rw [if_pos e] at h1 ⊢
    exact ⟨s1,h1,h2⟩
   ·rw [if_neg e] at h1 ⊢
    exact ⟨s1,h1,h2⟩
 all_goals (exfalso;revert hc;(repeat' split) <;> simp)
theorem IWP.exit {id:Nat} (h:Q (.exit id) s):IWP P C mu (.exit id) Q s:=fun c hc a w hH=>by
 cases c <;> simp only [Az] at hc
 case exit id' =>
  cases hc
  exact wpIn_exit ⟨s,h,hH⟩
 all_goals (exfalso;revert hc;(repeat' split) <;> simp)
theorem IWP.ret (h:Q .ret s):IWP P C mu .ret Q s:=fun c hc a w hH=>by
 cases c <;> simp only [Az] at hc
 case ret=>exact wpIn_ret ⟨s,h,hH⟩
 all_goals (exfalso;revert hc;(repeat' split) <;> simp)
theorem IWP.loop (Inv:Nat→AS→Prop) (m0:Nat) (h0:Inv m0 s) (h:∀ m s,Inv m s→IWP P C mu x (AX.then (fun s'=>∃ m',m' < m∧Inv m' s') Q) s):IWP P C mu (.loop x) Q s:=fun c hc a w hH=>by
 cases c <;> simp only [Az] at hc
 case loop c1 =>
  rw [Option.map_eq_some_iff] at hc
  obtain ⟨x',e1,e2⟩:=hc
  cases e2
  have least:∀ a w,(∃ m s,Inv m s∧Ax C s a w)→∃ m,(∃ s,Inv m s∧Ax C s a w)∧∀ m',(∃ s,Inv m' s∧Ax C s a w)→m≤m':=fun a w ⟨m,s,h1,h2⟩=>by
   have key:∀ n m,m≤n→(∃ s,Inv m s∧Ax C s a w)→∃ m,(∃ s,Inv m s∧Ax C s a w)∧∀ m',(∃ s,Inv m' s∧Ax C s a w)→m≤m':=by
    intro n
    induction n with
    | zero=>intro m hm hs;exact ⟨m,hs,fun m' _=>by omega⟩
    | succ n ih =>
     intro m hm hs
     by_cases hex:∃ m',m' < m∧∃ s,Inv m' s∧Ax C s a w
     ·obtain ⟨m',hlt,hs'⟩:=hex
      exact ih m' (by omega) hs'
     ·refine ⟨m,hs,fun m' hs'=>?_⟩
      rcases Nat.lt_or_ge m' m with hlt | hge
      ·exact absurd ⟨m',hlt,hs'⟩ hex
      ·exact hge
   exact key m m (Nat.le_refl _) ⟨s,h1,h2⟩
  open Classical in
  refine wpIn_loop (fun a w=>∃ m s,Inv m s∧Ax C s a w) (fun a w=>if hx:∃ m s,Inv m s∧Ax C s a w then (least a w hx).choose else 0) ⟨m0,s,h0,hH⟩ fun a w hI=>?_
  obtain ⟨⟨s1,i1,i2⟩,hmin⟩:=(least a w hI).choose_spec
  refine wpIn_mono (h _ s1 i1 c1 e1 a w i2) fun e a' w' he=>?_
  cases e <;> first | exact he | skip
  case normal =>
   obtain ⟨s2,⟨m',hlt,hinv⟩,hH2⟩:=he
   have hx':∃ m s,Inv m s∧Ax C s a' w':=⟨m',s2,hinv,hH2⟩
   refine ⟨hx',?_⟩
   rw [dif_pos hx',dif_pos hI]
   have:=(least a' w' hx').choose_spec.2 m' ⟨s2,hinv,hH2⟩
   omega
 all_goals (exfalso;revert hc;(repeat' split) <;> simp)
end
mutual
def SV.known:SV→Prop
 | .int k n=>inR k n
 | .str b=>b.size≤maxLen
 | .list xs=>xs.length≤maxLen∧SV.knownLL xs
 | _=>True
def SV.knownLL:List (List SV)→Prop
 | []=>True
 | x :: xs=>SV.knownL x∧SV.knownLL xs
def SV.knownL:List SV→Prop
 | []=>True
 | c :: cs=>c.known∧SV.knownL cs
end
theorem GZ:∀ {l:List SV},SV.knownL l ↔ ∀ c ∈ l,c.known
 | []=>by simp [SV.knownL]
 | c :: cs=>by simp [SV.knownL,GZ (l:=cs)]
theorem Fa:∀ {l:List (List SV)},SV.knownLL l ↔ ∀ x ∈ l,SV.knownL x
 | []=>by simp [SV.knownLL]
 | c :: cs=>by simp [SV.knownLL,Fa (l:=cs)]
def AC.known (S:AA):AC→Prop
 | .st c=>c.known
 | .full xs=>xs.length≤maxLen∧SV.knownLL xs
 | _=>True
def AV.known (S:AA):AV→Prop
 | .one c=>c.known S
 | .agg cs=>∀ c ∈ cs,c.known S
 | _=>True
theorem A0.known {σ:Sto} {v:Value} {c:SV} (h:A0 σ v c):c.known:=by
 induction h with
 | int h=>exact h
 | str h=>exact h
 | @list p len cap b o w xs c h1 h2 h3 h4 h5 h6 hh h7 h8 ih =>
  refine ⟨by omega,Fa.2 fun x hx=>GZ.2 fun y hy=>?_⟩
  obtain ⟨k,hk,rfl⟩:=List.getElem_of_mem hx
  obtain ⟨j,hj,rfl⟩:=List.getElem_of_mem hy
  exact ih k _ j _ (List.getElem?_eq_getElem hk) (List.getElem?_eq_getElem hj)
 | _=>trivial
theorem Aq.known {σ:Sto} {S:AA} {ι:As} {v:Value} {c:AC} (h:Aq σ S ι v c):c.known S:=by
 cases h with
 | st h=>exact h.known
 | full h=>exact h.known
 | _=>trivial
theorem AN.known {σ:Sto} {S:AA} {ι:As} {v:Value} {c:AV} (h:AN σ S ι v c):c.known S:=by
 cases h with
 | one h=>exact h.known
 | agg h =>
  intro c hc
  obtain ⟨i,hi,rfl⟩:=List.getElem_of_mem hc
  obtain ⟨b,_,hb⟩:=h.get (List.getElem?_eq_getElem hi)
  exact hb.known
 | _=>trivial
theorem IWP.learn {P:Program} {C:Ctx} {mu:List Nat} {Q:AX→AS→Prop} {s:AS} {x:IR} (t:Nat) (ht:t < C.n) (h:(s.env t).known s.S→IWP P C mu x Q s):IWP P C mu x Q s:=fun c hc a w hH=>by
 obtain ⟨σ,ι,R⟩:=hH
 exact h (R.env t ht).known c hc a w ⟨σ,ι,R⟩
inductive RV where
 | t (i:Nat)
 | cell (i:Nat) (g:Bool) (n:Nat)
def Df (P:Program) (n:Nat):List ResultVar→Option (List RV)
 | []=>some []
 | .tmp t :: l=>match Df P n l with
  | some r=>if t < n then some (.t t :: r) else none
  | none=>none
 | .cell t ty :: l=>match Df P n l,Mi P ty with
  | some r,some (g,k)=>if t < n then some (.cell t g k :: r) else none
  | _,_=>none
def AE (s:AS):RV→Option AV
 | .t i=>some (s.env i)
 | .cell i g n=>match s.env i with
  | .one (.ptr id m k off)=>match Cf s.S id m k with
   | some cs=>if off + n≤cs.length then some (LU g ((cs.drop off).take n)) else none
   | none=>none
  | _=>none
def AB (s:AS):List RV→Option (List AV)
 | []=>some []
 | r :: l=>match AE s r,AB s l with
  | some v,some vs=>some (v :: vs)
  | _,_=>none
def AQ:List AV→AV
 | [v]=>v
 | vs=>.tup vs
def AS.result (s:AS) (rs:List RV):Option AV:=match AB s rs with
 | some vs=>outV s.S (AQ vs)
 | none=>none
def I7 (tmps:Array Value):ResultVar→Sem Value
 | .tmp t=>pure (tmps.getD t undef)
 | .cell x t=>do loadVar t (← asAddr (tmps.getD x undef))
theorem Nt (fn:Func) (tmps:Array Value):results fn tmps=(do
  let vs ← fn.results.mapM (I7 tmps)
  pure (if h:vs.size=1 then vs[0] else .tuple vs)):=rfl
section
variable {P:Program} {C:Ctx} {a:Act} {w:World} {σ:Sto} {ι:As} {s:AS}
theorem HL (R:AT C σ ι s a w):∀ {l:List ResultVar} {rs:List RV} {vs:List AV},Df P C.n l=some rs→AB s rs=some vs →
  ∃ xs:List Value,(l.mapM (I7 a.tmps)).run P w=.ok xs w∧Af (AN σ s.S ι) xs vs
 | [],rs,vs,h1,h2=>by
  simp only [Df,Option.some.injEq] at h1
  subst h1
  simp only [AB,Option.some.injEq] at h2
  subst h2
  exact ⟨[],by simp,.nil⟩
 | .tmp t :: l,rs,vs,h1,h2=>by
  simp only [Df] at h1
  split at h1
  ·rename_i r e1
   split at h1
   ·rename_i hlt
    cases h1
    simp only [AB,AE] at h2
    split at h2
    ·rename_i v vs' e2 e3
     cases h2
     cases e2
     obtain ⟨xs,k1,k2⟩:=HL R e1 e3
     exact ⟨_ :: xs,by simp [List.mapM_cons,I7,k1],.cons (R.env t hlt) k2⟩
    ·cases h2
   ·cases h1
  ·cases h1
 | .cell t ty :: l,rs,vs,h1,h2=>by
  simp only [Df] at h1
  split at h1
  ·rename_i r g k e1 e4
   split at h1
   ·rename_i hlt
    cases h1
    simp only [AB] at h2
    split at h2
    ·rename_i v vs' e2 e3
     cases h2
     obtain ⟨xs,k1,k2⟩:=HL R e1 e3
     simp only [AE] at e2
     split at e2
     ·rename_i id m kk off e5
      split at e2
      ·rename_i cs e6
       split at e2
       ·rename_i hle
        cases e2
        have rt:=R.env t hlt
        rw [e5] at rt
        obtain ⟨b,oo,hex,ys,v2,v3⟩:=R.ptr_cells (Aa rt) e6
        have hlen:=v3.len
        obtain ⟨dd,i,q1,q2,q3,q4⟩:=GY e4
        obtain ⟨v,r1,r2⟩:=E4 (P:=P) (w:=w) (b:=b) (o:=oo + off) (cs:=(ys.drop off).take k) q1 q2 (fun j v hj=>by
         rw [List.getElem?_take] at hj
         split at hj
         ·rw [List.getElem?_drop] at hj
          rw [Nat.add_assoc]
          exact v2 _ _ hj
         ·cases hj) g q3 (by simp;omega)
        have r1':(loadVar ty ⟨b,oo + off,none⟩).run P w=.ok v w:=by
         simpa [Instr.loadAt,Instr.sureAddr] using r1
        exact ⟨v :: xs,by simp [List.mapM_cons,I7,hex,asAddr,r1',k1],.cons (EM ((v3.drop off).take k) r2) k2⟩
       ·cases e2
      ·cases e2
     ·cases e2
    ·cases h2
   ·cases h1
  ·cases h1
theorem JK {S:AA} {fn:Func} {tmps:Array Value} {xs:List Value} {vs:List AV} (k1:(fn.results.toList.mapM (I7 tmps)).run P w=.ok xs w) (k2:Af (AN σ S ι) xs vs):∃ v,(results fn tmps).run P w=.ok v w∧AN σ S ι v (AQ vs):=by
 have hl:=k2.len
 have hrun:(results fn tmps).run P w=.ok (if h:xs.toArray.size=1 then xs.toArray[0] else .tuple xs.toArray) w:=by
  rw [Nt,Array.mapM_eq_mapM_toList]
  simp [k1]
 refine ⟨_,hrun,?_⟩
 match xs,vs,k2,hl with
 | [x],[v],k2,_ =>
  cases k2 with
  | cons k2 _=>simpa [AQ] using k2
 | [],[],k2,_=>simpa [AQ] using AN.tup (σ:=σ) (S:=S) (ι:=ι) (vs:=#[]) (ps:=[]) (fun _=>undef) rfl (by simp) (by simp)
 | x :: y :: xs,v :: v' :: vs,k2,hl =>
  have ht:AQ (v :: v' :: vs)=.tup (v :: v' :: vs):=rfl
  rw [ht]
  have hne:¬ (x :: y :: xs).toArray.size=1:=by simp
  rw [dif_neg hne]
  refine .tup (fun j=>((x :: y :: xs)[j]?).getD undef) (by simpa using hl) (fun j b hb=>?_) (fun j b hb=>?_)
  ·obtain ⟨a1,h1,_⟩:=k2.get hb
   rw [h1]
   simpa using h1
  ·obtain ⟨a1,h1,h2⟩:=k2.get hb
   rw [h1]
   exact h2
theorem LG (R:AT C σ ι s a w) {fn:Func} {rs:List RV} {r:AV} (h1:Df P C.n fn.results.toList=some rs) (h2:s.result rs=some r):∃ v,(results fn a.tmps).run P w=.ok v w∧AN σ noS noH v r:=by
 unfold AS.result at h2
 split at h2
 ·rename_i vs e1
  obtain ⟨xs,k1,k2⟩:=HL R h1 e1
  obtain ⟨v,v1,v2⟩:=JK (fn:=fn) (tmps:=a.tmps) k1 k2
  exact ⟨v,v1,R.outV v2 h2⟩
 ·cases h2
end
def AS.start (xs:List AV):AS:=⟨fun i=>(xs[i]?).getD (.tup []),noS⟩
def AR (rs:List RV) (r:AV) (e:AX) (s:AS):Prop:=(match e with | .normal=>True | .ret=>True | _=>False)∧s.result rs=some r
theorem OO {P:Program} {f:FuncId} {fn:Func} {mu:List Nat} {c:Code} {x:IR} {rs:List RV} {xs:List AV} {r:AV} (hf:P.funcs[f]?=some fn) (hb:fn.body=some c) (hx:Az P fn.ntmps mu c=some x) (hr:Df P fn.ntmps fn.results.toList=some rs) (hn:xs.length≤fn.ntmps)
  (h:∀ C:Ctx,C.n=fn.ntmps→C.Top→IWP P C mu x (AR rs r) (AS.start xs)):AW P f xs r:=by
 intro σ w vs hglob hfit hvs
 have hl:=hvs.len
 let C:Ctx:=⟨fn.ntmps,w.heap.size,fun _=>False,σ,w,noS,noH,fun i b h=>by simp [noS] at h,hglob,[],none,false⟩
 refine callsIn_wide.1 (callsIn_of_wp_marks (n:=0) hf hb trivial ?_)
 have R:AT C σ noH (AS.start xs) { tmps:=vs.toArray ++ Array.replicate (fn.ntmps - vs.toArray.size) undef,defers:=[] } w:=by
  refine ⟨by simp [C];omega,fun i hi=>?_,Cv,hfit,fun id b h=>by simp [AS.start,noS] at h,fun id id' b b' g h=>by simp [AS.start,noS] at h,fun id b g h=>by simp [AS.start,noS] at h,fun _ _ h=>h,fun _ _ _=>rfl,⟨rfl,rfl,rfl⟩,⟨Nat.le_refl _,Nat.le_refl _⟩,fun _ _ _=>rfl,Upd.refl _ _⟩
  show AN σ noS noH _ ((xs[i]?).getD (.tup []))
  rw [Array.getD_eq_getD_getElem?]
  by_cases hlt:i < vs.length
  ·rw [Array.getElem?_append_left (by simpa using hlt)]
   obtain ⟨b,hb1,hb2⟩:=hvs.get' (List.getElem?_eq_getElem hlt)
   rw [hb1]
   simpa [hlt] using hb2
  ·rw [Array.getElem?_append_right (by simp;omega),List.getElem?_eq_none (by omega)]
   have hi':i < fn.ntmps:=hi
   rw [Array.getElem?_replicate,if_pos (by simp;omega)]
   exact .tup (fun _=>undef) rfl (by simp) (by simp)
 refine wpIn_mono (h C rfl ⟨rfl,rfl⟩ c hx _ w ⟨σ,noH,R⟩) fun e a' w' he=>?_
 have fin:∀ s,s.result rs=some r→Ax C s a' w'→LeavesInM Fence.wide 0 P fn a'.tmps (fun e w'=>∃ v σ',e=.returned v∧AN σ' noS noH v r∧Fit σ' w'∧Ext w.heap.size σ σ'∧Below w.heap.size w w') a'.defers .returning w':=fun s hs hH=>by
  obtain ⟨σ',ι',R1⟩:=hH
  refine R1.leaves (fun h=>by cases h) fun a2 w2 R' hd ht=>?_
  obtain ⟨v,v1,v2⟩:=LG R' (fn:=fn) hr hs
  exact ⟨v,v1,v,σ',rfl,v2,R'.fit,⟨R'.ext,fun p hp=>R'.old p hp (fun h=>h)⟩,⟨R'.os.1,R'.os.2.1,R'.os.2.2,R'.grown.2,fun k hk=>R'.same k hk (fun h=>h)⟩⟩
 cases e with
 | normal=>obtain ⟨s,h1,h2⟩:=he;exact fin s h1.2 h2
 | ret=>obtain ⟨s,h1,h2⟩:=he;exact fin s h1.2 h2
 | exit id=>obtain ⟨s,h1,h2⟩:=he;exact h1.1.elim
 | panic ch=>obtain ⟨s,v,h1,h2⟩:=he;exact h1.1.1.elim
 | _=>exact he.elim
theorem Pz {P:Program} {f:FuncId} {fn:Func} {mu:List Nat} {c:Code} {x:IR} {rs:List RV} {xs:List AV} {r:AV} (hf:P.funcs[f]?=some fn) (hb:fn.body=some c) (hx:Az P fn.ntmps mu c=some x) (hr:Df P fn.ntmps fn.results.toList=some rs) (hn:xs.length≤fn.ntmps)
  (h:∀ C:Ctx,C.n=fn.ntmps→IWP P C mu x (AR rs r) (AS.start xs)):AW P f xs r:=OO hf hb hx hr hn fun C h1 _=>h C h1
def Gu (C:Ctx) (rs:List RV) (r:AV) (S':AA) (e:AX) (s:AS):Prop:=(match e with | .normal=>True | .ret=>True | _=>False)∧∃ s2 s3 r0,Am C s s2∧(AB s2 rs).map AQ=some r0∧(∀ σ ι a w,AT C σ ι s2 a w→∃ σ' ι',AT C σ' ι' s3 a w∧∀ v,AN σ s2.S ι v r0→AN σ' s3.S ι' v r)∧s3.S=S'∧An S'
def AS.startS (xs:List AV) (S:AA):AS:=⟨fun i=>(xs[i]?).getD (.tup []),S⟩
theorem IC {P:Program} {f:FuncId} {fn:Func} {mu:List Nat} {c:Code} {x:IR} {rs:List RV} {xs:List AV} {S:AA} {r:AV} {S':AA} (hf:P.funcs[f]?=some fn) (hb:fn.body=some c) (hx:Az P fn.ntmps mu c=some x) (hr:Df P fn.ntmps fn.results.toList=some rs) (hn:xs.length≤fn.ntmps)
  (h:An S→∀ C:Ctx,C.n=fn.ntmps→C.Top→IWP P C mu x (Gu C rs r S') (AS.startS xs S)):Ay P f xs S r S':=by
 intro hclean σ w vs ι hglob hfit hown hvs
 have hl:=hvs.len
 let C:Ctx:=⟨fn.ntmps,w.heap.size,fun g=>¬ BZ S ι g,σ,w,S,ι,hclean,hglob,[],none,false⟩
 refine callsIn_wide.1 (callsIn_of_wp_marks (n:=0) hf hb trivial ?_)
 have R:AT C σ ι (AS.startS xs S) { tmps:=vs.toArray ++ Array.replicate (fn.ntmps - vs.toArray.size) undef,defers:=[] } w:=by
  refine ⟨by simp [C];omega,fun i hi=>?_,Cv,hfit,hown.1,hown.2,fun id b g h hg=>.inr (fun hno=>hno id b h hg),fun _ _ h=>h,fun _ _ _=>rfl,⟨rfl,rfl,rfl⟩,⟨Nat.le_refl _,Nat.le_refl _⟩,fun _ _ _=>rfl,Upd.refl _ _⟩
  show AN σ S ι _ ((xs[i]?).getD (.tup []))
  rw [Array.getD_eq_getD_getElem?]
  by_cases hlt:i < vs.length
  ·rw [Array.getElem?_append_left (by simpa using hlt)]
   obtain ⟨b,hb1,hb2⟩:=hvs.get' (List.getElem?_eq_getElem hlt)
   rw [hb1]
   simpa [hlt] using hb2
  ·rw [Array.getElem?_append_right (by simp;omega),List.getElem?_eq_none (by omega)]
   have hi':i < fn.ntmps:=hi
   rw [Array.getElem?_replicate,if_pos (by simp;omega)]
   exact .tup (fun _=>undef) rfl (by simp) (by simp)
 refine wpIn_mono (h hclean C rfl ⟨rfl,rfl⟩ c hx _ w ⟨σ,ι,R⟩) fun e a' w' he=>?_
 have fin:∀ s,(∃ s2 s3 r0,Am C s s2∧(AB s2 rs).map AQ=some r0∧(∀ σ ι a w,AT C σ ι s2 a w→∃ σ' ι',AT C σ' ι' s3 a w∧∀ v,AN σ s2.S ι v r0→AN σ' s3.S ι' v r)∧s3.S=S'∧An S')→Ax C s a' w'→LeavesInM Fence.wide 0 P fn a'.tmps (fun e w'=>∃ v σ' ι',e=.returned v∧An S'∧Upd S ι S' ι'∧Cz σ' S' ι' w'∧AN σ' S' ι' v r∧Fit σ' w'∧(∀ p x,σ p=some x→σ' p=some x) ∧
   (∀ p:Addr,p.block < w.heap.size→BZ S ι p.block→σ' p=σ p)∧(w'.os=w.os∧w'.tape=w.tape∧w'.output=w.output)∧w.heap.size≤w'.heap.size ∧
   (∀ g,g < w.heap.size→BZ S ι g→w'.heap[g]?=w.heap[g]?)∧(∀ id b g,S' id=some b→(ι' id).g=some g→w.heap.size≤g ∨ ¬ BZ S ι g)) a'.defers .returning w':=fun s ⟨s2,s3,r0,hg,hres,hlow,hS,hc⟩ hH=>by
  obtain ⟨σ1,ι1,R1⟩:=hg _ _ hH
  refine R1.leaves (fun h=>by cases h) fun a2 w2 R2 hd ht=>?_
  subst hS
  rw [Option.map_eq_some_iff] at hres
  obtain ⟨vs2,e1,rfl⟩:=hres
  obtain ⟨xs2,k1,k2⟩:=HL R2 hr e1
  obtain ⟨v,v1,v20⟩:=JK (fn:=fn) (tmps:=a2.tmps) k1 k2
  obtain ⟨σ',ι',R',hv'⟩:=hlow _ _ _ _ R2
  have v2:=hv' v v20
  exact ⟨v,v1,v,σ',ι',rfl,hc,R'.upd,⟨R'.blk,R'.inj⟩,v2,R'.fit,R'.ext,fun p h1 h2=>R'.old p h1 (fun h=>h h2),R'.os,R'.grown.2,fun g h1 h2=>R'.same g h1 (fun h=>h h2),fun id b g h1 h2=>R'.base id b g h1 h2⟩
 cases e with
 | normal=>obtain ⟨s,h1,h2⟩:=he;exact fin s h1.2 h2
 | ret=>obtain ⟨s,h1,h2⟩:=he;exact fin s h1.2 h2
 | exit id=>obtain ⟨s,h1,h2⟩:=he;exact h1.1.elim
 | panic ch=>obtain ⟨s,v,h1,h2⟩:=he;exact h1.1.1.elim
 | _=>exact he.elim
theorem Nz {P:Program} {f:FuncId} {fn:Func} {mu:List Nat} {c:Code} {x:IR} {rs:List RV} {xs:List AV} {S:AA} {r:AV} {S':AA} (hf:P.funcs[f]?=some fn) (hb:fn.body=some c) (hx:Az P fn.ntmps mu c=some x) (hr:Df P fn.ntmps fn.results.toList=some rs) (hn:xs.length≤fn.ntmps)
  (h:An S→∀ C:Ctx,C.n=fn.ntmps→IWP P C mu x (Gu C rs r S') (AS.startS xs S)):Ay P f xs S r S':=IC hf hb hx hr hn fun h0 C h1 _=>h h0 C h1
def TK (C:Ctx) (rs:List RV) (Post:AV→AA→Prop) (e:AX) (s:AS):Prop:=∃ r S',Post r S'∧Gu C rs r S' e s
theorem QU {P:Program} {fn:Func} {C:Ctx} {rs:List RV} {Post:AV→AA→Prop} {e:AX} {s:AS} {a':Act} {w':World} {S:AA} {ι:As} (hC:C.N=C.w0.heap.size) (hG:∀ g,C.G g ↔ ¬ BZ S ι g) (hS0:C.S0=S) (hι0:C.ι0=ι) (hds:C.ds=[]) (hr:Df P C.n fn.results.toList=some rs) (h:TK C rs Post e s) (hH:Ax C s a' w') :
  LeavesInM Fence.wide 0 P fn a'.tmps (OH C.σ0 S ι C.w0 Post) a'.defers .returning w':=by
 obtain ⟨r,S',hP,_,s2,s3,r0,hg,hres,hlow,hS,hc⟩:=h
 obtain ⟨σ1,ι1,R1⟩:=hg _ _ hH
 refine R1.leaves (fun h=>by cases h) fun a2 w2 R2 hd ht=>?_
 subst hS
 rw [Option.map_eq_some_iff] at hres
 obtain ⟨vs2,e1,rfl⟩:=hres
 obtain ⟨xs2,k1,k2⟩:=HL R2 hr e1
 obtain ⟨v,v1,v20⟩:=JK (fn:=fn) (tmps:=a2.tmps) k1 k2
 obtain ⟨σ',ι',R',hv'⟩:=hlow _ _ _ _ R2
 have v2:=hv' v v20
 rw [hds]
 have hupd:=R'.upd
 rw [hS0,hι0] at hupd
 exact ⟨v,v1,v,r,s3.S,σ',ι',rfl,hP,hc,hupd,⟨R'.blk,R'.inj⟩,v2,R'.fit,R'.ext,fun p h1 h2=>R'.old p (by rw [hC];exact h1) (fun h=>(hG _).1 h h2),R'.os,R'.grown.2,fun g h1 h2=>R'.same g (by rw [hC];exact h1) (fun h=>(hG _).1 h h2),fun id b g h1 h2=>(R'.base id b g h1 h2).imp (fun h=>by rw [← hC];exact h) fun h=>(hG _).1 h⟩
theorem OR {P:Program} {f:FuncId} {fn:Func} {mu:List Nat} {c:Code} {x:IR} {rs:List RV} {xs:List AV} {S:AA} {Post:AV→AA→Prop} (hf:P.funcs[f]?=some fn) (hb:fn.body=some c) (hx:Az P fn.ntmps mu c=some x) (hr:Df P fn.ntmps fn.results.toList=some rs) (hn:xs.length≤fn.ntmps)
  (h:An S→∀ C:Ctx,C.n=fn.ntmps→C.Top→IWP P C mu x (TK C rs Post) (AS.startS xs S)):G7 P f xs S Post:=by
 intro hclean σ w vs ι hglob hfit hown hvs
 have hl:=hvs.len
 let C:Ctx:=⟨fn.ntmps,w.heap.size,fun g=>¬ BZ S ι g,σ,w,S,ι,hclean,hglob,[],none,false⟩
 refine callsIn_wide.1 (callsIn_of_wp_marks (n:=0) hf hb trivial ?_)
 have R:AT C σ ι (AS.startS xs S) { tmps:=vs.toArray ++ Array.replicate (fn.ntmps - vs.toArray.size) undef,defers:=[] } w:=by
  refine ⟨by simp [C];omega,fun i hi=>?_,Cv,hfit,hown.1,hown.2,fun id b g h hg=>.inr (fun hno=>hno id b h hg),fun _ _ h=>h,fun _ _ _=>rfl,⟨rfl,rfl,rfl⟩,⟨Nat.le_refl _,Nat.le_refl _⟩,fun _ _ _=>rfl,Upd.refl _ _⟩
  show AN σ S ι _ ((xs[i]?).getD (.tup []))
  rw [Array.getD_eq_getD_getElem?]
  by_cases hlt:i < vs.length
  ·rw [Array.getElem?_append_left (by simpa using hlt)]
   obtain ⟨b,hb1,hb2⟩:=hvs.get' (List.getElem?_eq_getElem hlt)
   rw [hb1]
   simpa [hlt] using hb2
  ·rw [Array.getElem?_append_right (by simp;omega),List.getElem?_eq_none (by omega)]
   have hi':i < fn.ntmps:=hi
   rw [Array.getElem?_replicate,if_pos (by simp;omega)]
   exact .tup (fun _=>undef) rfl (by simp) (by simp)
 refine wpIn_mono (h hclean C rfl ⟨rfl,rfl⟩ c hx _ w ⟨σ,ι,R⟩) fun e a' w' he=>?_
 have fin:∀ e s,TK C rs Post e s→Ax C s a' w'→LeavesInM Fence.wide 0 P fn a'.tmps (OH σ S ι w Post) a'.defers .returning w':=fun e s h1 h2=>QU (C:=C) rfl (fun g=>Iff.rfl) rfl rfl rfl hr h1 h2
 cases e with
 | normal=>obtain ⟨s,h1,h2⟩:=he;exact fin _ s h1 h2
 | ret=>obtain ⟨s,h1,h2⟩:=he;exact fin _ s h1 h2
 | exit id=>obtain ⟨s,⟨r,S',hP,h1⟩,h2⟩:=he;exact h1.1.elim
 | panic ch=>obtain ⟨s,v,⟨⟨r,S',hP,h1⟩,_⟩,h2⟩:=he;exact h1.1.elim
 | _=>exact he.elim
structure OkF (P:Program) (f n:Nat) (mu:List Nat) (x:IR) (rs:List RV):Prop where
 ok:∃ fn c,P.funcs[f]?=some fn∧fn.body=some c∧fn.ntmps=n∧Az P n mu c=some x∧Df P n fn.results.toList=some rs
section
variable {P:Program} {f n:Nat} {mu:List Nat} {x:IR} {rs:List RV}
theorem OkF.of {fn:Func} (hf:P.funcs[f]?=some fn) (hb:fn.body.isSome=true) (hn:fn.ntmps=n) (hx:Az P n mu (fn.body.getD .skip)=some x) (hr:Df P n fn.results.toList=some rs):OkF P f n mu x rs:=by
 obtain ⟨c,hc⟩:=Option.isSome_iff_exists.1 hb
 rw [hc] at hx
 exact ⟨fn,c,hf,hc,hn,hx,hr⟩
theorem OkF.ac (o:OkF P f n mu x rs) {xs:List AV} {r:AV} (h:∀ C:Ctx,C.n=n→IWP P C mu x (AR rs r) (AS.start xs)) (hn:xs.length≤n:=by exact Nat.le_of_ble_eq_true rfl):AW P f xs r:=by
 obtain ⟨fn,c,hf,hb,rfl,hx,hr⟩:=o.ok
 exact Pz hf hb hx hr hn h
theorem OkF.acST (o:OkF P f n mu x rs) {xs:List AV} {S S':AA} {r:AV} (h:An S→∀ C:Ctx,C.n=n→C.Top→IWP P C mu x (Gu C rs r S') (AS.startS xs S)) (hn:xs.length≤n:=by exact Nat.le_of_ble_eq_true rfl):Ay P f xs S r S':=by
 obtain ⟨fn,c,hf,hb,rfl,hx,hr⟩:=o.ok
 exact IC hf hb hx hr hn h
theorem OkF.acR (o:OkF P f n mu x rs) {xs:List AV} {S:AA} {Post:AV→AA→Prop} (h:An S→∀ C:Ctx,C.n=n→C.Top→IWP P C mu x (TK C rs Post) (AS.startS xs S)) (hn:xs.length≤n:=by exact Nat.le_of_ble_eq_true rfl):G7 P f xs S Post:=by
 obtain ⟨fn,c,hf,hb,rfl,hx,hr⟩:=o.ok
 exact OR hf hb hx hr hn h
theorem OkF.acS (o:OkF P f n mu x rs) {xs:List AV} {S S':AA} {r:AV} (h:An S→∀ C:Ctx,C.n=n→IWP P C mu x (Gu C rs r S') (AS.startS xs S)) (hn:xs.length≤n:=by exact Nat.le_of_ble_eq_true rfl):Ay P f xs S r S':=by
 obtain ⟨fn,c,hf,hb,rfl,hx,hr⟩:=o.ok
 exact Nz hf hb hx hr hn h
end

end Go.Proofs.YtignopbnnaimaaaGreatDoor
