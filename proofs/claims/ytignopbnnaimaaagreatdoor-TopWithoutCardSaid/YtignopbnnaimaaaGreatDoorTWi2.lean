/-
  Part 2 of the texts. Conditions: none.
-/
import Derived.Test.YtignopbnnaimaaaGreatDoorTWi1
import Derived.Great.BuildSlice
namespace Go.Proofs.YtignopbnnaimaaaGreatDoor
open Go Go.RowKit
set_option linter.unusedVariables false
set_option maxHeartbeats 400000
theorem Cx {k:IntKind} {n:Int} (h:inR k n):k.wrap n=n:=by
 cases k <;> simp [inR,IntKind.min,IntKind.max,IntKind.wrap,IntKind.signed,IntKind.bits] at h ⊢ <;> omega
instance (k:IntKind) (n:Int):Decidable (inR k n):=by unfold inR;exact inferInstance
def BF (P:Program) (C:Ctx) (o:Oper) (a:Act) (w:World) (K:AV→AS→Prop):Prop :=
 ∃ v av s' σ' ι' w',((execOp a.eval o).run P w=.ok (.value v) w' ∨ (v=undef∧(execOp a.eval o).run P w=.ok .skip w'))∧K av s'∧AT C σ' ι' s' a w'∧AN σ' s'.S ι' v av
section
variable {P:Program} {C:Ctx} {o:Oper} {a:Act} {w:World} {K:AV→AS→Prop} {σ:Sto} {ι:As} {s:AS} {d:Nat} {S:AA}
theorem AZ (R:AT C σ ι s a w) (v:Value) (av:AV) (hr:(execOp a.eval o).run P w=.ok (.value v) w) (hK:K av s) (hv:AN σ s.S ι v av):BF P C o a w K :=
 ⟨v,av,s,σ,ι,w,.inl hr,hK,R,hv⟩
theorem BF.wp (h:BF P C o a w K) {Q:Exit→Act→World→Prop} {next:Act→World→Prop} (hn:∀ av s' σ' ι' a' w',K av s'→AT C σ' ι' (s'.put o.dst av) a' w'→next a' w'):o.wp P a w next Q:=by
 obtain ⟨v,av,s',σ',ι',w',hr,hK,R,hv⟩:=h
 unfold Oper.wp
 rcases hr with hr | ⟨rfl,hr⟩
 ·rw [hr]
  exact hn _ _ _ _ _ _ hK (R.put hv)
 ·rw [hr]
  exact hn _ _ _ _ _ _ hK (R.put hv)
end
def Jk:Value→Option AC
 | .int k n=>if inR k n then some (.st (.int k n)) else none
 | .string b=>if b.size≤maxLen then some (.st (.str b)) else none
 | .bool b=>some (.st (.bool b))
 | .slice none 0 0=>some (.full [])
 | .func (.func f) x y=>if x.size=0∧y.size=0 then some (.fn f []) else none
 | v=>if v.oneCell' then some (.st (.lit v)) else none
def C9:List Value→Option (List AC)
 | []=>some []
 | v :: vs=>match Jk v,C9 vs with
  | some c,some cs=>some (c :: cs)
  | _,_=>none
def Jg (v:Value):Option AV:=match v with
 | .agg cs=>(C9 cs.toList).map .agg
 | .tuple cs=>if cs.size=0 then some (.tup []) else none
 | v=>(Jk v).map .one
def AM (n:Nat):Operand→Option Opd
 | .tmp t=>if t < n then some (.t t) else none
 | .const v=>(Jg v).map .c
 | .func f=>some (.c (.one (.fn f [])))
 | .global g=>some (.c (.one (match Et g with | some cs=>.eptr cs | none=>.st (.lit (.pointer (some ⟨g,0,none⟩))))))
def Bj (n:Nat):List Operand→Option (List Opd)
 | []=>some []
 | x :: xs=>match AM n x,Bj n xs with
  | some c,some cs=>some (c :: cs)
  | _,_=>none
section
variable {σ:Sto} {S:AA} {ι:As}
theorem Mn:A0 σ (.slice none 0 0) (.list []):=.list (b:=0) (o:=0) (w:=0) (fun _ _=>undef) rfl (Nat.le_refl _) (by simp [maxLen]) (fun _=>rfl) (by simp) (by simp) (fun _ h _=>absurd h (by omega)) (by simp) (by simp)
theorem El {v:Value} {c:AC} (h:Jk v=some c):Aq σ S ι v c:=by
 unfold Jk at h
 split at h
 ·split at h
  ·cases h;exact .st (.int ‹_›)
  ·cases h
 ·split at h
  ·cases h;exact .st (.str ‹_›)
  ·cases h
 ·cases h;exact .st .bool
 ·cases h;exact .full Mn
 ·split at h
  ·rename_i x y hxy
   cases h
   have e1:x=#[]:=Array.eq_empty_of_size_eq_zero hxy.1
   have e2:y=#[]:=Array.eq_empty_of_size_eq_zero hxy.2
   subst e1 e2
   exact .fn (fun _=>undef) rfl (by simp) (by simp)
  ·cases h
 ·split at h
  ·cases h;exact .st (.lit ‹_›)
  ·cases h
theorem DY:∀ {vs:List Value} {cs:List AC},C9 vs=some cs→Af (Aq σ S ι) vs cs
 | [],cs,h=>by simp only [C9,Option.some.injEq] at h;subst h;exact .nil
 | v :: vs,cs,h=>by
  simp only [C9] at h
  split at h
  ·rename_i k1 k2
   cases h
   exact .cons (El k1) (DY k2)
  ·cases h
theorem EO {v:Value} {c:AV} (h:Jg v=some c):AN σ S ι v c:=by
 unfold Jg at h
 split at h
 ·rw [Option.map_eq_some_iff] at h
  obtain ⟨x,h1,rfl⟩:=h
  exact .agg (DY h1)
 ·split at h
  ·rename_i cs hcs
   cases h
   have e1:cs=#[]:=Array.eq_empty_of_size_eq_zero hcs
   subst e1
   exact .tup (fun _=>undef) rfl (by simp) (by simp)
  ·cases h
 ·rw [Option.map_eq_some_iff] at h
  obtain ⟨x,h1,rfl⟩:=h
  exact .one (El h1)
end
section
variable {P:Program} {C:Ctx} {o:Oper} {a:Act} {w:World} {K:AV→AS→Prop} {σ:Sto} {ι:As} {s:AS} {d:Nat} {S:AA}
theorem AT.ev (R:AT C σ ι s a w) {x:Operand} {x':Opd} (h:AM C.n x=some x'):AN σ s.S ι (a.eval x) (s.ev x'):=by
 unfold AM at h
 split at h
 ·split at h
  ·cases h;exact R.env _ ‹_›
  ·cases h
 ·rw [Option.map_eq_some_iff] at h
  obtain ⟨c,h1,rfl⟩:=h
  exact EO h1
 ·cases h
  exact .one (.fn (fun _=>undef) rfl (by simp) (by simp))
 ·rename_i g
  cases h
  refine .one ?_
  show Aq σ s.S ι (.pointer (some ⟨g,0,none⟩)) (match Et g with | some cs=>.eptr cs | none=>.st (.lit (.pointer (some ⟨g,0,none⟩))))
  split
  ·rename_i cs hcs
   exact (C.glob.mono R.ext).of hcs
  ·exact .st (.lit rfl)
theorem AT.evs (R:AT C σ ι s a w):∀ {xs:List Operand} {xs':List Opd},Bj C.n xs=some xs'→Af (AN σ s.S ι) (xs.map a.eval) (s.evs xs')
 | [],xs',h=>by simp only [Bj,Option.some.injEq] at h;subst h;exact .nil
 | x :: xs,xs',h=>by
  simp only [Bj] at h
  split at h
  ·rename_i k1 k2
   cases h
   exact .cons (R.ev k1) (R.evs k2)
  ·cases h
theorem Aa {v:Value} {c:AC} (h:AN σ S ι v (.one c)):Aq σ S ι v c:=by cases h;assumption
theorem Ed {v:Value} {cs:List SV} (h:Aq σ S ι v (.eptr cs)):∃ b oo,v=.pointer (some ⟨b,oo,none⟩)∧∃ c:Nat→Value,(∀ j x,cs[j]?=some x→σ ⟨b,oo + j,none⟩=some (c j))∧(∀ j x,cs[j]?=some x→A0 σ (c j) x):=by
 cases h with | eptr c h1 h2=>exact ⟨_,_,rfl,c,h1,h2⟩
theorem GX {v:Value} {cs:List SV} (h:Aq σ S ι v (.eptr cs)):∃ b oo,v=.pointer (some ⟨b,oo,none⟩)∧∃ c:Nat→Value,(∀ j x,cs[j]?=some x→σ ⟨b,oo + j,none⟩=some (c j))∧(∀ j x,cs[j]?=some x→A0 σ (c j) x)∧(CG=true→C8 cs=true→σ ⟨b,0,some 1⟩=some .nilFunc):=by
 cases h with | eptr c h1 h2 hh=>exact ⟨_,_,rfl,c,h1,h2,hh⟩
theorem Eg {v:Value} {id m k off:Nat} (h:Aq σ S ι v (.ptr id m k off)):∃ b,S id=some b∧m≤b.len∧(m=b.len→∃ g,(ι id).g=some g∧v=.pointer (some ⟨g,k * b.wid + off,none⟩)):=by
 cases h with | ptr h1 h2 h3 h4=>exact ⟨_,h1,h2,h4⟩
theorem DD {v:Value} {id m:Nat} (h:Aq σ S ι v (.row id m)):∃ b,S id=some b∧m≤b.len∧(m=b.len→v=.slice (ι id).p m (ι id).cap):=by
 cases h with | row h1 h2 h3 h4=>exact ⟨_,h1,h2,h4⟩
theorem EZ {v:Value} {id k m:Nat} (h:Aq σ S ι v (.part id k m)):∃ b,S id=some b∧m≤b.len∧(m=b.len→k≤m∧v=.slice (ι id).p k (ι id).cap):=by
 cases h with | part h1 h2 h3 h4=>exact ⟨_,h1,h2,h4⟩
theorem HX {v:Value} {id o m:Nat} (h:Aq σ S ι v (.rest id o m)):∃ b,S id=some b∧m≤b.len∧(m=b.len→o≤m∧v=.slice (if (ι id).cap=o then (ι id).p else (ι id).p.map (·.add (o * b.wid))) (m - o) ((ι id).cap - o)):=by
 cases h with | rest h1 h2 h3 h4=>exact ⟨_,h1,h2,h4⟩
theorem B0 {v:Value} {c:SV} (h:Aq σ S ι v (.st c)):A0 σ v c:=by cases h;assumption
def Dt:TypeDesc→Bool
 | .struct _ | .array _ _=>true
 | _=>false
theorem BW (b o j:Nat):(⟨b,o,none⟩:Addr).add j=⟨b,o + j,none⟩:=by unfold Addr.add;split <;> simp_all
theorem JH {b o:Nat} {cs:List Value} (h:∀ j v,cs[j]?=some v→w.cell? ⟨b,o + j,none⟩=some v):(loadCells ⟨b,o,none⟩ cs.length).run P w=.ok cs.toArray w :=
 run_loadCells_list w ⟨b,o,none⟩ cs fun j v hj=>by rw [BW];exact h j v hj
theorem E4 {t:TypeId} {d:TypeDesc} {i:TypeInfo} (hd:P.underlying t=some d) (hi:P.info? t=some i) {b o:Nat} {cs:List Value} (h:∀ j v,cs[j]?=some v→w.cell? ⟨b,o + j,none⟩=some v)
  (g:Bool) (hg:g=Dt d) (hn:cs.length=if g then i.size else 1) :
  ∃ v,(Instr.loadAt t (.pointer (some ⟨b,o,none⟩))).run P w=.ok v w∧(if g then v=.agg cs.toArray else cs=[v]):=by
 cases g with
 | true =>
  refine ⟨.agg cs.toArray,?_,rfl⟩
  have hl:=JH (P:=P) h
  simp only [if_true] at hn
  rw [hn] at hl
  have ha:(isAgg t).run P w=.ok true w:=by
   simp only [isAgg,Sem.run_bind,run_underlying hd,Result.andThen_ok]
   cases d <;> first | rfl | simp [Dt] at hg
  simp [Instr.loadAt,Instr.sureAddr,loadVar,ha,sizeOf,typeInfo,hi,hl]
 | false =>
  simp only [Bool.false_eq_true,if_false] at hn ⊢
  obtain ⟨v,rfl⟩:∃ v,cs=[v]:=by
   match cs,hn with
   | [v],_=>exact ⟨v,rfl⟩
  refine ⟨v,?_,rfl⟩
  have ha:(isAgg t).run P w=.ok false w:=by
   simp only [isAgg,Sem.run_bind,run_underlying hd,Result.andThen_ok]
   cases d <;> first | rfl | simp [Dt] at hg
  have h0:=h 0 v rfl
  simp only [Nat.add_zero] at h0
  simp [Instr.loadAt,Instr.sureAddr,loadVar,ha,load,Sem.run,h0]
theorem EM {g:Bool} {v:Value} {cs:List Value} {xs:List AC} (h:Af (Aq σ s.S ι) cs xs) (hv:if g then v=.agg cs.toArray else cs=[v]):AN σ s.S ι v (LU g xs):=by
 cases g with
 | true =>
  simp only [if_true] at hv
  subst hv
  exact .agg (by simpa using h)
 | false =>
  simp only [Bool.false_eq_true,if_false] at hv
  subst hv
  cases h with
  | cons h1 h2=>cases h2;exact .one h1
theorem JT (hf:Fit σ w) {b o:Nat} {cs:List SV} {c:Nat→Value} (h1:∀ j x,cs[j]?=some x→σ ⟨b,o + j,none⟩=some (c j)) (h2:∀ j x,cs[j]?=some x→A0 σ (c j) x) (n:Nat) (hn:n≤cs.length) :
  ∃ vs:List Value,vs.length=n∧(∀ j v,vs[j]?=some v→w.cell? ⟨b,o + j,none⟩=some v)∧Af (Aq σ S ι) vs ((cs.take n).map .st):=by
 refine ⟨(List.range n).map c,by simp,fun j v hj=>?_,?_⟩
 ·rw [List.getElem?_map] at hj
  by_cases hlt:j < n
  ·rw [List.getElem?_range hlt] at hj
   simp only [Option.map_some,Option.some.injEq] at hj
   subst hj
   exact hf _ _ (h1 j _ (List.getElem?_eq_getElem (by omega)))
  ·rw [List.getElem?_eq_none (by simp;omega)] at hj
   simp at hj
 ·refine Af.of_get (by simp;omega) fun j v x hv hx=>?_
  have hlt:j < n:=by
   rcases Nat.lt_or_ge j n with h | h
   ·exact h
   ·rw [List.getElem?_eq_none (by simp;omega)] at hv;cases hv
  rw [List.getElem?_map,List.getElem?_range hlt] at hv
  simp only [Option.map_some,Option.some.injEq] at hv
  subst hv
  rw [List.getElem?_map,List.getElem?_take,if_pos hlt,List.getElem?_eq_getElem (by omega)] at hx
  simp only [Option.map_some,Option.some.injEq] at hx
  subst hx
  exact .st (h2 j _ (List.getElem?_eq_getElem (by omega)))
theorem AT.ptr_cells (R:AT C σ ι s a w) {v:Value} {id m k off:Nat} (hv:Aq σ s.S ι v (.ptr id m k off)) {cs:List AC} (h:Cf s.S id m k=some cs) :
  ∃ b o,v=.pointer (some ⟨b,o + off,none⟩)∧∃ vs:List Value,(∀ j v,vs[j]?=some v→w.cell? ⟨b,o + j,none⟩=some v)∧Af (Aq σ s.S ι) vs cs:=by
 cases hv with
 | ptr h1 h2 h3 h4 =>
 unfold Cf at h
 rw [h1] at h
 have hb:=R.blk _ _ h1
 split at h
 ·rename_i heq
  cases heq
  split at h
  ·rename_i hk
   cases h
   obtain ⟨g,g1,rfl⟩:=h4 hk.2
   cases hb with
   | box k1 k2 k3 k4 k5 =>
    rename_i vs
    rw [k1] at g1
    cases g1
    refine ⟨g,0,by simp [AU.wid],vs.toList,fun j v hj=>?_,k4⟩
    rw [Nat.zero_add,cell_of_row w g j _ _ _ k3]
    simpa using hj
  ·cases h
 ·rename_i heq
  cases heq
  split at h
  ·rename_i hk
   rw [Option.map_eq_some_iff] at h
   obtain ⟨x,hx,rfl⟩:=h
   obtain ⟨g,g1,rfl⟩:=h4 hk
   cases hb with
   | crow k1 k2 k3 kc km k4 k5 =>
    rename_i vs
    rw [k1] at g1
    cases g1
    obtain ⟨v,v1,v2⟩:=k4.get hx
    refine ⟨g,k,by simp [AU.wid],[v],fun j u hj=>?_,.cons v2 .nil⟩
    cases j with
    | zero =>
     simp only [List.getElem?_cons_zero,Option.some.injEq] at hj
     subst hj
     rw [Nat.add_zero,cell_of_row w g k _ _ _ k3]
     rw [List.getElem?_take] at v1
     split at v1
     ·simpa using v1
     ·cases v1
    | succ j=>simp at hj
  ·cases h
 ·rename_i heq
  cases heq
  split at h
  ·rename_i hk
   rw [Option.map_eq_some_iff] at h
   obtain ⟨x,hx,rfl⟩:=h
   obtain ⟨g,g1,rfl⟩:=h4 hk
   cases hb with
   | mnil k1=>simp at hx
   | mrow k1 k2 k3 k4 k5 k6 k7 k8 k9 =>
    rename_i wd xs g' vs
    rw [k1] at g1
    cases g1
    have hxm:=k7 x (List.mem_of_getElem? hx)
    have key:∀ j c,x[j]?=some c→vs[k * wd + j]?=some ((vs[k * wd + j]?).getD undef)∧A0 σ ((vs[k * wd + j]?).getD undef) c:=fun j c hc=>by
     obtain ⟨v,v1,v2⟩:=k8 k x j c hx hc
     rw [v1]
     exact ⟨rfl,v2⟩
    refine ⟨g,k * wd,rfl,(List.range x.length).map (fun j=>(vs[k * wd + j]?).getD undef),fun j v hj=>?_,?_⟩
    ·rw [List.getElem?_map] at hj
     by_cases hlt:j < x.length
     ·rw [List.getElem?_range hlt] at hj
      simp only [Option.map_some,Option.some.injEq] at hj
      subst hj
      rw [cell_of_row w g _ _ _ _ k3]
      exact (key j _ (List.getElem?_eq_getElem hlt)).1
     ·rw [List.getElem?_eq_none (by simp;omega)] at hj
      simp at hj
    ·refine Af.of_get (by simp) fun j v c hv hc=>?_
     rw [List.getElem?_map,Option.map_eq_some_iff] at hc
     obtain ⟨c',hc',rfl⟩:=hc
     have hlt:j < x.length:=(List.getElem?_eq_some_iff.1 hc').1
     rw [List.getElem?_map,List.getElem?_range hlt] at hv
     simp only [Option.map_some,Option.some.injEq] at hv
     subst hv
     exact .st (key j _ hc').2
  ·cases h
 ·cases h
theorem PS {x:Operand} {x':Opd} (ho:o.op=.move x ∨ o.op=.assign x) (hx:AM C.n x=some x') (R:AT C σ ι s a w) (h:Kd.go P d s K (.mov x')):BF P C o a w K :=
 AZ R _ _ (by rcases ho with ho | ho <;> simp [execOp,ho]) h (R.ev hx)
theorem DL {v:Value} {b:Bool} (h:AN σ S ι v (.one (.st (.bool b)))):v=.bool b:=by
 cases h with | one h=>cases h with | st h=>cases h;rfl
theorem OP {v:Value} (h:AN σ S ι v (.one .ubool)):∃ b,v=.bool b:=by
 cases h with
 | one h =>
  cases h
  exact ⟨_,rfl⟩
theorem A7 {v:Value} {k:IntKind} {n:Int} (h:AN σ S ι v (.one (.st (.int k n)))):v=.int k n∧inR k n:=by
 cases h with | one h=>cases h with | st h=>cases h with | int h=>exact ⟨rfl,h⟩
theorem Ds {v:Value} {b:ByteArray} (h:AN σ S ι v (.one (.st (.str b)))):v=.string b∧b.size≤maxLen:=by
 cases h with | one h=>cases h with | st h=>cases h with | str h=>exact ⟨rfl,h⟩
theorem R8 {c x y:Operand} {c' x' y':Opd} (ho:o.op=.pick c x y) (hc:AM C.n c=some c') (hx:AM C.n x=some x') (hy:AM C.n y=some y') (R:AT C σ ι s a w) (h:Kd.go P d s K (.pick c' x' y')):BF P C o a w K:=by
 have rc:=R.ev hc
 simp only [Kd.go] at h
 split at h
 ·rename_i t heq
  rw [heq] at rc
  have:=DL rc
  cases t with
  | true=>exact AZ R _ _ (by simp [execOp,ho,this,asBool]) (h.1 rfl) (R.ev hx)
  | false=>exact AZ R _ _ (by simp [execOp,ho,this,asBool]) (h.2 rfl) (R.ev hy)
 ·exact h.elim
theorem Gv {σ:Sto} {S:AA} {ι:As} {v:Value} {cs:List SV} (h:Aq σ S ι v (.st (.ref cs))):Aq σ S ι v (.eptr cs):=by
 cases h with
 | st h=>cases h with
  | ref c h1 h2 h3=>exact .eptr c h1 h2 h3
theorem SD {t:TypeId} {x:Operand} {x':Opd} {dd:TypeDesc} {i:TypeInfo} (ho:o.op=.load t x) (hx:AM C.n x=some x') (hd:P.underlying t=some dd) (hi:P.info? t=some i)
  (g:Bool) (hg:g=Dt dd) (n:Nat) (hn:n=if g then i.size else 1) (R:AT C σ ι s a w) (h:Kd.go P d s K (.load g n x')):BF P C o a w K:=by
 have rx:=R.ev hx
 simp only [Kd.go] at h
 split at h
 ·rename_i cs heq
  obtain ⟨hle,hK⟩:=h
  rw [heq] at rx
  obtain ⟨b,oo,hex,c,h1,h2⟩:=Ed (Aa rx)
  obtain ⟨vs,v1,v2,v3⟩:=JT (w:=w) (S:=s.S) (ι:=ι) R.fit h1 h2 n hle
  obtain ⟨v,r1,r2⟩:=E4 (P:=P) hd hi v2 g hg (by rw [v1,hn])
  exact AZ R v _ (by simp [execOp,ho,hex,r1]) hK (EM v3 r2)
 ·rename_i cs heq
  obtain ⟨hle,hK⟩:=h
  rw [heq] at rx
  obtain ⟨b,oo,hex,c,h1,h2⟩:=Ed (Gv (Aa rx))
  obtain ⟨vs,v1,v2,v3⟩:=JT (w:=w) (S:=s.S) (ι:=ι) R.fit h1 h2 n hle
  obtain ⟨v,r1,r2⟩:=E4 (P:=P) hd hi v2 g hg (by rw [v1,hn])
  exact AZ R v _ (by simp [execOp,ho,hex,r1]) hK (EM v3 r2)
 ·rename_i id m k off heq
  split at h
  ·rename_i cs hb
   obtain ⟨hle,hK⟩:=h
   rw [heq] at rx
   obtain ⟨b,oo,hex,vs,v2,v3⟩:=R.ptr_cells (Aa rx) hb
   have hlen:=v3.len
   have v4:Af (Aq σ s.S ι) ((vs.drop off).take n) ((cs.drop off).take n):=(v3.drop off).take n
   obtain ⟨v,r1,r2⟩:=E4 (P:=P) (w:=w) (b:=b) (o:=oo + off) (cs:=(vs.drop off).take n) hd hi (fun j v hj=>by
    rw [List.getElem?_take] at hj
    split at hj
    ·rw [List.getElem?_drop] at hj
     rw [Nat.add_assoc]
     exact v2 _ _ hj
    ·cases hj) g hg (by simp;omega)
   exact AZ R v _ (by simp [execOp,ho,hex,r1]) hK (EM v4 r2)
  ·exact h.elim
 ·exact h.elim
theorem KL {t f:TypeId} {x:Operand} {x':Opd} {fs:Array Field} {fd:Field} {i:TypeInfo} (ho:o.op=.fieldAddr t x f) (hx:AM C.n x=some x') (hd:P.underlying t=some (.struct fs)) (hf:fs[f]?=some fd) (hi:P.info? fd.type=some i) (hz:i.size ≠ 0)
  (R:AT C σ ι s a w) (h:Kd.go P d s K (.fieldAddr fd.offset x')):BF P C o a w K:=by
 have rx:=R.ev hx
 have run:∀ b oo,a.eval x=.pointer (some ⟨b,oo,none⟩)→(execOp a.eval o).run P w=.ok (.value (.pointer (some ⟨b,oo + fd.offset,none⟩))) w:=fun b oo he=>by
  simp [execOp,ho,he,Instr.fieldAt,run_underlying hd,hf,Instr.sureAddr,fieldPlace,sizeOf,typeInfo,hi,hz,BW]
 simp only [Kd.go] at h
 split at h
 ·rename_i cs heq
  rw [heq] at rx
  obtain ⟨b,oo,hex,c,h1,h2,hh⟩:=GX (Aa rx)
  refine AZ R _ _ (run _ _ hex) h (.one (.eptr (fun j=>c (fd.offset + j)) (fun j y hy=>?_) (fun j y hy=>?_) (fun q1 q2=>hh q1 (Gg q2))))
  ·rw [Nat.add_assoc];exact h1 _ _ (by rw [← List.getElem?_drop];exact hy)
  ·exact h2 _ _ (by rw [← List.getElem?_drop];exact hy)
 ·rename_i cs heq
  rw [heq] at rx
  obtain ⟨b,oo,hex,c,h1,h2,hh⟩:=GX (Gv (Aa rx))
  refine AZ R _ _ (run _ _ hex) h (.one (.eptr (fun j=>c (fd.offset + j)) (fun j y hy=>?_) (fun j y hy=>?_) (fun q1 q2=>hh q1 (Gg q2))))
  ·rw [Nat.add_assoc];exact h1 _ _ (by rw [← List.getElem?_drop];exact hy)
  ·exact h2 _ _ (by rw [← List.getElem?_drop];exact hy)
 ·rename_i id m k off heq
  rw [heq] at rx
  obtain ⟨b,h1,h2,h4⟩:=Eg (Aa rx)
  ·rw [h1] at h
   obtain ⟨hm,h⟩:=h
   obtain ⟨g,g1,g2⟩:=h4 hm
   exact AZ R _ _ (run _ _ g2) h (.one (.ptr h1 h2 rfl fun _=>⟨g,g1,by rw [Nat.add_assoc]⟩))
 ·exact h.elim
end

section
variable {P:Program} {C:Ctx} {o:Oper} {a:Act} {w:World} {K:AV→AS→Prop} {σ:Sto} {ι:As} {s:AS} {d:Nat} {S:AA}
theorem LM {x:Operand} {x':Opd} (ho:o.op=.nilCheck x) (hx:AM C.n x=some x') (R:AT C σ ι s a w) (h:Kd.go P d s K (.nilCheck x')):BF P C o a w K:=by
 have rx:=R.ev hx
 simp only [Kd.go] at h
 split at h
 ·rename_i cs heq
  have rx':=rx
  rw [heq] at rx
  obtain ⟨b,oo,hex,c,h1,h2⟩:=Ed (Aa rx)
  exact AZ R (.pointer (some ⟨b,oo,none⟩)) _ (by simp [execOp,ho,hex]) h (by rw [hex] at rx;exact rx)
 ·rename_i cs heq
  rw [heq] at rx
  obtain ⟨b,oo,hex,c,h1,h2⟩:=Ed (Gv (Aa rx))
  exact AZ R (.pointer (some ⟨b,oo,none⟩)) _ (by simp [execOp,ho,hex]) h (by rw [hex] at rx;exact rx)
 ·rename_i id m k off heq
  rw [heq] at rx
  obtain ⟨b,h1,h2,h4⟩:=Eg (Aa rx)
  rw [h1] at h
  obtain ⟨hm,h⟩:=h
  obtain ⟨g,g1,g2⟩:=h4 hm
  exact AZ R (.pointer (some ⟨g,k * b.wid + off,none⟩)) _ (by simp [execOp,ho,g2]) h (by rw [g2] at rx;exact rx)
 ·exact h.elim
theorem RO {t:TypeId} {d:TypeDesc} {i:TypeInfo} (hd:P.underlying t=some d) (hi:P.info? t=some i) {cs:Array Value} {off n:Nat} (g:Bool) (hg:g=Dt d) (hn:n=if g then i.size else 1) (hle:off + n≤cs.size) :
  ∃ v,(part t cs off).run P w=.ok v w∧(if g then v=.agg ((cs.toList.drop off).take n).toArray else (cs.toList.drop off).take n=[v]):=by
 cases g with
 | true =>
  simp only [if_true] at hn
  have ha:(isAgg t).run P w=.ok true w:=by
   simp only [isAgg,Sem.run_bind,run_underlying hd,Result.andThen_ok]
   cases d <;> first | rfl | simp [Dt] at hg
  refine ⟨.agg (cs.extract off (off + i.size)),by simp [part,ha,sizeOf,typeInfo,hi],?_⟩
  subst hn
  apply congrArg Value.agg
  apply Array.ext'
  simp
 | false =>
  simp only [Bool.false_eq_true,if_false] at hn ⊢
  subst hn
  have ha:(isAgg t).run P w=.ok false w:=by
   simp only [isAgg,Sem.run_bind,run_underlying hd,Result.andThen_ok]
   cases d <;> first | rfl | simp [Dt] at hg
  have hlt:off < cs.size:=by omega
  refine ⟨cs[off],by simp [part,ha,Array.getElem?_eq_getElem hlt],?_⟩
  rw [List.take_one]
  simp [List.head?_drop,Array.getElem?_eq_getElem hlt]
theorem Rj {v:Value} {cs:List AC} (h:AN σ S ι v (.agg cs)):∃ vs,v=.agg vs∧Af (Aq σ S ι) vs.toList cs:=by
 cases h with | agg h=>exact ⟨_,rfl,h⟩
theorem QJ {t f:TypeId} {x:Operand} {x':Opd} {fs:Array Field} {fd:Field} {dd:TypeDesc} {i:TypeInfo} (ho:o.op=.field t x f) (hx:AM C.n x=some x') (hd:P.underlying t=some (.struct fs)) (hf:fs[f]?=some fd) (hdd:P.underlying fd.type=some dd) (hi:P.info? fd.type=some i)
  (g:Bool) (hg:g=Dt dd) (n:Nat) (hn:n=if g then i.size else 1) (R:AT C σ ι s a w) (h:Kd.go P d s K (.field g fd.offset n x')):BF P C o a w K:=by
 have rx:=R.ev hx
 simp only [Kd.go] at h
 split at h
 ·rename_i cs heq
  obtain ⟨hle,hK⟩:=h
  rw [heq] at rx
  obtain ⟨vs,hex,hvs⟩:=Rj rx
  have hl:=hvs.len
  obtain ⟨v,r1,r2⟩:=RO (P:=P) (w:=w) hdd hi (cs:=vs) (off:=fd.offset) g hg hn (by simp at hl;omega)
  refine AZ R v _ ?_ hK (EM ((hvs.drop _).take n) r2)
  simp [execOp,ho,hex,Instr.field,run_underlying hd,hf,asAgg,r1]
 ·exact h.elim
theorem DM {v:Value} {xs:List (List SV)} (h:Aq σ S ι v (.full xs)):A0 σ v (.list xs):=by
 cases h with | full h=>exact h
theorem Sq {v:Value} {xs:List (List SV)} (h:A0 σ v (.list xs)) {k:Nat} {x:List SV} (hx:xs[k]?=some x) {wd:Nat} (hw:x.length=wd) :
  ∃ b oo len cap,v=.slice (some ⟨b,oo,none⟩) len cap∧len=xs.length∧∃ c:Nat→Value,(∀ j y,x[j]?=some y→σ ⟨b,oo + k * wd + j,none⟩=some (c j))∧(∀ j y,x[j]?=some y→A0 σ (c j) y)∧(CG=true→2≤wd→σ ⟨b,0,some 1⟩=some .nilFunc):=by
 cases h with
 | list c h1 h2 h3 h4 h5 h6 hh h7 h8 =>
  have hlt:=(List.getElem?_eq_some_iff.1 hx).1
  have hp:=h5 (by omega)
  have hw':=h6 x (List.mem_of_getElem? hx)
  subst hp
  rw [hw] at hw'
  subst hw'
  exact ⟨_,_,_,_,rfl,h1,c k,fun j y hy=>h7 k x j y hx hy,fun j y hy=>h8 k x j y hx hy,fun q1 q2=>hh q1 q2 (List.ne_nil_of_mem (List.mem_of_getElem? hx))⟩
theorem ED {t e:TypeId} {i:TypeInfo} (ht:P.underlying t=some (.slice e)) (hi:P.info? e=some i) {b oo len cap:Nat} {kk:IntKind} {n:Int} (h0:0≤n) (hn:n.toNat < len) :
  (Instr.indexAt t (.slice (some ⟨b,oo,none⟩) len cap) (.int kk n)).run P w=.ok (.pointer (some ⟨b,oo + n.toNat * i.size,none⟩)) w:=by
 have h1:n < (len:Int):=by omega
 simp [Instr.indexAt,asIntOf,run_underlying ht,h0,h1,sizeOf,typeInfo,hi,BW]
theorem HN {t e:TypeId} {len:Nat} {i:TypeInfo} (ht:P.underlying t=some (.array len e)) (hi:P.info? e=some i) {b oo:Nat} {kk:IntKind} {n:Int} (h0:0≤n) (h1:n < len) :
  (Instr.indexAt t (.pointer (some ⟨b,oo,none⟩)) (.int kk n)).run P w=.ok (.pointer (some ⟨b,oo + n.toNat * i.size,none⟩)) w:=by
 simp [Instr.indexAt,asIntOf,run_underlying ht,Instr.sureAddr,h0,h1,sizeOf,typeInfo,hi,BW]
theorem Lq {t e:TypeId} {len:Nat} {x y:Operand} {x' y':Opd} {i:TypeInfo} (ho:o.op=.indexAddr t x y) (hx:AM C.n x=some x') (hy:AM C.n y=some y') (ht:P.underlying t=some (.array len e)) (hi:P.info? e=some i)
  (R:AT C σ ι s a w) (h:Kd.go P d s K (.indexArr len i.size x' y')):BF P C o a w K:=by
 have rx:=R.ev hx
 have ry:=R.ev hy
 simp only [Kd.go] at h
 split at h
 ·rename_i cs kk n e1 e2
  rw [e1] at rx
  rw [e2] at ry
  obtain ⟨hey,-⟩:=A7 ry
  obtain ⟨b,oo,hex,c,h1,h2,hh⟩:=GX (Aa rx)
  refine AZ R (.pointer (some ⟨b,oo + n.toNat * i.size,none⟩)) _ (by simp [execOp,ho,hex,hey,HN ht hi h.1.1 h.1.2]) h.2 (.one (.eptr (fun j=>c (n.toNat * i.size + j)) (fun j y hy=>?_) (fun j y hy=>?_) (fun q1 q2=>hh q1 (Gg q2))))
  ·rw [Nat.add_assoc];exact h1 _ _ (by rw [← List.getElem?_drop];exact hy)
  ·exact h2 _ _ (by rw [← List.getElem?_drop];exact hy)
 ·rename_i id m k off kk n e1 e2
  rw [e1] at rx
  rw [e2] at ry
  obtain ⟨hey,-⟩:=A7 ry
  obtain ⟨b,h1,h2,h4⟩:=Eg (Aa rx)
  rw [h1] at h
  obtain ⟨hn,hm,h⟩:=h
  obtain ⟨g,g1,g2⟩:=h4 hm
  exact AZ R (.pointer (some ⟨g,k * b.wid + off + n.toNat * i.size,none⟩)) _ (by simp [execOp,ho,g2,hey,HN ht hi hn.1 hn.2]) h (.one (.ptr h1 h2 rfl fun _=>⟨g,g1,by rw [Nat.add_assoc]⟩))
 ·exact h.elim
theorem KI {t e:TypeId} {x y:Operand} {x' y':Opd} {i:TypeInfo} (ho:o.op=.indexAddr t x y) (hx:AM C.n x=some x') (hy:AM C.n y=some y') (ht:P.underlying t=some (.slice e)) (hi:P.info? e=some i)
  (R:AT C σ ι s a w) (h:Kd.go P d s K (.indexAddr i.size x' y')):BF P C o a w K:=by
 have rx:=R.ev hx
 have ry:=R.ev hy
 simp only [Kd.go] at h
 split at h
 ·rename_i c kk n e1 e2
  rw [e1] at rx
  rw [e2] at ry
  replace rx:=Aa rx
  obtain ⟨hey,-⟩:=A7 ry
  have fin:∀ (xs:List (List SV)) (x1:List SV),A0 σ (a.eval x) (.list xs)→0≤n→xs[n.toNat]?=some x1→x1.length=i.size→K (.one (.eptr x1)) s→BF P C o a w K:=fun xs x1 hr h0 hx1 hw hK=>by
   obtain ⟨b,oo,len,cap,hex,hl,c,c1,c2,c3⟩:=Sq hr hx1 hw
   have hlt:=(List.getElem?_eq_some_iff.1 hx1).1
   refine AZ R _ _ (by simp [execOp,ho,hex,hey,ED ht hi h0 (show n.toNat < len by omega)]) hK (.one (.eptr c c1 c2 fun q1 q2=>c3 q1 (by have:=Qb q2;omega)))
  split at h
  ·rename_i xs
   unfold CP at h
   obtain ⟨h0,h⟩:=h
   split at h
   ·rename_i x1 hx1
    exact fin xs x1 (B0 rx) h0 hx1 h.1 h.2
   ·exact h.elim
  ·rename_i xs
   unfold CP at h
   obtain ⟨h0,h⟩:=h
   split at h
   ·rename_i x1 hx1
    refine fin xs x1 ?_ h0 hx1 h.1 h.2
    exact DM rx
   ·exact h.elim
  ·rename_i id m
   split at h
   ·rename_i e' w' xs hS
    obtain ⟨hm,rfl,h⟩:=h
    unfold CP at h
    obtain ⟨h0,h⟩:=h
    split at h
    ·rename_i x1 hx1
     refine fin xs x1 (R.row_srep rx hS hm) h0 hx1 ?_ h
     have hb:=R.blk _ _ hS
     cases hb with
     | afull _ _ h7=>exact h7 x1 (List.mem_of_getElem? hx1)
     | arow _ _ _ _ _ _ h7=>exact h7 x1 (List.mem_of_getElem? hx1)
    ·exact h.elim
   ·rename_i e' w' xs hS
    obtain ⟨hm,rfl,h0,hlt,hK⟩:=h
    obtain ⟨b,hb1,hb2,hb3⟩:=DD rx
    rw [hS] at hb1
    cases hb1
    have hex:=hb3 hm
    have hb:=R.blk _ _ hS
    cases hb with
    | mnil=>simp at hlt
    | @mrow _ _ _ g vs k1 k2 =>
     rw [k2] at hex
     refine AZ R (.pointer (some ⟨g,n.toNat * i.size,none⟩)) _ (by simp [execOp,ho,hex,hey,ED ht hi h0 (show n.toNat < m by omega)]) hK (.one (.ptr hS (by simpa [AU.len] using Nat.le_of_eq hm) rfl fun _=>⟨g,k1,by simp [AU.wid]⟩))
   ·rename_i e' cs hS
    obtain ⟨hm,hw,h0,hlt,hK⟩:=h
    obtain ⟨b,hb1,hb2,hb3⟩:=DD rx
    rw [hS] at hb1
    cases hb1
    have hex:=hb3 hm
    have hb:=R.blk _ _ hS
    cases hb with
    | @crow _ _ g vs k1 k2 =>
     rw [k2] at hex
     refine AZ R (.pointer (some ⟨g,n.toNat * i.size,none⟩)) _ (by simp [execOp,ho,hex,hey,ED ht hi h0 (show n.toNat < m by omega)]) hK (.one (.ptr hS (by simpa [AU.len] using Nat.le_of_eq hm) rfl fun _=>⟨g,k1,by simp [AU.wid,← hw]⟩))
   ·exact h.elim
  ·exact h.elim
 ·exact h.elim
theorem OC {t e:TypeId} {x y:Operand} {x' y':Opd} {i:TypeInfo} (ho:o.op=.indexAddr t x y) (hx:AM C.n x=some x') (hy:AM C.n y=some y') (ht:P.underlying t=some (.slice e)) (hi:P.info? e=some i)
  (R:AT C σ ι s a w) (h:Kd.go P d s K (.indexP i.size x' y')):BF P C o a w K:=by
 have rx:=R.ev hx
 have ry:=R.ev hy
 simp only [Kd.go] at h
 split at h
 ·rename_i id k m kk n e1 e2
  rw [e1] at rx
  rw [e2] at ry
  replace rx:=Aa rx
  obtain ⟨hey,-⟩:=A7 ry
  split at h
  ·rename_i e' w' xs hS
   obtain ⟨⟨hm,rfl⟩,⟨h0,hlt⟩,hK⟩:=h
   obtain ⟨b,hb1,hb2,hb3⟩:=EZ rx
   rw [hS] at hb1
   cases hb1
   obtain ⟨hkm,hex⟩:=hb3 hm
   have hb:=R.blk _ _ hS
   cases hb with
   | mnil=>simp at hm;omega
   | @mrow _ _ _ g vs k1 k2 =>
    rw [k2] at hex
    refine AZ R (.pointer (some ⟨g,n.toNat * i.size,none⟩)) _ (by simp [execOp,ho,hex,hey,ED ht hi h0 (show n.toNat < k by omega)]) hK (.one (.ptr hS (by simpa [AU.len] using Nat.le_of_eq hm) rfl fun _=>⟨g,k1,by simp [AU.wid]⟩))
  ·exact h.elim
 ·exact h.elim
theorem LC {t:TypeId} {x y:Operand} {x' y':Opd} (ho:o.op=.index t x y) (hx:AM C.n x=some x') (hy:AM C.n y=some y') (ht:P.underlying t=some .string)
  (R:AT C σ ι s a w) (h:Kd.go P d s K (.indexStr x' y')):BF P C o a w K:=by
 have rx:=R.ev hx
 have ry:=R.ev hy
 simp only [Kd.go] at h
 split at h
 ·rename_i b kk n e1 e2
  rw [e1] at rx
  rw [e2] at ry
  obtain ⟨hex,hb⟩:=Ds rx
  obtain ⟨hey,-⟩:=A7 ry
  obtain ⟨⟨h0,hlt⟩,hK⟩:=h
  have hget:b[n.toNat]?=some (b[n.toNat]'hlt):=by simp [getElem?_pos,hlt]
  have e3:((b[n.toNat]'hlt).toNat:Int)=Dx b n.toNat:=by
   unfold Dx
   have h2:n.toNat < b.data.toList.length:=by simpa using hlt
   rw [List.getD_eq_getElem?_getD,List.getElem?_eq_getElem h2]
   rfl
  refine AZ R (.int .u8 (Dx b n.toNat)) _ ?_ hK (.one (.st (.int ?_)))
  ·simp only [execOp,ho,hex,hey,Instr.index,asIntOf]
   simp [run_underlying ht,h0,hget,e3]
  ·unfold Dx
   have:=(b.data.toList.getD n.toNat 0).toNat_lt
   constructor
   ·simp [IntKind.min,IntKind.signed]
   ·simp only [IntKind.max,IntKind.signed,IntKind.bits,Bool.false_eq_true,if_false];omega
 ·exact h.elim
theorem DR {x y:ByteArray}:(x.toList == y.toList)=decide (x=y):=by
 rw [Bool.eq_iff_iff]
 simp only [beq_iff_eq,decide_eq_true_eq]
 constructor
 ·intro h
  rw [ByteArray.toList_eq,ByteArray.toList_eq] at h
  cases x;cases y
  simp only [ByteArray.mk.injEq]
  exact Array.toList_inj.1 h
 ·rintro rfl;rfl
theorem SX {op:BinOp} {t:TypeId} {k:IntKind} {x y:Int} {K':SV→Prop} (h:Pm op k x y K') :
  ∃ v c,(binOp op t (.int k x) (.int k y)).run P w=.ok v w∧A0 σ v c∧K' c:=by
 cases op <;> simp only [Pm] at h
 ·exact ⟨_,_,by simp [binOp,Op.intArith,Cx h.1],.int h.1,h.2⟩
 ·exact ⟨_,_,by simp [binOp,Op.intArith,Cx h.1],.int h.1,h.2⟩
 ·exact ⟨_,_,by simp [binOp,Op.intArith,Cx h.1],.int h.1,h.2⟩
 ·exact ⟨_,_,by simp [binOp,Op.intDiv,h.1,Cx h.2.1],.int h.2.1,h.2.2⟩
 ·exact ⟨_,_,by simp [binOp,Op.intDiv,h.1],.int h.2.1,h.2.2⟩
 ·refine ⟨_,_,?_,.int h.2.1,h.2.2⟩
  obtain ⟨⟨h1,h2⟩,_⟩:=h
  simp only [binOp,Op.shift]
  rw [if_neg (by omega),Nat.min_eq_left h2]
  rfl
 ·exact ⟨.bool (decide (x=y)),_,by simp [binOp,Op.intCmp,BEq.beq],.bool,h⟩
 ·exact ⟨.bool (decide (¬ x=y)),_,by simp [binOp,Op.intCmp,bne,BEq.beq],.bool,h⟩
 ·exact ⟨.bool (decide (x < y)),_,by simp [binOp,Op.intCmp],.bool,h⟩
 ·exact ⟨.bool (decide (x≤y)),_,by simp [binOp,Op.intCmp],.bool,h⟩
 ·exact ⟨.bool (decide (y < x)),_,by simp [binOp,Op.intCmp],.bool,h⟩
 ·exact ⟨.bool (decide (y≤x)),_,by simp [binOp,Op.intCmp],.bool,h⟩
theorem RY {op:BinOp} {t:TypeId} {x y:ByteArray} {K':SV→Prop} (h:Pu op x y K') :
  ∃ v c,(binOp op t (.string x) (.string y)).run P w=.ok v w∧A0 σ v c∧K' c:=by
 cases op <;> simp only [Pu] at h
 ·refine ⟨_,_,?_,.str (s:=x ++ y) (by simpa using h.1),h.2⟩
  have h1:=h.1
  have:¬ (((x.size + y.size:Nat):Int) > IntKind.i64.max):=by
   simp [maxLen] at h1
   simp [IntKind.max,IntKind.signed,IntKind.bits]
   omega
  simp only [binOp,Op.stringOp,this,if_false]
  rfl
 all_goals first | exact h.elim | skip
 ·exact ⟨.bool (decide (x=y)),_,by simp only [binOp,Op.stringOp,DR];rfl,.bool,h⟩
 ·exact ⟨.bool (decide (¬ x=y)),_,by simp only [binOp,Op.stringOp,DR,decide_not];rfl,.bool,h⟩
 ·exact ⟨.bool (sLt x y),_,by simp only [binOp,Op.stringOp];rfl,.bool,h⟩
 ·exact ⟨.bool (sLt x y || decide (x=y)),_,by simp only [binOp,Op.stringOp,DR];rfl,.bool,h⟩
 ·exact ⟨.bool (!(sLt x y || decide (x=y))),_,by simp only [binOp,Op.stringOp,DR];rfl,.bool,h⟩
 ·exact ⟨.bool (!sLt x y),_,by simp only [binOp,Op.stringOp];rfl,.bool,h⟩
theorem FF {op:BinOp} {t:TypeId} {x y:Operand} {k k':IntKind} {m n:Int}:(eqGuard op t x y (.int k m) (.int k' n)).run P w=.ok () w:=by
 unfold eqGuard;split <;> rfl
theorem IL {op:BinOp} {t:TypeId} {x y:Operand} {m n:ByteArray}:(eqGuard op t x y (.string m) (.string n)).run P w=.ok () w:=by
 unfold eqGuard;split <;> rfl
theorem EY {op:BinOp} {t:TypeId} {x y:Operand} {m n:Bool}:(eqGuard op t x y (.bool m) (.bool n)).run P w=.ok () w:=by
 unfold eqGuard;split <;> rfl
theorem PD {op:BinOp} {t t':TypeId} {x y:Operand} {x' y':Opd} (ho:o.op=.binOp op t x y t') (hx:AM C.n x=some x') (hy:AM C.n y=some y')
  (R:AT C σ ι s a w) (h:Kd.go P d s K (.bin op x' y')):BF P C o a w K:=by
 have rx:=R.ev hx
 have ry:=R.ev hy
 simp only [Kd.go] at h
 split at h
 ·rename_i k m k' n e1 e2
  rw [e1] at rx
  rw [e2] at ry
  obtain ⟨hex,-⟩:=A7 rx
  obtain ⟨hey,-⟩:=A7 ry
  obtain ⟨rfl,h⟩:=h
  obtain ⟨v,c,r1,r2,r3⟩:=SX (P:=P) (w:=w) (σ:=σ) (t:=t) h
  exact AZ R v _ (by simp [execOp,ho,hex,hey,FF,r1]) r3 (.one (.st r2))
 ·rename_i m n e1 e2
  rw [e1] at rx
  rw [e2] at ry
  obtain ⟨hex,-⟩:=Ds rx
  obtain ⟨hey,-⟩:=Ds ry
  obtain ⟨v,c,r1,r2,r3⟩:=RY (P:=P) (w:=w) (σ:=σ) (t:=t) h
  exact AZ R v _ (by simp [execOp,ho,hex,hey,IL,r1]) r3 (.one (.st r2))
 ·exact h.elim
theorem PJ {neg:Bool} {t t':TypeId} {x y:Operand} {x' y':Opd} (ho:o.op=.binOp (if neg then .neq else .eql) t x y t') (hx:AM C.n x=some x') (hy:AM C.n y=some y') (ht:P.underlying t=some .bool)
  (R:AT C σ ι s a w) (h:Kd.go P d s K (.eqB neg x' y')):BF P C o a w K:=by
 have rx:=R.ev hx
 have ry:=R.ev hy
 simp only [Kd.go] at h
 split at h
 ·rename_i m n e1 e2
  rw [e1] at rx
  rw [e2] at ry
  have hex:=DL rx
  have hey:=DL ry
  refine AZ R _ _ ?_ h (.one (.st .bool))
  have he:(Op.equal t (.bool m) (.bool n)).run P w=.ok (m == n) w:=by
   show (Op.equalIn (_ + 1) t (.bool m) (.bool n)).run P w=_
   rw [Op.equalIn]
   simp only [Sem.run_bind,run_underlying ht,Result.andThen_ok,Sem.run_pure]
  cases neg with
  | true =>
   simp only [if_true] at ho
   simp only [execOp,ho,hex,hey,binOp,Sem.run_bind,EY,he,Result.andThen_ok,Sem.run_pure]
   rfl
  | false =>
   simp only [Bool.false_eq_true,if_false] at ho
   simp only [execOp,ho,hex,hey,binOp,Sem.run_bind,EY,he,Result.andThen_ok,Sem.run_pure]
   rfl
 ·exact h.elim
theorem EB {op:BinOp} {t:TypeId} {x y:Operand} {p q:Option Addr} {m n m' n':Nat}:(eqGuard op t x y (.slice p m n) (.slice q m' n')).run P w=.ok () w:=by
 unfold eqGuard;split <;> rfl
theorem N2 {σ:Sto} {v:Value} {xs:List (List SV)} (h:A0 σ v (.list xs)):∃ p len cap,v=.slice p len cap∧(0 < xs.length→p.isSome=true):=by
 cases h with
 | @list p len cap b o w _ c h1 h2 h3 h4 h5 h6 hh h7 h8=>exact ⟨p,len,cap,rfl,fun h0=>by rw [h5 (by omega)];rfl⟩
theorem O_ {neg:Bool} {t t' e:TypeId} {x:Operand} {x':Opd} (ho:o.op=.binOp (if neg then .neq else .eql) t x (.const (.slice none 0 0)) t') (hx:AM C.n x=some x') (ht:P.underlying t=some (.slice e))
  (R:AT C σ ι s a w) (h:Kd.go P d s K (.eqN neg x')):BF P C o a w K:=by
 have rx:=R.ev hx
 simp only [Kd.go] at h
 split at h
 ·rename_i xs e1
  rw [e1] at rx
  obtain ⟨p,len,cap,hex,hp⟩:=N2 (B0 (Aa rx))
  have hey:a.eval (.const (.slice none 0 0))=.slice none 0 0:=rfl
  have he:(Op.equal t (.slice p len cap) (.slice none 0 0)).run P w=.ok p.isNone w:=by
   show (Op.equalIn (_ + 1) t (.slice p len cap) (.slice none 0 0)).run P w=_
   rw [Op.equalIn]
   cases p <;> simp only [Sem.run_bind,run_underlying ht,Result.andThen_ok,Sem.run_pure,Option.isNone]
  have hv:AN σ s.S ι (.bool (if neg then !p.isNone else p.isNone)) (.one (if xs.length=0 then .ubool else .st (.bool neg))):=by
   by_cases h0:xs.length=0
   ·rw [if_pos h0]
    exact .one .ubool
   ·rw [if_neg h0]
    have:=hp (by omega)
    have e2:p.isNone=false:=by cases p <;> simp_all
    rw [e2]
    cases neg <;> exact .one (.st .bool)
  refine AZ R _ _ ?_ h hv
  cases neg with
  | true =>
   simp only [if_true] at ho
   simp only [execOp,ho,hex,hey,binOp,Sem.run_bind,EB,he,Result.andThen_ok,Sem.run_pure]
   try rfl
  | false =>
   simp only [Bool.false_eq_true,if_false] at ho
   simp only [execOp,ho,hex,hey,binOp,Sem.run_bind,EB,he,Result.andThen_ok,Sem.run_pure]
   try rfl
 ·exact h.elim
theorem SE {σ:Sto} {v:Value} (h:A0 σ v .err):∃ t x,v=.iface t x:=by
 cases h with
 | @err t x=>exact ⟨t,x,rfl⟩
theorem JP {σ:Sto} {v u:Value} (h:A0 σ v (.lit u)):v=u:=by
 cases h with
 | lit=>rfl
theorem NG {t:TypeId} {ms:Array (String × TypeId)} (ht:P.underlying t=some (.interface ms)):P.underlying t=some (.interface (P.methodsAt t)):=by
 simp [Program.methodsAt,ht]
theorem Ic {n:Int}:inR .u64 n ↔ 0≤n∧n≤18446744073709551615:=by
 simp [inR,IntKind.min,IntKind.max,IntKind.signed,IntKind.bits]
theorem FA {op:BinOp} {t:TypeId} {x y:Operand} {p q:Option Addr}:(eqGuard op t x y (.pointer p) (.pointer q)).run P w=.ok () w:=by
 unfold eqGuard;split <;> rfl
theorem Se {op:BinOp} {t:TypeId} {k k':IntKind} {x y:Int} {K':SV→Prop} (hx:inR k x) (hy:inR k' y) (h:Sm op k x k' y K') :
  ∃ v c,(binOp op t (.int k x) (.int k' y)).run P w=.ok v w∧A0 σ v c∧K' c:=by
 cases op <;> simp only [Sm] at h
 all_goals first | exact h.elim | skip
 ·obtain ⟨rfl,⟨rfl,hx0,hy0⟩,hK⟩:=h
  rw [Ic] at hx hy
  obtain ⟨a,rfl⟩:=Int.eq_ofNat_of_zero_le hx0
  obtain ⟨b,rfl⟩:=Int.eq_ofNat_of_zero_le hy0
  have hr:inR .u64 (((a &&& b:Nat)):Int):=by
   rw [Ic]
   have:a &&& b≤a:=Nat.and_le_left
   omega
  refine ⟨_,_,?_,.int hr,hK⟩
  have ea:(BitVec.ofInt IntKind.u64.bits ((a:Nat):Int) &&& BitVec.ofInt IntKind.u64.bits ((b:Nat):Int)).toNat=a &&& b:=by
   rw [BitVec.toNat_and,BitVec.ofInt_natCast,BitVec.ofInt_natCast,BitVec.toNat_ofNat,BitVec.toNat_ofNat]
   have e64:2 ^ IntKind.u64.bits=18446744073709551616:=by decide
   rw [e64,Nat.mod_eq_of_lt (by omega),Nat.mod_eq_of_lt (by omega)]
  have hb:(binOp .and t (.int .u64 ((a:Nat):Int)) (.int .u64 ((b:Nat):Int))).run P w=.ok (.int .u64 (IntKind.u64.wrap ((BitVec.ofInt IntKind.u64.bits ((a:Nat):Int) &&& BitVec.ofInt IntKind.u64.bits ((b:Nat):Int)).toNat:Int))) w:=by
   simp only [binOp,ne_eq,not_true_eq_false,if_false,Op.intBits]
   rfl
  rw [hb,ea,Cx hr]
 ·obtain ⟨rfl,⟨rfl,hx0,hy0⟩,hK⟩:=h
  rw [Ic] at hx hy
  obtain ⟨a,rfl⟩:=Int.eq_ofNat_of_zero_le hx0
  obtain ⟨b,rfl⟩:=Int.eq_ofNat_of_zero_le hy0
  have hr:inR .u64 (((a ||| b:Nat)):Int):=by
   rw [Ic]
   have:a ||| b < 2 ^ 64:=Nat.or_lt_two_pow (by omega) (by omega)
   omega
  refine ⟨_,_,?_,.int hr,hK⟩
  have ea:(BitVec.ofInt IntKind.u64.bits ((a:Nat):Int) ||| BitVec.ofInt IntKind.u64.bits ((b:Nat):Int)).toNat=a ||| b:=by
   rw [BitVec.toNat_or,BitVec.ofInt_natCast,BitVec.ofInt_natCast,BitVec.toNat_ofNat,BitVec.toNat_ofNat]
   have e64:2 ^ IntKind.u64.bits=18446744073709551616:=by decide
   rw [e64,Nat.mod_eq_of_lt (by omega),Nat.mod_eq_of_lt (by omega)]
  have hb:(binOp .or t (.int .u64 ((a:Nat):Int)) (.int .u64 ((b:Nat):Int))).run P w=.ok (.int .u64 (IntKind.u64.wrap ((BitVec.ofInt IntKind.u64.bits ((a:Nat):Int) ||| BitVec.ofInt IntKind.u64.bits ((b:Nat):Int)).toNat:Int))) w:=by
   simp only [binOp,ne_eq,not_true_eq_false,if_false,Op.intBits]
   rfl
  rw [hb,ea,Cx hr]
 ·refine ⟨_,_,?_,.int h.2.1,h.2.2⟩
  obtain ⟨⟨h1,h2⟩,h3,_⟩:=h
  simp only [binOp,Op.shift]
  rw [if_neg (by omega),Nat.min_eq_left h2]
  simp only [Cx h3]
  rfl
 ·refine ⟨_,_,?_,.int h.2.1,h.2.2⟩
  obtain ⟨⟨h1,h2⟩,_⟩:=h
  simp only [binOp,Op.shift]
  rw [if_neg (by omega),Nat.min_eq_left h2]
  rfl
theorem HD {op:BinOp} {t t':TypeId} {x y:Operand} {x' y':Opd} (ho:o.op=.binOp op t x y t') (hx:AM C.n x=some x') (hy:AM C.n y=some y')
  (R:AT C σ ι s a w) (h:Kd.go P d s K (.bits op x' y')):BF P C o a w K:=by
 have rx:=R.ev hx
 have ry:=R.ev hy
 simp only [Kd.go] at h
 split at h
 ·rename_i k m k' n e1 e2
  rw [e1] at rx
  rw [e2] at ry
  obtain ⟨hex,hrx⟩:=A7 rx
  obtain ⟨hey,hry⟩:=A7 ry
  obtain ⟨v,c,r1,r2,r3⟩:=Se (P:=P) (w:=w) (σ:=σ) (t:=t) hrx hry h
  exact AZ R v _ (by simp [execOp,ho,hex,hey,FF,r1]) r3 (.one (.st r2))
 ·exact h.elim
theorem O4 {neg:Bool} {t t' e:TypeId} {x:Operand} {x':Opd} (ho:o.op=.binOp (if neg then .neq else .eql) t x (.const (.pointer none)) t') (hx:AM C.n x=some x') (ht:P.underlying t=some (.pointer e))
  (R:AT C σ ι s a w) (h:Kd.go P d s K (.eqP neg x')):BF P C o a w K:=by
 have rx:=R.ev hx
 have hey:a.eval (.const (.pointer none))=.pointer none:=rfl
 have he:∀ p:Option Addr,(Op.equal t (.pointer p) (.pointer none)).run P w=.ok p.isNone w:=fun p=>by
  show (Op.equalIn (_ + 1) t (.pointer p) (.pointer none)).run P w=_
  rw [Op.equalIn]
  cases p <;> simp only [Sem.run_bind,run_underlying ht,Result.andThen_ok,Sem.run_pure,Option.isNone]
 have key:∀ (p:Option Addr) (K1:(AV→AS→Prop)),a.eval x=.pointer p→K (.one (.st (.bool (if neg then !p.isNone else p.isNone)))) s→BF P C o a w K:=fun p _ hex hK=>by
  refine AZ R (.bool (if neg then !p.isNone else p.isNone)) _ ?_ hK (.one (.st .bool))
  cases neg with
  | true =>
   simp only [if_true] at ho
   simp only [execOp,ho,hex,hey,binOp,Sem.run_bind,FA,he,Result.andThen_ok,Sem.run_pure]
   try rfl
  | false =>
   simp only [Bool.false_eq_true,if_false] at ho
   simp only [execOp,ho,hex,hey,binOp,Sem.run_bind,FA,he,Result.andThen_ok,Sem.run_pure]
   try rfl
 simp only [Kd.go] at h
 split at h
 ·rename_i e1
  rw [e1] at rx
  have hv:=JP (B0 (Aa rx))
  refine key none K hv ?_
  cases neg <;> exact h
 ·rename_i cs e1
  rw [e1] at rx
  obtain ⟨b,oo,hex,_⟩:=Ed (Gv (Aa rx))
  refine key (some ⟨b,oo,none⟩) K hex ?_
  cases neg <;> exact h
 ·exact h.elim
theorem PA {neg:Bool} {t t':TypeId} {ms:Array (String × TypeId)} {x:Operand} {x':Opd} (ho:o.op=.binOp (if neg then .neq else .eql) t x (.const .nilIface) t') (hx:AM C.n x=some x') (ht:P.underlying t=some (.interface ms))
  (R:AT C σ ι s a w) (h:Kd.go P d s K (.eqE neg x')):BF P C o a w K:=by
 have rx:=R.ev hx
 have hey:a.eval (.const .nilIface)=.nilIface:=rfl
 have ht':=NG ht
 simp only [Kd.go] at h
 split at h
 ·rename_i e1
  rw [e1] at rx
  obtain ⟨u,y,hex⟩:=SE (B0 (Aa rx))
  refine AZ R (.bool neg) _ ?_ h (.one (.st .bool))
  cases neg with
  | true =>
   simp only [if_true] at ho
   simp only [execOp,ho,hex,hey,Sem.run_bind,eqGuard_at_iface,run_neq_held_nil w t u y ht',Result.andThen_ok,Sem.run_pure]
  | false =>
   simp only [Bool.false_eq_true,if_false] at ho
   simp only [execOp,ho,hex,hey,Sem.run_bind,eqGuard_at_iface,run_eql_held_nil w t u y ht',Result.andThen_ok,Sem.run_pure]
 ·rename_i e1
  rw [e1] at rx
  have hex:=JP (B0 (Aa rx))
  refine AZ R (.bool !neg) _ ?_ h (.one (.st .bool))
  cases neg with
  | true =>
   simp only [if_true] at ho
   simp only [execOp,ho,hex,hey,Sem.run_bind,eqGuard_nil_constR,run_neq_nil_nil w t ht',Result.andThen_ok,Sem.run_pure,Bool.not_true]
  | false =>
   simp only [Bool.false_eq_true,if_false] at ho
   simp only [execOp,ho,hex,hey,Sem.run_bind,eqGuard_nil_constR,run_eql_nil_nil w t ht',Result.andThen_ok,Sem.run_pure,Bool.not_false]
 ·exact h.elim
theorem H4:∀ {ys:List (List SV)} {ns:List Int},IX ys=some ns→ns.length=ys.length∧∀ (i:Nat),i < ns.length→ys[i]?=some [.int .u8 (ns.getD i 0)]
 | [],ns,h=>by
  cases h
  exact ⟨rfl,fun i hi=>by simp at hi⟩
 | y :: r,ns,h=>by
  unfold IX at h
  split at h
  ·rename_i e
   cases e
  ·rename_i n r' e
   cases e
   rw [Option.map_eq_some_iff] at h
   obtain ⟨ms,h1,rfl⟩:=h
   obtain ⟨a1,a2⟩:=H4 h1
   refine ⟨by simp [a1],fun i hi=>?_⟩
   cases i with
   | zero=>rfl
   | succ i =>
    have:=a2 i (by simpa using hi)
    simpa using this
  ·cases h
theorem QG {src dst e:TypeId} {x:Operand} {x':Opd} (ho:o.op=.convert src dst x) (hx:AM C.n x=some x') (hs:P.underlying src=some (.slice e)) (he:P.underlying e=some (.int .u8)) (hd:P.underlying dst=some .string)
  (R:AT C σ ι s a w) (h:Kd.go P d s K (.strOf false x')):BF P C o a w K:=by
 have rx:=R.ev hx
 simp only [Kd.go] at h
 split at h
 ·rename_i ys e1
  rw [e1] at rx
  split at h
  ·rename_i ns e2
   obtain ⟨⟨h0,h1⟩,hK⟩:=h
   obtain ⟨b1,b2⟩:=H4 e2
   have rs:=DM (Aa rx)
   generalize hv:a.eval x=v at rs
   cases rs with
   | @list p len cap b o' w' _ c q1 q2 q3 q4 q5 q6 qh q7 q8 =>
    have hp:=q5 (by omega)
    subst hp
    have hw1:w'=1:=by
     have:=q6 _ (List.mem_of_getElem? (b2 0 h0))
     simpa using this.symm
    subst hw1
    refine AZ R (.string (strOfNums ns)) _ ?_ hK (.one (.st (.str (by rw [strOfNums_size];exact h1))))
    have hc:=run_convert_bytes_arg (P:=P) w src e hs he b o' len cap ns (by omega) (fun i hi=>by
     have hy:=b2 i (by omega)
     have k1:=q7 i _ 0 _ hy rfl
     have k2:=q8 i _ 0 _ hy rfl
     have k3:=R.fit _ _ k1
     rw [(A7 (S:=s.S) (ι:=ι) (.one (.st k2))).1] at k3
     rw [B6 rfl] at k3
     simpa using k3) dst hd
    simp only [execOp,ho,hv,Sem.run_bind,hc,Result.andThen_ok,Sem.run_pure]
  ·exact h.elim
 ·rename_i hq _
  cases hq
 ·exact h.elim
theorem QR (n:Int):(Utf8.encode n).size≤4:=by
 unfold Utf8.encode
 dsimp only
 repeat' split
 all_goals simp [ByteArray.size]
theorem Rv {src dst:TypeId} {k:IntKind} {x:Operand} {x':Opd} (ho:o.op=.convert src dst x) (hx:AM C.n x=some x') (hs:P.underlying src=some (.int k)) (hd:P.underlying dst=some .string)
  (R:AT C σ ι s a w) (h:Kd.go P d s K (.strOf true x')):BF P C o a w K:=by
 have rx:=R.ev hx
 simp only [Kd.go] at h
 split at h
 ·rename_i hq _
  cases hq
 ·rename_i k n e0 e1
  rw [e1] at rx
  obtain ⟨hex,-⟩:=A7 rx
  refine AZ R (.string (Utf8.encode n)) _ ?_ h (.one (.st (.str (Nat.le_trans (QR n) (by decide)))))
  simp [execOp,ho,hex,convert,run_underlying hs,run_underlying hd,Conv.intToString]
 ·exact h.elim
theorem UM {op:UnOp} {t:TypeId} {x:Operand} {x':Opd} (ho:o.op=.unOp op t x) (hx:AM C.n x=some x') (R:AT C σ ι s a w) (h:Kd.go P d s K (.un op x')):BF P C o a w K:=by
 have rx:=R.ev hx
 simp only [Kd.go] at h
 split at h
 ·rename_i b e1
  rw [e1] at rx
  have hex:=DL rx
  exact AZ R _ _ (by simp [execOp,ho,hex,Op.unary]) h (.one (.st .bool))
 ·rename_i k n e1
  rw [e1] at rx
  obtain ⟨hex,-⟩:=A7 rx
  obtain ⟨h1,hK⟩:=h
  refine AZ R _ _ ?_ hK (.one (.st (.int h1)))
  have:=Cx h1
  simp only [execOp,ho,hex,Op.unary,Op.intArith,this]
  rfl
 ·exact h.elim
theorem RD {src dst:TypeId} {k:IntKind} {x:Operand} {x':Opd} (ho:o.op=.convert src dst x) (hx:AM C.n x=some x') (hs:(P.underlying src).isSome) (hd:P.underlying dst=some (.int k)) (R:AT C σ ι s a w) (h:Kd.go P d s K (.conv k x')):BF P C o a w K:=by
 have rx:=R.ev hx
 simp only [Kd.go] at h
 split at h
 ·rename_i k' n e1
  rw [e1] at rx
  obtain ⟨hex,-⟩:=A7 rx
  obtain ⟨h1,hK⟩:=h
  obtain ⟨ds,hds⟩:=Option.isSome_iff_exists.1 hs
  refine AZ R _ _ ?_ hK (.one (.st (.int h1)))
  have e2:=Cx h1
  simp [execOp,ho,hex,convert,run_underlying hds,run_underlying hd,Conv.intToInt,e2]
 ·exact h.elim
theorem Qd {t:TypeId} {k0:IntKind} {x:Operand} {x':Opd} (ho:o.op=.makeInterface t x) (hx:AM C.n x=some x') (ht:P.underlying t=some (.int k0)) (R:AT C σ ι s a w) (h:Kd.go P d s K (.iface t x')):BF P C o a w K:=by
 have rx:=R.ev hx
 simp only [Kd.go] at h
 split at h
 ·rename_i k n e1
  rw [e1] at rx
  obtain ⟨hex,-⟩:=A7 rx
  refine AZ R (.iface t (.int k n)) _ ?_ h (.one (.st (.lit rfl)))
  simp [execOp,ho,hex,Instr.makeInterface,run_underlying ht]
 ·exact h.elim
theorem Mz {i:Nat} {x:Operand} {x':Opd} (ho:o.op=.extract x i) (hx:AM C.n x=some x') (R:AT C σ ι s a w) (h:Kd.go P d s K (.extract i x')):BF P C o a w K:=by
 have rx:=R.ev hx
 simp only [Kd.go] at h
 split at h
 ·rename_i vs e1
  rw [e1] at rx
  split at h
  ·rename_i v hv
   generalize hex:a.eval x=y at rx
   cases rx with
   | tup c h1 h2 h3 =>
    exact AZ R _ _ (by simp [execOp,ho,hex,Instr.extract,h2 _ _ hv]) h (h3 _ _ hv)
  ·exact h.elim
 ·exact h.elim
theorem Ij {n:Nat} (hn:n≤maxLen):inR .i64 (n:Int):=by
 simp [maxLen] at hn
 constructor <;> simp [IntKind.min,IntKind.max,IntKind.signed,IntKind.bits] <;> omega
theorem Cq {v:Value} {xs:List (List SV)} (h:A0 σ v (.list xs)):∃ p cap,v=.slice p xs.length cap∧xs.length≤maxLen:=by
 cases h with
 | list c h1 h2 h3=>exact ⟨_,_,by rw [h1],by omega⟩
theorem Ou {t:TypeId} {str:Bool} {x:Operand} {x':Opd} (ho:o.op=.call { callee:=.builtin .len,args:=#[x],argTypes:=#[t] }) (hx:AM C.n x=some x') (ht:if str then P.underlying t=some .string else ∃ e,P.underlying t=some (.slice e)) (R:AT C σ ι s a w) (h:Kd.go P d s K (.len str x')):BF P C o a w K:=by
 have rx:=R.ev hx
 simp only [Kd.go] at h
 split at h
 ·rename_i c e1
  rw [e1] at rx
  replace rx:=Aa rx
  split at h
  ·rename_i n hn
   have sl:∀ (p:Option Addr) (n cap:Nat),str=false→a.eval x=.slice p n cap→n≤maxLen→K (.one (.st (.int .i64 n))) s→BF P C o a w K:=fun p n cap hs he hm hK=>by
    subst hs
    obtain ⟨e,hte⟩:=ht
    exact AZ R _ _ (by simp [execOp,ho,resolve,invoke,builtin,Builtin.len_,run_underlying hte,he,goInt]) hK (.one (.st (.int (Ij hm))))
   have arow:∀ (id n:Nat) (b:AU),str=false→Aq σ s.S ι (a.eval x) (.row id n)→s.S id=some b→n=b.len→n≤maxLen→K (.one (.st (.int .i64 n))) s→BF P C o a w K:=fun id n b hs hr hS hn hm hK=>by
    obtain ⟨b',k1,k2,k3⟩:=DD hr
    rw [hS] at k1
    cases k1
    exact sl _ _ _ hs (k3 hn) hm hK
   unfold EI at hn
   split at hn
   ·rename_i xs
    split at hn
    ·cases hn
    ·rename_i hs
     cases hn
     obtain ⟨p,cap,k1,k2⟩:=Cq (B0 rx)
     exact sl _ _ _ (by simpa using hs) k1 k2 h
   ·rename_i b
    split at hn
    ·rename_i hs
     cases hn
     subst hs
     obtain ⟨hex,hb⟩:=Ds (.one rx)
     simp only [if_true] at ht
     exact AZ R _ _ (by simp [execOp,ho,resolve,invoke,builtin,Builtin.len_,run_underlying ht,hex,goInt]) h (.one (.st (.int (Ij hb))))
    ·cases hn
   ·rename_i xs
    split at hn
    ·cases hn
    ·rename_i hs
     cases hn
     obtain ⟨p,cap,k1,k2⟩:=Cq (DM rx)
     exact sl _ _ _ (by simpa using hs) k1 k2 h
   ·rename_i id m
    split at hn
    ·rename_i e w' xs hS
     split at hn
     ·rename_i hs
      cases hn
      have hb:=R.blk _ _ hS
      refine arow id m _ hs.1 rx hS hs.2 ?_ h
      rw [hs.2]
      cases hb with
      | afull _ _ _ h4=>exact (Cq h4).choose_spec.choose_spec.2
      | arow=>omega
     ·cases hn
    ·rename_i e w' xs hS
     split at hn
     ·rename_i hs
      cases hn
      have hb:=R.blk _ _ hS
      refine arow id m _ hs.1 rx hS hs.2 ?_ h
      rw [hs.2]
      cases hb with
      | mnil=>simp [maxLen]
      | mrow=>omega
     ·cases hn
    ·cases hn
   ·rename_i id k m
    split at hn
    ·rename_i e w' xs hS
     split at hn
     ·rename_i hs
      cases hn
      obtain ⟨b',k1,k2,k3⟩:=EZ rx
      rw [hS] at k1
      cases k1
      obtain ⟨q1,q2⟩:=k3 hs.2
      refine sl _ _ _ hs.1 q2 ?_ h
      have hb:=R.blk _ _ hS
      cases hb with
      | mnil=>simp [hs.2] at q1;simp [q1]
      | mrow=>omega
     ·cases hn
    ·cases hn
   ·cases hn
  ·exact h.elim
 ·exact h.elim
end

section
variable {P:Program} {C:Ctx} {o:Oper} {a:Act} {w:World} {K:AV→AS→Prop} {σ:Sto} {ι:As} {s:AS} {d:Nat} {S:AA}
def B2 (n:Nat):Option Operand→Option (Option Opd)
 | none=>some none
 | some x=>(AM n x).map some
theorem AT.optI (R:AT C σ ι s a w) {x:Option Operand} {x':Option Opd} (h:B2 C.n x=some x') {dd l:Int} (hl:optI s dd x'=some l):(x.map a.eval=none∧l=dd) ∨ ∃ k,x.map a.eval=some (.int k l):=by
 cases x with
 | none =>
  simp only [B2,Option.some.injEq] at h
  subst h
  simp only [Go.Proofs.YtignopbnnaimaaaGreatDoor.optI,Option.some.injEq] at hl
  exact .inl ⟨rfl,hl.symm⟩
 | some x =>
  simp only [B2,Option.map_eq_some_iff] at h
  obtain ⟨y,hy,rfl⟩:=h
  have ry:=R.ev hy
  simp only [Go.Proofs.YtignopbnnaimaaaGreatDoor.optI] at hl
  split at hl
  ·rename_i k n e1
   cases hl
   rw [e1] at ry
   exact .inr ⟨k,by rw [Option.map_some,(A7 ry).1]⟩
  ·cases hl
theorem D1 {isS:Bool} {len cap:Nat} {lo hi:Option Value} {l h:Int} (hl:(lo=none∧l=0) ∨ ∃ k,lo=some (.int k l)) (hh:(hi=none∧h=len) ∨ ∃ k,hi=some (.int k h)) (h0:0≤l) (h1:l≤h) (h2:h≤len) (h3:len≤cap) :
  (Instr.sliceBounds isS len cap lo hi none).run P w=.ok (l.toNat,h.toNat,cap) w:=by
 have hb:∀ (k:IntKind) (i:Int) (y:Nat) (c:BoundsCode),0≤i→i≤y→(Instr.sliceBound (.int k i) y c).run P w=.ok i.toNat w:=fun k i y c a1 a2=>by
  simp [Instr.sliceBound,asIntOf,a1,a2]
 have hh':h≤(cap:Int):=by omega
 have h4:l≤(h.toNat:Int):=by omega
 have h5:0≤h:=by omega
 rcases hl with ⟨rfl,rfl⟩ | ⟨k,rfl⟩ <;> rcases hh with ⟨rfl,rfl⟩ | ⟨k',rfl⟩
 ·simp [Instr.sliceBounds]
 ·simp [Instr.sliceBounds,hb k' h cap _ h5 hh']
 ·simp [Instr.sliceBounds,hb k l len _ h0 (by omega)]
 ·simp [Instr.sliceBounds,hb k' h cap _ h5 hh',hb k l h.toNat _ h0 h4]
theorem N3 {t:TypeId} {x:Operand} {lo hi:Option Operand} {x':Opd} {lo' hi':Option Opd} (ho:o.op=.slice t x lo hi none) (hx:AM C.n x=some x') (hlo:B2 C.n lo=some lo') (hhi:B2 C.n hi=some hi') (ht:P.underlying t=some .string)
  (R:AT C σ ι s a w) (h:Kd.go P d s K (.sliceS x' lo' hi')):BF P C o a w K:=by
 have rx:=R.ev hx
 simp only [Kd.go] at h
 split at h
 ·rename_i b e1
  rw [e1] at rx
  obtain ⟨hex,hb⟩:=Ds rx
  split at h
  ·rename_i l hh e2 e3
   obtain ⟨⟨h0,h1,h2⟩,hK⟩:=h
   have rb:=D1 (P:=P) (w:=w) (isS:=false) (R.optI hlo e2) (R.optI hhi e3) h0 h1 h2 (Nat.le_refl _)
   refine AZ R _ _ ?_ hK (.one (.st (.str ?_)))
   ·simp [execOp,ho,hex,Instr.sliceAt,Instr.slice,run_underlying ht,rb]
   ·simp only [ByteArray.size_extract]
    omega
  ·exact h.elim
 ·exact h.elim
theorem K5 {v:Value} {xs:List (List SV)} (h:A0 σ v (.list xs)) {wd:Nat} (hw:∀ x ∈ xs,x.length=wd) {l hh:Nat} (h1:l≤hh) (h2:hh≤xs.length) :
  ∃ p cap,v=.slice p xs.length cap∧xs.length≤cap∧A0 σ (.slice (if cap=l then p else p.map (·.add (l * wd))) (hh - l) (cap - l)) (.list ((xs.take hh).drop l)):=by
 cases h with
 | @list p len cap b o w' _ c k1 k2 k3 k4 k5 k6 kh k7 k8 =>
 subst k1
 refine ⟨p,cap,rfl,k2,?_⟩
 have hget:∀ k x,((xs.take hh).drop l)[k]?=some x→xs[l + k]?=some x:=fun k x hx=>by
  rw [List.getElem?_drop,List.getElem?_take] at hx
  split at hx
  ·exact hx
  ·cases hx
 refine .list (b:=b) (o:=o + l * wd) (w:=wd) (fun k j=>c (l + k) j) (by simp;omega) (by omega) (by omega) (fun hp=>?_) (fun hne=>?_) (fun x hx=>hw x (List.mem_of_mem_take (List.mem_of_mem_drop hx))) (fun q1 q2 q3=>?_) (fun k x j y hx hy=>?_) (fun k x j y hx hy=>k8 _ x j y (hget _ _ hx) hy)
 ·split at hp
  ·omega
  ·have:=k4 (by cases p <;> simp at hp ⊢)
   omega
 ·rw [if_neg (by omega),k5 (by omega),Option.map_some,BW]
 ·obtain ⟨x,hx⟩:=List.exists_mem_of_ne_nil _ q3
  have hm:=List.mem_of_mem_take (List.mem_of_mem_drop hx)
  exact kh q1 (by rw [← k6 x hm,hw x hm];exact q2) (List.ne_nil_of_mem hm)
 ·have hx':=hget _ _ hx
  have hm:=List.mem_of_getElem? hx'
  have e:w'=wd:=(k6 x hm).symm.trans (hw x hm)
  have:=k7 _ x j y hx' hy
  rw [e] at this
  rw [← this]
  congr 2
  rw [Nat.add_mul]
  omega
theorem Nm {t e:TypeId} {i:TypeInfo} {x:Operand} {lo hi:Option Operand} {x':Opd} {lo' hi':Option Opd} (ho:o.op=.slice t x lo hi none) (hx:AM C.n x=some x') (hlo:B2 C.n lo=some lo') (hhi:B2 C.n hi=some hi') (ht:P.underlying t=some (.slice e)) (hi:P.info? e=some i)
  (R:AT C σ ι s a w) (h:Kd.go P d s K (.sliceL i.size x' lo' hi')):BF P C o a w K:=by
 have rx:=R.ev hx
 simp only [Kd.go] at h
 split at h
 ·rename_i c e1
  rw [e1] at rx
  split at h
  ·rename_i xs e0
   have rs:=R.stC (Aa rx) e0
   split at h
   ·rename_i l hh e2 e3
    obtain ⟨⟨h0,h1,h2⟩,hw,hK⟩:=h
    obtain ⟨p,cap,hex,hc,hr⟩:=K5 rs hw (l:=l.toNat) (hh:=hh.toNat) (by omega) (by omega)
    have rb:=D1 (P:=P) (w:=w) (isS:=true) (R.optI hlo e2) (R.optI hhi e3) h0 h1 h2 hc
    refine AZ R _ _ ?_ hK (.one (.st hr))
    simp [execOp,ho,hex,Instr.sliceAt,Instr.slice,run_underlying ht,rb,sizeOf,typeInfo,hi]
   ·exact h.elim
  ·exact h.elim
 ·exact h.elim
theorem Mb {isS:Bool} {len cap:Nat} {k k':IntKind} {h m:Int} (h0:0≤h) (h1:h≤m) (h2:m≤cap) :
  (Instr.sliceBounds isS len cap none (some (.int k h)) (some (.int k' m))).run P w=.ok (0,h.toNat,m.toNat) w:=by
 have hb:∀ (k:IntKind) (i:Int) (y:Nat) (c:BoundsCode),0≤i→i≤y→(Instr.sliceBound (.int k i) y c).run P w=.ok i.toNat w:=fun k i y c a1 a2=>by
  simp [Instr.sliceBound,asIntOf,a1,a2]
 simp [Instr.sliceBounds,hb k' m cap _ (by omega) h2,hb k h m.toNat _ h0 (by omega)]
theorem Oa {t e:TypeId} {i:TypeInfo} {x hi mx:Operand} {x' hi' mx':Opd} (ho:o.op=.slice t x none (some hi) (some mx)) (hx:AM C.n x=some x') (hhi:AM C.n hi=some hi') (hmx:AM C.n mx=some mx') (ht:P.underlying t=some (.slice e)) (hi:P.info? e=some i)
  (R:AT C σ ι s a w) (h:Kd.go P d s K (.sliceM i.size x' hi' mx')):BF P C o a w K:=by
 have rx:=R.ev hx
 have rh:=R.ev hhi
 have rm:=R.ev hmx
 simp only [Kd.go] at h
 split at h
 ·rename_i c e1
  rw [e1] at rx
  split at h
  ·rename_i xs e0
   have rs:=R.stC (Aa rx) e0
   split at h
   ·rename_i kh hh km m e2 e3
    rw [e2] at rh
    rw [e3] at rm
    obtain ⟨⟨h0,rfl,h2⟩,hw,hK⟩:=h
    obtain ⟨p,cap,hex,hc,hr⟩:=K5 rs hw (l:=0) (hh:=hh.toNat) (by omega) (by omega)
    have rb:=Mb (P:=P) (w:=w) (isS:=true) (len:=xs.length) (cap:=cap) (k:=kh) (k':=km) h0 (Int.le_refl _) (show hh≤(cap:Int) by omega)
    refine AZ R (.slice (if hh.toNat=0 then p else p.map (·.add (0 * i.size))) (hh.toNat - 0) (hh.toNat - 0)) _ ?_ hK (.one (.full ?_))
    ·simp [execOp,ho,hex,Instr.sliceAt,Instr.slice,run_underlying ht,rb,sizeOf,typeInfo,hi,(A7 rh).1,(A7 rm).1]
    ·rw [List.drop_zero] at hr
     cases hr with
     | @list q len cap' b o w' _ c k1 k2 k3 k4 k5 k6 kq k7 k8 =>
     refine .list (b:=b) (o:=o) (w:=w') c k1 (Nat.le_refl _) (by omega) (fun hp=>?_) (fun hne=>?_) k6 kq k7 k8
     ·by_cases h9:hh.toNat=0
      ·omega
      ·have:=k4 (by rw [if_neg h9] at hp;rw [if_neg (by omega)];exact hp)
       omega
     ·have:=k5 hne
      rw [if_neg (by omega)] at this ⊢
      exact this
   ·exact h.elim
  ·exact h.elim
 ·exact h.elim
theorem RX {t e:TypeId} {i:TypeInfo} {x:Operand} {lo hi:Option Operand} {x' h':Opd} (ho:o.op=.slice t x lo hi none) (hx:AM C.n x=some x') (hlo:B2 C.n lo=some none) (hhi:B2 C.n hi=some (some h')) (ht:P.underlying t=some (.slice e)) (hi:P.info? e=some i)
  (R:AT C σ ι s a w) (h:Kd.go P d s K (.cutP i.size x' h')):BF P C o a w K:=by
 have rx:=R.ev hx
 simp only [Kd.go] at h
 split at h
 ·rename_i id k m kk n e1 e2
  split at h
  ·rename_i e' w' xs hS
   obtain ⟨⟨hm,rfl⟩,⟨h0,hle⟩,hK⟩:=h
   obtain ⟨hb2,hb3⟩:m≤(AU.mrow e' i.size xs).len∧(m=(AU.mrow e' i.size xs).len→k≤m∧a.eval x=.slice (ι id).p k (ι id).cap):=by
    unfold Sr at e1
    split at e1
    ·rename_i e0
     cases e1
     rw [e0] at rx
     obtain ⟨b,hb1,hb2,hb3⟩:=EZ (Aa rx)
     rw [hS] at hb1
     cases hb1
     exact ⟨hb2,hb3⟩
    ·rename_i e0
     cases e1
     rw [e0] at rx
     obtain ⟨b,hb1,hb2,hb3⟩:=DD (Aa rx)
     rw [hS] at hb1
     cases hb1
     exact ⟨hb2,fun hl=>⟨Nat.le_refl _,hb3 hl⟩⟩
    ·cases e1
   obtain ⟨hkm,hex⟩:=hb3 hm
   have hb:=R.blk _ _ hS
   have e3:optI s 0 (none:Option Opd)=some 0:=rfl
   have e4:optI s k (some h')=some n:=by simp only [Go.Proofs.YtignopbnnaimaaaGreatDoor.optI,e2]
   have hmm:m=xs.length:=hm
   have hcap:xs.length≤(ι id).cap:=by cases hb <;> first | exact Nat.zero_le _ | assumption
   have hp:∀ c:Nat,(if (ι id).cap=0 then (ι id).p else (ι id).p.map (·.add (0 * c)))=(ι id).p:=fun c=>by
    split
    ·rfl
    ·rename_i hne
     cases hb with
     | mnil q1 q2=>exact absurd q2 hne
     | mrow q1 q2=>rw [q2];simp [BW]
   have rb:=D1 (P:=P) (w:=w) (isS:=true) (len:=k) (cap:=(ι id).cap) (R.optI hlo e3) (R.optI hhi e4) (Int.le_refl _) h0 hle (by omega)
   refine AZ R (.slice (ι id).p n.toNat (ι id).cap) _ ?_ hK (.one (.part hS hb2 rfl fun _=>⟨by omega,rfl⟩))
   have hp':=hp i.size
   simp [execOp,ho,hex,Instr.sliceAt,Instr.slice,run_underlying ht,rb,sizeOf,typeInfo,hi]
   simpa using hp'
  ·exact h.elim
 ·exact h.elim
theorem Pv {t e:TypeId} {i:TypeInfo} {x:Operand} {lo hi:Option Operand} {x' o':Opd} (ho:o.op=.slice t x lo hi none) (hx:AM C.n x=some x') (hlo:B2 C.n lo=some (some o')) (hhi:B2 C.n hi=some none) (ht:P.underlying t=some (.slice e)) (hi:P.info? e=some i)
  (R:AT C σ ι s a w) (h:Kd.go P d s K (.restP i.size x' o')):BF P C o a w K:=by
 have rx:=R.ev hx
 simp only [Kd.go] at h
 split at h
 ·rename_i id m kk n e1 e2
  rw [e1] at rx
  replace rx:=Aa rx
  split at h
  ·rename_i e' w' xs hS
   obtain ⟨⟨hm,rfl⟩,⟨h0,hle⟩,hK⟩:=h
   obtain ⟨b,hb1,hb2,hb3⟩:=DD rx
   rw [hS] at hb1
   cases hb1
   have hex:=hb3 hm
   have hb:=R.blk _ _ hS
   have e3:optI s 0 (some o')=some n:=by simp only [Go.Proofs.YtignopbnnaimaaaGreatDoor.optI,e2]
   have e4:optI s m (none:Option Opd)=some (m:Int):=rfl
   have hmm:m=xs.length:=hm
   have hcap:xs.length≤(ι id).cap:=by cases hb <;> first | exact Nat.zero_le _ | assumption
   have rb:=D1 (P:=P) (w:=w) (isS:=true) (len:=m) (cap:=(ι id).cap) (R.optI hlo e3) (R.optI hhi e4) h0 hle (Int.le_refl _) (by omega)
   refine AZ R (.slice (if (ι id).cap=n.toNat then (ι id).p else (ι id).p.map (·.add (n.toNat * i.size))) (m - n.toNat) ((ι id).cap - n.toNat)) _ ?_ hK (.one (.rest hS hb2 rfl fun _=>⟨by omega,rfl⟩))
   simp [execOp,ho,hex,Instr.sliceAt,Instr.slice,run_underlying ht,rb,sizeOf,typeInfo,hi]
  ·rename_i e' w' xs hS
   obtain ⟨⟨hm,rfl⟩,⟨h0,hle⟩,hK⟩:=h
   obtain ⟨b,hb1,hb2,hb3⟩:=DD rx
   rw [hS] at hb1
   cases hb1
   have hex:=hb3 hm
   have hb:=R.blk _ _ hS
   have e3:optI s 0 (some o')=some n:=by simp only [Go.Proofs.YtignopbnnaimaaaGreatDoor.optI,e2]
   have e4:optI s m (none:Option Opd)=some (m:Int):=rfl
   have hmm:m=xs.length:=hm
   have hcap:xs.length≤(ι id).cap:=by cases hb <;> first | exact Nat.zero_le _ | assumption | omega
   have rb:=D1 (P:=P) (w:=w) (isS:=true) (len:=m) (cap:=(ι id).cap) (R.optI hlo e3) (R.optI hhi e4) h0 hle (Int.le_refl _) (by omega)
   refine AZ R (.slice (if (ι id).cap=n.toNat then (ι id).p else (ι id).p.map (·.add (n.toNat * i.size))) (m - n.toNat) ((ι id).cap - n.toNat)) _ ?_ hK (.one (.rest hS hb2 rfl fun _=>⟨by omega,rfl⟩))
   simp [execOp,ho,hex,Instr.sliceAt,Instr.slice,run_underlying ht,rb,sizeOf,typeInfo,hi]
  ·exact h.elim
 ·exact h.elim
theorem AT.newbox (R:AT C σ ι s a w) (hid:s.S d=none) {e:TypeId} {vs:Array Value} {cs:List AC} (h:Af (Aq σ s.S ι) vs.toList cs) :
  ∃ ι',AT C σ ι' (s.set d (.box e cs)) a (w.alloc (.cells vs e))∧AN σ (s.set d (.box e cs)).S ι' (.pointer (some ⟨w.heap.size,0,none⟩)) (.one (.ptr d 1 0 0)):=by
 obtain ⟨hu,R'⟩:=R.fresh (w':=w.alloc (.cells vs e)) hid (.box e cs) ⟨some ⟨w.heap.size,0,none⟩,0,some w.heap.size⟩ (Ext.refl _ _) (R.fit.alloc _) (D5.alloc _ _) (by simp) (fun S' ι' hu=>.box rfl rfl (heap_alloc_new w _) (h.mono fun _ _ x=>x.mono (fun _ _ h=>h) hu) (fun p hp=>R.fit.no (by omega)))
 exact ⟨_,R',.one (.ptr (b:=.box e cs) (by simp [AS.set,AD]) (Nat.le_refl _) rfl fun _=>⟨w.heap.size,by simp [AD],by simp [AU.wid]⟩)⟩
theorem Ph {e:TypeId} {i:TypeInfo} {z:Value} {cs:List AC} (ho:o.op=.alloc e) (hi:P.info? e=some i) (hz:i.zero=some z) (hcs:C9 z.cells.toList=some cs) (R:AT C σ ι s a w) (h:Kd.go P d s K (.alloc e cs)):BF P C o a w K:=by
 simp only [Kd.go] at h
 obtain ⟨hid,hK⟩:=h
 obtain ⟨ι',R',hv⟩:=R.newbox (d:=d) hid (e:=e) (DY hcs)
 exact ⟨_,_,_,σ,ι',_,.inl (by simp [execOp,ho,Instr.alloc,zeroValue,typeInfo,hi,hz,newVar,newRow]),hK,R',hv⟩
theorem TL {e:TypeId} {x:Operand} {x':Opd} (ho:o.op=.box e x) (hx:AM C.n x=some x') (R:AT C σ ι s a w) (h:Kd.go P d s K (.box e x')):BF P C o a w K:=by
 have rx:=R.ev hx
 simp only [Kd.go] at h
 split at h
 ·rename_i cs e1
  obtain ⟨hid,hK⟩:=h
  obtain ⟨ι',R',hv⟩:=R.newbox (d:=d) hid (e:=e) (rx.cells e1)
  exact ⟨_,_,_,σ,ι',_,.inl (by simp [execOp,ho,Instr.box,newVar,newRow]),hK,R',hv⟩
 ·exact h.elim
theorem J6 {α:Type} {L:List α} {k:Nat} {v:α} (h:k < L.length):(L.set k v).take (k + 1)=L.take k ++ [v]:=by
 rw [List.take_add_one,List.getElem?_set_self h,List.take_set,List.set_eq_of_length_le (by simp;omega)]
 rfl
theorem J5 {α:Type} {L:List α} {k m:Nat} {v:α} (h:k < m):(L.set k v).drop m=L.drop m:=by
 rw [List.drop_set_of_lt h]
theorem Kj (off:Nat):∀ (l:List Value) (n:Nat) (cells:Array Value),off + n + l.length≤cells.size →
  ((l.zipIdx n).foldl (fun cs (x:Value × Nat)=>cs.setIfInBounds (off + x.2) x.1) cells).toList=cells.toList.take (off + n) ++ l ++ cells.toList.drop (off + n + l.length)
 | [],n,cells,h=>by simp
 | v :: l,n,cells,h=>by
  simp only [List.zipIdx_cons,List.foldl_cons]
  simp only [List.length_cons] at h
  rw [Kj off l (n + 1) _ (by simp;omega)]
  have hlt:off + n < cells.toList.length:=by simp;omega
  simp only [Array.toList_setIfInBounds,List.length_cons]
  rw [show off + (n + 1)=off + n + 1 by omega,J6 hlt,J5 (by omega),show off + n + 1 + l.length=off + n + (l.length + 1) by omega]
  simp
theorem NS {place:Nat→Option (Nat × Nat)} {cells:Array Value} {i off size:Nat} {v:Value} {rest:List (Nat × Value)} (hp:place i=some (off,size)) (hs:v.cells.size=size) (hle:off + size≤cells.size) :
  ∃ cells':Array Value,Instr.fill place cells ((i,v) :: rest)=Instr.fill place cells' rest∧cells'.toList=splice cells.toList off v.cells.toList:=by
 refine ⟨_,?_,Kj off v.cells.toList 0 cells (by simp;omega)⟩
 rw [Instr.fill,hp]
 simp only
 rw [if_neg (by simp;omega)]
 congr 1
 rw [← Array.foldl_toList,Array.toList_zipIdx]
theorem Af.splice {α β:Type} {R:α→β→Prop} {l l':List α} {m m':List β} (h:Af R l m) (h':Af R l' m') (off:Nat):Af R (splice l off l') (splice m off m'):=by
 unfold Go.Proofs.YtignopbnnaimaaaGreatDoor.splice
 rw [h'.len]
 exact ((h.take off).append h').append (h.drop _)
def EA (n:Nat) (places:List (Nat × Nat)):List (Nat × Operand)→Option (List (Nat × Nat × Opd))
 | []=>some []
 | (i,x) :: ps=>match places[i]?,AM n x,EA n places ps with
  | some (off,size),some x',some ps'=>some ((off,size,x') :: ps')
  | _,_,_=>none
theorem Fl (R:AT C σ ι s a w) {places:List (Nat × Nat)}:∀ {ps:List (Nat × Operand)} {ps':List (Nat × Nat × Opd)} {cells:Array Value} {cs cs':List AC},EA C.n places ps=some ps'→Af (Aq σ s.S ι) cells.toList cs→fills s cs ps'=some cs' →
  ∃ cells',Instr.fill (fun i=>places[i]?) cells (ps.map fun x=>(x.1,a.eval x.2))=some cells'∧Af (Aq σ s.S ι) cells'.toList cs'
 | [],ps',cells,cs,cs',h1,h2,h3=>by
  simp only [EA,Option.some.injEq] at h1
  subst h1
  simp only [fills,Option.some.injEq] at h3
  subst h3
  exact ⟨cells,rfl,h2⟩
 | (i,x) :: ps,ps',cells,cs,cs',h1,h2,h3=>by
  simp only [EA] at h1
  split at h1
  ·rename_i off size x' ps1 e1 e2 e3
   cases h1
   simp only [fills] at h3
   split at h3
   ·rename_i c e4
    split at h3
    ·rename_i hc
     have rx:=(R.ev e2).cells e4
     have hl:=rx.len
     have hl2:=h2.len
     obtain ⟨cells1,f1,f2⟩:=NS (place:=fun i=>places[i]?) (cells:=cells) (i:=i) (v:=a.eval x) (rest:=ps.map fun x=>(x.1,a.eval x.2)) (off:=off) (size:=size) e1 (by simp at hl;omega) (by simp at hl2;omega)
     obtain ⟨cells2,g1,g2⟩:=Fl R (cells:=cells1) e3 (by rw [f2];exact h2.splice rx off) h3
     exact ⟨cells2,by rw [List.map_cons,f1,g1],g2⟩
    ·cases h3
   ·cases h3
  ·cases h1
theorem PX {t:TypeId} {it:TypeInfo} {z:Value} {fs:Array Field} {places:List (Nat × Nat)} {ps:Array (Nat × Operand)} {ps':List (Nat × Nat × Opd)} {cs:List AC} (ho:o.op=.build t ps) (hit:P.info? t=some it) (hz:it.zero=some z) (hu:P.underlying t=some (.struct fs))
  (hpl:fs.toList.mapM (fun f=>(P.info? f.type).map fun i=>(f.offset,i.size))=some places) (hps:EA C.n places ps.toList=some ps') (hcs:C9 z.cells.toList=some cs) (R:AT C σ ι s a w) (h:Kd.go P d s K (.build cs ps')):BF P C o a w K:=by
 simp only [Kd.go] at h
 split at h
 ·rename_i cs' e1
  obtain ⟨cells',f1,f2⟩:=Fl R (cells:=z.cells) hps (DY hcs) e1
  have hb:P.built t (ps.map fun x=>(x.1,a.eval x.2)).toList=some cells':=by
   unfold Program.built
   simp only [hit,hu,hz,hpl]
   rw [← f1]
   simp
  exact AZ R _ _ (by simp only [execOp,ho,Sem.run_bind,run_build w t _ _ hb,Result.andThen_ok];rfl) h (.agg f2)
 ·exact h.elim
theorem Kb {place place':Nat→Option (Nat × Nat)} (h:∀ i q,place i=some q→place' i=some q):∀ {ps:List (Nat × Value)} {cells c:Array Value},Instr.fill place cells ps=some c→Instr.fill place' cells ps=some c
 | [],_,_,e=>e
 | (i,v) :: rest,cells,c,e=>by
  rw [Instr.fill] at e ⊢
  cases hp:place i with
  | none=>rw [hp] at e;cases e
  | some q =>
   rw [hp] at e
   rw [h i q hp]
   obtain ⟨off,size⟩:=q
   simp only at e ⊢
   split at e
   ·cases e
   ·rename_i hc
    rw [if_neg hc]
    exact Kb h e
theorem Mh {t e:TypeId} {len:Nat} {it ie:TypeInfo} {z:Value} {ps:Array (Nat × Operand)} {ps':List (Nat × Nat × Opd)} {cs:List AC} (ho:o.op=.build t ps) (hit:P.info? t=some it) (hz:it.zero=some z) (hu:P.underlying t=some (.array len e)) (hie:P.info? e=some ie)
  (hps:EA C.n ((List.range len).map fun i=>(i * ie.size,ie.size)) ps.toList=some ps') (hcs:C9 z.cells.toList=some cs) (R:AT C σ ι s a w) (h:Kd.go P d s K (.build cs ps')):BF P C o a w K:=by
 simp only [Kd.go] at h
 split at h
 ·rename_i cs' e1
  obtain ⟨cells',f1,f2⟩:=Fl R (cells:=z.cells) hps (DY hcs) e1
  have f3:=Kb (place':=fun i=>some (i * ie.size,ie.size)) (fun i q hq=>by
   rw [List.getElem?_map,Option.map_eq_some_iff] at hq
   obtain ⟨j,hj,rfl⟩:=hq
   obtain ⟨hj1,hj2⟩:=List.getElem?_eq_some_iff.1 hj
   rw [List.getElem_range] at hj2
   rw [hj2]) f1
  refine AZ R (.agg cells') _ ?_ h (.agg f2)
  simp [execOp,ho,Instr.build,zeroValue,typeInfo,hit,hz,run_underlying hu,sizeOf,hie,Result.andThen,f3]
 ·exact h.elim
def BC (σ:Sto) (vs:List Value) (wd:Nat) (xs:List (List SV)):Prop:=(∀ x ∈ xs,x.length=wd)∧∀ k x j y,xs[k]?=some x→x[j]?=some y→∃ v,vs[k * wd + j]?=some v∧A0 σ v y
theorem BC.nil {vs:List Value} {wd:Nat}:BC σ vs wd []:=⟨by simp,by simp⟩
theorem BC.append {vs vs':List Value} {wd:Nat} {xs ys:List (List SV)} (h:BC σ vs wd xs) (h':BC σ vs' wd ys) (hl:vs.length=xs.length * wd):BC σ (vs ++ vs') wd (xs ++ ys):=by
 refine ⟨fun x hx=>?_,fun k x j y hx hy=>?_⟩
 ·rcases List.mem_append.1 hx with hx | hx
  ·exact h.1 x hx
  ·exact h'.1 x hx
 ·by_cases hlt:k < xs.length
  ·rw [List.getElem?_append_left hlt] at hx
   obtain ⟨v,v1,v2⟩:=h.2 k x j y hx hy
   exact ⟨v,by rw [List.getElem?_append_left (List.getElem?_eq_some_iff.1 v1).1];exact v1,v2⟩
  ·rw [List.getElem?_append_right (by omega)] at hx
   obtain ⟨v,v1,v2⟩:=h'.2 (k - xs.length) x j y hx hy
   refine ⟨v,?_,v2⟩
   have e:k * wd=vs.length + (k - xs.length) * wd:=by
    rw [hl,← Nat.add_mul]
    congr 1
    omega
   rw [List.getElem?_append_right (by omega),show k * wd + j - vs.length=(k - xs.length) * wd + j by omega]
   exact v1
theorem BC.more {vs:List Value} {wd:Nat} {xs:List (List SV)} (h:BC σ vs wd xs) (vs':List Value):BC σ (vs ++ vs') wd xs :=
 ⟨h.1,fun k x j y hx hy=>by
  obtain ⟨v,v1,v2⟩:=h.2 k x j y hx hy
  exact ⟨v,by rw [List.getElem?_append_left (List.getElem?_eq_some_iff.1 v1).1];exact v1,v2⟩⟩
theorem BC.mono {σ':Sto} {vs:List Value} {wd:Nat} {xs:List (List SV)} (h:BC σ vs wd xs) (hs:∀ p x,σ p=some x→σ' p=some x):BC σ' vs wd xs :=
 ⟨h.1,fun k x j y hx hy=>by
  obtain ⟨v,v1,v2⟩:=h.2 k x j y hx hy
  exact ⟨v,v1,v2.mono hs⟩⟩
theorem BC.cons {vs vs':List Value} {wd:Nat} {x:List SV} {xs:List (List SV)} (h:Af (A0 σ) vs x) (hx:x.length=wd) (h':BC σ vs' wd xs):BC σ (vs ++ vs') wd (x :: xs):=by
 have h0:BC σ vs wd [x]:=by
  refine ⟨by simpa using hx,fun k y j z hy hz=>?_⟩
  cases k with
  | zero =>
   simp at hy
   subst hy
   simpa using h.get hz
  | succ k=>simp at hy
 exact h0.append h' (by rw [h.len,hx];simp)
theorem F7 {v:Value} {xs:List (List SV)} (h:A0 σ v (.list xs)) {wd:Nat} (hw:∀ x ∈ xs,x.length=wd) (hpos:0 < wd) :
  ∃ p cap vs,v=.slice p xs.length cap∧xs.length≤cap∧cap≤maxLen∧(p=none→cap=0)∧vs.length=xs.length * wd∧BC σ vs wd xs∧(∀ u ∈ vs,u.oneCell'=true) ∧
   ∃ b o,(xs ≠ []→p=some ⟨b,o,none⟩)∧∀ j u,vs[j]?=some u→σ ⟨b,o + j,none⟩=some u:=by
 cases h with
 | @list p len cap b o w' _ c k1 k2 k3 k4 k5 k6 kh k7 k8 =>
 subst k1
 have hall:∀ i,i < xs.length * wd→∃ x y,xs[i / wd]?=some x∧x[i % wd]?=some y:=fun i hi=>by
  have h1:i / wd < xs.length:=by rw [Nat.div_lt_iff_lt_mul hpos];exact hi
  have h2:xs[i / wd].length=wd:=hw _ (List.getElem_mem h1)
  exact ⟨xs[i / wd],xs[i / wd][i % wd]'(by rw [h2];exact Nat.mod_lt _ hpos),List.getElem?_eq_getElem h1,List.getElem?_eq_getElem _⟩
 have hvs:∀ i,i < xs.length * wd→((List.range (xs.length * wd)).map fun i=>c (i / wd) (i % wd))[i]?=some (c (i / wd) (i % wd)):=fun i hi=>by
  rw [List.getElem?_map,List.getElem?_range hi];rfl
 have hwb:∀ k x,xs[k]?=some x→w'=wd:=fun k x hx=>(k6 x (List.mem_of_getElem? hx)).symm.trans (hw x (List.mem_of_getElem? hx))
 refine ⟨p,cap,(List.range (xs.length * wd)).map (fun i=>c (i / wd) (i % wd)),rfl,k2,k3,k4,by simp,⟨hw,fun k x j y hx hy=>?_⟩,fun u hu=>?_,b,o,fun hne=>k5 (by simpa using hne),fun j u hu=>?_⟩
 ·have hk:=(List.getElem?_eq_some_iff.1 hx).1
  have hj:j < wd:=by
   rw [← hw x (List.mem_of_getElem? hx)]
   exact (List.getElem?_eq_some_iff.1 hy).1
  have hlt:k * wd + j < xs.length * wd:=by
   have:(k + 1) * wd≤xs.length * wd:=Nat.mul_le_mul_right _ hk
   rw [Nat.add_mul] at this
   omega
  have e1:(k * wd + j) / wd=k:=by rw [Nat.mul_comm,Nat.mul_add_div hpos,Nat.div_eq_of_lt hj];omega
  have e2:(k * wd + j) % wd=j:=by rw [Nat.mul_comm,Nat.mul_add_mod,Nat.mod_eq_of_lt hj]
  refine ⟨c k j,?_,k8 k x j y hx hy⟩
  rw [hvs _ hlt,e1,e2]
 ·obtain ⟨i,hi,rfl⟩:=List.mem_map.1 hu
  obtain ⟨x,y,hx,hy⟩:=hall i (by simpa using hi)
  exact (k8 _ x _ y hx hy).one
 ·have hj:j < xs.length * wd:=by
   have:=(List.getElem?_eq_some_iff.1 hu).1
   simpa using this
  obtain ⟨x,y,hx,hy⟩:=hall j hj
  rw [hvs j hj] at hu
  cases hu
  have:=k7 _ x _ y hx hy
  rw [hwb _ x hx] at this
  rw [← this]
  congr 2
  rw [Nat.add_assoc,Nat.mul_comm,Nat.div_add_mod]
def D3 (σ:Sto) (w:World) (g k:Nat):Sto:=fun p=>if p.block=g∧(p.spot=none ∨ p.spot=some 1)∧p.off < k then Ca w p else σ p
theorem MB {g k j:Nat} (h:j < k):D3 σ w g k ⟨g,j,none⟩=w.cell? ⟨g,j,none⟩:=by simp [D3,h,B6]
theorem HV {g k j:Nat} (h:j < k):D3 σ w g k ⟨g,j,some 1⟩=Ca w ⟨g,j,some 1⟩:=by simp [D3,h]
theorem Fb {g k:Nat} {p:Addr} (h:p.block ≠ g):D3 σ w g k p=σ p:=by simp [D3,h]
theorem Ft {w':World} {g k:Nat} (h:∀ p x,p.block=g→σ p=some x→Ca w' p=some x):∀ p x,σ p=some x→D3 σ w' g k p=some x:=fun p x hp=>by
 unfold D3
 split
 ·rename_i hh
  exact h _ _ hh.1 hp
 ·exact hp
theorem EW {w':World} {g k:Nat} (h:Fit σ w'):Fit (D3 σ w' g k) w':=fun p x hp=>by
 unfold D3 at hp
 split at hp
 ·exact hp
 ·exact h _ _ hp
theorem Ext.lay {w w':World} {g k:Nat} (hf:Fit σ w) (hg:w.heap.size≤g):Ext w.heap.size σ (D3 σ w' g k) :=
 ⟨Ft (fun p x e h=>by rw [hf.no (by rw [e];exact hg)] at h;cases h),fun p hp=>Fb (by omega)⟩
theorem RQ {w':World} {g:Nat} {vs:Array Value} {e:TypeId} {n cap wd:Nat} {xs:List (List SV)} (hf:Fit σ w) (hg:w.heap.size≤g) (hw:w'.heap[g]?=some (.cells vs e (0,0))) (hl:BC σ vs.toList wd xs) (hn:n=xs.length) (hc:n≤cap) (hcm:cap≤maxLen) :
  A0 (D3 σ w' g (n * wd)) (.slice (some ⟨g,0,none⟩) n cap) (.list xs):=by
 have key:∀ k x j y,xs[k]?=some x→x[j]?=some y→∃ v,vs[k * wd + j]?=some v∧A0 σ v y∧D3 σ w' g (n * wd) ⟨g,k * wd + j,none⟩=some v:=fun k x j y hx hy=>by
  obtain ⟨v,v1,v2⟩:=hl.2 k x j y hx hy
  have hk:=(List.getElem?_eq_some_iff.1 hx).1
  have hj:j < wd:=by
   rw [← hl.1 x (List.mem_of_getElem? hx)]
   exact (List.getElem?_eq_some_iff.1 hy).1
  have hlt:k * wd + j < n * wd:=by
   have:(k + 1) * wd≤n * wd:=Nat.mul_le_mul_right _ (by omega)
   rw [Nat.add_mul] at this
   omega
  refine ⟨v,by simpa using v1,v2,?_⟩
  rw [MB hlt,cell_of_row w' g _ _ _ _ hw]
  simpa using v1
 refine .list (b:=g) (o:=0) (w:=wd) (fun k j=>(vs[k * wd + j]?).getD undef) hn hc hcm (by simp) (fun _=>rfl) hl.1 (fun _ q2 q3=>by rw [HV (Nat.mul_pos (by rw [hn];exact List.length_pos_iff.2 q3) (by omega)),F4 hw]) (fun k x j y hx hy=>?_) (fun k x j y hx hy=>?_)
 ·obtain ⟨v,v1,v2,v3⟩:=key k x j y hx hy
  rw [Nat.zero_add,v3,v1]
  rfl
 ·obtain ⟨v,v1,v2,v3⟩:=key k x j y hx hy
  rw [v1]
  exact v2.mono (Ext.lay hf hg).keep
end

section
variable {P:Program} {C:Ctx} {o:Oper} {a:Act} {w:World} {K:AV→AS→Prop} {σ:Sto} {ι:As} {s:AS} {d:Nat} {S:AA}
def Kh (n:Nat):Nat→List (Nat × Operand)→Option (List Opd)
 | _,[]=>some []
 | k,(i,x) :: ps=>if i=k then match AM n x,Kh n (k + 1) ps with
  | some x',some xs'=>some (x' :: xs')
  | _,_=>none
  else none
theorem Mq {α:Type} {L A:List α} {k:Nat} (hk:k≤L.length):(splice L k A).take (k + A.length)=L.take k ++ A:=by
 unfold splice
 exact List.take_left' (by simp;omega)
theorem M6 {α:Type} {L A:List α} {k m:Nat} (hk:k≤L.length):(splice L k A).drop (k + A.length + m)=L.drop (k + A.length + m):=by
 unfold splice
 have e:(L.take k ++ A).length=k + A.length:=by simp;omega
 rw [List.drop_append,e,List.drop_of_length_le (by omega),List.nil_append,List.drop_drop]
 congr 1
 omega
theorem H9 (R:AT C σ ι s a w) {wd:Nat}:∀ {ps:List (Nat × Operand)} {k:Nat} {xs:List Opd} {es:List (List SV)} {cells:Array Value},Kh C.n k ps=some xs→DT s wd xs=some es→k * wd + ps.length * wd≤cells.size →
  ∃ cells' vs,Instr.fill (fun i=>some (i * wd,wd)) cells (ps.map fun x=>(x.1,a.eval x.2))=some cells'∧cells'.toList=cells.toList.take (k * wd) ++ vs ++ cells.toList.drop (k * wd + ps.length * wd)∧vs.length=ps.length * wd∧ps.length=es.length∧BC σ vs wd es
 | [],k,xs,es,cells,h1,h2,h3=>by
  simp only [Kh,Option.some.injEq] at h1
  subst h1
  simp only [DT,Option.some.injEq] at h2
  subst h2
  exact ⟨cells,[],rfl,by simp,by simp,rfl,BC.nil⟩
 | (i,x) :: ps,k,xs,es,cells,h1,h2,h3=>by
  simp only [Kh] at h1
  split at h1
  ·rename_i hik
   subst hik
   split at h1
   ·rename_i x' xs' e1 e2
    cases h1
    simp only [DT] at h2
    split at h2
    ·rename_i c e3
     split at h2
     ·rename_i c' es' e4 e5
      split at h2
      ·rename_i hw
       cases h2
       have rx:=R.stCs ((R.ev e1).cells e3) e4
       have hl:=rx.len
       simp only [List.length_cons,Nat.add_mul,Nat.one_mul] at h3
       obtain ⟨cells1,f1,f2⟩:=NS (place:=fun i=>some (i * wd,wd)) (cells:=cells) (i:=i) (v:=a.eval x) (rest:=ps.map fun x=>(x.1,a.eval x.2)) (off:=i * wd) (size:=wd) rfl (by simp at hl;omega) (by omega)
       have hsz:cells1.size=cells.size:=by
        have:=congrArg List.length f2
        simp [splice] at this
        simp at hl
        omega
       obtain ⟨cells2,vs,g1,g2,g3,g4,g5⟩:=H9 R (cells:=cells1) e2 e5 (by rw [Nat.add_mul];omega)
       refine ⟨cells2,(a.eval x).cells.toList ++ vs,by rw [List.map_cons,f1,g1],?_,by simp at hl ⊢;rw [g3,Nat.add_mul];omega,by simp [g4],BC.cons rx hw g5⟩
       rw [g2,f2]
       have hlen:(a.eval x).cells.toList.length=wd:=by omega
       have e6:(i + 1) * wd=i * wd + (a.eval x).cells.toList.length:=by rw [Nat.add_mul];omega
       rw [e6,Mq (by simp;omega),M6 (by simp;omega),hlen]
       simp only [List.length_cons,Nat.add_mul,Nat.one_mul]
       rw [show i * wd + wd + ps.length * wd=i * wd + (ps.length * wd + wd) by omega]
       simp
      ·cases h2
     ·cases h2
    ·cases h2
   ·cases h1
  ·cases h1
theorem Hw:∀ {xs:List Opd} {es:List (List SV)},H1 s xs=some es→DT s 1 xs=some es
 | [],es,h=>h
 | x :: xs,es,h=>by
  simp only [H1] at h
  split at h
  ·rename_i c es' e1 e2
   cases h
   simp only [DT,e1,AV.cells,stCs,stC,Hw e2,List.length_cons,List.length_nil,if_true]
  ·cases h
theorem Th {xs:List Opd} {e:Nat} (h:Kd.go P d s K (.buildFlat xs)):Kd.go P d s K (.buildSlice false e 1 xs):=by
 simp only [Kd.go] at h ⊢
 split at h
 ·rename_i es e1
  rw [Hw e1]
  exact h
 ·exact h.elim
theorem Fo {t e:TypeId} {len:Nat} {ps:Array (Nat × Operand)} {ie:TypeInfo} {z:Value} {xs:List Opd} {mu:Bool} (ho:o.op=.buildSlice t len ps) (hu:P.underlying t=some (.slice e)) (hie:P.info? e=some ie) (hz:ie.zero=some z) (hsmall:len * ie.size≤2 ^ 24) (hwp:0 < ie.size) (hlen:ps.size=len)
  (hps:Kh C.n 0 ps.toList=some xs) (R:AT C σ ι s a w) (h:Kd.go P d s K (.buildSlice mu e ie.size xs)):BF P C o a w K:=by
 simp only [Kd.go] at h
 split at h
 ·rename_i es e1
  obtain ⟨cells',vs,f1,f2,f3,f4,f5⟩:=H9 R (cells:=(Array.range (len * ie.size)).map (z.cells[· % z.cells.size]!)) hps e1 (by simp [hlen])
  have hpl:ps.toList.length=len:=by simpa using hlen
  have f2':cells'.toList=vs:=by
   rw [f2,hpl]
   rw [List.drop_of_length_le (by simp)]
   simp
  have hrun:(execOp a.eval o).run P w=.ok (.value (.slice (some ⟨w.heap.size,0,none⟩) len len)) (w.alloc (.cells cells' e)):=by
   by_cases h0:len=0
   ·subst h0
    have hp0:ps=#[]:=Array.eq_empty_of_size_eq_zero hlen
    subst hp0
    have hc:cells'=#[]:=by
     apply Array.ext'
     rw [f2']
     simpa using f3
    subst hc
    have e0:Array.range 0=#[]:=rfl
    simp [execOp,ho,Instr.buildSlice,run_underlying hu,sizeOf,typeInfo,hie,Instr.fill,newRow,e0]
   ·have hrb:=run_buildSlice (P:=P) w t e len (ps.map fun x=>(x.1,a.eval x.2)) cells' ie z hu hie hz (by omega) (by
     have:=Nat.mul_pos (show 0 < len by omega) hwp
     omega) (by simpa using f1)
    simp only [execOp,ho,Sem.run_bind,hrb,Result.andThen_ok]
    rfl
  have hle:len=es.length:=by rw [← hpl,f4]
  have hmax:len≤maxLen:=by
   have:len * 1≤len * ie.size:=Nat.mul_le_mul_left _ hwp
   simp [maxLen]
   omega
  have f5':BC σ cells'.toList ie.size es:=by rw [f2'];exact f5
  cases mu with
  | false =>
   simp only [Bool.false_eq_true,if_false] at h
   have hs:=RQ (w:=w) (w':=w.alloc (.cells cells' e)) R.fit (Nat.le_refl _) (heap_alloc_new w _) f5' hle (Nat.le_refl _) hmax
   exact ⟨_,_,s,_,ι,_,.inl hrun,h,R.more (Ext.lay R.fit (Nat.le_refl _)) (EW (R.fit.alloc _)) (D5.alloc _ _),.one (.full hs)⟩
  | true =>
   simp only [if_true] at h
   obtain ⟨hid,hK⟩:=h
   obtain ⟨hu',R'⟩:=R.fresh (w':=w.alloc (.cells cells' e)) hid (.mrow e ie.size es) ⟨some ⟨w.heap.size,0,none⟩,len,some w.heap.size⟩ (Ext.refl _ _) (R.fit.alloc _) (D5.alloc _ _) (by simp)
    (fun S' ι' hu=>.mrow rfl rfl (heap_alloc_new w _) (show es.length≤len by omega) hmax (by
     have:=congrArg List.length f2'
     simp at this
     rw [this,f3,hpl]) f5'.1 (fun k x j y hx hy=>by simpa using f5'.2 k x j y hx hy) (fun p hp=>R.fit.no (by omega)))
   exact ⟨_,_,_,σ,_,_,.inl hrun,hK,R',.one (.row (b:=.mrow e ie.size es) (by simp [AS.set,AD]) (Nat.le_refl _) rfl fun _=>by simp [AD,hle])⟩
 ·exact h.elim
theorem Fn {t:TypeId} {i:TypeInfo} (hi:P.info? t=some i) {g off:Nat} {v:Value} {cur:Array Value} {e:TypeId} (hg:w.heap[g]?=some (.cells cur e (0,0))) (hv:v.cells.size=i.size) (hle:off + i.size≤cur.size) (h1:∀ u ∈ v.cells.toList,u.oneCell'=true) :
  (Instr.storeAt t (.pointer (some ⟨g,off,none⟩)) v).run P w=.ok () (w.setRow g (splice cur.toList off v.cells.toList).toArray):=by
 have hst:=run_storeCells_at P g off e v.cells.toList 0 cur w hg (by simp;omega) h1
 have hst':(storeCells ⟨g,off,none⟩ v.cells.toList).run P w=.ok () (w.setRow g (splice cur.toList off v.cells.toList).toArray):=by
  have e1:(storeCells ⟨g,off,none⟩ v.cells.toList 0).run P w=_:=hst
  rw [e1]
  simp [splice]
 simp [Instr.storeAt,Instr.sureAddr,storeVar,sizeOf,typeInfo,hi,hv,hst']
theorem BU (g:Nat) (cs:Array Value):(w.setRow g cs).os=w.os∧(w.setRow g cs).tape=w.tape∧(w.setRow g cs).output=w.output:=⟨rfl,rfl,rfl⟩
theorem Af.oneA {vs:List Value} {cs:List AC} (h:Af (Aq σ S ι) vs cs):∀ u ∈ vs,u.oneCell'=true:=by
 intro u hu
 obtain ⟨i,hi,rfl⟩:=List.getElem_of_mem hu
 obtain ⟨b,_,hb⟩:=h.get' (List.getElem?_eq_getElem hi)
 exact hb.one
theorem Fit.row {w':World} (hf:Fit σ w) {g:Nat} (hn:∀ p:Addr,p.block=g→σ p=none) (hw:∀ k,k ≠ g→w'.heap[k]?=w.heap[k]?):Fit σ w':=fun p x hp=>by
 have hne:p.block ≠ g:=fun e=>by rw [hn p e] at hp;cases hp
 exact (DS (hw _ hne)).trans (hf p x hp)
theorem QE {t:TypeId} {i:TypeInfo} {x v:Operand} {x' v':Opd} (ho:o.op=.store t x v) (hx:AM C.n x=some x') (hv:AM C.n v=some v') (hi:P.info? t=some i) (R:AT C σ ι s a w) (h:Kd.go P d s K (.store i.size x' v')):BF P C o a w K:=by
 have rx:=R.ev hx
 have rv:=R.ev hv
 simp only [Kd.go] at h
 split at h
 ·rename_i id m k off c e1 e2
  rw [e1] at rx
  have rc:=rv.cells e2
  have hlc:=rc.len
  obtain ⟨b,hb1,hb2,hb3⟩:=Eg (Aa rx)
  split at h
  ·rename_i e cs hS
   obtain ⟨⟨rfl,rfl⟩,hcn,hle,hK⟩:=h
   rw [hS] at hb1
   cases hb1
   obtain ⟨g,g1,g2⟩:=hb3 rfl
   simp only [AU.wid,Nat.zero_mul,Nat.zero_add] at g2
   have hb:=R.blk _ _ hS
   cases hb with
   | @box _ _ g' vs k1 k2 k3 k4 k5 =>
   rw [k1] at g1
   cases g1
   have hlv:=k4.len
   have hrun:=Fn (P:=P) (off:=off) (v:=a.eval v) hi k3 (by simp at hlc;omega) (by simp at hlv;omega) (Af.oneA rc)
   obtain ⟨hu,R'⟩:=R.turn (w':=w.setRow g (splice vs.toList off (a.eval v).cells.toList).toArray) hS (.box e (splice cs off c)) (ι id) (σ':=σ) (fun _ _ h=>h) (fun _ _ _=>rfl) (R.fit.row k5 fun k hk=>setRow_other _ _ _ _ hk) (Nat.le_refl _) (fun _=>⟨rfl,rfl⟩) (BU _ _) (by simp)
    (fun k hk hne=>setRow_other _ _ _ _ (fun e=>hne (by rw [e];exact k1))) (fun g h=>.inl h) (fun hu=>.box k1 k2 (setRow_heap w _ _ _ _ _ k3) (by simpa using (k4.splice rc off).mono fun _ _ x=>x.mono (fun _ _ h=>h) hu) k5)
   exact ⟨undef,.any,_,σ,_,_,.inr ⟨rfl,by simp only [execOp,ho,g2,Sem.run_bind,hrun,Result.andThen_ok];rfl⟩,hK,R',.any⟩
  ·rename_i e cs hS
   obtain ⟨⟨hm,hn1,hc1⟩,rfl,hk,hK⟩:=h
   rw [hS] at hb1
   cases hb1
   obtain ⟨g,g1,g2⟩:=hb3 hm
   simp only [AU.wid,Nat.mul_one,Nat.add_zero] at g2
   have hb:=R.blk _ _ hS
   cases hb with
   | @crow _ _ g' vs k1 k2 k3 kc km k4 k5 =>
   rw [k1] at g1
   cases g1
   have hlv:=k4.len
   have hsl:(splice cs k c).length=cs.length:=by
    simp [splice]
    omega
   have hrun:=Fn (P:=P) (off:=k) (v:=a.eval v) hi k3 (by simp at hlc;omega) (by omega) (Af.oneA rc)
   have htk:(splice vs.toList k (a.eval v).cells.toList).take cs.length=splice (vs.toList.take cs.length) k (a.eval v).cells.toList:=by
    unfold splice
    have q1:(vs.toList.take k).length=k:=by simp;omega
    have q2:(a.eval v).cells.toList.length=1:=by omega
    rw [List.append_assoc,List.take_append,q1,List.take_append,q2,List.take_of_length_le (l:=vs.toList.take k) (by rw [q1];omega),List.take_of_length_le (l:=(a.eval v).cells.toList) (by rw [q2];omega),List.take_take,Nat.min_eq_left (by omega),List.drop_take,List.append_assoc]
    congr 3
   obtain ⟨hu,R'⟩:=R.turn (w':=w.setRow g (splice vs.toList k (a.eval v).cells.toList).toArray) hS (.crow e (splice cs k c)) (ι id) (σ':=σ) (fun _ _ h=>h) (fun _ _ _=>rfl) (R.fit.row k5 fun k hk=>setRow_other _ _ _ _ hk) (by simp [AU.len,hsl]) (fun _=>⟨rfl,rfl⟩) (BU _ _) (by simp)
    (fun k hk hne=>setRow_other _ _ _ _ (fun e=>hne (by rw [e];exact k1))) (fun g h=>.inl h) (fun hu=>.crow k1 k2 (setRow_heap w _ _ _ _ _ k3) (by rw [hsl];exact ⟨kc.1,by simp [splice] at hlv ⊢;omega⟩) km (by rw [hsl];show Af _ (List.take _ (splice vs.toList k (a.eval v).cells.toList)) _;rw [htk];exact (k4.splice rc k).mono fun _ _ x=>x.mono (fun _ _ h=>h) hu) k5)
   exact ⟨undef,.any,_,σ,_,_,.inr ⟨rfl,by simp only [execOp,ho,g2,Sem.run_bind,hrun,Result.andThen_ok];rfl⟩,hK,R',.any⟩
  ·rename_i e wd xs hS
   split at h
   ·rename_i c' x1 e3 e4
    obtain ⟨hm,hcn,hle,hK⟩:=h
    rw [hS] at hb1
    cases hb1
    obtain ⟨g,g1,g2⟩:=hb3 hm
    simp only [AU.wid] at g2
    have rc':=R.stCs rc e3
    have hlc':=rc'.len
    have hb:=R.blk _ _ hS
    cases hb with
    | mnil k1=>rw [k1] at g1;cases g1
    | @mrow _ _ _ g' vs k1 k2 k3 k4 k5 k6 k7 k8 k9 =>
    rw [k1] at g1
    cases g1
    have hx1m:=List.mem_of_getElem? e4
    have hx1:=k7 x1 hx1m
    have hk:=(List.getElem?_eq_some_iff.1 e4).1
    have hkw:k * wd + wd≤xs.length * wd:=by
     have:(k + 1) * wd≤xs.length * wd:=Nat.mul_le_mul_right _ hk
     rw [Nat.add_mul] at this
     omega
    have hcap:xs.length * wd≤(ι id).cap * wd:=Nat.mul_le_mul_right _ k4
    have hrun:=Fn (P:=P) (off:=k * wd + off) (v:=a.eval v) hi k3 (by simp at hlc';omega) (by omega) (Af.oneA rc)
    have hsl:(a.eval v).cells.toList.length=i.size:=by omega
    have hget:∀ q,(splice vs.toList (k * wd + off) (a.eval v).cells.toList)[q]?=if k * wd + off≤q∧q < k * wd + off + i.size then (a.eval v).cells.toList[q - (k * wd + off)]? else vs.toList[q]?:=fun q=>by
     unfold splice
     have ht:(vs.toList.take (k * wd + off)).length=k * wd + off:=by simp;omega
     by_cases h1:q < k * wd + off
     ·rw [if_neg (by omega),List.append_assoc,List.getElem?_append_left (by omega),List.getElem?_take,if_pos h1]
     ·by_cases h2:q < k * wd + off + i.size
      ·rw [if_pos ⟨by omega,h2⟩,List.append_assoc,List.getElem?_append_right (by omega),List.getElem?_append_left (by omega),ht]
      ·rw [if_neg (by omega),List.getElem?_append_right (by rw [List.length_append,ht,hsl];omega),List.getElem?_drop]
       congr 1
       simp only [List.length_append,ht,hsl]
       omega
    obtain ⟨hu,R'⟩:=R.turn (w':=w.setRow g (splice vs.toList (k * wd + off) (a.eval v).cells.toList).toArray) hS (.mrow e wd (xs.set k (splice x1 off c'))) (ι id) (σ':=σ) (fun _ _ h=>h) (fun _ _ _=>rfl) (R.fit.row k9 fun k hk=>setRow_other _ _ _ _ hk) (by simp [AU.len]) (fun _=>⟨rfl,rfl⟩) (BU _ _) (by simp)
     (fun k hk hne=>setRow_other _ _ _ _ (fun e=>hne (by rw [e];exact k1))) (fun g h=>.inl h) (fun hu=>by
      have hspl:(splice x1 off c').length=wd:=by simp [splice];omega
      refine .mrow k1 k2 (setRow_heap w _ _ _ _ _ k3) (by simpa using k4) k5 (by rw [List.size_toArray,splice,List.length_append,List.length_append,List.length_drop,List.length_take,hsl,Array.length_toList];omega) (fun y hy=>?_) (fun k' y j z hy hz=>?_) k9
      ·rcases List.mem_or_eq_of_mem_set hy with hy | rfl
       ·exact k7 y hy
       ·exact hspl
      ·simp only [List.getElem?_toArray]
       rw [hget]
       by_cases hkk:k'=k
       ·subst hkk
        rw [List.getElem?_set_self hk] at hy
        cases hy
        have hj:j < wd:=by rw [← hspl];exact (List.getElem?_eq_some_iff.1 hz).1
        unfold splice at hz
        have ht:(x1.take off).length=off:=by simp;omega
        by_cases h1:j < off
        ·rw [if_neg (by omega)]
         rw [List.append_assoc,List.getElem?_append_left (by omega),List.getElem?_take,if_pos h1] at hz
         simpa using k8 k' x1 j z e4 hz
        ·by_cases h2:j < off + i.size
         ·rw [if_pos ⟨by omega,by omega⟩]
          rw [List.append_assoc,List.getElem?_append_right (by omega),List.getElem?_append_left (by omega),ht] at hz
          rw [show k' * wd + j - (k' * wd + off)=j - off by omega]
          exact rc'.get hz
         ·rw [if_neg (by omega)]
          rw [List.getElem?_append_right (by simp;omega),List.getElem?_drop] at hz
          rw [show off + c'.length + (j - (List.take off x1 ++ c').length)=j by simp;omega] at hz
          simpa using k8 k' x1 j z e4 hz
       ·rw [List.getElem?_set_ne (fun e=>hkk e.symm)] at hy
        have hk':=(List.getElem?_eq_some_iff.1 hy).1
        have hj:j < wd:=by
         rw [← k7 y (List.mem_of_getElem? hy)]
         exact (List.getElem?_eq_some_iff.1 hz).1
        rw [if_neg]
        ·simpa using k8 k' y j z hy hz
        ·rintro ⟨q1,q2⟩
         rcases Nat.lt_or_gt_of_ne hkk with hl | hl
         ·have:(k' + 1) * wd≤k * wd:=Nat.mul_le_mul_right _ hl
          rw [Nat.add_mul] at this
          omega
         ·have:(k + 1) * wd≤k' * wd:=Nat.mul_le_mul_right _ hl
          rw [Nat.add_mul] at this
          omega)
    exact ⟨undef,.any,_,σ,_,_,.inr ⟨rfl,by simp only [execOp,ho,g2,Sem.run_bind,hrun,Result.andThen_ok];rfl⟩,hK,R',.any⟩
   ·exact h.elim
  ·exact h.elim
 ·exact h.elim
end

end Go.Proofs.YtignopbnnaimaaaGreatDoor
