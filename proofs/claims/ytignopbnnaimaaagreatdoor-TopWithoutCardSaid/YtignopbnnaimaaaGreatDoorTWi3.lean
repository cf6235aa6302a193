/-
  Part 3 of the texts. Conditions: none.
-/
import Derived.Test.YtignopbnnaimaaaGreatDoorTWi2
import Derived.Lib.AppendStr
namespace Go.Proofs.YtignopbnnaimaaaGreatDoor
open Go Go.RowKit
set_option linter.unusedVariables false
set_option maxHeartbeats 400000
section
variable {P:Program} {C:Ctx} {o:Oper} {a:Act} {w:World} {K:AV→AS→Prop} {σ:Sto} {ι:As} {s:AS} {d:Nat} {S:AA}
theorem AT.src (R:AT C σ ι s a w) {v:Value} {cy:AC} {ys:List (List SV)} {wd:Nat} (hv:Aq σ s.S ι v cy) (h:Cp s.S cy=some ys) (hw:∀ y ∈ ys,y.length=wd) (hpos:0 < wd) :
  ∃ p cap news,v=.slice p ys.length cap∧news.length=ys.length * wd∧BC σ news wd ys∧(∀ u ∈ news,u.oneCell'=true)∧(ys ≠ []→∃ b o,p=some ⟨b,o,none⟩∧∀ j u,news[j]?=some u→w.cell? ⟨b,o + j,none⟩=some u):=by
 have stay:A0 σ v (.list ys)→∃ p cap news,v=.slice p ys.length cap∧news.length=ys.length * wd∧BC σ news wd ys∧(∀ u ∈ news,u.oneCell'=true)∧(ys ≠ []→∃ b o,p=some ⟨b,o,none⟩∧∀ j u,news[j]?=some u→w.cell? ⟨b,o + j,none⟩=some u):=fun hr=>by
  obtain ⟨p,cap,vs,h1,h2,h3,h4,h5,h6,h7,b,o,h8,h9⟩:=F7 hr hw hpos
  exact ⟨p,cap,vs,h1,h5,h6,h7,fun hne=>⟨b,o,h8 hne,fun j u hu=>R.fit _ _ (h9 j u hu)⟩⟩
 unfold Cp at h
 split at h
 ·cases h;exact stay (B0 hv)
 ·cases h;exact stay (DM hv)
 ·rename_i id n
  split at h
  ·rename_i e wd' xs hS
   split at h
   ·rename_i hn
    cases h
    exact stay (R.row_srep hv hS hn)
   ·cases h
  ·rename_i e wd' xs hS
   split at h
   ·rename_i hn
    cases h
    obtain ⟨b,k1,k2,k3⟩:=DD hv
    rw [hS] at k1
    cases k1
    have hv':=k3 hn
    have hb:=R.blk _ _ hS
    cases hb with
    | mnil m1 m2=>exact ⟨(ι id).p,(ι id).cap,[],by rw [hv',hn],by simp,BC.nil,by simp,fun h=>absurd rfl h⟩
    | @mrow _ _ _ g vs m1 m2 m3 m4 m5 m6 m7 m8 m9 =>
     by_cases h0:ys=[]
     ·subst h0
      exact ⟨(ι id).p,(ι id).cap,[],by rw [hv',hn],by simp,BC.nil,by simp,fun h=>absurd rfl h⟩
     ·have hwd:wd'=wd:=by
       obtain ⟨y,hy⟩:=List.exists_mem_of_ne_nil _ h0
       exact (m7 y hy).symm.trans (hw y hy)
      subst hwd
      have hcap:ys.length * wd'≤(ι id).cap * wd':=Nat.mul_le_mul_right _ m4
      refine ⟨(ι id).p,(ι id).cap,vs.toList.take (ys.length * wd'),by rw [hv',hn],by simp;omega,⟨m7,fun k x j y hx hy=>?_⟩,fun u hu=>?_,fun _=>⟨g,0,m2,fun j u hu=>?_⟩⟩
      ·obtain ⟨v,v1,v2⟩:=m8 k x j y hx hy
       have hk:=(List.getElem?_eq_some_iff.1 hx).1
       have hj:j < wd':=by
        rw [← m7 x (List.mem_of_getElem? hx)]
        exact (List.getElem?_eq_some_iff.1 hy).1
       have hlt:k * wd' + j < ys.length * wd':=by
        have:(k + 1) * wd'≤ys.length * wd':=Nat.mul_le_mul_right _ hk
        rw [Nat.add_mul] at this
        omega
       exact ⟨v,by rw [List.getElem?_take,if_pos hlt];simpa using v1,v2⟩
      ·obtain ⟨i,hi,rfl⟩:=List.getElem_of_mem hu
       have hi':i < ys.length * wd':=by simp at hi;omega
       have hk:i / wd' < ys.length:=by rw [Nat.div_lt_iff_lt_mul hpos];exact hi'
       have hl:ys[i / wd'].length=wd':=m7 _ (List.getElem_mem hk)
       have hj:i % wd' < ys[i / wd'].length:=by rw [hl];exact Nat.mod_lt _ hpos
       obtain ⟨v,v1,v2⟩:=m8 (i / wd') _ (i % wd') _ (List.getElem?_eq_getElem hk) (List.getElem?_eq_getElem hj)
       rw [Nat.mul_comm,Nat.div_add_mod] at v1
       have e:(vs.toList.take (ys.length * wd'))[i]?=some v:=by rw [List.getElem?_take,if_pos hi'];simpa using v1
       rw [List.getElem?_eq_getElem hi] at e
       cases e
       exact v2.one
      ·rw [List.getElem?_take] at hu
       split at hu
       ·rw [Nat.zero_add,cell_of_row w g _ _ _ _ m3]
        simpa using hu
       ·cases hu
   ·cases h
  ·cases h
 ·cases h
theorem KR {t ty e:TypeId} {i:TypeInfo} {z:Value} (ht:P.underlying t=some (.slice e)) (hi:P.info? e=some i) (hz:i.zero=some z) (hzs:z.cells.size=i.size) {p:Option Addr} {n cap:Nat} {olds:List Value} (hlo:olds.length=n * i.size) (hpn:p=none→cap=0) (hnc:n≤cap)
  (hold:n ≠ 0→∃ b o,p=some ⟨b,o,none⟩∧∀ j u,olds[j]?=some u→w.cell? ⟨b,o + j,none⟩=some u) {q:Option Addr} {m c:Nat} {news:List Value} (hl:news.length=m * i.size) (hm:0 < m) (hq:∃ b o,q=some ⟨b,o,none⟩∧∀ j u,news[j]?=some u→w.cell? ⟨b,o + j,none⟩=some u)
  (hg:cap < n + m) (h63:n + m≤maxLen) (hbytes:(n + m) * i.bytes≤140737488355328) :
  ∃ (c':Nat) (rest:Array Value),(Builtin.append_ #[t,t] ty #[.slice p n cap,.slice q m c]).run P w=.ok (.slice (some ⟨w.heap.size,0,none⟩) (n + m) c') (w.drew.alloc (.cells (olds.toArray ++ news.toArray ++ rest) e))∧n + m≤c'∧c'≤maxLen∧rest.size=(c' - (n + m)) * i.size:=by
 have hsmall:n + m≤9223372036854775807:=by simp only [maxLen] at h63;omega
 obtain ⟨b',o',rfl,hq⟩:=hq
 refine ⟨grownCap w (n + m) cap e,Builtin.zeroCells z.cells (grownCap w (n + m) cap e - (n + m)),?_,grownCap_ge _ _ _ _,grownCap_le_maxLen _ _ _ _ h63,by rw [size_zeroCells,hzs]⟩
 cases p with
 | none =>
  have hc:=hpn rfl
  subst hc
  obtain rfl:n=0:=by omega
  have ho:olds=[]:=List.eq_nil_of_length_eq_zero (by simpa using hlo)
  subst ho
  have hr:=run_append_nil (P:=P) w t ty e i z ht hi hz ⟨b',o',none⟩ m c news hl (fun j u hu=>by rw [BW];exact hq j u hu) hm (by omega) (by simp only [Nat.zero_add] at hbytes;omega)
  rw [hr]
  simp
 | some ad =>
  have hr:=run_append_grow (P:=P) w t ty e i z ht hi hz ad n cap olds hlo (fun j u hu=>by
   by_cases h0:n=0
   ·subst h0
    have ho:olds=[]:=List.eq_nil_of_length_eq_zero (by simpa using hlo)
    subst ho
    simp at hu
   ·obtain ⟨b,o,hb,hc⟩:=hold h0
    cases hb
    rw [BW]
    exact hc j u hu) ⟨b',o',none⟩ m c news hl (fun j u hu=>by rw [BW];exact hq j u hu) hg (by omega) (growslice_fits hg hbytes)
  exact hr
theorem Cn {t ty e:TypeId} {i:TypeInfo} (ht:P.underlying t=some (.slice e)) (hi:P.info? e=some i) {p:Option Addr} {n cap:Nat} (hnc:n≤cap) (q:Option Addr) (c:Nat) :
  (Builtin.append_ #[t,t] ty #[.slice p n cap,.slice q 0 c]).run P w=.ok (.slice p n cap) w:=by
 cases q <;> cases p <;> simp [Builtin.append_,run_underlying ht,sizeOf,typeInfo,hi,Builtin.lenOf,Builtin.firstCells,hnc,loadCells,loadCellsFrom,storeCells]
theorem Cj {vs:List Value} {wd:Nat} {xs:List (List SV)} (h:BC σ vs wd xs) {A:Array Value} (hA:∀ (j:Nat) (v:Value),vs[j]?=some v→A[j]?=some v):∀ k x j y,xs[k]?=some x→x[j]?=some y→∃ v,A[k * wd + j]?=some v∧A0 σ v y:=fun k x j y hx hy=>by
 obtain ⟨v,v1,v2⟩:=h.2 k x j y hx hy
 exact ⟨v,hA _ _ v1,v2⟩
theorem JD {S':AA} {ι':As} {w':World} {g q cap wd:Nat} {e:TypeId} {vs:Array Value} {xs:List (List SV)} {p:Option Addr} (hp:p=some ⟨g,q,none⟩) (hw:w'.heap[g]?=some (.cells vs e (0,0))) (hn:xs.length≤cap) (hc:cap≤maxLen) (hsz:vs.size=q + cap * wd) {σ1:Sto}
  (hl:BC σ1 (vs.toList.drop q) wd xs) (hs:∀ p x,σ1 p=some x→D3 σ w' g (q + xs.length * wd) p=some x) (hfree:∀ p:Addr,p.block=g→σ p ≠ none→p.off < q + xs.length * wd):Bc (D3 σ w' g (q + xs.length * wd)) S' ι' w' ⟨p,cap,some g⟩ (.arow e wd xs):=by
 refine .arow rfl hp hw hn hc hsz hl.1 (fun k x j y hx hy=>?_) (fun p hp hne=>?_) (fun _ q2 q3=>by rw [HV (by have:=Nat.mul_pos (List.length_pos_iff.2 q3) (show 0 < wd by omega);omega),F4 hw])
 ·obtain ⟨v,v1,v2⟩:=hl.2 k x j y hx hy
  have hk:=(List.getElem?_eq_some_iff.1 hx).1
  have hj:j < wd:=by
   rw [← hl.1 x (List.mem_of_getElem? hx)]
   exact (List.getElem?_eq_some_iff.1 hy).1
  have hlt:q + (k * wd + j) < q + xs.length * wd:=by
   have:(k + 1) * wd≤xs.length * wd:=Nat.mul_le_mul_right _ hk
   rw [Nat.add_mul] at this
   omega
  rw [List.getElem?_drop] at v1
  refine ⟨v,by simpa using v1,v2.mono hs,?_⟩
  rw [MB hlt,cell_of_row w' g _ _ _ _ hw]
  simpa using v1
 ·unfold D3 at hne
  split at hne
  ·rename_i h;exact h.2.2
  ·exact hfree p hp hne
theorem Hl {S':AA} {ι':As} {w':World} {g cap wd:Nat} {e:TypeId} {vs:Array Value} {xs:List (List SV)} {p:Option Addr} (hp:p=some ⟨g,0,none⟩) (hw:w'.heap[g]?=some (.cells vs e (0,0))) (hn:xs.length≤cap) (hc:cap≤maxLen) (hsz:vs.size=cap * wd) {σ1:Sto}
  (hl:BC σ1 vs.toList wd xs) (hs:∀ p x,σ1 p=some x→D3 σ w' g (xs.length * wd) p=some x) (hfree:∀ p:Addr,p.block=g→σ p ≠ none→p.off < xs.length * wd):Bc (D3 σ w' g (xs.length * wd)) S' ι' w' ⟨p,cap,some g⟩ (.arow e wd xs):=by
 have:=JD (S':=S') (ι':=ι') (q:=0) hp hw hn hc (by omega) (σ1:=σ1) hl (by simpa using hs) (by simpa using hfree)
 simpa using this
theorem Hh (t ty e:TypeId) (i:TypeInfo) (ht:P.underlying t=some (.slice e)) (hi:P.info? e=some i)
  (g q sLen sCap:Nat) (cur:Array Value) (hg:w.heap[g]?=some (.cells cur e (0,0)))
  (a:Addr) (m c:Nat) (news:List Value) (hl:news.length=m * i.size) (hnews:∀ j u,news[j]?=some u→w.cell? (a.add j)=some u) (h1:∀ u ∈ news,u.oneCell'=true)
  (hroom:sLen + m≤sCap) (hfit:q + sLen * i.size + news.length≤cur.size) :
  (Builtin.append_ #[t,t] ty #[.slice (some ⟨g,q,none⟩) sLen sCap,.slice (some a) m c]).run P w =
   .ok (.slice (some ⟨g,q,none⟩) (sLen + m) sCap) (w.setRow g (cur.toList.take (q + sLen * i.size) ++ news ++ cur.toList.drop (q + sLen * i.size + news.length)).toArray):=by
 have hf:=run_firstCells_some (P:=P) w i.size m a m c news hl hnews
 have hst:=run_storeCells_at P g (q + sLen * i.size) e news 0 cur w hg (by simpa using hfit) h1
 simp only [Nat.add_zero] at hst
 simp [Builtin.append_,run_underlying ht,sizeOf,typeInfo,hi,Builtin.lenOf,hroom,hf,Addr.add_lit,hst]
theorem Nj {t e:TypeId} {i:TypeInfo} {z:Value} {x y:Operand} {x' y':Opd} {mu:Bool} (ho:o.op=.call { callee:=.builtin .append,args:=#[x,y],argTypes:=#[t,t] }) (hx:AM C.n x=some x') (hy:AM C.n y=some y')
  (ht:P.underlying t=some (.slice e)) (hi:P.info? e=some i) (hz:i.zero=some z) (hzs:z.cells.size=i.size) (hpos:0 < i.size) (R:AT C σ ι s a w) (h:Kd.go P d s K (.append mu e i.size i.bytes x' y')):BF P C o a w K:=by
 have rx:=R.ev hx
 have ry:=R.ev hy
 have hex:∀ v w',(Builtin.append_ #[t,t] o.type #[a.eval x,a.eval y]).run P w=.ok v w'→(execOp a.eval o).run P w=.ok (.value v) w':=fun v w' hr=>by
  simp only [execOp,ho,resolve,invoke,builtin,Sem.run_bind,Sem.run_pure,Result.andThen_ok,List.map_toArray,List.map_cons,List.map_nil,hr]
 simp only [Kd.go] at h
 split at h
 ·rename_i cx cy e1 e2
  rw [e1] at rx
  rw [e2] at ry
  replace rx:=Aa rx
  replace ry:=Aa ry
  split at h
  ·rename_i ys hys
   obtain ⟨hyw,h⟩:=h
   obtain ⟨q,c,news,hvy,hnl,hnlaid,hn1,hncell⟩:=R.src ry hys hyw hpos
   have fresh:∀ (p:Option Addr) (xs:List (List SV)) (cap:Nat) (olds:List Value),a.eval x=.slice p xs.length cap→olds.length=xs.length * i.size→(p=none→cap=0)→xs.length≤cap→(xs.length ≠ 0→∃ b o,p=some ⟨b,o,none⟩∧∀ j u,olds[j]?=some u→w.cell? ⟨b,o + j,none⟩=some u)→BC σ olds i.size xs→ys ≠ []→cap < xs.length + ys.length →
     xs.length + ys.length≤maxLen→(xs.length + ys.length) * i.bytes≤140737488355328 →
     ∃ c' A,(execOp a.eval o).run P w=.ok (.value (.slice (some ⟨w.heap.size,0,none⟩) (xs ++ ys).length c')) (w.drew.alloc (.cells A e))∧(xs ++ ys).length≤c'∧c'≤maxLen∧A.size=c' * i.size∧BC σ A.toList i.size (xs ++ ys) :=
    fun p xs cap olds hv hol hpn hnc hold hlaid hne hg h63 hby=>by
     have hm:0 < ys.length:=List.length_pos_iff.2 hne
     obtain ⟨b,oo,hq,hq2⟩:=hncell hne
     obtain ⟨c',rest,r1,r2,r3,r4⟩:=KR (P:=P) (ty:=o.type) (w:=w) ht hi hz hzs hol hpn hnc hold (q:=q) (m:=ys.length) (c:=c) hnl hm ⟨b,oo,hq,hq2⟩ hg h63 hby
     refine ⟨c',_,hex _ _ (by rw [hv,hvy,r1,List.length_append]),by simpa using r2,r3,?_,?_⟩
     ·simp only [Array.size_append,List.size_toArray,hol,hnl,r4,← Nat.add_mul]
      congr 1
      omega
     ·have:=(hlaid.append hnlaid hol).more rest.toList
      simpa using this
   split at h
   ·-- nothing owned yet
    rename_i xs
    obtain ⟨hid,hnil,hxw,h63,hby,hK⟩:=h
    have hr:=DM rx
    obtain ⟨p,cap,olds,k1,k2,k3,k4,k5,k6,k7,b,oo,k8,k9⟩:=F7 hr hxw hpos
    have hcap:cap=xs.length:=by
     generalize a.eval x=v at rx k1
     subst k1
     cases rx with | full _=>rfl
    by_cases hne:ys=[]
    ·subst hne
     subst hcap
     have hrun:=hex _ _ (by rw [k1,hvy];exact Cn (P:=P) (w:=w) (ty:=o.type) ht hi (p:=p) (n:=xs.length) (cap:=xs.length) (Nat.le_refl _) q c)
     cases mu with
     | true =>
      have hxs:=hnil rfl rfl
      subst hxs
      simp only [if_true] at hK
      obtain ⟨hu,R'⟩:=R.fresh (w':=w) hid (.mrow e i.size ([] ++ [])) ⟨p,0,none⟩ (Ext.refl _ _) R.fit (Below.refl _ _) (by simp) (fun S' ι' hu=>.mnil rfl rfl)
      exact ⟨_,_,_,σ,_,w,.inl hrun,hK,R',.one (.row (b:=.mrow e i.size ([] ++ [])) (by simp [AS.set,AD]) (Nat.le_refl _) rfl fun _=>by simp [AD])⟩
     | false =>
      simp only [Bool.false_eq_true,if_false,List.append_nil] at hK
      rw [k1] at hr
      obtain ⟨hu,R'⟩:=R.fresh (w':=w) hid (.arow e i.size xs) ⟨p,xs.length,none⟩ (Ext.refl _ _) R.fit (Below.refl _ _) (by simp) (fun S' ι' hu=>.afull rfl rfl hxw hr)
      exact ⟨_,_,_,σ,_,w,.inl hrun,hK,R',.one (.row (b:=.arow e i.size xs) (by simp [AS.set,AD]) (Nat.le_refl _) rfl fun _=>by simp [AD])⟩
    ·have hm:0 < ys.length:=List.length_pos_iff.2 hne
     obtain ⟨c',A,r1,r2,r3,r4,r5⟩:=fresh p xs cap olds k1 k5 k4 k2 (fun h0=>⟨b,oo,k8 (by intro e;subst e;simp at h0),fun j u hu=>R.fit _ _ (k9 j u hu)⟩) k6 hne (by omega) h63 hby
     have hheap:(w.drew.alloc (.cells A e)).heap[w.heap.size]?=some (.cells A e (0,0)):=heap_alloc_new w.drew _
     have hmore:D5 w (w.drew.alloc (.cells A e)):=(Below.refl _ _).drew.alloc (Nat.le_refl _) _
     cases mu with
     | true =>
      simp only [if_true] at hK
      obtain ⟨hu,R'⟩:=R.fresh (w':=w.drew.alloc (.cells A e)) hid (.mrow e i.size (xs ++ ys)) ⟨some ⟨w.heap.size,0,none⟩,c',some w.heap.size⟩ (Ext.refl _ _) (R.fit.below hmore) hmore (by simp) (fun S' ι' hu=>.mrow rfl rfl hheap r2 r3 r4 r5.1 (Cj r5 fun j v hv=>by simpa using hv) (fun p hp=>R.fit.no (by omega)))
      exact ⟨_,_,_,σ,_,_,.inl r1,hK,R',.one (.row (b:=.mrow e i.size (xs ++ ys)) (by simp [AS.set,AD]) (Nat.le_refl _) rfl fun _=>by simp [AD])⟩
     | false =>
      simp only [Bool.false_eq_true,if_false] at hK
      obtain ⟨hu,R'⟩:=R.fresh (w':=w.drew.alloc (.cells A e)) hid (.arow e i.size (xs ++ ys)) ⟨some ⟨w.heap.size,0,none⟩,c',some w.heap.size⟩ (Ext.lay (k:=(xs ++ ys).length * i.size) R.fit (Nat.le_refl _)) (EW (R.fit.below hmore)) hmore (by simp)
       (fun S' ι' hu=>Hl rfl hheap r2 r3 r4 r5 (Ext.lay R.fit (Nat.le_refl _)).keep (fun p hp hne=>absurd (R.fit.no (by omega)) hne))
      exact ⟨_,_,_,_,_,_,.inl r1,hK,R',.one (.row (b:=.arow e i.size (xs ++ ys)) (by simp [AS.set,AD]) (Nat.le_refl _) rfl fun _=>by simp [AD])⟩
   ·rename_i id m
    obtain ⟨b,hb1,hb2,hb3⟩:=DD rx
    split at h
    ·-- a row that only grows
     rename_i e' wd' xs hS
     obtain ⟨⟨rfl,rfl,rfl⟩,h63,hby,hK⟩:=h
     rw [hS] at hb1
     cases hb1
     have hv:=hb3 rfl
     have hb:=R.blk _ _ hS
     by_cases hne:ys=[]
     ·subst hne
      have hnc:xs.length≤(ι id).cap:=by cases hb <;> first | exact Nat.zero_le _ | assumption | omega
      have hrun:=hex _ _ (by rw [hv,hvy];exact Cn (P:=P) (w:=w) (ty:=o.type) ht hi (p:=(ι id).p) hnc q c)
      have hset:s.set id (.arow e' i.size (xs ++ []))=s:=by
       rw [List.append_nil]
       obtain ⟨env,S⟩:=s
       simp only [AS.set,AS.mk.injEq,true_and]
       funext k
       unfold AK
       split
       ·rename_i hk;subst hk;exact hS.symm
       ·rfl
      rw [hset] at hK
      refine ⟨_,_,s,σ,ι,w,.inl hrun,hK,R,?_⟩
      rw [List.append_nil]
      exact .one (.row hS (Nat.le_refl _) rfl fun _=>rfl)
     ·have hm:0 < ys.length:=List.length_pos_iff.2 hne
      have grow:∀ (olds:List Value),olds.length=xs.length * i.size→((ι id).p=none→(ι id).cap=0)→xs.length≤(ι id).cap→(xs.length ≠ 0→∃ b o,(ι id).p=some ⟨b,o,none⟩∧∀ j u,olds[j]?=some u→w.cell? ⟨b,o + j,none⟩=some u)→BC σ olds i.size xs→(ι id).cap < xs.length + ys.length→BF P C o a w K:=fun olds ho1 ho2 ho3 ho4 ho5 ho6=>by
       obtain ⟨c',A,r1,r2,r3,r4,r5⟩:=fresh _ xs _ olds hv ho1 ho2 ho3 ho4 ho5 hne ho6 h63 hby
       have hheap:(w.drew.alloc (.cells A e')).heap[w.heap.size]?=some (.cells A e' (0,0)):=heap_alloc_new w.drew _
       have hmore:D5 w (w.drew.alloc (.cells A e')):=(Below.refl _ _).drew.alloc (Nat.le_refl _) _
       obtain ⟨hu,R'⟩:=R.turn (w':=w.drew.alloc (.cells A e')) hS (.arow e' i.size (xs ++ ys)) ⟨some ⟨w.heap.size,0,none⟩,c',some w.heap.size⟩ (σ':=D3 σ (w.drew.alloc (.cells A e')) w.heap.size ((xs ++ ys).length * i.size)) (Ext.lay R.fit (Nat.le_refl _)).keep
        (fun p hp hlt=>Fb (by omega)) (EW (R.fit.below hmore)) (by simp [AU.len]) (fun he=>absurd (by simpa [AU.len] using he) hne) ⟨rfl,rfl,rfl⟩ hmore.size (fun g hg _=>hmore.block g hg) (fun g hg=>.inr (by simp at hg;omega))
        (fun hu=>Hl rfl hheap r2 r3 r4 r5 (Ext.lay R.fit (Nat.le_refl _)).keep (fun p hp hne=>absurd (R.fit.no (by omega)) hne))
       exact ⟨_,_,_,_,_,_,.inl r1,hK,R',.one (.row (b:=.arow e' i.size (xs ++ ys)) (by simp [AS.set,AD]) (Nat.le_refl _) rfl fun _=>by simp [AD])⟩
      cases hb with
      | afull k1 k2 k3 k4 =>
       obtain ⟨p,cap,olds,j1,j2,j3,j4,j5,j6,j7,b,oo,j8,j9⟩:=F7 k4 k3 hpos
       simp only [Value.slice.injEq] at j1
       obtain ⟨rfl,-,rfl⟩:=j1
       exact grow olds j5 j4 j2 (fun h0=>⟨b,oo,j8 (by intro e;subst e;simp at h0),fun j u hu=>R.fit _ _ (j9 j u hu)⟩) j6 (by omega)
      | @arow _ _ _ g vs q0 k1 k2 k3 k4 k5 k6 k7 k8 k9 kh =>
       have hlaid:BC σ ((vs.toList.drop q0).take (xs.length * i.size)) i.size xs:=⟨k7,fun k x j y hx hy=>by
        obtain ⟨v,v1,v2,v3⟩:=k8 k x j y hx hy
        have hlt:=k9 _ rfl (by rw [v3];simp)
        exact ⟨v,by rw [List.getElem?_take,if_pos (by simp only at hlt;omega),List.getElem?_drop];simpa using v1,v2⟩⟩
       have hcapw:xs.length * i.size≤(ι id).cap * i.size:=Nat.mul_le_mul_right _ k4
       have htl:((vs.toList.drop q0).take (xs.length * i.size)).length=xs.length * i.size:=by simp;omega
       have htl2:(vs.toList.take (q0 + xs.length * i.size)).length=q0 + xs.length * i.size:=by simp;omega
       by_cases hroom:xs.length + ys.length≤(ι id).cap
       ·have hcapw2:(xs.length + ys.length) * i.size≤(ι id).cap * i.size:=Nat.mul_le_mul_right _ hroom
        rw [Nat.add_mul] at hcapw2
        obtain ⟨bq,oq,hq,hq2⟩:=hncell hne
        have hr:=Hh (P:=P) (w:=w) t o.type e' i ht hi g q0 xs.length (ι id).cap vs k3 ⟨bq,oq,none⟩ ys.length c news hnl (fun j u hu=>by rw [BW];exact hq2 j u hu) hn1 hroom (by omega)
        have hrun:=hex _ _ (by rw [hv,hvy,k2,hq];exact hr)
        generalize hA:(vs.toList.take (q0 + xs.length * i.size) ++ news ++ vs.toList.drop (q0 + xs.length * i.size + news.length)).toArray=A at hrun
        have hAl:A.toList=vs.toList.take (q0 + xs.length * i.size) ++ news ++ vs.toList.drop (q0 + xs.length * i.size + news.length):=by rw [← hA]
        have hAs:A.size=q0 + (ι id).cap * i.size:=by
         rw [← hA]
         simp only [List.size_toArray,List.length_append,htl2,List.length_drop,Array.length_toList]
         omega
        have hheap:(w.setRow g A).heap[g]?=some (.cells A e' (0,0)):=setRow_heap w _ _ _ _ _ k3
        have hl:BC σ (A.toList.drop q0) i.size (xs ++ ys):=by
         rw [hAl,List.append_assoc,List.drop_append_of_le_length (by omega),List.drop_take,Nat.add_sub_cancel_left,← List.append_assoc]
         exact (hlaid.append hnlaid htl).more _
        have hkeepc:∀ j u,σ ⟨g,j,none⟩=some u→(w.setRow g A).cell? ⟨g,j,none⟩=some u:=fun j u hu=>by
         have hlt:=k9 ⟨g,j,none⟩ rfl (by rw [hu];simp)
         have h1:=R.fit _ _ hu
         rw [B6 rfl] at h1
         rw [cell_of_row w g _ _ _ _ k3] at h1
         rw [cell_of_row _ g _ _ _ _ hheap]
         have:A.toList[j]?=some u:=by
          rw [hAl,List.append_assoc,List.getElem?_append_left (by rw [htl2];exact hlt),List.getElem?_take,if_pos hlt]
          simpa using h1
         simpa using this
        have hkeepg:∀ (p:Addr) (u:Value),p.block=g→σ p=some u→Ca (w.setRow g A) p=some u:=fun p u hb hp=>by
         obtain ⟨pb,po,ps⟩:=p
         have hb':pb=g:=hb
         clear hb
         rw [hb'] at hp ⊢
         match ps,hp with
         | none,hp=>rw [B6 rfl];exact hkeepc _ _ hp
         | some 0,hp =>
          exfalso
          have h1:=R.fit _ _ hp
          have h2:=k9 ⟨g,po,some 0⟩ rfl (by rw [hp];simp)
          unfold Ca at h1
          simp only [k3] at h1
          split at h1
          ·have h3:xs.length * i.size≤(ι id).cap * i.size:=Nat.mul_le_mul_right _ (by assumption)
           have h4:vs.size=q0 + (ι id).cap * i.size:=by assumption
           simp only at h2
           omega
          ·cases h1
         | some (n + 1),hp =>
          obtain ⟨_,_,_,rfl⟩:=Mj (R.fit _ _ hp)
          exact F4 hheap
        have hfit0:Fit σ (w.setRow g A):=fun p u hp=>by
         by_cases hb:p.block=g
         ·exact hkeepg p u hb hp
         ·exact (DS (setRow_other _ _ _ _ hb)).trans (R.fit _ _ hp)
        have hkeep:=Ft (w':=w.setRow g A) (g:=g) (k:=q0 + (xs ++ ys).length * i.size) hkeepg
        obtain ⟨hu,R'⟩:=R.turn (w':=w.setRow g A) hS (.arow e' i.size (xs ++ ys)) ⟨(ι id).p,(ι id).cap,some g⟩ (σ':=D3 σ (w.setRow g A) g (q0 + (xs ++ ys).length * i.size)) hkeep
         (fun p hp _=>Fb (fun e=>hp (by rw [e];exact k1))) (EW hfit0) (by simp [AU.len]) (fun he=>absurd (by simpa [AU.len] using he) hne) (BU _ _) (by simp) (fun k hk hne=>setRow_other _ _ _ _ (fun e=>hne (by rw [e];exact k1))) (fun g' hg'=>.inl (by simp at hg';subst hg';exact k1))
         (fun hu=>JD k2 hheap (by simpa using hroom) k5 hAs hl hkeep (fun p hp hne=>by have:=k9 p hp hne;simp [Nat.add_mul];omega))
        exact ⟨_,_,_,_,_,_,.inl hrun,hK,R',.one (.row (b:=.arow e' i.size (xs ++ ys)) (by simp [AS.set,AD]) (Nat.le_refl _) rfl fun _=>by simp [AD,k2])⟩
       ·exact grow _ htl (by rw [k2];simp) k4 (fun _=>⟨g,q0,k2,fun j u hu=>by
         rw [List.getElem?_take] at hu
         split at hu
         ·rw [List.getElem?_drop] at hu
          rw [cell_of_row w g _ _ _ _ k3]
          simpa using hu
         ·cases hu⟩) hlaid (by omega)
    ·-- a row that is written
     rename_i e' wd' xs hS
     obtain ⟨⟨rfl,rfl,rfl⟩,h63,hby,hK⟩:=h
     rw [hS] at hb1
     cases hb1
     have hv:=hb3 rfl
     have hb:=R.blk _ _ hS
     by_cases hne:ys=[]
     ·subst hne
      have hnc:xs.length≤(ι id).cap:=by cases hb <;> first | exact Nat.zero_le _ | assumption | omega
      have hrun:=hex _ _ (by rw [hv,hvy];exact Cn (P:=P) (w:=w) (ty:=o.type) ht hi (p:=(ι id).p) hnc q c)
      have hset:s.set id (.mrow e' i.size (xs ++ []))=s:=by
       rw [List.append_nil]
       obtain ⟨env,S⟩:=s
       simp only [AS.set,AS.mk.injEq,true_and]
       funext k
       unfold AK
       split
       ·rename_i hk;subst hk;exact hS.symm
       ·rfl
      rw [hset] at hK
      refine ⟨_,_,s,σ,ι,w,.inl hrun,hK,R,?_⟩
      rw [List.append_nil]
      exact .one (.row hS (Nat.le_refl _) rfl fun _=>rfl)
     ·have hm:0 < ys.length:=List.length_pos_iff.2 hne
      have grow:∀ (olds:List Value),olds.length=xs.length * i.size→((ι id).p=none→(ι id).cap=0)→xs.length≤(ι id).cap→(xs.length ≠ 0→∃ b o,(ι id).p=some ⟨b,o,none⟩∧∀ j u,olds[j]?=some u→w.cell? ⟨b,o + j,none⟩=some u)→BC σ olds i.size xs→(ι id).cap < xs.length + ys.length→BF P C o a w K:=fun olds ho1 ho2 ho3 ho4 ho5 ho6=>by
       obtain ⟨c',A,r1,r2,r3,r4,r5⟩:=fresh _ xs _ olds hv ho1 ho2 ho3 ho4 ho5 hne ho6 h63 hby
       have hheap:(w.drew.alloc (.cells A e')).heap[w.heap.size]?=some (.cells A e' (0,0)):=heap_alloc_new w.drew _
       have hmore:D5 w (w.drew.alloc (.cells A e')):=(Below.refl _ _).drew.alloc (Nat.le_refl _) _
       obtain ⟨hu,R'⟩:=R.turn (w':=w.drew.alloc (.cells A e')) hS (.mrow e' i.size (xs ++ ys)) ⟨some ⟨w.heap.size,0,none⟩,c',some w.heap.size⟩ (σ':=σ) (fun _ _ h=>h)
        (fun _ _ _=>rfl) (R.fit.below hmore) (by simp [AU.len]) (fun he=>absurd (by simpa [AU.len] using he) hne) ⟨rfl,rfl,rfl⟩ hmore.size (fun g hg _=>hmore.block g hg) (fun g hg=>.inr (by simp at hg;omega))
        (fun hu=>.mrow rfl rfl hheap r2 r3 r4 r5.1 (Cj r5 fun j v hv=>by simpa using hv) (fun p hp=>R.fit.no (by omega)))
       exact ⟨_,_,_,_,_,_,.inl r1,hK,R',.one (.row (b:=.mrow e' i.size (xs ++ ys)) (by simp [AS.set,AD]) (Nat.le_refl _) rfl fun _=>by simp [AD])⟩
      cases hb with
      | mnil k1 k2=>exact grow [] (by simp) (fun _=>k2) (Nat.zero_le _) (by simp) BC.nil (by rw [k2];simpa using hm)
      | @mrow _ _ _ g vs k1 k2 k3 k4 k5 k6 k7 k8 k9 =>
       have hlaid:BC σ (vs.toList.take (xs.length * i.size)) i.size xs:=⟨k7,fun k x j y hx hy=>by
        obtain ⟨v,v1,v2⟩:=k8 k x j y hx hy
        have hk:=(List.getElem?_eq_some_iff.1 hx).1
        have hj:j < i.size:=by
         rw [← k7 x (List.mem_of_getElem? hx)]
         exact (List.getElem?_eq_some_iff.1 hy).1
        have hlt:k * i.size + j < xs.length * i.size:=by
         have:(k + 1) * i.size≤xs.length * i.size:=Nat.mul_le_mul_right _ hk
         rw [Nat.add_mul] at this
         omega
        exact ⟨v,by rw [List.getElem?_take,if_pos hlt];simpa using v1,v2⟩⟩
       have hcapw:xs.length * i.size≤(ι id).cap * i.size:=Nat.mul_le_mul_right _ k4
       have htl:(vs.toList.take (xs.length * i.size)).length=xs.length * i.size:=by simp;omega
       by_cases hroom:xs.length + ys.length≤(ι id).cap
       ·have hcapw2:(xs.length + ys.length) * i.size≤(ι id).cap * i.size:=Nat.mul_le_mul_right _ hroom
        rw [Nat.add_mul] at hcapw2
        obtain ⟨bq,oq,hq,hq2⟩:=hncell hne
        have hr:=run_append_room (P:=P) w t o.type e' i ht hi g xs.length (ι id).cap vs k3 ⟨bq,oq,none⟩ ys.length c news hnl (fun j u hu=>by rw [BW];exact hq2 j u hu) hn1 hroom (by omega)
        have hrun:=hex _ _ (by rw [hv,hvy,k2,hq];exact hr)
        generalize hA:(vs.toList.take (xs.length * i.size) ++ news ++ vs.toList.drop (xs.length * i.size + news.length)).toArray=A at hrun
        have hAl:A.toList=vs.toList.take (xs.length * i.size) ++ news ++ vs.toList.drop (xs.length * i.size + news.length):=by rw [← hA]
        have hAs:A.size=(ι id).cap * i.size:=by
         rw [← hA]
         simp only [List.size_toArray,List.length_append,htl,List.length_drop,Array.length_toList]
         omega
        have hheap:(w.setRow g A).heap[g]?=some (.cells A e' (0,0)):=setRow_heap w _ _ _ _ _ k3
        have hl:BC σ A.toList i.size (xs ++ ys):=by
         rw [hAl]
         exact (hlaid.append hnlaid htl).more _
        obtain ⟨hu,R'⟩:=R.turn (w':=w.setRow g A) hS (.mrow e' i.size (xs ++ ys)) ⟨(ι id).p,(ι id).cap,some g⟩ (σ':=σ) (fun _ _ h=>h)
         (fun _ _ _=>rfl) (R.fit.row k9 fun k hk=>setRow_other _ _ _ _ hk) (by simp [AU.len]) (fun he=>absurd (by simpa [AU.len] using he) hne) (BU _ _) (by simp) (fun k hk hne=>setRow_other _ _ _ _ (fun e=>hne (by rw [e];exact k1))) (fun g' hg'=>.inl (by simp at hg';subst hg';exact k1))
         (fun hu=>.mrow rfl k2 hheap (by simpa using hroom) k5 hAs hl.1 (Cj hl fun j v hv=>by simpa using hv) k9)
        exact ⟨_,_,_,_,_,_,.inl hrun,hK,R',.one (.row (b:=.mrow e' i.size (xs ++ ys)) (by simp [AS.set,AD]) (Nat.le_refl _) rfl fun _=>by simp [AD,k2])⟩
       ·exact grow _ htl (by rw [k2];simp) k4 (fun _=>⟨g,0,k2,fun j u hu=>by
         rw [List.getElem?_take] at hu
         split at hu
         ·rw [Nat.zero_add,cell_of_row w g _ _ _ _ k3]
          simpa using hu
         ·cases hu⟩) hlaid (by omega)
    ·exact h.elim
   ·exact h.elim
  ·exact h.elim
 ·exact h.elim
theorem F6 {vs:List Value} {wd:Nat} {xs:List (List SV)} (h:BC σ vs wd xs) (k:Nat):BC σ (vs.take (k * wd)) wd (xs.take k):=by
 refine ⟨fun x hx=>h.1 x (List.mem_of_mem_take hx),fun kk x j y hx hy=>?_⟩
 rw [List.getElem?_take] at hx
 split at hx
 ·rename_i hlt
  obtain ⟨v,v1,v2⟩:=h.2 kk x j y hx hy
  have hj:j < wd:=by
   rw [← h.1 x (List.mem_of_getElem? hx)]
   exact (List.getElem?_eq_some_iff.1 hy).1
  have hlt2:kk * wd + j < k * wd:=by
   have:(kk + 1) * wd≤k * wd:=Nat.mul_le_mul_right _ hlt
   rw [Nat.add_mul] at this
   omega
  exact ⟨v,by rw [List.getElem?_take,if_pos hlt2];exact v1,v2⟩
 ·cases hx
theorem Hn {vs:List Value} {wd:Nat} {xs:List (List SV)} (h:BC σ vs wd xs) (k:Nat):BC σ (vs.drop (k * wd)) wd (xs.drop k):=by
 refine ⟨fun x hx=>h.1 x (List.mem_of_mem_drop hx),fun kk x j y hx hy=>?_⟩
 rw [List.getElem?_drop] at hx
 obtain ⟨v,v1,v2⟩:=h.2 _ x j y hx hy
 refine ⟨v,?_,v2⟩
 rw [List.getElem?_drop,← v1]
 congr 1
 rw [Nat.add_mul]
 omega
theorem KP (b:ByteArray):BC σ (Lib.strCells b) 1 (Ap b):=by
 refine ⟨fun x hx=>?_,fun k x j y hx hy=>?_⟩
 ·unfold Ap at hx
  obtain ⟨c,_,rfl⟩:=List.mem_map.1 hx
  rfl
 ·unfold Ap at hx
  rw [List.getElem?_map,Option.map_eq_some_iff] at hx
  obtain ⟨c,hc,rfl⟩:=hx
  cases j with
  | succ j=>simp at hy
  | zero =>
   simp only [List.getElem?_cons_zero,Option.some.injEq] at hy
   subst hy
   refine ⟨.int .u8 (c.toNat:Int),?_,.int ?_⟩
   ·unfold Lib.strCells
    rw [Nat.mul_one,Nat.add_zero,List.getElem?_map,hc]
    rfl
   ·have:=c.toNat_lt
    simp only [inR,IntKind.min,IntKind.max,IntKind.signed,IntKind.bits]
    constructor <;> simp <;> omega
theorem GG {t u ty e:TypeId} {i:TypeInfo} (ht:P.underlying t=some (.slice e)) (hu:P.underlying u=some .string) (hi:P.info? e=some i) {p:Option Addr} {n cap:Nat} (hnc:n≤cap) {b:ByteArray} (hb:b.size=0) :
  (Builtin.append_ #[t,u] ty #[.slice p n cap,.string b]).run P w=.ok (.slice p n cap) w:=by
 have hbd:b.data=#[]:=Array.eq_empty_of_size_eq_zero hb
 cases p <;> simp [Builtin.append_,run_underlying ht,run_underlying hu,sizeOf,typeInfo,hi,Builtin.lenOf,Builtin.firstCells,hnc,storeCells,hb,hbd]
theorem It {t u ty e:TypeId} {i:TypeInfo} (ht:P.underlying t=some (.slice e)) (hu:P.underlying u=some .string) (hi:P.info? e=some i) (hz:i.zero=some (.int .u8 0)) (hs1:i.size=1) (hb1:i.bytes=1) {p:Option Addr} {n cap:Nat} {olds:List Value} (hlo:olds.length=n * 1) (hpn:p=none→cap=0) (hnc:n≤cap)
  (hold:n ≠ 0→∃ b o,p=some ⟨b,o,none⟩∧∀ j u,olds[j]?=some u→w.cell? ⟨b,o + j,none⟩=some u) {b:ByteArray} (hm:0 < b.size)
  (hg:cap < n + b.size) (h63:n + b.size≤140737488355328) :
  ∃ (c':Nat) (rest:Array Value),(Builtin.append_ #[t,u] ty #[.slice p n cap,.string b]).run P w=.ok (.slice (some ⟨w.heap.size,0,none⟩) (n + b.size) c') (w.drew.alloc (.cells (olds.toArray ++ (Lib.strCells b).toArray ++ rest) e))∧n + b.size≤c'∧c'≤maxLen∧rest.size=c' - (n + b.size):=by
 have h63':n + b.size≤maxLen:=by simp only [maxLen];omega
 refine ⟨grownCap w (n + b.size) cap e,Builtin.zeroCells #[.int .u8 0] (grownCap w (n + b.size) cap e - (n + b.size)),?_,grownCap_ge _ _ _ _,grownCap_le_maxLen _ _ _ _ h63',by rw [size_zeroCells];simp⟩
 have hzc:(Value.int .u8 0).cells=#[.int .u8 0]:=rfl
 cases p with
 | none =>
  have hc:=hpn rfl
  subst hc
  obtain rfl:n=0:=by omega
  have ho:olds=[]:=List.eq_nil_of_length_eq_zero (by simpa using hlo)
  subst ho
  have hr:=run_append_nil_string (P:=P) w t u ty e i _ ht hu hi hz b hm (by omega) (by rw [hb1];omega)
  rw [hr,hzc]
  simp only [Nat.zero_add,List.toArray,Array.append_assoc,Result.ok.injEq,true_and]
  congr 2
  apply Array.ext'
  simp [Lib.strCells]
 | some ad =>
  have hr:=Lib.run_append_grow_string (P:=P) w t u ty e i _ ht hu hi hz ad n cap olds (by rw [hs1];exact hlo) (fun j u hu=>by
   by_cases h0:n=0
   ·subst h0
    have ho:olds=[]:=List.eq_nil_of_length_eq_zero (by simpa using hlo)
    subst ho
    simp at hu
   ·obtain ⟨b,o,hb,hc⟩:=hold h0
    cases hb
    rw [BW]
    exact hc j u hu) b hg (by omega) (growslice_fits hg (by rw [hb1];omega))
  rw [hr,hzc]
theorem Sc {t u e:TypeId} {i:TypeInfo} {x y:Operand} {x' y':Opd} (ho:o.op=.call { callee:=.builtin .append,args:=#[x,y],argTypes:=#[t,u] }) (hx:AM C.n x=some x') (hy:AM C.n y=some y')
  (ht:P.underlying t=some (.slice e)) (hu:P.underlying u=some .string) (hi:P.info? e=some i) (hz:i.zero=some (.int .u8 0)) (hs1:i.size=1) (hb1:i.bytes=1) (R:AT C σ ι s a w) (h:Kd.go P d s K (.appS e x' y')):BF P C o a w K:=by
 have rx:=R.ev hx
 have ry:=R.ev hy
 have hex:∀ v w',(Builtin.append_ #[t,u] o.type #[a.eval x,a.eval y]).run P w=.ok v w'→(execOp a.eval o).run P w=.ok (.value v) w':=fun v w' hr=>by
  simp only [execOp,ho,resolve,invoke,builtin,Sem.run_bind,Sem.run_pure,Result.andThen_ok,List.map_toArray,List.map_cons,List.map_nil,hr]
 simp only [Kd.go] at h
 split at h
 ·rename_i cx bs e1 e2
  rw [e1] at rx
  rw [e2] at ry
  replace rx:=Aa rx
  have hvy:a.eval y=.string bs:=by
   have:=B0 (Aa ry)
   generalize a.eval y=v at this
   cases this with
   | str _=>rfl
  have hnlaid:BC σ (Lib.strCells bs) 1 (Ap bs):=KP bs
  have hbl:=D6 bs
  have hnl:(Lib.strCells bs).length=bs.size:=Lib.strCells_length bs
  have hnil:bs.size=0→Ap bs=[]:=fun h0=>List.eq_nil_of_length_eq_zero (by rw [hbl,h0])
  have fresh:∀ (p:Option Addr) (xs:List (List SV)) (cap:Nat) (olds:List Value),a.eval x=.slice p xs.length cap→olds.length=xs.length * 1→(p=none→cap=0)→xs.length≤cap→(xs.length ≠ 0→∃ b o,p=some ⟨b,o,none⟩∧∀ j u,olds[j]?=some u→w.cell? ⟨b,o + j,none⟩=some u)→BC σ olds 1 xs→0 < bs.size→cap < xs.length + bs.size →
    xs.length + bs.size≤140737488355328 →
    ∃ c' A,(execOp a.eval o).run P w=.ok (.value (.slice (some ⟨w.heap.size,0,none⟩) (xs ++ Ap bs).length c')) (w.drew.alloc (.cells A e))∧(xs ++ Ap bs).length≤c'∧c'≤maxLen∧A.size=c' * 1∧BC σ A.toList 1 (xs ++ Ap bs) :=
   fun p xs cap olds hv hol hpn hnc hold hlaid hm hg h63=>by
    obtain ⟨c',rest,r1,r2,r3,r4⟩:=It (P:=P) (ty:=o.type) (w:=w) ht hu hi hz hs1 hb1 hol hpn hnc hold hm hg h63
    refine ⟨c',_,hex _ _ (by rw [hv,hvy,r1,List.length_append,hbl]),by rw [List.length_append,hbl];exact r2,r3,?_,?_⟩
    ·simp only [Array.size_append,List.size_toArray,hol,hnl,r4]
     omega
    ·have:=(hlaid.append hnlaid hol).more rest.toList
     simpa using this
  split at h
  ·-- nothing owned yet
   rename_i xs
   obtain ⟨⟨hid,rfl⟩,h63,hK⟩:=h
   have hr:=DM rx
   obtain ⟨p,cap,olds,k1,k2,k3,k4,k5,k6,k7,b,oo,k8,k9⟩:=F7 (wd:=1) hr (by simp) (by decide)
   have hcap:cap=0:=by
    generalize a.eval x=v at rx k1
    subst k1
    cases rx with | full _=>rfl
   subst hcap
   by_cases hne:bs.size=0
   ·have hrun:=hex _ _ (by rw [k1,hvy];exact GG (P:=P) (w:=w) (ty:=o.type) ht hu hi (p:=p) (n:=0) (cap:=0) (Nat.le_refl _) hne)
    rw [hnil hne,hne] at hK
    obtain ⟨hu',R'⟩:=R.fresh (w':=w) hid (.mrow e 1 []) ⟨p,0,none⟩ (Ext.refl _ _) R.fit (Below.refl _ _) (by simp) (fun S' ι' hu=>.mnil rfl rfl)
    exact ⟨_,_,_,σ,_,w,.inl hrun,hK,R',.one (.row (b:=.mrow e 1 []) (by simp [AS.set,AD]) (Nat.le_refl _) rfl fun _=>by simp [AD])⟩
   ·have hm:0 < bs.size:=by omega
    obtain ⟨c',A,r1,r2,r3,r4,r5⟩:=fresh p [] 0 olds k1 k5 (fun _=>rfl) (Nat.le_refl _) (by simp) k6 hm (by simpa using hm) (by simpa using h63)
    have hheap:(w.drew.alloc (.cells A e)).heap[w.heap.size]?=some (.cells A e (0,0)):=heap_alloc_new w.drew _
    have hmore:D5 w (w.drew.alloc (.cells A e)):=(Below.refl _ _).drew.alloc (Nat.le_refl _) _
    rw [List.nil_append] at r1 r2 r5
    rw [← hbl] at hK
    obtain ⟨hu',R'⟩:=R.fresh (w':=w.drew.alloc (.cells A e)) hid (.mrow e 1 (Ap bs)) ⟨some ⟨w.heap.size,0,none⟩,c',some w.heap.size⟩ (Ext.refl _ _) (R.fit.below hmore) hmore (by simp)
     (fun S' ι' hu=>.mrow rfl rfl hheap r2 r3 r4 r5.1 (Cj r5 fun j v hv=>by simpa using hv) (fun p hp=>R.fit.no (by omega)))
    exact ⟨_,_,_,σ,_,_,.inl r1,hK,R',.one (.row (b:=.mrow e 1 (Ap bs)) (by simp [AS.set,AD]) (Nat.le_refl _) rfl fun _=>by simp [AD])⟩
  ·rename_i id m
   obtain ⟨b,hb1',hb2,hb3⟩:=DD rx
   split at h
   ·rename_i e' wd' xs hS
    obtain ⟨⟨rfl,rfl,rfl⟩,h63,hK⟩:=h
    rw [hS] at hb1'
    cases hb1'
    have hv:=hb3 rfl
    have hb:=R.blk _ _ hS
    by_cases hne:bs.size=0
    ·have hnc:xs.length≤(ι id).cap:=by cases hb <;> first | exact Nat.zero_le _ | assumption | omega
     have hrun:=hex _ _ (by rw [hv,hvy];exact GG (P:=P) (w:=w) (ty:=o.type) ht hu hi (p:=(ι id).p) hnc hne)
     have hset:s.set id (.mrow e' 1 (xs ++ Ap bs))=s:=by
      rw [hnil hne,List.append_nil]
      obtain ⟨env,S⟩:=s
      simp only [AS.set,AS.mk.injEq,true_and]
      funext k
      unfold AK
      split
      ·rename_i hk;subst hk;exact hS.symm
      ·rfl
     rw [hset,hne,Nat.add_zero] at hK
     exact ⟨_,_,s,σ,ι,w,.inl hrun,hK,R,.one (.row hS (Nat.le_refl _) rfl fun _=>rfl)⟩
    ·have hm:0 < bs.size:=by omega
     have hne':Ap bs ≠ []:=fun h0=>by rw [h0] at hbl;simp at hbl;omega
     rw [show xs.length + bs.size=(xs ++ Ap bs).length by rw [List.length_append,hbl]] at hK
     have grow:∀ (olds:List Value),olds.length=xs.length * 1→((ι id).p=none→(ι id).cap=0)→xs.length≤(ι id).cap→(xs.length ≠ 0→∃ b o,(ι id).p=some ⟨b,o,none⟩∧∀ j u,olds[j]?=some u→w.cell? ⟨b,o + j,none⟩=some u)→BC σ olds 1 xs→(ι id).cap < xs.length + bs.size→BF P C o a w K:=fun olds ho1 ho2 ho3 ho4 ho5 ho6=>by
      obtain ⟨c',A,r1,r2,r3,r4,r5⟩:=fresh _ xs _ olds hv ho1 ho2 ho3 ho4 ho5 hm ho6 h63
      have hheap:(w.drew.alloc (.cells A e')).heap[w.heap.size]?=some (.cells A e' (0,0)):=heap_alloc_new w.drew _
      have hmore:D5 w (w.drew.alloc (.cells A e')):=(Below.refl _ _).drew.alloc (Nat.le_refl _) _
      obtain ⟨hu',R'⟩:=R.turn (w':=w.drew.alloc (.cells A e')) hS (.mrow e' 1 (xs ++ Ap bs)) ⟨some ⟨w.heap.size,0,none⟩,c',some w.heap.size⟩ (σ':=σ) (fun _ _ h=>h)
       (fun _ _ _=>rfl) (R.fit.below hmore) (by simp [AU.len]) (fun he=>absurd (by simpa [AU.len] using he) hne') ⟨rfl,rfl,rfl⟩ hmore.size (fun g hg _=>hmore.block g hg) (fun g hg=>.inr (by simp at hg;omega))
       (fun hu=>.mrow rfl rfl hheap r2 r3 r4 r5.1 (Cj r5 fun j v hv=>by simpa using hv) (fun p hp=>R.fit.no (by omega)))
      exact ⟨_,_,_,_,_,_,.inl r1,hK,R',.one (.row (b:=.mrow e' 1 (xs ++ Ap bs)) (by simp [AS.set,AD]) (Nat.le_refl _) rfl fun _=>by simp [AD])⟩
     cases hb with
     | mnil k1 k2=>exact grow [] (by simp) (fun _=>k2) (Nat.zero_le _) (by simp) BC.nil (by rw [k2];simpa using hm)
     | @mrow _ _ _ g vs k1 k2 k3 k4 k5 k6 k7 k8 k9 =>
      have hlaid:BC σ (vs.toList.take (xs.length * 1)) 1 xs:=⟨k7,fun k x j y hx hy=>by
       obtain ⟨v,v1,v2⟩:=k8 k x j y hx hy
       have hk:=(List.getElem?_eq_some_iff.1 hx).1
       have hj:j < 1:=by
        rw [← k7 x (List.mem_of_getElem? hx)]
        exact (List.getElem?_eq_some_iff.1 hy).1
       exact ⟨v,by rw [List.getElem?_take,if_pos (by omega)];simpa using v1,v2⟩⟩
      have htl:(vs.toList.take (xs.length * 1)).length=xs.length * 1:=by simp;omega
      by_cases hroom:xs.length + bs.size≤(ι id).cap
      ·have hr:=Lib.run_append_room_string (P:=P) w t u o.type e' i ht hu hi hs1 g xs.length (ι id).cap vs k3 bs hroom (by omega)
       have hrun:=hex _ _ (by rw [hv,hvy,k2];exact hr)
       rw [show xs.length + bs.size=(xs ++ Ap bs).length by rw [List.length_append,hbl]] at hrun
       generalize hA:(vs.toList.take xs.length ++ Lib.strCells bs ++ vs.toList.drop (xs ++ Ap bs).length).toArray=A at hrun
       have hAl:A.toList=vs.toList.take (xs.length * 1) ++ Lib.strCells bs ++ vs.toList.drop (xs ++ Ap bs).length:=by rw [← hA,Nat.mul_one]
       have hAs:A.size=(ι id).cap * 1:=by
        rw [← hA]
        simp only [List.size_toArray,List.length_append,List.length_take,List.length_drop,Array.length_toList,hnl,hbl]
        omega
       have hheap:(w.setRow g A).heap[g]?=some (.cells A e' (0,0)):=setRow_heap w _ _ _ _ _ k3
       have hl:BC σ A.toList 1 (xs ++ Ap bs):=by
        rw [hAl]
        exact (hlaid.append hnlaid htl).more _
       obtain ⟨hu',R'⟩:=R.turn (w':=w.setRow g A) hS (.mrow e' 1 (xs ++ Ap bs)) ⟨(ι id).p,(ι id).cap,some g⟩ (σ':=σ) (fun _ _ h=>h)
        (fun _ _ _=>rfl) (R.fit.row k9 fun k hk=>setRow_other _ _ _ _ hk) (by simp [AU.len]) (fun he=>absurd (by simpa [AU.len] using he) hne') (BU _ _) (by simp) (fun k hk hne=>setRow_other _ _ _ _ (fun e=>hne (by rw [e];exact k1))) (fun g' hg'=>.inl (by simp at hg';subst hg';exact k1))
        (fun hu=>.mrow rfl k2 hheap (by rw [List.length_append,hbl];exact hroom) k5 hAs hl.1 (Cj hl fun j v hv=>by simpa using hv) k9)
       exact ⟨_,_,_,_,_,_,.inl hrun,hK,R',.one (.row (b:=.mrow e' 1 (xs ++ Ap bs)) (by simp [AS.set,AD]) (Nat.le_refl _) rfl fun _=>by simp [AD,k2])⟩
      ·exact grow _ htl (by rw [k2];simp) k4 (fun _=>⟨g,0,k2,fun j u hu=>by
        rw [List.getElem?_take] at hu
        split at hu
        ·rw [Nat.zero_add,cell_of_row w g _ _ _ _ k3]
         simpa using hu
        ·cases hu⟩) hlaid (by omega)
   ·exact h.elim
  ·exact h.elim
 ·exact h.elim
theorem Sj {t e:TypeId} {i:TypeInfo} {z:Value} {x y:Operand} {x' y':Opd} (ho:o.op=.call { callee:=.builtin .append,args:=#[x,y],argTypes:=#[t,t] }) (hx:AM C.n x=some x') (hy:AM C.n y=some y')
  (ht:P.underlying t=some (.slice e)) (hi:P.info? e=some i) (hz:i.zero=some z) (hzs:z.cells.size=i.size) (hpos:0 < i.size) (R:AT C σ ι s a w) (h:Kd.go P d s K (.appP e i.size i.bytes x' y')):BF P C o a w K:=by
 have rx:=R.ev hx
 have ry:=R.ev hy
 have hex:∀ v w',(Builtin.append_ #[t,t] o.type #[a.eval x,a.eval y]).run P w=.ok v w'→(execOp a.eval o).run P w=.ok (.value v) w':=fun v w' hr=>by
  simp only [execOp,ho,resolve,invoke,builtin,Sem.run_bind,Sem.run_pure,Result.andThen_ok,List.map_toArray,List.map_cons,List.map_nil,hr]
 simp only [Kd.go] at h
 split at h
 ·rename_i id k m cy e1 e2
  rw [e1] at rx
  rw [e2] at ry
  replace rx:=Aa rx
  replace ry:=Aa ry
  split at h
  ·rename_i e' wd' xs ys hS hys
   obtain ⟨⟨hm,rfl,rfl⟩,hyw,h63,hby,hK⟩:=h
   subst hm
   obtain ⟨q,c,news,hvy,hnl,hnlaid,hn1,hncell⟩:=R.src ry hys hyw hpos
   obtain ⟨b,hb1,hb2,hb3⟩:=EZ rx
   rw [hS] at hb1
   cases hb1
   obtain ⟨hkm,hv⟩:=hb3 rfl
   have hb:=R.blk _ _ hS
   have hnlen:(xs.take k ++ ys ++ xs.drop (k + ys.length)).length=if xs.length≤k + ys.length then k + ys.length else xs.length:=by
    simp only [List.length_append,List.length_take,List.length_drop]
    split <;> omega
   by_cases hne:ys=[]
   ·subst hne
    have hnc:xs.length≤(ι id).cap:=by cases hb <;> first | exact Nat.zero_le _ | assumption
    have hrun:=hex _ _ (by rw [hv,hvy];exact Cn (P:=P) (w:=w) (ty:=o.type) ht hi (p:=(ι id).p) (n:=k) (cap:=(ι id).cap) (by omega) q c)
    have hset:s.set id (.mrow e' i.size (xs.take k ++ [] ++ xs.drop (k + ([]:List (List SV)).length)))=s:=by
     rw [List.append_nil,List.length_nil,Nat.add_zero,List.take_append_drop]
     obtain ⟨env,S⟩:=s
     simp only [AS.set,AS.mk.injEq,true_and]
     funext k
     unfold AK
     split
     ·rename_i hk;subst hk;exact hS.symm
     ·rfl
    have hlen:(if xs.length≤k + ([]:List (List SV)).length then k + ([]:List (List SV)).length else xs.length)=xs.length:=by
     simp only [List.length_nil,Nat.add_zero]
     split <;> omega
    rw [hset,hlen] at hK
    refine ⟨_,_,s,σ,ι,w,.inl hrun,hK,R,?_⟩
    exact .one (.part hS (Nat.le_refl _) rfl fun _=>⟨by simpa using hkm,by simp⟩)
   ·have hm:0 < ys.length:=List.length_pos_iff.2 hne
    have grow:∀ (olds:List Value),olds.length=k * i.size→((ι id).p=none→(ι id).cap=0)→xs.length≤(ι id).cap→(k ≠ 0→∃ b o,(ι id).p=some ⟨b,o,none⟩∧∀ j u,olds[j]?=some u→w.cell? ⟨b,o + j,none⟩=some u)→BC σ olds i.size (xs.take k)→(ι id).cap < k + ys.length→BF P C o a w K:=fun olds ho1 ho2 ho3 ho4 ho5 ho6=>by
     obtain ⟨bq,oo,hq,hq2⟩:=hncell hne
     obtain ⟨c',rest,r1,r2,r3,r4⟩:=KR (P:=P) (ty:=o.type) (w:=w) ht hi hz hzs ho1 ho2 (n:=k) (by omega) ho4 (q:=q) (m:=ys.length) (c:=c) hnl hm ⟨bq,oo,hq,hq2⟩ ho6 h63 hby
     have hrun:=hex _ _ (by rw [hv,hvy];exact r1)
     have hdrop:xs.drop (k + ys.length)=[]:=List.drop_eq_nil_of_le (by omega)
     have hge:xs.length≤k + ys.length:=by omega
     rw [hdrop,List.append_nil,if_pos hge] at hK
     rw [hdrop,List.append_nil,if_pos hge] at hnlen
     have hl:BC σ (olds.toArray ++ news.toArray ++ rest).toList i.size (xs.take k ++ ys):=by
      have:=(ho5.append hnlaid (by rw [ho1,List.length_take,Nat.min_eq_left hkm])).more rest.toList
      simpa using this
     have hsz:(olds.toArray ++ news.toArray ++ rest).size=c' * i.size:=by
      simp only [Array.size_append,List.size_toArray,ho1,hnl,r4,← Nat.add_mul]
      congr 1
      omega
     generalize hA:olds.toArray ++ news.toArray ++ rest=A at hrun hl hsz
     have hheap:(w.drew.alloc (.cells A e')).heap[w.heap.size]?=some (.cells A e' (0,0)):=heap_alloc_new w.drew _
     have hmore:D5 w (w.drew.alloc (.cells A e')):=(Below.refl _ _).drew.alloc (Nat.le_refl _) _
     obtain ⟨hu,R'⟩:=R.turn (w':=w.drew.alloc (.cells A e')) hS (.mrow e' i.size (xs.take k ++ ys)) ⟨some ⟨w.heap.size,0,none⟩,c',some w.heap.size⟩ (σ':=σ) (fun _ _ h=>h)
      (fun _ _ _=>rfl) (R.fit.below hmore) (by simp only [AU.len];omega) (fun he=>absurd he (by simp only [AU.len];omega)) ⟨rfl,rfl,rfl⟩ hmore.size (fun g hg _=>hmore.block g hg) (fun g hg=>.inr (by simp at hg;omega))
      (fun hu=>.mrow rfl rfl hheap (by rw [hnlen];exact r2) r3 hsz hl.1 (Cj hl fun j v hv=>by simpa using hv) (fun p hp=>R.fit.no (by omega)))
     exact ⟨_,_,_,_,_,_,.inl hrun,hK,R',.one (.part (b:=.mrow e' i.size (xs.take k ++ ys)) (by simp [AS.set,AD]) (by simp only [AU.len];omega) rfl fun _=>⟨Nat.le_refl _,by simp [AD]⟩)⟩
    cases hb with
    | mnil k1 k2 =>
     obtain rfl:k=0:=by simpa using hkm
     exact grow [] (by simp) (fun _=>k2) (Nat.zero_le _) (by simp) (by simpa using BC.nil) (by omega)
    | @mrow _ _ _ g vs k1 k2 k3 k4 k5 k6 k7 k8 k9 =>
     have hcapw:xs.length * i.size≤(ι id).cap * i.size:=Nat.mul_le_mul_right _ k4
     have hlaidAll:BC σ vs.toList i.size xs:=⟨k7,fun kk x j y hx hy=>by
      obtain ⟨v,v1,v2⟩:=k8 kk x j y hx hy
      exact ⟨v,by simpa using v1,v2⟩⟩
     have hlaid:=F6 hlaidAll k
     have hkw:k * i.size≤xs.length * i.size:=Nat.mul_le_mul_right _ hkm
     have htl:(vs.toList.take (k * i.size)).length=k * i.size:=by simp;omega
     by_cases hroom:k + ys.length≤(ι id).cap
     ·have hcapw2:(k + ys.length) * i.size≤(ι id).cap * i.size:=Nat.mul_le_mul_right _ hroom
      rw [Nat.add_mul] at hcapw2
      obtain ⟨bq,oq,hq,hq2⟩:=hncell hne
      have hr:=run_append_room (P:=P) w t o.type e' i ht hi g k (ι id).cap vs k3 ⟨bq,oq,none⟩ ys.length c news hnl (fun j u hu=>by rw [BW];exact hq2 j u hu) hn1 hroom (by omega)
      have hrun:=hex _ _ (by rw [hv,hvy,k2,hq];exact hr)
      generalize hA:(vs.toList.take (k * i.size) ++ news ++ vs.toList.drop (k * i.size + news.length)).toArray=A at hrun
      have hAl:A.toList=vs.toList.take (k * i.size) ++ news ++ vs.toList.drop (k * i.size + news.length):=by rw [← hA]
      have hAs:A.size=(ι id).cap * i.size:=by
       rw [← hA]
       simp only [List.size_toArray,List.length_append,htl,List.length_drop,Array.length_toList]
       omega
      have hheap:(w.setRow g A).heap[g]?=some (.cells A e' (0,0)):=setRow_heap w _ _ _ _ _ k3
      have hl:BC σ A.toList i.size (xs.take k ++ ys ++ xs.drop (k + ys.length)):=by
       rw [hAl]
       have h1:=hlaid.append hnlaid (by rw [htl,List.length_take,Nat.min_eq_left hkm])
       have h2:=Hn hlaidAll (k + ys.length)
       have h3:=h1.append h2 (by simp only [List.length_append,htl,hnl,List.length_take,Nat.min_eq_left hkm,Nat.add_mul])
       rw [Nat.add_mul,← hnl] at h3
       exact h3
      have hlen2:(xs.take k ++ ys ++ xs.drop (k + ys.length)).length≤(ι id).cap:=by rw [hnlen];split <;> omega
      obtain ⟨hu,R'⟩:=R.turn (w':=w.setRow g A) hS (.mrow e' i.size (xs.take k ++ ys ++ xs.drop (k + ys.length))) ⟨(ι id).p,(ι id).cap,some g⟩ (σ':=σ) (fun _ _ h=>h)
       (fun _ _ _=>rfl) (R.fit.row k9 fun k hk=>setRow_other _ _ _ _ hk) (by simp only [AU.len,hnlen];split <;> omega) (fun he=>⟨rfl,by rw [← k1]⟩) (BU _ _) (by simp) (fun k hk hne=>setRow_other _ _ _ _ (fun e=>hne (by rw [e];exact k1))) (fun g' hg'=>.inl (by simp at hg';subst hg';exact k1))
       (fun hu=>.mrow rfl k2 hheap hlen2 k5 hAs hl.1 (Cj hl fun j v hv=>by simpa using hv) k9)
      exact ⟨_,_,_,_,_,_,.inl hrun,hK,R',.one (.part (b:=.mrow e' i.size (xs.take k ++ ys ++ xs.drop (k + ys.length))) (by simp [AS.set,AD]) (by simp only [AU.len,hnlen];exact Nat.le_refl _) rfl fun _=>⟨by split <;> omega,by simp [AD,k2]⟩)⟩
     ·exact grow _ htl (by rw [k2];simp) k4 (fun _=>⟨g,0,k2,fun j u hu=>by
       rw [List.getElem?_take] at hu
       split at hu
       ·rw [Nat.zero_add,cell_of_row w g _ _ _ _ k3]
        simpa using hu
       ·cases hu⟩) hlaid (by omega)
  ·exact h.elim
 ·exact h.elim
end

def Opd.reads:Opd→List Nat
 | .t i=>[i]
 | .c _=>[]
def Fk:Option Opd→List Nat
 | none=>[]
 | some x=>x.reads
def Ao:List Opd→List Nat
 | []=>[]
 | x :: xs=>x.reads ++ Ao xs
def EP:List (Nat × Nat × Opd)→List Nat
 | []=>[]
 | (_,_,x) :: xs=>x.reads ++ EP xs
def Kd.reads:Kd→List Nat
 | .mov x=>x.reads
 | .pick c x y=>c.reads ++ (x.reads ++ y.reads)
 | .alloc _ _=>[]
 | .box _ x=>x.reads
 | .build _ ps=>EP ps
 | .buildSlice _ _ _ xs=>Ao xs
 | .load _ _ x=>x.reads
 | .store _ x v=>x.reads ++ v.reads
 | .fieldAddr _ x=>x.reads
 | .field _ _ _ x=>x.reads
 | .indexAddr _ x i=>x.reads ++ i.reads
 | .indexArr _ _ x i=>x.reads ++ i.reads
 | .indexStr x i=>x.reads ++ i.reads
 | .bin _ x y=>x.reads ++ y.reads
 | .eqB _ x y=>x.reads ++ y.reads
 | .eqN _ x=>x.reads
 | .eqE _ x=>x.reads
 | .eqP _ x=>x.reads
 | .bits _ x y=>x.reads ++ y.reads
 | .never=>[]
 | .pan x=>x.reads
 | .iface _ x=>x.reads
 | .strOf _ x=>x.reads
 | .un _ x=>x.reads
 | .sliceS x lo hi=>x.reads ++ (Fk lo ++ Fk hi)
 | .sliceL _ x lo hi=>x.reads ++ (Fk lo ++ Fk hi)
 | .sliceM _ x hi mx=>x.reads ++ (hi.reads ++ mx.reads)
 | .extract _ x=>x.reads
 | .len _ x=>x.reads
 | .append _ _ _ _ x y=>x.reads ++ y.reads
 | .call _ xs=>Ao xs
 | .conv _ x=>x.reads
 | .nilCheck x=>x.reads
 | .mm _ x y=>x.reads ++ y.reads
 | .makeSlice _ _ _ _ x y=>x.reads ++ y.reads
 | .makeFunc _ xs=>Ao xs
 | .callS _ xs=>Ao xs
 | .callV f xs=>f.reads ++ Ao xs
 | .callN _ xs=>Ao xs
 | .callR _ xs=>Ao xs
 | .callW _ xs=>Ao xs
 | .callX _ xs=>Ao xs
 | .callY f xs=>f.reads ++ Ao xs
 | .buildFlat xs=>Ao xs
 | .cutP _ x hi=>x.reads ++ hi.reads
 | .indexP _ x i=>x.reads ++ i.reads
 | .appP _ _ _ x y=>x.reads ++ y.reads
 | .restP _ x lo=>x.reads ++ lo.reads
 | .appS _ x y=>x.reads ++ y.reads
 | .loadL _ _ x=>x.reads
 | .indexL _ x i=>x.reads ++ i.reads
 | .buildL _ xs=>Ao xs
 | .fieldL _ x=>x.reads
 | .lenL _ x=>x.reads
 | .appF _ _ _ _ x y=>x.reads ++ y.reads
 | .clearP _ _ _ x=>x.reads
 | .copyP x y=>x.reads ++ y.reads
 | .makeMap _=>[]
 | .lookup _ _ _ m k=>m.reads ++ k.reads
 | .mapSet _ m k v=>m.reads ++ (k.reads ++ v.reads)
 | .mapEntry _ _ m k=>m.reads ++ k.reads
 | .entrySet m i v=>m.reads ++ (i.reads ++ v.reads)
 | .rangeM m=>m.reads
 | .next x=>x.reads
 | .entry x=>x.reads
 | .lenM m=>m.reads
 | .buildArr xs=>Ao xs
 | .makeMemo=>[]
 | .memoGet _ _ m k=>m.reads ++ k.reads
 | .memoSet m k v=>m.reads ++ (k.reads ++ v.reads)
def Kd.det:Kd→Bool
 | .next _ | .memoGet _ _ _ _ | .callX _ _ | .callY _ _=>false
 | _=>true
def Kd.pureS:Kd→Bool
 | .mov _ | .pick _ _ _ | .build _ _ | .field _ _ _ _ | .indexStr _ _ | .bin _ _ _ | .eqB _ _ _ | .eqN _ _ | .eqE _ _ | .eqP _ _ | .bits _ _ _ | .never | .pan _ | .iface _ _ | .strOf _ _ | .un _ _ | .sliceS _ _ _ | .extract _ _ | .conv _ _ | .mm _ _ _ | .makeFunc _ _ | .buildFlat _ | .buildArr _ | .loadL _ _ _ | .indexL _ _ _ | .buildL _ _ | .fieldL _ _ | .lenL _ _=>true
 | _=>false
def Kd.keepS:Kd→Bool
 | .alloc _ _ | .box _ _ | .buildSlice true _ _ _ | .store _ _ _ | .append _ _ _ _ _ _ | .makeSlice _ _ _ _ _ _ | .callS _ _ | .callV _ _ | .callN _ _ | .callW _ _ | .callX _ _ | .callY _ _ | .appP _ _ _ _ _ | .appS _ _ _ | .clearP _ _ _ _ | .copyP _ _ | .makeMap _ | .mapSet _ _ _ _ | .mapEntry _ _ _ _ | .entrySet _ _ _ | .rangeM _ | .next _ | .makeMemo | .memoGet _ _ _ _ | .appF _ _ _ _ _ _=>false
 | _=>true
section
variable {P:Program} {s:AS} {d:Nat} {K:AV→AS→Prop} {env':Nat→AV} {S':AA}
theorem AF {x:Opd} (h:∀ t ∈ x.reads,env' t=s.env t):(⟨env',S'⟩:AS).ev x=s.ev x:=by
 cases x with
 | t i=>exact h i (by simp [Opd.reads])
 | c v=>rfl
theorem ER {x:Option Opd} {n:Int} (h:∀ t ∈ Fk x,env' t=s.env t):optI (⟨env',S'⟩:AS) n x=optI s n x:=by
 cases x with
 | none=>rfl
 | some x=>simp only [optI,AF (s:=s) (x:=x) h]
theorem Cl {xs:List Opd} (h:∀ t ∈ Ao xs,env' t=s.env t):(⟨env',S'⟩:AS).evs xs=s.evs xs:=by
 induction xs with
 | nil=>rfl
 | cons x xs ih =>
  simp only [AS.evs]
  rw [AF (fun t ht=>h t (by simp [Ao,ht])),ih (fun t ht=>h t (by simp [Ao,ht]))]
theorem HA {xs:List Opd} (h:∀ t ∈ Ao xs,env' t=s.env t):(⟨env',S'⟩:AS).caps xs=s.caps xs:=by
 induction xs with
 | nil=>rfl
 | cons x xs ih =>
  simp only [AS.caps]
  rw [AF (fun t ht=>h t (by simp [Ao,ht])),ih (fun t ht=>h t (by simp [Ao,ht]))]
theorem K0 {ps:List (Nat × Nat × Opd)} (h:∀ t ∈ EP ps,env' t=s.env t):∀ cs,fills (⟨env',S'⟩:AS) cs ps=fills s cs ps:=by
 induction ps with
 | nil=>intro cs;rfl
 | cons x xs ih =>
  obtain ⟨off,n,x⟩:=x
  intro cs
  simp only [fills]
  rw [AF (fun t ht=>h t (by simp [EP,ht]))]
  simp only [ih (fun t ht=>h t (by simp [EP,ht]))]
theorem KQ {xs:List Opd} (h:∀ t ∈ Ao xs,env' t=s.env t):H1 (⟨env',S'⟩:AS) xs=H1 s xs:=by
 induction xs with
 | nil=>rfl
 | cons x xs ih =>
  simp only [H1]
  rw [AF (fun t ht=>h t (by simp [Ao,ht])),ih (fun t ht=>h t (by simp [Ao,ht]))]
theorem Jc {w:Nat} {xs:List Opd} (h:∀ t ∈ Ao xs,env' t=s.env t):FX (⟨env',S'⟩:AS) w xs=FX s w xs:=by
 induction xs with
 | nil=>rfl
 | cons x xs ih =>
  simp only [FX]
  rw [AF (fun t ht=>h t (by simp [Ao,ht]))]
  simp only [ih (fun t ht=>h t (by simp [Ao,ht]))]
theorem K_ {w:Nat} {xs:List Opd} (h:∀ t ∈ Ao xs,env' t=s.env t):DT (⟨env',s.S⟩:AS) w xs=DT s w xs:=by
 induction xs with
 | nil=>rfl
 | cons x xs ih =>
  simp only [DT]
  rw [AF (fun t ht=>h t (by simp [Ao,ht]))]
  simp only [ih (fun t ht=>h t (by simp [Ao,ht]))]
theorem Gj {kd:Kd} (hdet:kd.det=true) (h:kd.go P d s K):∃ v S1,K v ⟨s.env,S1⟩∧(kd.keepS=true→S1=s.S)∧∀ env':Nat→AV,(∀ t ∈ kd.reads,env' t=s.env t) →
  (∀ K':AV→AS→Prop,K' v ⟨env',S1⟩→kd.go P d ⟨env',s.S⟩ K')∧(kd.pureS=true→∀ (S':AA) (K':AV→AS→Prop),K' v ⟨env',S'⟩→kd.go P d ⟨env',S'⟩ K'):=by
 cases kd with
 | mov x=>exact ⟨_,s.S,h,fun _=>rfl,fun env' he=>⟨fun K' hk=>by simp only [Kd.go,AF he];exact hk,fun _ S' K' hk=>by simp only [Kd.go,AF he];exact hk⟩⟩
 | pick c x y =>
  simp only [Kd.go] at h
  split at h
  ·rename_i t e1
   have ec:∀ env' S',(∀ t ∈ (Kd.pick c x y).reads,env' t=s.env t)→(⟨env',S'⟩:AS).ev c=.one (.st (.bool t))∧(⟨env',S'⟩:AS).ev x=s.ev x∧(⟨env',S'⟩:AS).ev y=s.ev y:=fun env' S' he =>
    ⟨by rw [AF (fun t ht=>he t (by simp [Kd.reads,ht]))];exact e1,AF (fun t ht=>he t (by simp [Kd.reads,ht])),AF (fun t ht=>he t (by simp [Kd.reads,ht]))⟩
   cases t with
   | true=>exact ⟨_,s.S,h.1 rfl,fun _=>rfl,fun env' he=>⟨fun K' hk=>by simp only [Kd.go,ec env' _ he];exact ⟨fun _=>hk,by simp⟩,fun _ S' K' hk=>by simp only [Kd.go,ec env' _ he];exact ⟨fun _=>hk,by simp⟩⟩⟩
   | false=>exact ⟨_,s.S,h.2 rfl,fun _=>rfl,fun env' he=>⟨fun K' hk=>by simp only [Kd.go,ec env' _ he];exact ⟨by simp,fun _=>hk⟩,fun _ S' K' hk=>by simp only [Kd.go,ec env' _ he];exact ⟨by simp,fun _=>hk⟩⟩⟩
  ·exact h.elim
 | alloc e z=>exact ⟨_,_,h.2,by simp [Kd.keepS],fun env' he=>⟨fun K' hk=>⟨h.1,hk⟩,by simp [Kd.pureS]⟩⟩
 | box e x =>
  simp only [Kd.go] at h
  split at h
  ·rename_i cs e1
   exact ⟨_,_,h.2,by simp [Kd.keepS],fun env' he=>⟨fun K' hk=>by simp only [Kd.go,AF he,e1];exact ⟨h.1,hk⟩,by simp [Kd.pureS]⟩⟩
  ·exact h.elim
 | build z ps =>
  simp only [Kd.go] at h
  split at h
  ·rename_i cs e1
   exact ⟨_,s.S,h,fun _=>rfl,fun env' he=>⟨fun K' hk=>by simp only [Kd.go,K0 he,e1];exact hk,fun _ S' K' hk=>by simp only [Kd.go,K0 he,e1];exact hk⟩⟩
  ·exact h.elim
 | buildSlice mu e w xs =>
  simp only [Kd.go] at h
  split at h
  ·rename_i es e1
   cases mu with
   | true =>
    simp only [if_true] at h
    exact ⟨_,_,h.2,by simp [Kd.keepS],fun env' he=>⟨fun K' hk=>by simp only [Kd.go,K_ he,e1,if_true];exact ⟨h.1,hk⟩,by simp [Kd.pureS]⟩⟩
   | false =>
    simp only [Bool.false_eq_true,if_false] at h
    exact ⟨_,s.S,h,fun _=>rfl,fun env' he=>⟨fun K' hk=>by simp only [Kd.go,K_ he,e1,Bool.false_eq_true,if_false];exact hk,by simp [Kd.pureS]⟩⟩
  ·exact h.elim
 | load g n x =>
  simp only [Kd.go] at h
  split at h
  ·rename_i cs e1
   exact ⟨_,s.S,h.2,fun _=>rfl,fun env' he=>⟨fun K' hk=>by simp only [Kd.go,AF he,e1];exact ⟨h.1,hk⟩,by simp [Kd.pureS]⟩⟩
  ·rename_i cs e1
   exact ⟨_,s.S,h.2,fun _=>rfl,fun env' he=>⟨fun K' hk=>by simp only [Kd.go,AF he,e1];exact ⟨h.1,hk⟩,by simp [Kd.pureS]⟩⟩
  ·rename_i id m k off e1
   split at h
   ·rename_i cs e2
    exact ⟨_,s.S,h.2,fun _=>rfl,fun env' he=>⟨fun K' hk=>by simp only [Kd.go,AF he,e1,e2];exact ⟨h.1,hk⟩,by simp [Kd.pureS]⟩⟩
   ·exact h.elim
  ·exact h.elim
 | store n x v =>
  simp only [Kd.go] at h
  split at h
  ·rename_i id m k off c e1 e2
   have ec:∀ env' S',(∀ t ∈ (Kd.store n x v).reads,env' t=s.env t)→(⟨env',S'⟩:AS).ev x=s.ev x∧(⟨env',S'⟩:AS).ev v=s.ev v:=fun env' S' he =>
    ⟨AF (fun t ht=>he t (by simp [Kd.reads,ht])),AF (fun t ht=>he t (by simp [Kd.reads,ht]))⟩
   split at h
   ·rename_i e cs e3
    exact ⟨_,_,h.2.2.2,by simp [Kd.keepS],fun env' he=>⟨fun K' hk=>by simp only [Kd.go,ec env' _ he,e1,e2,e3];exact ⟨h.1,h.2.1,h.2.2.1,hk⟩,by simp [Kd.pureS]⟩⟩
   ·rename_i e cs e3
    exact ⟨_,_,h.2.2.2,by simp [Kd.keepS],fun env' he=>⟨fun K' hk=>by simp only [Kd.go,ec env' _ he,e1,e2,e3];exact ⟨h.1,h.2.1,h.2.2.1,hk⟩,by simp [Kd.pureS]⟩⟩
   ·rename_i e w xs e3
    split at h
    ·rename_i c' x1 e4 e5
     exact ⟨_,_,h.2.2.2,by simp [Kd.keepS],fun env' he=>⟨fun K' hk=>by simp only [Kd.go,ec env' _ he,e1,e2,e3,e4,e5];exact ⟨h.1,h.2.1,h.2.2.1,hk⟩,by simp [Kd.pureS]⟩⟩
    ·exact h.elim
   ·exact h.elim
  ·exact h.elim
 | fieldAddr off x =>
  simp only [Kd.go] at h
  split at h
  ·rename_i cs e1
   exact ⟨_,s.S,h,fun _=>rfl,fun env' he=>⟨fun K' hk=>by simp only [Kd.go,AF he,e1];exact hk,by simp [Kd.pureS]⟩⟩
  ·rename_i cs e1
   exact ⟨_,s.S,h,fun _=>rfl,fun env' he=>⟨fun K' hk=>by simp only [Kd.go,AF he,e1];exact hk,by simp [Kd.pureS]⟩⟩
  ·rename_i id m k o e1
   split at h
   ·rename_i b e2
    exact ⟨_,s.S,h.2,fun _=>rfl,fun env' he=>⟨fun K' hk=>by simp only [Kd.go,AF he,e1,e2];exact ⟨h.1,hk⟩,by simp [Kd.pureS]⟩⟩
   ·exact h.elim
  ·exact h.elim
 | field g off n x =>
  simp only [Kd.go] at h
  split at h
  ·rename_i cs e1
   exact ⟨_,s.S,h.2,fun _=>rfl,fun env' he=>⟨fun K' hk=>by simp only [Kd.go,AF he,e1];exact ⟨h.1,hk⟩,fun _ S' K' hk=>by simp only [Kd.go,AF he,e1];exact ⟨h.1,hk⟩⟩⟩
  ·exact h.elim
 | indexAddr w x i =>
  simp only [Kd.go] at h
  have ec:∀ env' S',(∀ t ∈ (Kd.indexAddr w x i).reads,env' t=s.env t)→(⟨env',S'⟩:AS).ev x=s.ev x∧(⟨env',S'⟩:AS).ev i=s.ev i:=fun env' S' he =>
   ⟨AF (fun t ht=>he t (by simp [Kd.reads,ht])),AF (fun t ht=>he t (by simp [Kd.reads,ht]))⟩
  split at h
  ·rename_i c kk n e1 e2
   split at h
   ·rename_i xs
    unfold CP at h
    obtain ⟨h0,h⟩:=h
    split at h
    ·rename_i x1 hx1
     exact ⟨_,s.S,h.2,fun _=>rfl,fun env' he=>⟨fun K' hk=>by simp only [Kd.go,ec env' _ he,e1,e2,CP,hx1];exact ⟨h0,h.1,hk⟩,by simp [Kd.pureS]⟩⟩
    ·exact h.elim
   ·rename_i xs
    unfold CP at h
    obtain ⟨h0,h⟩:=h
    split at h
    ·rename_i x1 hx1
     exact ⟨_,s.S,h.2,fun _=>rfl,fun env' he=>⟨fun K' hk=>by simp only [Kd.go,ec env' _ he,e1,e2,CP,hx1];exact ⟨h0,h.1,hk⟩,by simp [Kd.pureS]⟩⟩
    ·exact h.elim
   ·rename_i id m
    split at h
    ·rename_i e' w' xs hS
     obtain ⟨hm,hw,h⟩:=h
     unfold CP at h
     obtain ⟨h0,h⟩:=h
     split at h
     ·rename_i x1 hx1
      exact ⟨_,s.S,h,fun _=>rfl,fun env' he=>⟨fun K' hk=>by simp only [Kd.go,ec env' _ he,e1,e2,hS,CP,hx1];exact ⟨hm,hw,h0,hk⟩,by simp [Kd.pureS]⟩⟩
     ·exact h.elim
    ·rename_i e' w' xs hS
     exact ⟨_,s.S,h.2.2.2.2,fun _=>rfl,fun env' he=>⟨fun K' hk=>by simp only [Kd.go,ec env' _ he,e1,e2,hS];exact ⟨h.1,h.2.1,h.2.2.1,h.2.2.2.1,hk⟩,by simp [Kd.pureS]⟩⟩
    ·rename_i e' cs hS
     exact ⟨_,s.S,h.2.2.2.2,fun _=>rfl,fun env' he=>⟨fun K' hk=>by simp only [Kd.go,ec env' _ he,e1,e2,hS];exact ⟨h.1,h.2.1,h.2.2.1,h.2.2.2.1,hk⟩,by simp [Kd.pureS]⟩⟩
    ·exact h.elim
   ·exact h.elim
  ·exact h.elim
 | indexArr n w x i =>
  simp only [Kd.go] at h
  have ec:∀ env' S',(∀ t ∈ (Kd.indexArr n w x i).reads,env' t=s.env t)→(⟨env',S'⟩:AS).ev x=s.ev x∧(⟨env',S'⟩:AS).ev i=s.ev i:=fun env' S' he =>
   ⟨AF (fun t ht=>he t (by simp [Kd.reads,ht])),AF (fun t ht=>he t (by simp [Kd.reads,ht]))⟩
  split at h
  ·rename_i cs kk k e1 e2
   exact ⟨_,s.S,h.2,fun _=>rfl,fun env' he=>⟨fun K' hk=>by simp only [Kd.go,ec env' _ he,e1,e2];exact ⟨h.1,hk⟩,by simp [Kd.pureS]⟩⟩
  ·rename_i id m b o kk k e1 e2
   split at h
   ·rename_i bl e3
    exact ⟨_,s.S,h.2.2,fun _=>rfl,fun env' he=>⟨fun K' hk=>by simp only [Kd.go,ec env' _ he,e1,e2,e3];exact ⟨h.1,h.2.1,hk⟩,by simp [Kd.pureS]⟩⟩
   ·exact h.elim
  ·exact h.elim
 | indexStr x i =>
  simp only [Kd.go] at h
  have ec:∀ env' S',(∀ t ∈ (Kd.indexStr x i).reads,env' t=s.env t)→(⟨env',S'⟩:AS).ev x=s.ev x∧(⟨env',S'⟩:AS).ev i=s.ev i:=fun env' S' he =>
   ⟨AF (fun t ht=>he t (by simp [Kd.reads,ht])),AF (fun t ht=>he t (by simp [Kd.reads,ht]))⟩
  split at h
  ·rename_i b kk n e1 e2
   exact ⟨_,s.S,h.2,fun _=>rfl,fun env' he=>⟨fun K' hk=>by simp only [Kd.go,ec env' _ he,e1,e2];exact ⟨h.1,hk⟩,fun _ S' K' hk=>by simp only [Kd.go,ec env' _ he,e1,e2];exact ⟨h.1,hk⟩⟩⟩
  ·exact h.elim
 | bin op x y =>
  simp only [Kd.go] at h
  have ec:∀ env' S',(∀ t ∈ (Kd.bin op x y).reads,env' t=s.env t)→(⟨env',S'⟩:AS).ev x=s.ev x∧(⟨env',S'⟩:AS).ev y=s.ev y:=fun env' S' he =>
   ⟨AF (fun t ht=>he t (by simp [Kd.reads,ht])),AF (fun t ht=>he t (by simp [Kd.reads,ht]))⟩
  split at h
  ·rename_i k m k' n e1 e2
   obtain ⟨hk0,h⟩:=h
   have key:∃ v,K (.one (.st v)) s∧∀ K2:SV→Prop,K2 v→Pm op k m n K2:=by
    cases op <;> simp only [Pm] at h ⊢ <;> first | exact h.elim | exact ⟨_,h.2.2,fun K2 hk=>⟨h.1,h.2.1,hk⟩⟩ | exact ⟨_,h.2,fun K2 hk=>⟨h.1,hk⟩⟩ | exact ⟨_,h,fun K2 hk=>hk⟩
   obtain ⟨v,k1,k2⟩:=key
   exact ⟨_,s.S,k1,fun _=>rfl,fun env' he=>⟨fun K' hk=>by simp only [Kd.go,ec env' _ he,e1,e2];exact ⟨hk0,k2 _ hk⟩,fun _ S' K' hk=>by simp only [Kd.go,ec env' _ he,e1,e2];exact ⟨hk0,k2 _ hk⟩⟩⟩
  ·rename_i m n e1 e2
   have key:∃ v,K (.one (.st v)) s∧∀ K2:SV→Prop,K2 v→Pu op m n K2:=by
    cases op <;> simp only [Pu] at h ⊢ <;> first | exact h.elim | exact ⟨_,h.2,fun K2 hk=>⟨h.1,hk⟩⟩ | exact ⟨_,h,fun K2 hk=>hk⟩
   obtain ⟨v,k1,k2⟩:=key
   exact ⟨_,s.S,k1,fun _=>rfl,fun env' he=>⟨fun K' hk=>by simp only [Kd.go,ec env' _ he,e1,e2];exact k2 _ hk,fun _ S' K' hk=>by simp only [Kd.go,ec env' _ he,e1,e2];exact k2 _ hk⟩⟩
  ·exact h.elim
 | never=>exact (show False from h).elim
 | pan x=>exact (show False from h).elim
 | iface t x =>
  simp only [Kd.go] at h
  split at h
  ·rename_i k n e1
   exact ⟨_,s.S,h,fun _=>rfl,fun env' he=>⟨fun K' hk=>by simp only [Kd.go,AF he,e1];exact hk,fun _ S' K' hk=>by simp only [Kd.go,AF he,e1];exact hk⟩⟩
  ·exact h.elim
 | strOf i x =>
  simp only [Kd.go] at h
  split at h
  ·rename_i ys e1
   split at h
   ·rename_i ns e2
    exact ⟨_,s.S,h.2,fun _=>rfl,fun env' he=>⟨fun K' hk=>by simp only [Kd.go,AF he,e1,e2];exact ⟨h.1,hk⟩,fun _ S' K' hk=>by simp only [Kd.go,AF he,e1,e2];exact ⟨h.1,hk⟩⟩⟩
   ·exact h.elim
  ·rename_i k n e1
   exact ⟨_,s.S,h,fun _=>rfl,fun env' he=>⟨fun K' hk=>by simp only [Kd.go,AF he,e1];exact hk,fun _ S' K' hk=>by simp only [Kd.go,AF he,e1];exact hk⟩⟩
  ·exact h.elim
 | eqN neg x =>
  simp only [Kd.go] at h
  split at h
  ·rename_i xs e1
   exact ⟨_,s.S,h,fun _=>rfl,fun env' he=>⟨fun K' hk=>by simp only [Kd.go,AF he,e1];exact hk,fun _ S' K' hk=>by simp only [Kd.go,AF he,e1];exact hk⟩⟩
  ·exact h.elim
 | eqP neg x =>
  simp only [Kd.go] at h
  split at h
  ·rename_i e1
   exact ⟨_,s.S,h,fun _=>rfl,fun env' he=>⟨fun K' hk=>by simp only [Kd.go,AF he,e1];exact hk,fun _ S' K' hk=>by simp only [Kd.go,AF he,e1];exact hk⟩⟩
  ·rename_i cs e1
   exact ⟨_,s.S,h,fun _=>rfl,fun env' he=>⟨fun K' hk=>by simp only [Kd.go,AF he,e1];exact hk,fun _ S' K' hk=>by simp only [Kd.go,AF he,e1];exact hk⟩⟩
  ·exact h.elim
 | bits op x y =>
  simp only [Kd.go] at h
  have ec:∀ env' S',(∀ t ∈ (Kd.bits op x y).reads,env' t=s.env t)→(⟨env',S'⟩:AS).ev x=s.ev x∧(⟨env',S'⟩:AS).ev y=s.ev y:=fun env' S' he =>
   ⟨AF (fun t ht=>he t (by simp [Kd.reads,ht])),AF (fun t ht=>he t (by simp [Kd.reads,ht]))⟩
  split at h
  ·rename_i k m k' n e1 e2
   have key:∃ v,K (.one (.st v)) s∧∀ K2:SV→Prop,K2 v→Sm op k m k' n K2:=by
    cases op <;> simp only [Sm] at h ⊢ <;> first | exact h.elim | exact ⟨_,h.2.2,fun K2 hk=>⟨h.1,h.2.1,hk⟩⟩
   obtain ⟨v,k1,k2⟩:=key
   exact ⟨_,s.S,k1,fun _=>rfl,fun env' he=>⟨fun K' hk=>by simp only [Kd.go,ec env' _ he,e1,e2];exact k2 _ hk,fun _ S' K' hk=>by simp only [Kd.go,ec env' _ he,e1,e2];exact k2 _ hk⟩⟩
  ·exact h.elim
 | eqE neg x =>
  simp only [Kd.go] at h
  split at h
  ·rename_i e1
   exact ⟨_,s.S,h,fun _=>rfl,fun env' he=>⟨fun K' hk=>by simp only [Kd.go,AF he,e1];exact hk,fun _ S' K' hk=>by simp only [Kd.go,AF he,e1];exact hk⟩⟩
  ·rename_i e1
   exact ⟨_,s.S,h,fun _=>rfl,fun env' he=>⟨fun K' hk=>by simp only [Kd.go,AF he,e1];exact hk,fun _ S' K' hk=>by simp only [Kd.go,AF he,e1];exact hk⟩⟩
  ·exact h.elim
 | eqB neg x y =>
  simp only [Kd.go] at h
  have ec:∀ env' S',(∀ t ∈ (Kd.eqB neg x y).reads,env' t=s.env t)→(⟨env',S'⟩:AS).ev x=s.ev x∧(⟨env',S'⟩:AS).ev y=s.ev y:=fun env' S' he =>
   ⟨AF (fun t ht=>he t (by simp [Kd.reads,ht])),AF (fun t ht=>he t (by simp [Kd.reads,ht]))⟩
  split at h
  ·rename_i m n e1 e2
   exact ⟨_,s.S,h,fun _=>rfl,fun env' he=>⟨fun K' hk=>by simp only [Kd.go,ec env' _ he,e1,e2];exact hk,fun _ S' K' hk=>by simp only [Kd.go,ec env' _ he,e1,e2];exact hk⟩⟩
  ·exact h.elim
 | un op x =>
  simp only [Kd.go] at h
  split at h
  ·rename_i b e1
   exact ⟨_,s.S,h,fun _=>rfl,fun env' he=>⟨fun K' hk=>by simp only [Kd.go,AF he,e1];exact hk,fun _ S' K' hk=>by simp only [Kd.go,AF he,e1];exact hk⟩⟩
  ·rename_i k n e1
   exact ⟨_,s.S,h.2,fun _=>rfl,fun env' he=>⟨fun K' hk=>by simp only [Kd.go,AF he,e1];exact ⟨h.1,hk⟩,fun _ S' K' hk=>by simp only [Kd.go,AF he,e1];exact ⟨h.1,hk⟩⟩⟩
  ·exact h.elim
 | sliceS x lo hi =>
  simp only [Kd.go] at h
  have ec:∀ env' S',(∀ t ∈ (Kd.sliceS x lo hi).reads,env' t=s.env t)→(⟨env',S'⟩:AS).ev x=s.ev x∧(∀ n,optI (⟨env',S'⟩:AS) n lo=optI s n lo)∧(∀ n,optI (⟨env',S'⟩:AS) n hi=optI s n hi):=fun env' S' he =>
   ⟨AF (fun t ht=>he t (by simp [Kd.reads,ht])),fun n=>ER (fun t ht=>he t (by simp [Kd.reads,ht])),fun n=>ER (fun t ht=>he t (by simp [Kd.reads,ht]))⟩
  split at h
  ·rename_i b e1
   split at h
   ·rename_i l hh e2 e3
    exact ⟨_,s.S,h.2,fun _=>rfl,fun env' he=>⟨fun K' hk=>by simp only [Kd.go,ec env' _ he,e1,e2,e3];exact ⟨h.1,hk⟩,fun _ S' K' hk=>by simp only [Kd.go,ec env' _ he,e1,e2,e3];exact ⟨h.1,hk⟩⟩⟩
   ·exact h.elim
  ·exact h.elim
 | sliceL w x lo hi =>
  simp only [Kd.go] at h
  have ec:∀ env' S',(∀ t ∈ (Kd.sliceL w x lo hi).reads,env' t=s.env t)→(⟨env',S'⟩:AS).ev x=s.ev x∧(∀ n,optI (⟨env',S'⟩:AS) n lo=optI s n lo)∧(∀ n,optI (⟨env',S'⟩:AS) n hi=optI s n hi):=fun env' S' he =>
   ⟨AF (fun t ht=>he t (by simp [Kd.reads,ht])),fun n=>ER (fun t ht=>he t (by simp [Kd.reads,ht])),fun n=>ER (fun t ht=>he t (by simp [Kd.reads,ht]))⟩
  split at h
  ·rename_i c e1
   split at h
   ·rename_i xs e0
    split at h
    ·rename_i l hh e2 e3
     exact ⟨_,s.S,h.2.2,fun _=>rfl,fun env' he=>⟨fun K' hk=>by simp only [Kd.go,ec env' _ he,e1,e0,e2,e3];exact ⟨h.1,h.2.1,hk⟩,by simp [Kd.pureS]⟩⟩
    ·exact h.elim
   ·exact h.elim
  ·exact h.elim
 | sliceM w x hi mx =>
  simp only [Kd.go] at h
  have ec:∀ env' S',(∀ t ∈ (Kd.sliceM w x hi mx).reads,env' t=s.env t)→(⟨env',S'⟩:AS).ev x=s.ev x∧(⟨env',S'⟩:AS).ev hi=s.ev hi∧(⟨env',S'⟩:AS).ev mx=s.ev mx:=fun env' S' he =>
   ⟨AF (fun t ht=>he t (by simp [Kd.reads,ht])),AF (fun t ht=>he t (by simp [Kd.reads,ht])),AF (fun t ht=>he t (by simp [Kd.reads,ht]))⟩
  split at h
  ·rename_i c e1
   split at h
   ·rename_i xs e0
    split at h
    ·rename_i kh hh km m e2 e3
     exact ⟨_,s.S,h.2.2,fun _=>rfl,fun env' he=>⟨fun K' hk=>by simp only [Kd.go,ec env' _ he,e1,e0,e2,e3];exact ⟨h.1,h.2.1,hk⟩,by simp [Kd.pureS]⟩⟩
    ·exact h.elim
   ·exact h.elim
  ·exact h.elim
 | extract i x =>
  simp only [Kd.go] at h
  split at h
  ·rename_i vs e1
   split at h
   ·rename_i v e2
    exact ⟨_,s.S,h,fun _=>rfl,fun env' he=>⟨fun K' hk=>by simp only [Kd.go,AF he,e1,e2];exact hk,fun _ S' K' hk=>by simp only [Kd.go,AF he,e1,e2];exact hk⟩⟩
   ·exact h.elim
  ·exact h.elim
 | len str x =>
  simp only [Kd.go] at h
  split at h
  ·rename_i c e1
   split at h
   ·rename_i n e2
    exact ⟨_,s.S,h,fun _=>rfl,fun env' he=>⟨fun K' hk=>by simp only [Kd.go,AF he,e1,e2];exact hk,by simp [Kd.pureS]⟩⟩
   ·exact h.elim
  ·exact h.elim
 | append mu e w bytes x y =>
  simp only [Kd.go] at h
  have ec:∀ env' S',(∀ t ∈ (Kd.append mu e w bytes x y).reads,env' t=s.env t)→(⟨env',S'⟩:AS).ev x=s.ev x∧(⟨env',S'⟩:AS).ev y=s.ev y:=fun env' S' he =>
   ⟨AF (fun t ht=>he t (by simp [Kd.reads,ht])),AF (fun t ht=>he t (by simp [Kd.reads,ht]))⟩
  split at h
  ·rename_i cx cy e1 e2
   split at h
   ·rename_i ys e3
    obtain ⟨h1,h⟩:=h
    split at h
    ·rename_i xs
     exact ⟨_,_,h.2.2.2.2.2,by simp [Kd.keepS],fun env' he=>⟨fun K' hk=>by simp only [Kd.go,ec env' _ he,e1,e2,e3];exact ⟨h1,h.1,h.2.1,h.2.2.1,h.2.2.2.1,h.2.2.2.2.1,hk⟩,by simp [Kd.pureS]⟩⟩
    ·rename_i id m
     split at h
     ·rename_i e' w' xs e4
      exact ⟨_,_,h.2.2.2,by simp [Kd.keepS],fun env' he=>⟨fun K' hk=>by simp only [Kd.go,ec env' _ he,e1,e2,e3,e4];exact ⟨h1,h.1,h.2.1,h.2.2.1,hk⟩,by simp [Kd.pureS]⟩⟩
     ·rename_i e' w' xs e4
      exact ⟨_,_,h.2.2.2,by simp [Kd.keepS],fun env' he=>⟨fun K' hk=>by simp only [Kd.go,ec env' _ he,e1,e2,e3,e4];exact ⟨h1,h.1,h.2.1,h.2.2.1,hk⟩,by simp [Kd.pureS]⟩⟩
     ·exact h.elim
    ·exact h.elim
   ·exact h.elim
  ·exact h.elim
 | call f xs =>
  simp only [Kd.go] at h
  split at h
  ·rename_i vs e1
   obtain ⟨r,hr,hK⟩:=h
   exact ⟨_,s.S,hK,fun _=>rfl,fun env' he=>⟨fun K' hk=>by simp only [Kd.go,Cl he,e1];exact ⟨r,hr,hk⟩,by simp [Kd.pureS]⟩⟩
  ·exact h.elim
 | loadL g n x =>
  simp only [Kd.go] at h
  split at h
  ·rename_i cs e1
   exact ⟨_,s.S,h.2,fun _=>rfl,fun env' he=>⟨fun K' hk=>by simp only [Kd.go,AF he,e1];exact ⟨h.1,hk⟩,fun _ S' K' hk=>by simp only [Kd.go,AF he,e1];exact ⟨h.1,hk⟩⟩⟩
  ·exact h.elim
 | fieldL off x =>
  simp only [Kd.go] at h
  split at h
  ·rename_i cs e1
   exact ⟨_,s.S,h,fun _=>rfl,fun env' he=>⟨fun K' hk=>by simp only [Kd.go,AF he,e1];exact hk,fun _ S' K' hk=>by simp only [Kd.go,AF he,e1];exact hk⟩⟩
  ·exact h.elim
 | appF mu e w bytes x y =>
  simp only [Kd.go] at h
  have ec:∀ env' S',(∀ t ∈ (Kd.appF mu e w bytes x y).reads,env' t=s.env t)→(⟨env',S'⟩:AS).ev x=s.ev x∧(⟨env',S'⟩:AS).ev y=s.ev y:=fun env' S' he =>
   ⟨AF (fun t ht=>he t (by simp [Kd.reads,ht])),AF (fun t ht=>he t (by simp [Kd.reads,ht]))⟩
  split at h
  ·rename_i xs cy e1 e2
   split at h
   ·rename_i ys e3
    exact ⟨_,_,h.2.2.2.2.2.2,by simp [Kd.keepS],fun env' he=>⟨fun K' hk=>by simp only [Kd.go,ec env' _ he,e1,e2,e3];exact ⟨h.1,h.2.1,h.2.2.1,h.2.2.2.1,h.2.2.2.2.1,h.2.2.2.2.2.1,hk⟩,by simp [Kd.pureS]⟩⟩
   ·exact h.elim
  ·exact h.elim
 | lenL str x =>
  simp only [Kd.go] at h
  split at h
  ·rename_i c e1
   split at h
   ·rename_i n e2
    exact ⟨_,s.S,h,fun _=>rfl,fun env' he=>⟨fun K' hk=>by simp only [Kd.go,AF he,e1,e2];exact hk,fun _ S' K' hk=>by simp only [Kd.go,AF he,e1,e2];exact hk⟩⟩
   ·exact h.elim
  ·exact h.elim
 | buildL w xs =>
  simp only [Kd.go] at h
  split at h
  ·rename_i es e1
   exact ⟨_,s.S,h,fun _=>rfl,fun env' he=>⟨fun K' hk=>by simp only [Kd.go,Jc he,e1];exact hk,fun _ S' K' hk=>by simp only [Kd.go,Jc he,e1];exact hk⟩⟩
  ·exact h.elim
 | indexL w x i =>
  simp only [Kd.go] at h
  have ec:∀ env' S',(∀ t ∈ (Kd.indexL w x i).reads,env' t=s.env t)→(⟨env',S'⟩:AS).ev x=s.ev x∧(⟨env',S'⟩:AS).ev i=s.ev i:=fun env' S' he =>
   ⟨AF (fun t ht=>he t (by simp [Kd.reads,ht])),AF (fun t ht=>he t (by simp [Kd.reads,ht]))⟩
  split at h
  ·rename_i xs kk n e1 e2
   unfold CP at h
   obtain ⟨h0,h⟩:=h
   split at h
   ·rename_i x1 hx1
    exact ⟨_,s.S,h.2,fun _=>rfl,fun env' he=>⟨fun K' hk=>by simp only [Kd.go,ec env' _ he,e1,e2,CP,hx1];exact ⟨h0,h.1,hk⟩,fun _ S' K' hk=>by simp only [Kd.go,ec env' _ he,e1,e2,CP,hx1];exact ⟨h0,h.1,hk⟩⟩⟩
   ·exact h.elim
  ·rename_i xs kk n e1 e2
   unfold CP at h
   obtain ⟨h0,h⟩:=h
   split at h
   ·rename_i x1 hx1
    exact ⟨_,s.S,h.2,fun _=>rfl,fun env' he=>⟨fun K' hk=>by simp only [Kd.go,ec env' _ he,e1,e2,CP,hx1];exact ⟨h0,h.1,hk⟩,fun _ S' K' hk=>by simp only [Kd.go,ec env' _ he,e1,e2,CP,hx1];exact ⟨h0,h.1,hk⟩⟩⟩
   ·exact h.elim
  ·exact h.elim
 | appS e x y =>
  simp only [Kd.go] at h
  have ec:∀ env' S',(∀ t ∈ (Kd.appS e x y).reads,env' t=s.env t)→(⟨env',S'⟩:AS).ev x=s.ev x∧(⟨env',S'⟩:AS).ev y=s.ev y:=fun env' S' he =>
   ⟨AF (fun t ht=>he t (by simp [Kd.reads,ht])),AF (fun t ht=>he t (by simp [Kd.reads,ht]))⟩
  split at h
  ·rename_i cx b e1 e2
   split at h
   ·rename_i xs
    exact ⟨_,_,h.2.2,by simp [Kd.keepS],fun env' he=>⟨fun K' hk=>by simp only [Kd.go,ec env' _ he,e1,e2];exact ⟨h.1,h.2.1,hk⟩,by simp [Kd.pureS]⟩⟩
   ·rename_i id m
    split at h
    ·rename_i e' w' xs e4
     exact ⟨_,_,h.2.2,by simp [Kd.keepS],fun env' he=>⟨fun K' hk=>by simp only [Kd.go,ec env' _ he,e1,e2,e4];exact ⟨h.1,h.2.1,hk⟩,by simp [Kd.pureS]⟩⟩
    ·exact h.elim
   ·exact h.elim
  ·exact h.elim
 | restP w x lo =>
  simp only [Kd.go] at h
  have ec:∀ env' S',(∀ t ∈ (Kd.restP w x lo).reads,env' t=s.env t)→(⟨env',S'⟩:AS).ev x=s.ev x∧(⟨env',S'⟩:AS).ev lo=s.ev lo:=fun env' S' he =>
   ⟨AF (fun t ht=>he t (by simp [Kd.reads,ht])),AF (fun t ht=>he t (by simp [Kd.reads,ht]))⟩
  split at h
  ·rename_i id m kk oo e1 e2
   split at h
   ·rename_i e' w' xs e3
    exact ⟨_,s.S,h.2.2,fun _=>rfl,fun env' he=>⟨fun K' hk=>by simp only [Kd.go,ec env' _ he,e1,e2,e3];exact ⟨h.1,h.2.1,hk⟩,by simp [Kd.pureS]⟩⟩
   ·rename_i e' w' xs e3
    exact ⟨_,s.S,h.2.2,fun _=>rfl,fun env' he=>⟨fun K' hk=>by simp only [Kd.go,ec env' _ he,e1,e2,e3];exact ⟨h.1,h.2.1,hk⟩,by simp [Kd.pureS]⟩⟩
   ·exact h.elim
  ·exact h.elim
 | clearP e w z x =>
  simp only [Kd.go] at h
  split at h
  ·rename_i id o m e1
   split at h
   ·rename_i e' w' xs e3
    exact ⟨_,_,h.2,by simp [Kd.keepS],fun env' he=>⟨fun K' hk=>by simp only [Kd.go,AF he,e1,e3];exact ⟨h.1,hk⟩,by simp [Kd.pureS]⟩⟩
   ·exact h.elim
  ·exact h.elim
 | copyP x y =>
  simp only [Kd.go] at h
  have ec:∀ env' S',(∀ t ∈ (Kd.copyP x y).reads,env' t=s.env t)→(⟨env',S'⟩:AS).ev x=s.ev x∧(⟨env',S'⟩:AS).ev y=s.ev y:=fun env' S' he =>
   ⟨AF (fun t ht=>he t (by simp [Kd.reads,ht])),AF (fun t ht=>he t (by simp [Kd.reads,ht]))⟩
  split at h
  ·rename_i id o m id2 q m2 e1 e2
   split at h
   ·rename_i e' w' xs e3
    exact ⟨_,_,h.2,by simp [Kd.keepS],fun env' he=>⟨fun K' hk=>by simp only [Kd.go,ec env' _ he,e1,e2,e3];exact ⟨h.1,hk⟩,by simp [Kd.pureS]⟩⟩
   ·exact h.elim
  ·exact h.elim
 | cutP w x hi =>
  simp only [Kd.go] at h
  have ec:∀ env' S',(∀ t ∈ (Kd.cutP w x hi).reads,env' t=s.env t)→(⟨env',S'⟩:AS).ev x=s.ev x∧(⟨env',S'⟩:AS).ev hi=s.ev hi:=fun env' S' he =>
   ⟨AF (fun t ht=>he t (by simp [Kd.reads,ht])),AF (fun t ht=>he t (by simp [Kd.reads,ht]))⟩
  split at h
  ·rename_i id k m kk hh e1 e2
   split at h
   ·rename_i e' w' xs e3
    exact ⟨_,s.S,h.2.2,fun _=>rfl,fun env' he=>⟨fun K' hk=>by simp only [Kd.go,ec env' _ he,e1,e2,e3];exact ⟨h.1,h.2.1,hk⟩,by simp [Kd.pureS]⟩⟩
   ·exact h.elim
  ·exact h.elim
 | indexP w x i =>
  simp only [Kd.go] at h
  have ec:∀ env' S',(∀ t ∈ (Kd.indexP w x i).reads,env' t=s.env t)→(⟨env',S'⟩:AS).ev x=s.ev x∧(⟨env',S'⟩:AS).ev i=s.ev i:=fun env' S' he =>
   ⟨AF (fun t ht=>he t (by simp [Kd.reads,ht])),AF (fun t ht=>he t (by simp [Kd.reads,ht]))⟩
  split at h
  ·rename_i id k m kk hh e1 e2
   split at h
   ·rename_i e' w' xs e3
    exact ⟨_,s.S,h.2.2,fun _=>rfl,fun env' he=>⟨fun K' hk=>by simp only [Kd.go,ec env' _ he,e1,e2,e3];exact ⟨h.1,h.2.1,hk⟩,by simp [Kd.pureS]⟩⟩
   ·exact h.elim
  ·exact h.elim
 | appP e w bytes x y =>
  simp only [Kd.go] at h
  have ec:∀ env' S',(∀ t ∈ (Kd.appP e w bytes x y).reads,env' t=s.env t)→(⟨env',S'⟩:AS).ev x=s.ev x∧(⟨env',S'⟩:AS).ev y=s.ev y:=fun env' S' he =>
   ⟨AF (fun t ht=>he t (by simp [Kd.reads,ht])),AF (fun t ht=>he t (by simp [Kd.reads,ht]))⟩
  split at h
  ·rename_i id k m cy e1 e2
   split at h
   ·rename_i e' w' xs ys e3 e4
    exact ⟨_,_,h.2.2.2.2,by simp [Kd.keepS],fun env' he=>⟨fun K' hk=>by simp only [Kd.go,ec env' _ he,e1,e2,e3,e4];exact ⟨h.1,h.2.1,h.2.2.1,h.2.2.2.1,hk⟩,by simp [Kd.pureS]⟩⟩
   ·exact h.elim
  ·exact h.elim
 | buildFlat xs =>
  simp only [Kd.go] at h
  split at h
  ·rename_i es e1
   exact ⟨_,s.S,h,fun _=>rfl,fun env' he=>⟨fun K' hk=>by simp only [Kd.go,KQ he,e1];exact hk,fun _ S' K' hk=>by simp only [Kd.go,KQ he,e1];exact hk⟩⟩
  ·exact h.elim
 | callR f xs =>
  simp only [Kd.go] at h
  obtain ⟨r,rows,h0,hr,hK⟩:=h
  exact ⟨_,s.S,hK,fun _=>rfl,fun env' he=>⟨fun K' hk=>by simp only [Kd.go,Cl he];exact ⟨r,rows,h0,hr,hk⟩,by simp [Kd.pureS]⟩⟩
 | callW f xs =>
  simp only [Kd.go] at h
  obtain ⟨r,rows,h0,hr,hK⟩:=h
  exact ⟨_,_,hK,by simp [Kd.keepS],fun env' he=>⟨fun K' hk=>by simp only [Kd.go,Cl he];exact ⟨r,rows,h0,hr,hk⟩,by simp [Kd.pureS]⟩⟩
 | callN f xs =>
  simp only [Kd.go] at h
  split at h
  ·rename_i vs e1
   obtain ⟨mu,e,w,ys,hr,hd,hK⟩:=h
   exact ⟨_,_,hK,by simp [Kd.keepS],fun env' he=>⟨fun K' hk=>by simp only [Kd.go,Cl he,e1];exact ⟨mu,e,w,ys,hr,hd,hk⟩,by simp [Kd.pureS]⟩⟩
  ·exact h.elim
 | makeMap kt=>exact ⟨_,_,h.2,by simp [Kd.keepS],fun env' he=>⟨fun K' hk=>⟨h.1,hk⟩,by simp [Kd.pureS]⟩⟩
 | lookup kt ok z m k =>
  simp only [Kd.go] at h
  have ec:∀ env' S',(∀ t ∈ (Kd.lookup kt ok z m k).reads,env' t=s.env t)→(⟨env',S'⟩:AS).ev m=s.ev m∧(⟨env',S'⟩:AS).ev k=s.ev k:=fun env' S' he =>
   ⟨AF (fun t ht=>he t (by simp [Kd.reads,ht])),AF (fun t ht=>he t (by simp [Kd.reads,ht]))⟩
  split at h
  ·rename_i id kt' es kv e1 e2
   exact ⟨_,s.S,h.2,fun _=>rfl,fun env' he=>⟨fun K' hk=>by simp only [Kd.go,ec env' _ he,e1,e2];exact ⟨h.1,hk⟩,by simp [Kd.pureS]⟩⟩
  ·exact h.elim
 | mapSet kt m k v =>
  simp only [Kd.go] at h
  have ec:∀ env' S',(∀ t ∈ (Kd.mapSet kt m k v).reads,env' t=s.env t)→(⟨env',S'⟩:AS).ev m=s.ev m∧(⟨env',S'⟩:AS).ev k=s.ev k∧(⟨env',S'⟩:AS).ev v=s.ev v:=fun env' S' he =>
   ⟨AF (fun t ht=>he t (by simp [Kd.reads,ht])),AF (fun t ht=>he t (by simp [Kd.reads,ht])),AF (fun t ht=>he t (by simp [Kd.reads,ht]))⟩
  split at h
  ·rename_i id kt' es kv v' e1 e2 e3
   exact ⟨_,_,h.2,by simp [Kd.keepS],fun env' he=>⟨fun K' hk=>by simp only [Kd.go,ec env' _ he,e1,e2,e3];exact ⟨h.1,hk⟩,by simp [Kd.pureS]⟩⟩
  ·exact h.elim
 | mapEntry kt z m k =>
  simp only [Kd.go] at h
  have ec:∀ env' S',(∀ t ∈ (Kd.mapEntry kt z m k).reads,env' t=s.env t)→(⟨env',S'⟩:AS).ev m=s.ev m∧(⟨env',S'⟩:AS).ev k=s.ev k:=fun env' S' he =>
   ⟨AF (fun t ht=>he t (by simp [Kd.reads,ht])),AF (fun t ht=>he t (by simp [Kd.reads,ht]))⟩
  split at h
  ·rename_i id kt' es kv e1 e2
   exact ⟨_,_,h.2.2,by simp [Kd.keepS],fun env' he=>⟨fun K' hk=>by simp only [Kd.go,ec env' _ he,e1,e2];exact ⟨h.1,h.2.1,hk⟩,by simp [Kd.pureS]⟩⟩
  ·exact h.elim
 | entrySet m i v =>
  simp only [Kd.go] at h
  have ec:∀ env' S',(∀ t ∈ (Kd.entrySet m i v).reads,env' t=s.env t)→(⟨env',S'⟩:AS).ev m=s.ev m∧(⟨env',S'⟩:AS).ev i=s.ev i∧(⟨env',S'⟩:AS).ev v=s.ev v:=fun env' S' he =>
   ⟨AF (fun t ht=>he t (by simp [Kd.reads,ht])),AF (fun t ht=>he t (by simp [Kd.reads,ht])),AF (fun t ht=>he t (by simp [Kd.reads,ht]))⟩
  split at h
  ·rename_i id kt es kk n v' e1 e2 e3
   exact ⟨_,_,h.2,by simp [Kd.keepS],fun env' he=>⟨fun K' hk=>by simp only [Kd.go,ec env' _ he,e1,e2,e3];exact ⟨h.1,hk⟩,by simp [Kd.pureS]⟩⟩
  ·exact h.elim
 | rangeM m =>
  simp only [Kd.go] at h
  split at h
  ·rename_i id kt es e1
   exact ⟨_,_,h.2,by simp [Kd.keepS],fun env' he=>⟨fun K' hk=>by simp only [Kd.go,AF he,e1];exact ⟨h.1,hk⟩,by simp [Kd.pureS]⟩⟩
  ·exact h.elim
 | next x=>cases hdet
 | memoGet ok z m k=>cases hdet
 | callX f xs=>cases hdet
 | callY f xs=>cases hdet
 | buildArr caps =>
  simp only [Kd.go] at h
  split at h
  ·rename_i cs e1
   exact ⟨_,s.S,h,fun _=>rfl,fun env' he=>⟨fun K' hk=>by simp only [Kd.go,HA he,e1];exact hk,fun _ S' K' hk=>by simp only [Kd.go,HA he,e1];exact hk⟩⟩
  ·exact h.elim
 | makeMemo=>exact ⟨_,_,h.2,by simp [Kd.keepS],fun env' he=>⟨fun K' hk=>⟨h.1,hk⟩,by simp [Kd.pureS]⟩⟩
 | memoSet m k v =>
  simp only [Kd.go] at h
  have ec:∀ env' S',(∀ t ∈ (Kd.memoSet m k v).reads,env' t=s.env t)→(⟨env',S'⟩:AS).ev m=s.ev m∧(⟨env',S'⟩:AS).ev k=s.ev k∧(⟨env',S'⟩:AS).ev v=s.ev v:=fun env' S' he =>
   ⟨AF (fun t ht=>he t (by simp [Kd.reads,ht])),AF (fun t ht=>he t (by simp [Kd.reads,ht])),AF (fun t ht=>he t (by simp [Kd.reads,ht]))⟩
  split at h
  ·rename_i id f cs ds x e1 e2 e3
   exact ⟨_,s.S,h.2.2,fun _=>rfl,fun env' he=>⟨fun K' hk=>by simp only [Kd.go,ec env' _ he,e1,e2,e3];exact ⟨h.1,h.2.1,hk⟩,by simp [Kd.pureS]⟩⟩
  ·exact h.elim
 | lenM m =>
  simp only [Kd.go] at h
  split at h
  ·rename_i id kt es e1
   exact ⟨_,s.S,h.2,fun _=>rfl,fun env' he=>⟨fun K' hk=>by simp only [Kd.go,AF he,e1];exact ⟨h.1,hk⟩,by simp [Kd.pureS]⟩⟩
  ·exact h.elim
 | entry x =>
  simp only [Kd.go] at h
  split at h
  ·rename_i id m seen kt es e1
   split at h
   ·rename_i j e2
    split at h
    ·rename_i y e3
     split at h
     ·rename_i c e4
      exact ⟨_,s.S,h,fun _=>rfl,fun env' he=>⟨fun K' hk=>by simp only [Kd.go,AF he,e1,e2,e3,e4];exact hk,by simp [Kd.pureS]⟩⟩
     ·exact h.elim
    ·exact h.elim
   ·exact h.elim
  ·exact h.elim
 | conv k x =>
  simp only [Kd.go] at h
  split at h
  ·rename_i k' n e1
   exact ⟨_,s.S,h.2,fun _=>rfl,fun env' he=>⟨fun K' hk=>by simp only [Kd.go,AF he,e1];exact ⟨h.1,hk⟩,fun _ S' K' hk=>by simp only [Kd.go,AF he,e1];exact ⟨h.1,hk⟩⟩⟩
  ·exact h.elim
 | nilCheck x =>
  simp only [Kd.go] at h
  split at h
  ·rename_i cs e1
   exact ⟨_,s.S,h,fun _=>rfl,fun env' he=>⟨fun K' hk=>by simp only [Kd.go,AF he,e1];exact hk,by simp [Kd.pureS]⟩⟩
  ·rename_i cs e1
   exact ⟨_,s.S,h,fun _=>rfl,fun env' he=>⟨fun K' hk=>by simp only [Kd.go,AF he,e1];exact hk,by simp [Kd.pureS]⟩⟩
  ·rename_i id m k o e1
   split at h
   ·rename_i b e2
    exact ⟨_,s.S,h.2,fun _=>rfl,fun env' he=>⟨fun K' hk=>by simp only [Kd.go,AF he,e1,e2];exact ⟨h.1,hk⟩,by simp [Kd.pureS]⟩⟩
   ·exact h.elim
  ·exact h.elim
 | mm mx x y =>
  simp only [Kd.go] at h
  have ec:∀ env' S',(∀ t ∈ (Kd.mm mx x y).reads,env' t=s.env t)→(⟨env',S'⟩:AS).ev x=s.ev x∧(⟨env',S'⟩:AS).ev y=s.ev y:=fun env' S' he =>
   ⟨AF (fun t ht=>he t (by simp [Kd.reads,ht])),AF (fun t ht=>he t (by simp [Kd.reads,ht]))⟩
  split at h
  ·rename_i k m k' n e1 e2
   exact ⟨_,s.S,h.2,fun _=>rfl,fun env' he=>⟨fun K' hk=>by simp only [Kd.go,ec env' _ he,e1,e2];exact ⟨h.1,hk⟩,fun _ S' K' hk=>by simp only [Kd.go,ec env' _ he,e1,e2];exact ⟨h.1,hk⟩⟩⟩
  ·exact h.elim
 | makeSlice e w bytes z x y =>
  simp only [Kd.go] at h
  have ec:∀ env' S',(∀ t ∈ (Kd.makeSlice e w bytes z x y).reads,env' t=s.env t)→(⟨env',S'⟩:AS).ev x=s.ev x∧(⟨env',S'⟩:AS).ev y=s.ev y:=fun env' S' he =>
   ⟨AF (fun t ht=>he t (by simp [Kd.reads,ht])),AF (fun t ht=>he t (by simp [Kd.reads,ht]))⟩
  split at h
  ·rename_i k m k' n e1 e2
   exact ⟨_,_,h.2.2.2.2.2,by simp [Kd.keepS],fun env' he=>⟨fun K' hk=>by simp only [Kd.go,ec env' _ he,e1,e2];exact ⟨h.1,h.2.1,h.2.2.1,h.2.2.2.1,h.2.2.2.2.1,hk⟩,by simp [Kd.pureS]⟩⟩
  ·exact h.elim
 | makeFunc g caps =>
  simp only [Kd.go] at h
  split at h
  ·rename_i cs e1
   exact ⟨_,s.S,h,fun _=>rfl,fun env' he=>⟨fun K' hk=>by simp only [Kd.go,HA he,e1];exact hk,fun _ S' K' hk=>by simp only [Kd.go,HA he,e1];exact hk⟩⟩
  ·exact h.elim
 | callS f xs =>
  simp only [Kd.go] at h
  obtain ⟨r,S',hr,hK⟩:=h
  exact ⟨_,_,hK,by simp [Kd.keepS],fun env' he=>⟨fun K' hk=>by simp only [Kd.go,Cl he];exact ⟨r,S',hr,hk⟩,by simp [Kd.pureS]⟩⟩
 | callV f xs =>
  simp only [Kd.go] at h
  split at h
  ·rename_i g caps e1
   obtain ⟨hp,r,S',hr,hK⟩:=h
   have e2:∀ env' S',(∀ t ∈ (Kd.callV f xs).reads,env' t=s.env t)→(⟨env',S'⟩:AS).ev f=s.ev f∧(⟨env',S'⟩:AS).evs xs=s.evs xs:=fun env' S' he =>
    ⟨AF (fun t ht=>he t (by simp [Kd.reads,ht])),Cl (fun t ht=>he t (by simp [Kd.reads,ht]))⟩
   exact ⟨_,_,hK,by simp [Kd.keepS],fun env' he=>⟨fun K' hk=>by simp only [Kd.go,e2 env' _ he,e1];exact ⟨hp,r,S',hr,hk⟩,by simp [Kd.pureS]⟩⟩
  ·exact h.elim
def Eu (S S':AA):Prop:=∀ id b,S id=some b→S' id=some b
theorem IV {S S':AA} (h:Eu S S') {c:AC} {x:SV} (hx:stC S c=some x):stC S' c=some x:=by
 cases c with
 | row id n =>
  simp only [stC] at hx ⊢
  cases hb:S id with
  | none=>rw [hb] at hx;cases hx
  | some b=>rw [hb] at hx;rw [h _ _ hb];exact hx
 | fn f caps=>cases caps <;> exact hx
 | _=>exact hx
theorem M0 {S S':AA} (h:Eu S S'):∀ {cs:List AC} {xs:List SV},stCs S cs=some xs→stCs S' cs=some xs
 | [],xs,hx=>hx
 | c :: cs,xs,hx=>by
  simp only [stCs] at hx ⊢
  split at hx
  ·rename_i x xs' h1 h2
   rw [IV h h1,M0 h h2]
   exact hx
  ·cases hx
theorem MW {S S':AA} (h:Eu S S') {c:AC} {x:AC} (hx:outC S c=some x):outC S' c=some x:=by
 have key:∀ c:AC,(stC S c).map AC.st=some x→(stC S' c).map AC.st=some x:=fun c hx=>by
  rw [Option.map_eq_some_iff] at hx ⊢
  obtain ⟨a,h1,h2⟩:=hx
  exact ⟨a,IV h h1,h2⟩
 cases c with
 | fn f caps =>
  cases caps with
  | nil=>exact hx
  | cons y ys=>exact hx
 | eptr cs=>exact hx
 | ubool=>exact hx
 | _=>simp only [outC] at hx ⊢;exact key _ hx
theorem KZ {S S':AA} (h:Eu S S'):∀ {cs:List AC} {xs:List AC},outCs S cs=some xs→outCs S' cs=some xs
 | [],xs,hx=>hx
 | c :: cs,xs,hx=>by
  simp only [outCs] at hx ⊢
  split at hx
  ·rename_i x xs' h1 h2
   rw [MW h h1,KZ h h2]
   exact hx
  ·cases hx
mutual
theorem SG {S S':AA} (h:Eu S S'):∀ {v x:AV},outV S v=some x→outV S' v=some x
 | .one c,x,hx=>by
  rw [outV,Option.map_eq_some_iff] at hx ⊢
  obtain ⟨a,h1,h2⟩:=hx
  exact ⟨a,MW h h1,h2⟩
 | .agg cs,x,hx=>by
  rw [outV,Option.map_eq_some_iff] at hx ⊢
  obtain ⟨a,h1,h2⟩:=hx
  exact ⟨a,KZ h h1,h2⟩
 | .tup vs,x,hx=>by
  rw [outV,Option.map_eq_some_iff] at hx ⊢
  obtain ⟨a,h1,h2⟩:=hx
  exact ⟨a,Hs h h1,h2⟩
 | .any,x,hx=>hx
theorem Hs {S S':AA} (h:Eu S S'):∀ {vs xs:List AV},outVs S vs=some xs→outVs S' vs=some xs
 | [],xs,hx=>hx
 | v :: vs,xs,hx=>by
  rw [outVs] at hx ⊢
  split at hx
  ·rename_i x xs' h1 h2
   rw [SG h h1,Hs h h2]
   exact hx
  ·cases hx
end
theorem Kw {S':AA} (h:Eu s.S S') {w:Nat} (env':Nat→AV):∀ {xs:List Opd} {es:List (List SV)},(∀ t ∈ Ao xs,env' t=s.env t)→DT s w xs=some es→DT (⟨env',S'⟩:AS) w xs=some es
 | [],es,_,hx=>hx
 | x :: xs,es,he,hx=>by
  simp only [DT] at hx ⊢
  rw [AF (fun t ht=>he t (by simp [Ao,ht]))]
  split at hx
  ·rename_i c e1
   split at hx
   ·rename_i c' es' e2 e3
    rw [M0 h e2,Kw h env' (fun t ht=>he t (by simp [Ao,ht])) e3]
    exact hx
   ·cases hx
  ·cases hx
theorem K9 {S S':AA} (h:Eu S S') {v:AV} {x:Nat × Option KK × List (KV × AV)} (hx:D_ S v=some x):D_ S' v=some x:=by
 unfold D_ at hx ⊢
 split at hx
 ·rename_i id
  split at hx
  ·rename_i kt es e1
   rw [h _ _ e1]
   exact hx
  ·cases hx
 ·cases hx
theorem Nn {S S':AA} (h:Eu S S') {v:AV} {x:(Nat × Nat × List Nat) × Option KK × List (KV × AV)} (hx:FK S v=some x):FK S' v=some x:=by
 unfold FK at hx ⊢
 split at hx
 ·rename_i id
  split at hx
  ·rename_i m n seen e1
   split at hx
   ·rename_i kt es e2
    simp only [h _ _ e1,h _ _ e2]
    exact hx
   ·cases hx
  ·cases hx
 ·cases hx
theorem Kd.det_of_keeps {kd:Kd} (h:kd.keepS=true):kd.det=true:=by cases kd <;> first | rfl | cases h
theorem Og {S S':AA} (h:Eu S S') {v:AV} {x:Nat × (List SV→List SV→SV→Prop)} (hx:Ir S v=some x):Ir S' v=some x:=by
 unfold Ir at hx ⊢
 split at hx
 ·rename_i id
  split at hx
  ·rename_i f e1
   rw [h _ _ e1]
   exact hx
  ·cases hx
 ·cases hx
theorem UQ {kd:Kd} (hk:kd.keepS=true) (h:kd.go P d s K):∃ v,K v s∧∀ S',Eu s.S S'→∀ env':Nat→AV,(∀ t ∈ kd.reads,env' t=s.env t)→∀ K':AV→AS→Prop,K' v ⟨env',S'⟩→kd.go P d ⟨env',S'⟩ K':=by
 by_cases hp:kd.pureS=true
 ·obtain ⟨v,S1,h1,h2,h3⟩:=Gj (Kd.det_of_keeps hk) h
  have:=h2 hk
  subst this
  exact ⟨v,h1,fun S' _ env' he K' hK=>(h3 env' he).2 hp S' K' hK⟩
 cases kd
 case buildSlice mu e w xs =>
  cases mu with
  | true=>simp [Kd.keepS] at hk
  | false =>
   simp only [Kd.go] at h
   split at h
   ·rename_i es e1
    simp only [Bool.false_eq_true,if_false] at h
    exact ⟨_,h,fun S' hs env' he K' hK=>by simp only [Kd.go,Kw hs env' he e1,Bool.false_eq_true,if_false];exact hK⟩
   ·exact h.elim
 case load g n x =>
  simp only [Kd.go] at h
  split at h
  ·rename_i cs e1
   exact ⟨_,h.2,fun S' hs env' he K' hK=>by simp only [Kd.go,AF he,e1];exact ⟨h.1,hK⟩⟩
  ·rename_i cs e1
   exact ⟨_,h.2,fun S' hs env' he K' hK=>by simp only [Kd.go,AF he,e1];exact ⟨h.1,hK⟩⟩
  ·rename_i id m k off e1
   split at h
   ·rename_i cs e2
    refine ⟨_,h.2,fun S' hs env' he K' hK=>?_⟩
    have e3:Cf S' id m k=some cs:=by
     unfold Cf at e2 ⊢
     cases hb:s.S id with
     | none=>rw [hb] at e2;cases e2
     | some b=>rw [hb] at e2;rw [hs _ _ hb];exact e2
    simp only [Kd.go,AF he,e1,e3]
    exact ⟨h.1,hK⟩
   ·exact h.elim
  ·exact h.elim
 case fieldAddr off x =>
  simp only [Kd.go] at h
  split at h
  ·rename_i cs e1
   exact ⟨_,h,fun S' hs env' he K' hK=>by simp only [Kd.go,AF he,e1];exact hK⟩
  ·rename_i cs e1
   exact ⟨_,h,fun S' hs env' he K' hK=>by simp only [Kd.go,AF he,e1];exact hK⟩
  ·rename_i id m k o e1
   split at h
   ·rename_i b e2
    exact ⟨_,h.2,fun S' hs env' he K' hK=>by simp only [Kd.go,AF he,e1,hs _ _ e2];exact ⟨h.1,hK⟩⟩
   ·exact h.elim
  ·exact h.elim
 case indexArr n w x i =>
  simp only [Kd.go] at h
  have ec:∀ env' S',(∀ t ∈ (Kd.indexArr n w x i).reads,env' t=s.env t)→(⟨env',S'⟩:AS).ev x=s.ev x∧(⟨env',S'⟩:AS).ev i=s.ev i:=fun env' S' he =>
   ⟨AF (fun t ht=>he t (by simp [Kd.reads,ht])),AF (fun t ht=>he t (by simp [Kd.reads,ht]))⟩
  split at h
  ·rename_i cs kk k e1 e2
   exact ⟨_,h.2,fun S' hs env' he K' hK=>by simp only [Kd.go,ec env' _ he,e1,e2];exact ⟨h.1,hK⟩⟩
  ·rename_i id m b o kk k e1 e2
   split at h
   ·rename_i bl e3
    exact ⟨_,h.2.2,fun S' hs env' he K' hK=>by simp only [Kd.go,ec env' _ he,e1,e2,hs _ _ e3];exact ⟨h.1,h.2.1,hK⟩⟩
   ·exact h.elim
  ·exact h.elim
 case indexAddr w x i =>
  simp only [Kd.go] at h
  have ec:∀ env' S',(∀ t ∈ (Kd.indexAddr w x i).reads,env' t=s.env t)→(⟨env',S'⟩:AS).ev x=s.ev x∧(⟨env',S'⟩:AS).ev i=s.ev i:=fun env' S' he =>
   ⟨AF (fun t ht=>he t (by simp [Kd.reads,ht])),AF (fun t ht=>he t (by simp [Kd.reads,ht]))⟩
  split at h
  ·rename_i c kk n e1 e2
   split at h
   ·rename_i xs
    unfold CP at h
    obtain ⟨h0,h⟩:=h
    split at h
    ·rename_i x1 hx1
     exact ⟨_,h.2,fun S' hs env' he K' hK=>by simp only [Kd.go,ec env' _ he,e1,e2,CP,hx1];exact ⟨h0,h.1,hK⟩⟩
    ·exact h.elim
   ·rename_i xs
    unfold CP at h
    obtain ⟨h0,h⟩:=h
    split at h
    ·rename_i x1 hx1
     exact ⟨_,h.2,fun S' hs env' he K' hK=>by simp only [Kd.go,ec env' _ he,e1,e2,CP,hx1];exact ⟨h0,h.1,hK⟩⟩
    ·exact h.elim
   ·rename_i id m
    split at h
    ·rename_i e' w' xs hS
     obtain ⟨hm,hw,h⟩:=h
     unfold CP at h
     obtain ⟨h0,h⟩:=h
     split at h
     ·rename_i x1 hx1
      exact ⟨_,h,fun S' hs env' he K' hK=>by simp only [Kd.go,ec env' _ he,e1,e2,hs _ _ hS,CP,hx1];exact ⟨hm,hw,h0,hK⟩⟩
     ·exact h.elim
    ·rename_i e' w' xs hS
     exact ⟨_,h.2.2.2.2,fun S' hs env' he K' hK=>by simp only [Kd.go,ec env' _ he,e1,e2,hs _ _ hS];exact ⟨h.1,h.2.1,h.2.2.1,h.2.2.2.1,hK⟩⟩
    ·rename_i e' cs hS
     exact ⟨_,h.2.2.2.2,fun S' hs env' he K' hK=>by simp only [Kd.go,ec env' _ he,e1,e2,hs _ _ hS];exact ⟨h.1,h.2.1,h.2.2.1,h.2.2.2.1,hK⟩⟩
    ·exact h.elim
   ·exact h.elim
  ·exact h.elim
 case sliceL w x lo hi =>
  simp only [Kd.go] at h
  have ec:∀ env' S',(∀ t ∈ (Kd.sliceL w x lo hi).reads,env' t=s.env t)→(⟨env',S'⟩:AS).ev x=s.ev x∧(∀ n,optI (⟨env',S'⟩:AS) n lo=optI s n lo)∧(∀ n,optI (⟨env',S'⟩:AS) n hi=optI s n hi):=fun env' S' he =>
   ⟨AF (fun t ht=>he t (by simp [Kd.reads,ht])),fun n=>ER (fun t ht=>he t (by simp [Kd.reads,ht])),fun n=>ER (fun t ht=>he t (by simp [Kd.reads,ht]))⟩
  split at h
  ·rename_i c e1
   split at h
   ·rename_i xs e0
    split at h
    ·rename_i l hh e2 e3
     exact ⟨_,h.2.2,fun S' hs env' he K' hK=>by simp only [Kd.go,ec env' _ he,e1,IV hs e0,e2,e3];exact ⟨h.1,h.2.1,hK⟩⟩
    ·exact h.elim
   ·exact h.elim
  ·exact h.elim
 case sliceM w x hi mx =>
  simp only [Kd.go] at h
  have ec:∀ env' S',(∀ t ∈ (Kd.sliceM w x hi mx).reads,env' t=s.env t)→(⟨env',S'⟩:AS).ev x=s.ev x∧(⟨env',S'⟩:AS).ev hi=s.ev hi∧(⟨env',S'⟩:AS).ev mx=s.ev mx:=fun env' S' he =>
   ⟨AF (fun t ht=>he t (by simp [Kd.reads,ht])),AF (fun t ht=>he t (by simp [Kd.reads,ht])),AF (fun t ht=>he t (by simp [Kd.reads,ht]))⟩
  split at h
  ·rename_i c e1
   split at h
   ·rename_i xs e0
    split at h
    ·rename_i kh hh km m e2 e3
     exact ⟨_,h.2.2,fun S' hs env' he K' hK=>by simp only [Kd.go,ec env' _ he,e1,IV hs e0,e2,e3];exact ⟨h.1,h.2.1,hK⟩⟩
    ·exact h.elim
   ·exact h.elim
  ·exact h.elim
 case len str x =>
  simp only [Kd.go] at h
  split at h
  ·rename_i c e1
   split at h
   ·rename_i n e2
    refine ⟨_,h,fun S' hs env' he K' hK=>?_⟩
    have e3:EI S' str c=some n:=by
     unfold EI at e2 ⊢
     split at e2 <;> try exact e2
     all_goals
      first | (rename_i id k m;cases hb:s.S id with
       | none=>rw [hb] at e2;cases e2
       | some b=>rw [hb] at e2;simp only [hs _ _ hb];exact e2) | (rename_i id m;cases hb:s.S id with
       | none=>rw [hb] at e2;cases e2
       | some b=>rw [hb] at e2;simp only [hs _ _ hb];exact e2)
    simp only [Kd.go,AF he,e1,e3]
    exact hK
   ·exact h.elim
  ·exact h.elim
 case restP w x lo =>
  simp only [Kd.go] at h
  have ec:∀ env' S',(∀ t ∈ (Kd.restP w x lo).reads,env' t=s.env t)→(⟨env',S'⟩:AS).ev x=s.ev x∧(⟨env',S'⟩:AS).ev lo=s.ev lo:=fun env' S' he =>
   ⟨AF (fun t ht=>he t (by simp [Kd.reads,ht])),AF (fun t ht=>he t (by simp [Kd.reads,ht]))⟩
  split at h
  ·rename_i id m kk oo e1 e2
   split at h
   ·rename_i e' w' xs e3
    exact ⟨_,h.2.2,fun S' hs env' he K' hK=>by simp only [Kd.go,ec env' _ he,e1,e2,hs _ _ e3];exact ⟨h.1,h.2.1,hK⟩⟩
   ·rename_i e' w' xs e3
    exact ⟨_,h.2.2,fun S' hs env' he K' hK=>by simp only [Kd.go,ec env' _ he,e1,e2,hs _ _ e3];exact ⟨h.1,h.2.1,hK⟩⟩
   ·exact h.elim
  ·exact h.elim
 case cutP w x hi =>
  simp only [Kd.go] at h
  have ec:∀ env' S',(∀ t ∈ (Kd.cutP w x hi).reads,env' t=s.env t)→(⟨env',S'⟩:AS).ev x=s.ev x∧(⟨env',S'⟩:AS).ev hi=s.ev hi:=fun env' S' he =>
   ⟨AF (fun t ht=>he t (by simp [Kd.reads,ht])),AF (fun t ht=>he t (by simp [Kd.reads,ht]))⟩
  split at h
  ·rename_i id k m kk hh e1 e2
   split at h
   ·rename_i e' w' xs e3
    exact ⟨_,h.2.2,fun S' hs env' he K' hK=>by simp only [Kd.go,ec env' _ he,e1,e2,hs _ _ e3];exact ⟨h.1,h.2.1,hK⟩⟩
   ·exact h.elim
  ·exact h.elim
 case indexP w x i =>
  simp only [Kd.go] at h
  have ec:∀ env' S',(∀ t ∈ (Kd.indexP w x i).reads,env' t=s.env t)→(⟨env',S'⟩:AS).ev x=s.ev x∧(⟨env',S'⟩:AS).ev i=s.ev i:=fun env' S' he =>
   ⟨AF (fun t ht=>he t (by simp [Kd.reads,ht])),AF (fun t ht=>he t (by simp [Kd.reads,ht]))⟩
  split at h
  ·rename_i id k m kk hh e1 e2
   split at h
   ·rename_i e' w' xs e3
    exact ⟨_,h.2.2,fun S' hs env' he K' hK=>by simp only [Kd.go,ec env' _ he,e1,e2,hs _ _ e3];exact ⟨h.1,h.2.1,hK⟩⟩
   ·exact h.elim
  ·exact h.elim
 case lookup kt ok z m k =>
  simp only [Kd.go] at h
  have ec:∀ env' S',(∀ t ∈ (Kd.lookup kt ok z m k).reads,env' t=s.env t)→(⟨env',S'⟩:AS).ev m=s.ev m∧(⟨env',S'⟩:AS).ev k=s.ev k:=fun env' S' he =>
   ⟨AF (fun t ht=>he t (by simp [Kd.reads,ht])),AF (fun t ht=>he t (by simp [Kd.reads,ht]))⟩
  split at h
  ·rename_i id kt' es kv e1 e2
   exact ⟨_,h.2,fun S' hs env' he K' hK=>by simp only [Kd.go,ec env' _ he,K9 hs e1,e2];exact ⟨h.1,hK⟩⟩
  ·exact h.elim
 case memoSet m k v =>
  simp only [Kd.go] at h
  have ec:∀ env' S',(∀ t ∈ (Kd.memoSet m k v).reads,env' t=s.env t)→(⟨env',S'⟩:AS).ev m=s.ev m∧(⟨env',S'⟩:AS).ev k=s.ev k∧(⟨env',S'⟩:AS).ev v=s.ev v:=fun env' S' he =>
   ⟨AF (fun t ht=>he t (by simp [Kd.reads,ht])),AF (fun t ht=>he t (by simp [Kd.reads,ht])),AF (fun t ht=>he t (by simp [Kd.reads,ht]))⟩
  split at h
  ·rename_i id f cs ds x e1 e2 e3
   exact ⟨_,h.2.2,fun S' hs env' he K' hK=>by simp only [Kd.go,ec env' _ he,Og hs e1,e2,e3];exact ⟨h.1,h.2.1,hK⟩⟩
  ·exact h.elim
 case lenM m =>
  simp only [Kd.go] at h
  split at h
  ·rename_i id kt es e1
   exact ⟨_,h.2,fun S' hs env' he K' hK=>by simp only [Kd.go,AF he,K9 hs e1];exact ⟨h.1,hK⟩⟩
  ·exact h.elim
 case entry x =>
  simp only [Kd.go] at h
  split at h
  ·rename_i id m seen kt es e1
   split at h
   ·rename_i j e2
    split at h
    ·rename_i y e3
     split at h
     ·rename_i c e4
      exact ⟨_,h,fun S' hs env' he K' hK=>by simp only [Kd.go,AF he,Nn hs e1,e2,e3,e4];exact hK⟩
     ·exact h.elim
    ·exact h.elim
   ·exact h.elim
  ·exact h.elim
 case call f xs =>
  simp only [Kd.go] at h
  split at h
  ·rename_i vs e1
   obtain ⟨r,hr,hK⟩:=h
   exact ⟨_,hK,fun S' hs env' he K' hK'=>by simp only [Kd.go,Cl he,Hs hs e1];exact ⟨r,hr,hK'⟩⟩
  ·exact h.elim
 case callR f xs =>
  simp only [Kd.go] at h
  obtain ⟨r,rows,h0,hr,hK⟩:=h
  exact ⟨_,hK,fun S' hs env' he K' hK'=>by simp only [Kd.go,Cl he];exact ⟨r,rows,fun q hq=>hs _ _ (h0 q hq),hr,hK'⟩⟩
 case nilCheck x =>
  simp only [Kd.go] at h
  split at h
  ·rename_i cs e1
   exact ⟨_,h,fun S' hs env' he K' hK=>by simp only [Kd.go,AF he,e1];exact hK⟩
  ·rename_i cs e1
   exact ⟨_,h,fun S' hs env' he K' hK=>by simp only [Kd.go,AF he,e1];exact hK⟩
  ·rename_i id m k o e1
   split at h
   ·rename_i b e2
    exact ⟨_,h.2,fun S' hs env' he K' hK=>by simp only [Kd.go,AF he,e1,hs _ _ e2];exact ⟨h.1,hK⟩⟩
   ·exact h.elim
  ·exact h.elim
 all_goals first | exact absurd rfl hp | cases hk
def Kd.freshS:Kd→Bool
 | .alloc _ _ | .box _ _ | .buildSlice true _ _ _ | .makeSlice _ _ _ _ _ _ | .callN _ _ | .makeMap _ | .rangeM _ | .makeMemo | .appF _ _ _ _ _ _=>true
 | _=>false
theorem DA {S:AA} {d:Nat} {b:AU} (h:S d=none):Eu S (AK S d (some b)):=fun id b' hb=>by
 rw [AJ _ (fun e=>by subst e;rw [h] at hb;cases hb),hb]
theorem SC {kd:Kd} (hf:kd.freshS=true) (h:kd.go P d s K):kd.go P d s fun v s'=>K v s'∧Eu s.S s'.S:=by
 cases kd
 case alloc e z=>exact ⟨h.1,h.2,DA h.1⟩
 case box e x =>
  simp only [Kd.go] at h ⊢
  split at h
  ·rename_i cs e1
   exact ⟨h.1,h.2,DA h.1⟩
  ·exact h.elim
 case buildSlice mu e w xs =>
  cases mu with
  | false=>cases hf
  | true =>
   simp only [Kd.go,if_true] at h ⊢
   split at h
   ·rename_i es e1
    exact ⟨h.1,h.2,DA h.1⟩
   ·exact h.elim
 case makeSlice e w bytes z x y =>
  simp only [Kd.go] at h ⊢
  split at h
  ·exact ⟨h.1,h.2.1,h.2.2.1,h.2.2.2.1,h.2.2.2.2.1,h.2.2.2.2.2,DA h.2.2.2.2.1⟩
  ·exact h.elim
 case callN f xs =>
  simp only [Kd.go] at h ⊢
  split at h
  ·rename_i vs e1
   obtain ⟨mu,e,w,ys,hr,hd,hK⟩:=h
   exact ⟨mu,e,w,ys,hr,hd,hK,DA hd⟩
  ·exact h.elim
 case appF mu e w bytes x y =>
  simp only [Kd.go] at h ⊢
  split at h
  ·split at h
   ·exact ⟨h.1,h.2.1,h.2.2.1,h.2.2.2.1,h.2.2.2.2.1,h.2.2.2.2.2.1,h.2.2.2.2.2.2,DA h.1⟩
   ·exact h.elim
  ·exact h.elim
 case makeMap kt=>exact ⟨h.1,h.2,DA h.1⟩
 case makeMemo=>exact ⟨h.1,h.2,DA h.1⟩
 case rangeM m =>
  simp only [Kd.go] at h ⊢
  split at h
  ·exact ⟨h.1,h.2,DA h.1⟩
  ·exact h.elim
 all_goals cases hf
end

end Go.Proofs.YtignopbnnaimaaaGreatDoor
