/-
  Part 6 of the texts. Conditions: none.
-/
import Derived.Test.YtignopbnnaimaaaGreatDoorTWi5
import Derived.Lib.Atoi
import Derived.Lib.AtoiBound
import Derived.Lib.ItoaNum
namespace Go.Proofs.YtignopbnnaimaaaGreatDoor
open Go Go.RowKit
set_option linter.unusedVariables false
set_option linter.unusedSimpArgs false
set_option maxHeartbeats 400000
mutual
def AC.clear (ds:List Nat):AC→Bool
 | .row id _=>!ds.contains id
 | .part id _ _=>!ds.contains id
 | .rest id _ _=>!ds.contains id
 | .ptr id _ _ _=>!ds.contains id
 | .mptr id=>!ds.contains id
 | .yld id=>!ds.contains id
 | .ubool=>true
 | .fn _ caps=>AC.clears ds caps
 | .st _=>true
 | .full _=>true
 | .eptr _=>true
 | .any=>true
def AC.clears (ds:List Nat):List AC→Bool
 | []=>true
 | c :: cs=>c.clear ds && AC.clears ds cs
end
theorem Iv {ds:List Nat}:∀ {l:List AC},AC.clears ds l=true→∀ a ∈ l,a.clear ds=true
 | [],_,a,ha=>by simp at ha
 | x :: xs,hx,a,ha=>by
  rw [AC.clears,Bool.and_eq_true] at hx
  rcases List.mem_cons.1 ha with rfl | ha
  ·exact hx.1
  ·exact Iv hx.2 a ha
def AC.purge (ds:List Nat):AC→AC
 | .row id n=>if ds.contains id then .any else .row id n
 | .part id k n=>if ds.contains id then .any else .part id k n
 | .rest id k n=>if ds.contains id then .any else .rest id k n
 | .ptr id n k off=>if ds.contains id then .any else .ptr id n k off
 | .mptr id=>if ds.contains id then .any else .mptr id
 | .yld id=>if ds.contains id then .any else .yld id
 | .fn f caps=>if AC.clears ds caps then .fn f caps else .any
 | c=>c
mutual
def AV.purge (ds:List Nat):AV→AV
 | .one c=>.one (c.purge ds)
 | .agg cs=>.agg (cs.map (AC.purge ds))
 | .tup vs=>.tup (AV.purges ds vs)
 | .any=>.any
def AV.purges (ds:List Nat):List AV→List AV
 | []=>[]
 | v :: vs=>v.purge ds :: AV.purges ds vs
end
def AU.purge (ds:List Nat):AU→AU
 | .box e cs=>.box e (cs.map (AC.purge ds))
 | .crow e cs=>.crow e (cs.map (AC.purge ds))
 | .iter x n seen=>.iter (x.purge ds) n seen
 | .loop env r=>.loop (AV.purges ds env) r
 | b=>b
def CN (ds:List Nat) (S:AA):AA:=fun id=>if ds.contains id then none else (S id).map (AU.purge ds)
def AS.drop (ds:List Nat) (s:AS):AS:=⟨fun i=>(s.env i).purge ds,CN ds s.S⟩
section
variable {C:Ctx} {σ:Sto} {ι:As} {s:AS} {a:Act} {w:World} {ds:List Nat}
theorem BS (b:AU):(b.purge ds).len=b.len:=by cases b <;> first | rfl | simp [AU.purge,AU.len]
theorem Fx (b:AU):(b.purge ds).wid=b.wid:=by cases b <;> rfl
theorem Aq.keepClear {ds:List Nat} {S S2:AA} (hS:∀ id b,ds.contains id=false→S id=some b→∃ b',S2 id=some b'∧b'.len=b.len∧b'.wid=b.wid) {v:Value} {c:AC} (h:Aq σ S ι v c) (hc:c.clear ds=true):Aq σ S2 ι v c:=by
 induction h with
 | st h=>exact .st h
 | full h=>exact .full h
 | row h1 h2 h3 h4 =>
  rw [AC.clear] at hc
  obtain ⟨b',q1,q2,q3⟩:=hS _ _ (by simpa using hc) h1
  exact .row q1 (by rw [q2];exact h2) h3 (by rw [q2];exact h4)
 | part h1 h2 h3 h4 =>
  rw [AC.clear] at hc
  obtain ⟨b',q1,q2,q3⟩:=hS _ _ (by simpa using hc) h1
  exact .part q1 (by rw [q2];exact h2) h3 (by rw [q2];exact h4)
 | rest h1 h2 h3 h4 =>
  rw [AC.clear] at hc
  obtain ⟨b',q1,q2,q3⟩:=hS _ _ (by simpa using hc) h1
  exact .rest q1 (by rw [q2];exact h2) h3 (by rw [q2,q3];exact h4)
 | ptr h1 h2 h3 h4 =>
  rw [AC.clear] at hc
  obtain ⟨b',q1,q2,q3⟩:=hS _ _ (by simpa using hc) h1
  exact .ptr q1 (by rw [q2];exact h2) h3 (by rw [q2,q3];exact h4)
 | mptr h1 h2 h3 h4 =>
  rw [AC.clear] at hc
  obtain ⟨b',q1,q2,q3⟩:=hS _ _ (by simpa using hc) h1
  exact .mptr q1 (by rw [q2];exact h2) h3 (by rw [q2];exact h4)
 | yld h1 h2 h3 h4 =>
  rw [AC.clear] at hc
  obtain ⟨b',q1,q2,q3⟩:=hS _ _ (by simpa using hc) h1
  exact .yld q1 (by rw [q2];exact h2) h3 (by rw [q2];exact h4)
 | ubool=>exact .ubool
 | eptr c h1 h2 hh=>exact .eptr c h1 h2 hh
 | fn c h1 h2 h3 ih =>
  rw [AC.clear] at hc
  exact .fn c h1 h2 (fun j a ha=>ih j a ha (Iv hc a (List.mem_of_getElem? ha)))
 | any h=>exact .any h
theorem Aq.purge (hds:∀ d ∈ ds,d < 1000) {v:Value} {c:AC} (h:Aq σ s.S ι v c):Aq σ (s.drop ds).S ι v (c.purge ds):=by
 have h0:=h
 cases h with
 | st h=>exact .st h
 | full h=>exact .full h
 | @row _ id n b h1 h2 h3 h4 =>
  simp only [AC.purge]
  split
  ·exact .any h3
  ·rename_i hn
   exact .row (b:=b.purge ds) (by simp only [AS.drop,CN,hn];rw [h1];rfl) (by rw [BS];exact h2) h3 (by rw [BS];exact h4)
 | @part _ id k n b h1 h2 h3 h4 =>
  simp only [AC.purge]
  split
  ·exact .any h3
  ·rename_i hn
   exact .part (b:=b.purge ds) (by simp only [AS.drop,CN,hn];rw [h1];rfl) (by rw [BS];exact h2) h3 (by rw [BS];exact h4)
 | @rest _ id k n b h1 h2 h3 h4 =>
  simp only [AC.purge]
  split
  ·exact .any h3
  ·rename_i hn
   exact .rest (b:=b.purge ds) (by simp only [AS.drop,CN,hn];rw [h1];rfl) (by rw [BS];exact h2) h3 (by rw [BS,Fx];exact h4)
 | @ptr _ id n k off b h1 h2 h3 h4 =>
  simp only [AC.purge]
  split
  ·exact .any h3
  ·rename_i hn
   exact .ptr (b:=b.purge ds) (by simp only [AS.drop,CN,hn];rw [h1];rfl) (by rw [BS];exact h2) h3 (by rw [BS,Fx];exact h4)
 | @mptr _ id b h1 h2 h3 h4 =>
  simp only [AC.purge]
  split
  ·exact .any h3
  ·rename_i hn
   exact .mptr (b:=b.purge ds) (by simp only [AS.drop,CN,hn];rw [h1];rfl) (by rw [BS];exact h2) h3 (by rw [BS];exact h4)
 | @yld _ id b h1 h2 h3 h4 =>
  simp only [AC.purge]
  split
  ·exact .any h3
  ·rename_i hn
   exact .yld (b:=b.purge ds) (by simp only [AS.drop,CN,hn];rw [h1];rfl) (by rw [BS];exact h2) h3 (by rw [BS];exact h4)
 | ubool=>exact .ubool
 | eptr c h1 h2 hh=>exact .eptr c h1 h2 hh
 | @fn f vs caps c h1 h2 h3 =>
  simp only [AC.purge]
  split
  ·rename_i hh
   exact h0.keepClear (ds:=ds) (fun id b hid hb=>⟨b.purge ds,by
    show CN ds s.S id=_
    unfold CN
    rw [hid,hb]
    rfl,BS b,Fx b⟩) (by rw [AC.clear];exact hh)
  ·exact .any rfl
 | any h=>exact .any h
mutual
theorem AN.purge (hds:∀ d ∈ ds,d < 1000):∀ {v:Value} {c:AV},AN σ s.S ι v c→AN σ (s.drop ds).S ι v (c.purge ds)
 | v,.one c,h=>by cases h with | one h=>exact .one (h.purge hds)
 | v,.agg cs,h=>by cases h with | agg h=>exact .agg ((h.mono fun _ _ x=>x.purge hds).map_right)
 | v,.tup vs,h=>by
  cases h with
  | tup c h1 h2 h3 =>
   obtain ⟨k1,k2⟩:=AN.purges hds (c:=c) h3
   exact .tup c (by rw [h1,k1]) (fun j b hb=>by
    rcases Nat.lt_or_ge j vs.length with hj | hj
    ·exact h2 j _ (List.getElem?_eq_getElem hj)
    ·rw [List.getElem?_eq_none (by omega)] at hb;cases hb) k2
 | v,.any,h=>.any
theorem AN.purges (hds:∀ d ∈ ds,d < 1000):∀ {vs:List AV} {c:Nat→Value},(∀ j b,vs[j]?=some b→AN σ s.S ι (c j) b)→vs.length=(AV.purges ds vs).length∧∀ j b,(AV.purges ds vs)[j]?=some b→AN σ (s.drop ds).S ι (c j) b
 | [],c,h=>by simp [AV.purges]
 | x :: xs,c,h=>by
  obtain ⟨m1,m2⟩:=AN.purges hds (vs:=xs) (c:=fun j=>c (j + 1)) (fun j b hb=>h (j + 1) b (by simpa using hb))
  refine ⟨by simp [AV.purges,← m1],fun j b hb=>?_⟩
  cases j with
  | zero =>
   simp [AV.purges] at hb
   subst hb
   exact AN.purge hds (h 0 x rfl)
  | succ j=>exact m2 j b (by simpa [AV.purges] using hb)
end
theorem Bc.purge (hds:∀ d ∈ ds,d < 1000) {h:Hnd} {b:AU} (hr:Bc σ s.S ι w h b):Bc σ (s.drop ds).S ι w h (b.purge ds):=by
 cases hr with
 | box h1 h2 h3 h4 h5=>exact .box h1 h2 h3 ((h4.mono fun _ _ x=>x.purge hds).map_right) h5
 | crow h1 h2 h3 hc hm h4 h5=>exact .crow h1 h2 h3 (by simpa using hc) hm (by rw [List.length_map];exact (h4.mono fun _ _ x=>x.purge hds).map_right) h5
 | afull h1 h2 h3 h4=>exact .afull h1 h2 h3 h4
 | arow h1 h2 h3 h4 h5 h6 h7 h8 h9 hh=>exact .arow h1 h2 h3 h4 h5 h6 h7 h8 h9 hh
 | mnil h1 h2=>exact .mnil h1 h2
 | mrow h1 h2 h3 h4 h5 h6 h7 h8 h9=>exact .mrow h1 h2 h3 h4 h5 h6 h7 h8 h9
 | map h1 h2 h3 h4=>exact .map h1 h2 h3 h4
 | memo h1 h2 h3 h4=>exact .memo h1 h2 h3 h4
 | iter h1 h2 h3 h4=>exact .iter h1 h2 (h3.purge hds) h4
 | loop h1 h2 h3 h4 h5 =>
  obtain ⟨k1,k2⟩:=AN.purges hds h4
  exact .loop h1 h2 (by rw [← k1];exact h3) k2 h5
 | dead h1=>exact .dead h1
theorem Fw {id:Nat} {b:AU} (h:(s.drop ds).S id=some b):∃ b',s.S id=some b'∧b=b'.purge ds:=by
 simp only [AS.drop,CN] at h
 split at h
 ·cases h
 ·rw [Option.map_eq_some_iff] at h
  obtain ⟨b',h1,h2⟩:=h
  exact ⟨b',h1,h2.symm⟩
theorem Am.drop (ds:List Nat) (s:AS) (hds:∀ d ∈ ds,d < 1000):Am C s (s.drop ds):=fun a w ⟨σ,ι,R⟩=>by
 refine ⟨σ,ι,R.size,fun i hi=>(R.env i hi).purge hds,R.nod,R.fit,fun id b h=>?_,fun id id' b b' g h1 h2 g1 g2=>?_,fun id b g h hg=>?_,R.ext,R.old,R.os,R.grown,R.same,fun id b hb=>?_⟩
 ·obtain ⟨b',h1,rfl⟩:=Fw h
  exact (R.blk id b' h1).purge hds
 ·obtain ⟨c1,k1,_⟩:=Fw h1
  obtain ⟨c2,k2,_⟩:=Fw h2
  exact R.inj _ _ _ _ _ k1 k2 g1 g2
 ·obtain ⟨c1,k1,_⟩:=Fw h
  exact R.base _ _ _ k1 hg
 ·obtain ⟨b',h1,h2,h3⟩:=R.upd id b hb
  have hid:=(C.clean id b hb).1
  have hnc:ds.contains id=false:=by
   cases hc:ds.contains id with
   | false=>rfl
   | true =>
    have:=hds id (List.contains_iff_mem.1 hc)
    omega
  refine ⟨b'.purge ds,by simp only [AS.drop,CN,hnc];rw [h1];rfl,by rw [BS];exact h2,fun hl=>?_⟩
  rw [BS] at hl
  rw [Fx]
  exact h3 hl
theorem Am.share {id:Nat} {e:TypeId} {wd:Nat} {xs:List (List SV)} (hS:s.S id=some (.mrow e wd xs)):Am C s (s.set id (.arow e wd xs)):=fun a w ⟨σ,ι,R⟩=>by
 have hb:=R.blk _ _ hS
 have hι:AK ι id (ι id)=ι:=by
  funext k
  unfold AK
  split
  ·rename_i h;rw [h]
  ·rfl
 cases hb with
 | mnil h1 h2 =>
  obtain ⟨hu,R'⟩:=R.turn (w':=w) hS (.arow e wd []) (ι id) (σ':=σ) (fun _ _ h=>h) (fun _ _ _=>rfl) R.fit (Nat.le_refl _) (fun _=>⟨rfl,rfl⟩) ⟨rfl,rfl,rfl⟩ (Nat.le_refl _) (fun _ _ _=>rfl) (fun g h=>.inl h) (fun hu=>.afull h1 (by simpa using h2) (by simp) (.list (b:=0) (o:=0) (w:=0) (fun _ _=>undef) rfl (by simp) (by rw [h2];simp [maxLen]) (fun _=>h2) (by simp) (by simp) (fun _ h _=>absurd h (by omega)) (by simp) (by simp)))
  exact ⟨σ,_,R'⟩
 | @mrow _ _ _ g vs h1 h2 h3 h4 h5 h6 h7 h8 h9 =>
  have hl:BC σ vs.toList wd xs:=⟨h7,fun k x j y hx hy=>by simpa using h8 k x j y hx hy⟩
  have hkeep:=Ft (σ:=σ) (w':=w) (g:=g) (k:=xs.length * wd) (fun p x e hx=>by rw [h9 _ e] at hx;cases hx)
  obtain ⟨hu,R'⟩:=R.turn (w':=w) hS (.arow e wd xs) (ι id) (σ':=D3 σ w g (xs.length * wd)) hkeep (fun p hp _=>Fb (fun e=>hp (by rw [e];exact h1))) (EW R.fit) (Nat.le_refl _) (fun _=>⟨rfl,rfl⟩) ⟨rfl,rfl,rfl⟩ (Nat.le_refl _) (fun _ _ _=>rfl) (fun g h=>.inl h)
   (fun hu=>by
    have:=Hl (S':=(s.set id (.arow e wd xs)).S) (ι':=AK ι id (ι id)) (w':=w) (p:=(ι id).p) h2 h3 h4 h5 h6 hl hkeep (fun p hp hne=>absurd (h9 p hp) hne)
    rw [← h1] at this
    exact this)
  exact ⟨_,_,R'⟩
theorem Am.own (t id:Nat) (e:TypeId) (wd:Nat) {xs:List (List SV)} (ht:s.env t=.one (.full xs)) (hid:s.S id=none) (hw:∀ x ∈ xs,x.length=wd) (hn:t < C.n):Am C s ⟨AK s.env t (.one (.row id xs.length)),AK s.S id (some (.arow e wd xs))⟩:=fun a w ⟨σ,ι,R⟩=>by
 have rt:=R.env t hn
 rw [ht] at rt
 generalize hv:a.tmps.getD t undef=v at rt
 cases Aa rt with
 | @full p len xs hs =>
  have hl:len=xs.length:=by
   obtain ⟨p',cap',e1,_⟩:=Cq hs
   cases e1
   rfl
  subst hl
  obtain ⟨hu,R'⟩:=R.fresh (w':=w) hid (.arow e wd xs) ⟨p,xs.length,none⟩ (Ext.refl _ _) R.fit (Below.refl _ _) (by simp) (fun S' ι' hu=>.afull rfl rfl hw hs)
  refine ⟨σ,_,R'.size,fun i hi=>?_,R'.nod,R'.fit,R'.blk,R'.inj,R'.base,R'.ext,R'.old,R'.os,R'.grown,R'.same,R'.upd⟩
  show AN σ (s.set id (.arow e wd xs)).S _ _ (AK s.env t _ i)
  unfold AK
  split
  ·rename_i e1
   subst e1
   rw [hv]
   exact .one (.row (b:=.arow e wd xs) (by simp [AS.set,AD]) (Nat.le_refl _) rfl fun _=>by simp [AK])
  ·exact R'.env i hi
theorem Am.ownM (t id:Nat) (e:TypeId) (wd:Nat) (ht:s.env t=.one (.full [])) (hid:s.S id=none) (hn:t < C.n):Am C s ⟨AK s.env t (.one (.row id 0)),AK s.S id (some (.mrow e wd []))⟩:=fun a w ⟨σ,ι,R⟩=>by
 have rt:=R.env t hn
 rw [ht] at rt
 generalize hv:a.tmps.getD t undef=v at rt
 cases Aa rt with
 | @full p len xs hs =>
  have hl:len=0:=by
   obtain ⟨p',cap',e1,_⟩:=Cq hs
   cases e1
   rfl
  subst hl
  obtain ⟨hu,R'⟩:=R.fresh (w':=w) hid (.mrow e wd []) ⟨p,0,none⟩ (Ext.refl _ _) R.fit (Below.refl _ _) (by simp) (fun S' ι' hu=>.mnil rfl rfl)
  refine ⟨σ,_,R'.size,fun i hi=>?_,R'.nod,R'.fit,R'.blk,R'.inj,R'.base,R'.ext,R'.old,R'.os,R'.grown,R'.same,R'.upd⟩
  show AN σ (s.set id (.mrow e wd [])).S _ _ (AK s.env t _ i)
  unfold AK
  split
  ·rename_i e1
   subst e1
   rw [hv]
   exact .one (.row (b:=.mrow e wd []) (by simp [AS.set,AD]) (Nat.le_refl _) rfl fun _=>by simp [AK])
  ·exact R'.env i hi
theorem Am.keep (t id k n:Nat) {e:TypeId} {wd:Nat} {xs:List (List SV)} (ht:s.env t=.one (.part id k n)) (hS:s.S id=some (.arow e wd xs)) (hl:n=xs.length) (hn:t < C.n):Am C s ⟨AK s.env t (.one (.st (.list (xs.take k)))),s.S⟩:=fun a w ⟨σ,ι,R⟩=>by
 have rt:=R.env t hn
 rw [ht] at rt
 refine ⟨σ,ι,R.size,fun i hi=>?_,R.nod,R.fit,R.blk,R.inj,R.base,R.ext,R.old,R.os,R.grown,R.same,R.upd⟩
 show AN σ s.S ι _ (AK s.env t _ i)
 unfold AK
 split
 ·rename_i e1
  subst e1
  obtain ⟨b,h1,h2,h3⟩:=EZ (Aa rt)
  rw [hS] at h1
  cases h1
  obtain ⟨h4,h5⟩:=h3 hl
  rw [h5]
  have hb:=R.blk _ _ hS
  have hr:=hb.srep
  have hmem:∀ {kk x},(xs.take k)[kk]?=some x→xs[kk]?=some x:=fun hx=>by
   rw [List.getElem?_take] at hx
   split at hx
   ·exact hx
   ·cases hx
  cases hr with
  | @list p len cap b o w' _ c q1 q2 q3 q4 q5 q6 qh q7 q8 =>
   exact .one (.st (.list (b:=b) (o:=o) (w:=w') c (by rw [List.length_take];omega) (by omega) q3 q4 (fun hne=>q5 (by omega)) (fun x hx=>q6 x (List.mem_of_mem_take hx)) (fun e1 e2 e3=>qh e1 e2 (fun e4=>e3 (by rw [e4];exact List.take_nil))) (fun kk x j a hx ha=>q7 kk x j a (hmem hx) ha) (fun kk x j a hx ha=>q8 kk x j a (hmem hx) ha)))
 ·exact R.env i hi
theorem Am.ownC (id j nid:Nat) (e:TypeId) (wd:Nat) {xs:List (List SV)} {ty:TypeId} {cs:List AC} (hb:s.S id=some (.box ty cs)) (hc:cs[j]?=some (.full xs)) (hn:s.S nid=none) (hw:∀ x ∈ xs,x.length=wd) :
  Am C s ((s.set nid (.arow e wd xs)).set id (.box ty (cs.set j (.row nid xs.length)))):=fun a w ⟨σ,ι,R⟩=>by
 have hbk:=R.blk id _ hb
 have hne:id ≠ nid:=fun e=>by subst e;rw [hb] at hn;cases hn
 cases hbk with
 | @box _ _ g vs h1 h2 h3 h4 h5 =>
  obtain ⟨v,hv,hr⟩:=h4.get hc
  cases hr with
  | @full p len xs hs =>
   have hl:len=xs.length:=by
    obtain ⟨p',cap',e1,_⟩:=Cq hs
    cases e1
    rfl
   subst hl
   obtain ⟨hu,R'⟩:=R.fresh (w':=w) hn (.arow e wd xs) ⟨p,xs.length,none⟩ (Ext.refl _ _) R.fit (Below.refl _ _) (by simp) (fun S' ι' hu=>.afull rfl rfl hw hs)
   have hb':(s.set nid (.arow e wd xs)).S id=some (.box ty cs):=by simp [AS.set,AJ _ hne,hb]
   have hι:AK ι nid ⟨p,xs.length,none⟩ id=ι id:=AJ _ hne _
   obtain ⟨hu2,R2⟩:=R'.turn (w':=w) hb' (.box ty (cs.set j (.row nid xs.length))) (AK ι nid ⟨p,xs.length,none⟩ id) (σ':=σ) (fun _ _ h=>h) (fun _ _ _=>rfl) R.fit (Nat.le_refl _) (fun _=>⟨by simp [AU.wid],rfl⟩) ⟨rfl,rfl,rfl⟩ (Nat.le_refl _) (fun _ _ _=>rfl) (fun g h=>.inl h) (fun hu2=>by
    refine .box (by rw [hι];exact h1) (by rw [hι];exact h2) h3 (Af.of_get (by rw [List.length_set];exact h4.len) fun k u c hu' hck=>?_) h5
    by_cases hk:k=j
    ·subst hk
     rw [hv] at hu'
     cases hu'
     have hlt:k < cs.length:=(List.getElem?_eq_some_iff.1 hc).1
     rw [List.getElem?_set_self hlt] at hck
     cases hck
     exact .row (b:=.arow e wd xs) (by simp [AS.set,AK,hne.symm]) (Nat.le_refl _) rfl fun _=>by simp [AK,hne.symm]
    ·rw [List.getElem?_set_ne (fun e=>hk e.symm)] at hck
     obtain ⟨u',q1,q2⟩:=h4.get hck
     rw [hu'] at q1
     cases q1
     exact (q2.mono (fun _ _ h=>h) hu).mono (fun _ _ h=>h) hu2)
   exact ⟨_,_,R2⟩
theorem LK {v:Value} {c:AV} (h:AN σ noS noH v c):AN σ s.S ι v c:=h.mono (fun _ _ h=>h) (HF _ _)
theorem Am.settle (t:Nat) {v:AV} (h:outV s.S (s.env t)=some v):Am C s ⟨AK s.env t v,s.S⟩:=fun a w ⟨σ,ι,R⟩=>by
 refine ⟨σ,ι,R.size,fun i hi=>?_,R.nod,R.fit,R.blk,R.inj,R.base,R.ext,R.old,R.os,R.grown,R.same,R.upd⟩
 show AN σ s.S ι _ (AK s.env t v i)
 unfold AK
 split
 ·rename_i e
  subst e
  exact LK (R.outV (R.env i hi) h)
 ·exact R.env i hi
def AV.low (v:AV):AV:=if v.high then v else .any
theorem AT.low (R:AT C σ ι s a w) (hb:∀ i b,1000≤i→s.S i=some b→b.high=true):AT C σ ι ⟨fun i=>(s.env i).low,Dd s.S⟩ a w:=by
 have hS:∀ i b,1000≤i→s.S i=some b→Dd s.S i=some b:=fun i b hi h=>by
  show (if i < 1000 then none else s.S i)=some b
  rw [if_neg (by omega),h]
 have hinv:∀ i b,Dd s.S i=some b→1000≤i∧s.S i=some b:=fun i b h=>by
  have h':(if i < 1000 then none else s.S i)=some b:=h
  split at h'
  ·cases h'
  ·exact ⟨by omega,h'⟩
 refine ⟨R.size,fun i hi=>?_,R.nod,R.fit,fun id b h=>?_,fun id id' b b' g h1 h2 g1 g2=>R.inj _ _ _ _ g (hinv _ _ h1).2 (hinv _ _ h2).2 g1 g2,fun id b g h hg=>R.base _ _ g (hinv _ _ h).2 hg,R.ext,R.old,R.os,R.grown,R.same,fun id b h=>?_⟩
 ·show AN σ (Dd s.S) ι _ ((s.env i).low)
  unfold AV.low
  split
  ·rename_i hh
   exact (R.env i hi).low hS hh
  ·exact .any
 ·obtain ⟨h1,h2⟩:=hinv _ _ h
  have hh:=hb id b h1 h2
  cases R.blk id b h2 with
  | box k1 k2 k3 k4 k5=>exact .box k1 k2 k3 (J3 hS k4 hh) k5
  | crow k1 k2 k3 kc km k4 k5=>exact .crow k1 k2 k3 kc km (J3 hS k4 hh) k5
  | afull k1 k2 k3 k4=>exact .afull k1 k2 k3 k4
  | arow k1 k2 k3 k4 k5 k6 k7 k8 k9 kh=>exact .arow k1 k2 k3 k4 k5 k6 k7 k8 k9 kh
  | mnil k1 k2=>exact .mnil k1 k2
  | mrow k1 k2 k3 k4 k5 k6 k7 k8 k9=>exact .mrow k1 k2 k3 k4 k5 k6 k7 k8 k9
  | map k1 k2 k3 k4=>exact .map k1 k2 k3 k4
  | memo k1 k2 k3 k4=>exact .memo k1 k2 k3 k4
  | iter k1 k2 k3 k4=>exact .iter k1 k2 (k3.low hS hh) k4
  | loop k1 k2 k3 k4 k5=>exact .loop k1 k2 k3 (AN.lows hS k4 hh) k5
  | dead k1=>exact .dead k1
 ·obtain ⟨b',h1,h2⟩:=R.upd id b h
  exact ⟨b',hS _ _ (C.clean id b h).1 h1,h2⟩
theorem Am.low (hb:∀ i b,1000≤i→s.S i=some b→b.high=true):Am C s ⟨fun i=>(s.env i).low,Dd s.S⟩:=fun a w ⟨σ,ι,R⟩=>⟨σ,ι,R.low hb⟩
def Bb (id a:Nat) (i:Nat):Nat:=if i=id then a else i
def AV.hand (id a:Nat) (v:AV):AV:=if (v.ren (Bb id a)).high then v.ren (Bb id a) else .any
section
variable {S S2:AA} {ι2:As} {id a0:Nat}
theorem Aq.hand (hS:∀ i b,1000≤Bb id a0 i→S i=some b→S2 (Bb id a0 i)=some b∧ι2 (Bb id a0 i)=ι i) {v:Value} {c:AC} (h:Aq σ S ι v c) (hc:(c.ren (Bb id a0)).high=true):Aq σ S2 ι2 v (c.ren (Bb id a0)):=by
 induction h with
 | st h=>exact .st h
 | full h=>exact .full h
 | row h1 h2 h3 h4 =>
  rw [AC.ren,AC.high] at hc
  obtain ⟨q1,q2⟩:=hS _ _ (of_decide_eq_true hc) h1
  rw [AC.ren]
  exact .row q1 h2 h3 (fun hn=>by rw [q2];exact h4 hn)
 | part h1 h2 h3 h4 =>
  rw [AC.ren,AC.high] at hc
  obtain ⟨q1,q2⟩:=hS _ _ (of_decide_eq_true hc) h1
  rw [AC.ren]
  exact .part q1 h2 h3 (fun hn=>by rw [q2];exact h4 hn)
 | rest h1 h2 h3 h4 =>
  rw [AC.ren,AC.high] at hc
  obtain ⟨q1,q2⟩:=hS _ _ (of_decide_eq_true hc) h1
  rw [AC.ren]
  exact .rest q1 h2 h3 (fun hn=>by rw [q2];exact h4 hn)
 | ptr h1 h2 h3 h4 =>
  rw [AC.ren,AC.high] at hc
  obtain ⟨q1,q2⟩:=hS _ _ (of_decide_eq_true hc) h1
  rw [AC.ren]
  exact .ptr q1 h2 h3 (fun hn=>by rw [q2];exact h4 hn)
 | mptr h1 h2 h3 h4 =>
  rw [AC.ren,AC.high] at hc
  obtain ⟨q1,q2⟩:=hS _ _ (of_decide_eq_true hc) h1
  rw [AC.ren]
  exact .mptr q1 h2 h3 (fun hn=>by rw [q2];exact h4 hn)
 | yld h1 h2 h3 h4 =>
  rw [AC.ren,AC.high] at hc
  obtain ⟨q1,q2⟩:=hS _ _ (of_decide_eq_true hc) h1
  rw [AC.ren]
  exact .yld q1 h2 h3 (fun hn=>by rw [q2];exact h4 hn)
 | ubool=>exact .ubool
 | eptr c h1 h2 hh=>exact .eptr c h1 h2 hh
 | @fn f vs caps c h1 h2 h3 ih =>
  rw [AC.ren,AC.high] at hc
  rw [AC.ren]
  have key:∀ (j:Nat) (b:AC),(AC.rens (Bb id a0) caps)[j]?=some b→∃ a,caps[j]?=some a∧b=a.ren (Bb id a0):=fun j b hb=>by
   rw [AC.rens_eq,List.getElem?_map,Option.map_eq_some_iff] at hb
   obtain ⟨a,ha,rfl⟩:=hb
   exact ⟨a,ha,rfl⟩
  refine .fn c (by rw [AC.rens_eq];simpa using h1) (fun j b hb=>?_) (fun j b hb=>?_)
  ·obtain ⟨a,ha,rfl⟩:=key j b hb
   exact h2 j a ha
  ·have hm:=Cs hc b (List.mem_of_getElem? hb)
   obtain ⟨a,ha,rfl⟩:=key j b hb
   exact ih j a ha hm
 | any h=>exact .any h
mutual
theorem AN.hand (hS:∀ i b,1000≤Bb id a0 i→S i=some b→S2 (Bb id a0 i)=some b∧ι2 (Bb id a0 i)=ι i):∀ {v:Value} {c:AV},AN σ S ι v c→(c.ren (Bb id a0)).high=true→AN σ S2 ι2 v (c.ren (Bb id a0))
 | v,.one c,h,hc=>by
  rw [AV.ren] at hc ⊢
  rw [AV.high] at hc
  cases h with | one h=>exact .one (h.hand hS hc)
 | v,.agg cs,h,hc=>by
  rw [AV.ren] at hc ⊢
  rw [AV.high] at hc
  cases h with
  | agg h =>
   refine .agg (Af.of_get (by rw [AC.rens_eq];simpa using h.len) fun j x c hx hcj=>?_)
   have hm:=Cs hc c (List.mem_of_getElem? hcj)
   rw [AC.rens_eq,List.getElem?_map,Option.map_eq_some_iff] at hcj
   obtain ⟨c',hc',rfl⟩:=hcj
   obtain ⟨x',h1,h2⟩:=h.get hc'
   rw [hx] at h1
   cases h1
   exact h2.hand hS hm
 | v,.tup vs,h,hc=>by
  rw [AV.ren] at hc ⊢
  rw [AV.high] at hc
  cases h with
  | tup c h1 h2 h3 =>
   obtain ⟨k1,k2⟩:=AN.hands hS h3 hc
   exact .tup c (by rw [h1,k1]) (fun j b hb=>by
    rcases Nat.lt_or_ge j vs.length with hj | hj
    ·exact h2 j _ (List.getElem?_eq_getElem hj)
    ·rw [List.getElem?_eq_none (by omega)] at hb;cases hb) k2
 | v,.any,h,_=>.any
theorem AN.hands (hS:∀ i b,1000≤Bb id a0 i→S i=some b→S2 (Bb id a0 i)=some b∧ι2 (Bb id a0 i)=ι i):∀ {vs:List AV} {c:Nat→Value},(∀ j b,vs[j]?=some b→AN σ S ι (c j) b)→AV.highs (AV.rens (Bb id a0) vs)=true→vs.length=(AV.rens (Bb id a0) vs).length∧∀ j b,(AV.rens (Bb id a0) vs)[j]?=some b→AN σ S2 ι2 (c j) b
 | [],c,h,_=>by simp [AV.rens]
 | x :: xs,c,h,hc=>by
  rw [AV.rens,AV.highs,Bool.and_eq_true] at hc
  obtain ⟨m1,m2⟩:=AN.hands hS (vs:=xs) (c:=fun j=>c (j + 1)) (fun j b hb=>h (j + 1) b (by simpa using hb)) hc.2
  refine ⟨by simp [AV.rens,← m1],fun j b hb=>?_⟩
  cases j with
  | zero =>
   simp [AV.rens] at hb
   subst hb
   exact AN.hand hS (h 0 x rfl) hc.1
  | succ j=>exact m2 j b (by simpa [AV.rens] using hb)
end
end
theorem Aq.stay {S S2:AA} {ι2:As} (hS:∀ i b,1000≤i→S i=some b→S2 i=some b∧ι2 i=ι i) {v:Value} {c:AC} (h:Aq σ S ι v c) (hc:c.high=true):Aq σ S2 ι2 v c:=by
 induction h with
 | st h=>exact .st h
 | full h=>exact .full h
 | row h1 h2 h3 h4 =>
  rw [AC.high] at hc
  obtain ⟨q1,q2⟩:=hS _ _ (of_decide_eq_true hc) h1
  exact .row q1 h2 h3 (fun hn=>by rw [q2];exact h4 hn)
 | part h1 h2 h3 h4 =>
  rw [AC.high] at hc
  obtain ⟨q1,q2⟩:=hS _ _ (of_decide_eq_true hc) h1
  exact .part q1 h2 h3 (fun hn=>by rw [q2];exact h4 hn)
 | rest h1 h2 h3 h4 =>
  rw [AC.high] at hc
  obtain ⟨q1,q2⟩:=hS _ _ (of_decide_eq_true hc) h1
  exact .rest q1 h2 h3 (fun hn=>by rw [q2];exact h4 hn)
 | ptr h1 h2 h3 h4 =>
  rw [AC.high] at hc
  obtain ⟨q1,q2⟩:=hS _ _ (of_decide_eq_true hc) h1
  exact .ptr q1 h2 h3 (fun hn=>by rw [q2];exact h4 hn)
 | mptr h1 h2 h3 h4 =>
  rw [AC.high] at hc
  obtain ⟨q1,q2⟩:=hS _ _ (of_decide_eq_true hc) h1
  exact .mptr q1 h2 h3 (fun hn=>by rw [q2];exact h4 hn)
 | yld h1 h2 h3 h4 =>
  rw [AC.high] at hc
  obtain ⟨q1,q2⟩:=hS _ _ (of_decide_eq_true hc) h1
  exact .yld q1 h2 h3 (fun hn=>by rw [q2];exact h4 hn)
 | ubool=>exact .ubool
 | eptr c h1 h2 hh=>exact .eptr c h1 h2 hh
 | fn c h1 h2 h3 ih =>
  rw [AC.high] at hc
  exact .fn c h1 h2 (fun j a ha=>ih j a ha (Cs hc a (List.mem_of_getElem? ha)))
 | any h=>exact .any h
theorem AT.hand (R:AT C σ ι s a w) (id a0:Nat) {b0:AU} (hid:id < 1000) (ha:1000≤a0) (hSa:s.S a0=none) (hb0:s.S id=some b0) (hbh:b0.high=true) (hb:∀ i b,1000≤i→s.S i=some b→b.high=true) :
  AT C σ (AK ι a0 (ι id)) ⟨fun i=>(s.env i).hand id a0,AK (Dd s.S) a0 (some b0)⟩ a w∧∀ i b,1000≤Bb id a0 i→s.S i=some b→AK (Dd s.S) a0 (some b0) (Bb id a0 i)=some b∧AK ι a0 (ι id) (Bb id a0 i)=ι i:=by
 have hlow:∀ i,1000≤i→Dd s.S i=s.S i:=fun i hi=>by
  show (if i < 1000 then none else s.S i)=_
  rw [if_neg (by omega)]
 have hS:∀ i b,1000≤Bb id a0 i→s.S i=some b→AK (Dd s.S) a0 (some b0) (Bb id a0 i)=some b∧AK ι a0 (ι id) (Bb id a0 i)=ι i:=fun i b hi h=>by
  unfold Bb at hi ⊢
  by_cases e:i=id
  ·subst e
   rw [if_pos rfl,AD,AD,← hb0,h]
   exact ⟨rfl,rfl⟩
  ·rw [if_neg e] at hi ⊢
   have hne:i ≠ a0:=fun e=>by subst e;rw [hSa] at h;cases h
   rw [AJ _ hne,AJ _ hne,hlow i hi]
   exact ⟨h,rfl⟩
 have hS':∀ i b,1000≤i→s.S i=some b→AK (Dd s.S) a0 (some b0) i=some b∧AK ι a0 (ι id) i=ι i:=fun i b hi h=>by
  have hne:i ≠ a0:=fun e=>by subst e;rw [hSa] at h;cases h
  rw [AJ _ hne,AJ _ hne,hlow i hi]
  exact ⟨h,rfl⟩
 have hinv:∀ i b,AK (Dd s.S) a0 (some b0) i=some b→(i=a0∧b=b0) ∨ (i ≠ a0∧1000≤i∧s.S i=some b):=fun i b h=>by
  by_cases e:i=a0
  ·subst e
   rw [AD] at h
   cases h
   exact .inl ⟨rfl,rfl⟩
  ·rw [AJ _ e] at h
   have h':(if i < 1000 then none else s.S i)=some b:=h
   split at h'
   ·cases h'
   ·exact .inr ⟨e,by omega,h'⟩
 refine ⟨⟨R.size,fun i hi=>?_,R.nod,R.fit,fun i b h=>?_,fun i j b c g h1 h2 g1 g2=>?_,fun i b g h hg=>?_,R.ext,R.old,R.os,R.grown,R.same,fun i b h=>?_⟩,hS⟩
 ·show AN σ (AK (Dd s.S) a0 (some b0)) _ _ ((s.env i).hand id a0)
  unfold AV.hand
  split
  ·rename_i hh
   exact (R.env i hi).hand hS hh
  ·exact .any
 ·rcases hinv i b h with ⟨rfl,rfl⟩ | ⟨hne,h1,h2⟩
  ·rw [AD]
   exact (R.blk id _ hb0).samecells (fun v c hv hc=>hv.stay hS' hc) hbh
  ·rw [AJ _ hne]
   exact (R.blk i b h2).samecells (fun v c hv hc=>hv.stay hS' hc) (hb i b h1 h2)
 ·rcases hinv i b h1 with ⟨rfl,rfl⟩ | ⟨hne,k1,k2⟩ <;> rcases hinv j c h2 with ⟨rfl,rfl⟩ | ⟨hne',k1',k2'⟩
  ·rfl
  ·rw [AD] at g1
   rw [AJ _ hne'] at g2
   have:=R.inj _ _ _ _ g hb0 k2' g1 g2
   omega
  ·rw [AD] at g2
   rw [AJ _ hne] at g1
   have:=R.inj _ _ _ _ g k2 hb0 g1 g2
   omega
  ·rw [AJ _ hne] at g1
   rw [AJ _ hne'] at g2
   exact R.inj _ _ _ _ g k2 k2' g1 g2
 ·rcases hinv i b h with ⟨rfl,rfl⟩ | ⟨hne,k1,k2⟩
  ·rw [AD] at hg
   exact R.base _ _ g hb0 hg
  ·rw [AJ _ hne] at hg
   exact R.base _ _ g k2 hg
 ·obtain ⟨b',h1,h2,h3⟩:=R.upd i b h
  obtain ⟨q1,q2⟩:=hS' i b' (C.clean i b h).1 h1
  exact ⟨b',q1,h2,fun hl=>⟨(h3 hl).1,by rw [q2];exact (h3 hl).2⟩⟩
theorem Am.hand (id a0:Nat) {b0:AU} (hid:id < 1000) (ha:1000≤a0) (hSa:s.S a0=none) (hb0:s.S id=some b0) (hbh:b0.high=true) (hb:∀ i b,1000≤i→s.S i=some b→b.high=true):Am C s ⟨fun i=>(s.env i).hand id a0,AK (Dd s.S) a0 (some b0)⟩:=fun a w ⟨σ,ι,R⟩ =>
 ⟨σ,_,(R.hand id a0 hid ha hSa hb0 hbh hb).1⟩
theorem Kz {C:Ctx} {rs:List RV} {S':AA} {e:AX} {s:AS} (he:match e with | .normal=>True | .ret=>True | _=>False) (id a0:Nat) (r0:AV) {b0:AU} (hid:id < 1000) (ha:1000≤a0) (hSa:s.S a0=none) (hb0:s.S id=some b0) (hbh:b0.high=true) (hb:∀ i b,1000≤i→s.S i=some b→b.high=true)
  (h1:(AB s rs).map AQ=some r0) (hh:(r0.ren (Bb id a0)).high=true) (h3:AK (Dd s.S) a0 (some b0)=S') (hc:An S'):Gu C rs (r0.ren (Bb id a0)) S' e s :=
 ⟨he,s,⟨fun i=>(s.env i).hand id a0,AK (Dd s.S) a0 (some b0)⟩,r0,Am.refl _ _,h1,fun σ ι a w R=>⟨σ,_,(R.hand id a0 hid ha hSa hb0 hbh hb).1,fun v hv=>hv.hand (R.hand id a0 hid ha hSa hb0 hbh hb).2 hh⟩,h3,hc⟩
theorem C5 (S:AA) (i:Nat):upS S (up1 i)=(S i).map (AU.ren up1):=by
 show (if i + 1000 < 1000 then none else (S (i + 1000 - 1000)).map (AU.ren up1))=_
 rw [if_neg (by omega),Nat.add_sub_cancel]
theorem CE (S:AA) (i:Nat) (b:AU):dnS (AK S (up1 i) (some b))=AK (dnS S) i (some (b.ren dn1)):=by
 funext k
 show (AK S (up1 i) (some b) (up1 k)).map _=AK (dnS S) i _ k
 by_cases h:k=i
 ·subst h
  rw [AD,AD]
  rfl
 ·have hne:up1 k ≠ up1 i:=fun e=>h (by have:=congrArg dn1 e;rw [DF,DF] at this;exact this)
  rw [AJ _ hne,AJ _ h]
  rfl
theorem A2 {S:AA} (h:An S) {i:Nat} (hi:1000≤i) {b:AU} (hb:b.high=true):An (AK S i (some b)):=fun k c hk=>by
 by_cases e:k=i
 ·subst e
  rw [AD] at hk
  cases hk
  exact ⟨hi,hb⟩
 ·rw [AJ _ e] at hk
  exact h k c hk
end
theorem IWP.loopD {P:Program} {C:Ctx} {mu:List Nat} {Q:AX→AS→Prop} {s:AS} {x:IR} (ds:List Nat) (Inv:Nat→AS→Prop) (m0:Nat) (h0:Inv m0 s) (h:∀ m s,Inv m s→IWP P C mu x (AX.then (fun s'=>∃ m',m' < m∧Inv m' (s'.drop ds)) Q) s) (hds:∀ d ∈ ds,d < 1000:=by decide):IWP P C mu (.loop x) Q s:=by
 refine IWP.loop (fun m s=>∃ s1,Am C s s1∧Inv m s1) m0 ⟨s,Am.refl _ _,h0⟩ fun m s ⟨s1,hg,hi⟩=>?_
 refine (IWP.ghost hg (h m s1 hi)).mono fun e s2 he=>?_
 cases e with
 | normal =>
  obtain ⟨m',h1,h2⟩:=he
  exact ⟨m',h1,_,Am.drop ds s2 hds,h2⟩
 | _=>exact he
theorem Aq.out {σ:Sto} {S:AA} {ι:As} {v:Value} {c:AC} (h:Aq σ S ι v c) (hc:outC noS c=some c):Aq σ noS noH v c:=by
 cases h with
 | st h=>exact .st h
 | full h=>simp [outC,stC] at hc
 | row h1 h2 h3 h4=>simp [outC,stC,noS] at hc
 | part h1 h2 h3 h4=>simp [outC,stC,noS] at hc
 | rest h1 h2 h3 h4=>simp [outC,stC,noS] at hc
 | ptr h1 h2 h3 h4=>simp [outC,stC] at hc
 | mptr h1 h2 h3 h4=>simp [outC,stC] at hc
 | yld h1 h2 h3 h4=>simp [outC,stC] at hc
 | ubool=>exact .ubool
 | eptr c h1 h2 hh=>exact .eptr c h1 h2 hh
 | @fn f vs caps c h1 h2 h3 =>
  cases caps with
  | nil=>exact .fn c h1 h2 (by simp)
  | cons x xs =>
   have hall:(x :: xs).all AC.stay=true:=by
    unfold outC at hc
    by_cases e:(x :: xs).all AC.stay=true
    ·exact e
    ·simp only [e,if_false] at hc
     cases hc
   exact .fn c h1 h2 fun j a ha=>(h3 j a ha).staying (List.all_eq_true.1 hall a (List.mem_of_getElem? ha))
 | any h=>simp [outC,stC] at hc
theorem JE:∀ {cs:List AC},outCs noS cs=some cs→∀ c ∈ cs,outC noS c=some c
 | [],_,c,hc=>by simp at hc
 | x :: xs,h,c,hc=>by
  simp only [outCs] at h
  split at h
  ·rename_i y ys h1 h2
   simp only [Option.some.injEq,List.cons.injEq] at h
   obtain ⟨rfl,rfl⟩:=h
   rcases List.mem_cons.1 hc with rfl | hc
   ·exact h1
   ·exact JE h2 c hc
  ·cases h
mutual
theorem AN.out {σ:Sto} {S:AA} {ι:As}:∀ {v:Value} {c:AV},AN σ S ι v c→outV noS c=some c→AN σ noS noH v c
 | v,.one c,h,hc=>by
  rw [outV,Option.map_eq_some_iff] at hc
  obtain ⟨a,h1,h2⟩:=hc
  cases h2
  cases h with | one h=>exact .one (h.out h1)
 | v,.agg cs,h,hc=>by
  rw [outV,Option.map_eq_some_iff] at hc
  obtain ⟨a,h1,h2⟩:=hc
  cases h2
  cases h with
  | agg h=>exact .agg (Af.of_get h.len fun j x c hx hcj=>by
    obtain ⟨x',q1,q2⟩:=h.get hcj
    rw [hx] at q1
    cases q1
    exact q2.out (JE h1 c (List.mem_of_getElem? hcj)))
 | v,.tup vs,h,hc=>by
  rw [outV,Option.map_eq_some_iff] at hc
  obtain ⟨a,h1,h2⟩:=hc
  cases h2
  cases h with
  | tup c k1 k2 k3=>exact .tup c k1 k2 (AN.outs k3 h1)
 | v,.any,h,_=>.any
theorem AN.outs {σ:Sto} {S:AA} {ι:As}:∀ {vs:List AV} {c:Nat→Value},(∀ j b,vs[j]?=some b→AN σ S ι (c j) b)→outVs noS vs=some vs→∀ j b,vs[j]?=some b→AN σ noS noH (c j) b
 | [],c,h,_,j,b,hb=>by simp at hb
 | x :: xs,c,h,hc,j,b,hb=>by
  rw [outVs] at hc
  split at hc
  ·rename_i y ys h1 h2
   simp only [Option.some.injEq,List.cons.injEq] at hc
   obtain ⟨rfl,rfl⟩:=hc
   cases j with
   | zero =>
    simp at hb
    subst hb
    exact AN.out (h 0 _ rfl) h1
   | succ j=>exact AN.outs (c:=fun j=>c (j + 1)) (fun j b hb=>h (j + 1) b (by simpa using hb)) h2 j b (by simpa using hb)
  ·cases hc
end
theorem AW.toS {P:Program} {f:FuncId} {xs:List AV} {S:AA} {r:AV} (h:AW P f xs r) (hx:outVs noS xs=some xs):Ay P f xs S r S:=by
 intro hclean σ w vs ι hglob hfit hown hvs
 have hvs':Af (AN σ noS noH) vs xs:=Af.of_get hvs.len fun j v x hv hxj=>by
  have:=AN.outs (c:=fun j=>(vs[j]?).getD undef) (σ:=σ) (S:=S) (ι:=ι) (vs:=xs) (fun j b hb=>by
   obtain ⟨v',h1,h2⟩:=hvs.get hb
   rw [h1]
   exact h2) hx j x hxj
  rw [hv] at this
  exact this
 refine (h σ w vs hglob hfit hvs').mono fun e w' he=>?_
 obtain ⟨v,σ',he1,he2,hf,hext,hb⟩:=he
 have hlt:∀ id b g,S id=some b→(ι id).g=some g→g < w.heap.size:=fun id b g h1 h2=>(hown.1 id b h1).gsome h2
 refine ⟨v,σ',ι,he1,hclean,Upd.refl _ _,⟨fun id b hid=>(hown.1 id b hid).mono hext.keep (Upd.refl _ _) (fun g hg=>hb.block g (hlt id b g hid hg)) (fun g hg p hp=>hext.old p (by have:=hlt id b g hid hg;omega)),hown.2⟩,
  LK (s:=⟨fun _=>.any,S⟩) he2,hf,hext.keep,fun p hp _=>hext.old p hp,⟨hb.os,hb.tape,hb.output⟩,hb.size,fun g hg _=>hb.block g hg,fun id b g h1 h2=>.inr fun hn=>hn id b h1 h2⟩
theorem I_ {C:Ctx} {rs:List RV} {r:AV} {S':AA} {e:AX} {s:AS} (he:match e with | .normal=>True | .ret=>True | _=>False) (r0:AV) (h1:(AB s rs).map AQ=some r0) (h2:outV s.S r0=some r) (hb:∀ i b,1000≤i→s.S i=some b→b.high=true) (h3:Dd s.S=S') (hc:An S'):Gu C rs r S' e s:=by
 refine ⟨he,s,⟨fun i=>(s.env i).low,Dd s.S⟩,r0,Am.refl _ _,h1,fun σ ι a w R=>?_,h3,hc⟩
 exact ⟨σ,ι,R.low hb,fun v hv=>LK (s:=⟨fun i=>(s.env i).low,Dd s.S⟩) (R.outV hv h2)⟩
theorem CL {C:Ctx} {rs:List RV} {r:AV} {e:AX} {s:AS} {S:AA} (r0:AV) (hS:An S) (he:match e with | .normal=>True | .ret=>True | _=>False)
  (h1:(AB s rs).map AQ=some r0) (h2:outV s.S r0=some r) (h4:∀ i,1000≤i→s.S i=S i):Gu C rs r S e s :=
 I_ he r0 h1 h2 (fun i b hi hb=>(hS i b (by rw [← h4 i hi];exact hb)).2) (by
  funext i
  unfold Dd
  split
  ·exact (AY hS (by omega)).symm
  ·exact h4 i (by omega)) hS
theorem Ei {C:Ctx} {rs:List RV} {r:AV} {S':AA} {e:AX} {s s1:AS} (hg:Am C s s1) (h:Gu C rs r S' e s1):Gu C rs r S' e s:=by
 obtain ⟨he,s2,s3,r0,h1,h2⟩:=h
 exact ⟨he,s2,s3,r0,hg.trans h1,h2⟩
theorem PY {C:Ctx} {rs:List RV} {e:AX} {s:AS} {ty:TypeId} {w n:Nat} {ys:List (List SV)} {mu:Bool} (he:match e with | .normal=>True | .ret=>True | _=>False) (id:Nat) (hid:id < 1000) (hb0:s.S id=some (GB mu ty w ys)) (hlow:∀ i,1000≤i→s.S i=none)
  (h1:(AB s rs).map AQ=some (.one (.row id n))):Gu C rs (.one (.row 1000 n)) (fun i=>if i=1000 then some (GB mu ty w ys) else noS i) e s:=by
 have e1:(AV.one (.row id n)).ren (Bb id 1000)=.one (.row 1000 n):=by simp [AV.ren,AC.ren,Bb]
 rw [← e1]
 refine Kz he id 1000 _ hid (by decide) (hlow 1000 (by decide)) hb0 (by cases mu <;> rfl) (fun i b hi hb=>by rw [hlow i hi] at hb;cases hb) h1 (by rw [e1];rfl) ?_ ?_
 ·funext i
  unfold AK Dd noS
  by_cases h2:i=1000
  ·rw [if_pos h2,if_pos h2]
  ·rw [if_neg h2,if_neg h2]
   split
   ·rfl
   ·exact hlow i (by omega)
 ·intro i b hb
  have hb:(if i=1000 then some (GB mu ty w ys) else noS i)=some b:=hb
  split at hb
  ·rename_i h2
   cases hb
   exact ⟨by omega,by cases mu <;> rfl⟩
  ·cases hb

theorem Pj (c P Q:Prop) [Decidable c]:((c→P)∧(¬ c→Q))=if c then P else Q:=by
 by_cases h:c <;> simp [h]
theorem Q9 {c A B:Prop} [Decidable c] (h:(c→A)∧(¬ c→B)):if c then A else B:=by
 by_cases hc:c
 ·rw [if_pos hc];exact h.1 hc
 ·rw [if_neg hc];exact h.2 hc
theorem SR (b:Bool) (P Q:Prop):((b=true→P)∧(b=false→Q))=if b=true then P else Q:=by
 cases b <;> simp
attribute [congr] Nc.congr Ht.congr
mutual
def EH:Tm→List SV
 | .mk n xs=>[.str n,.list (Oo xs)]
def Oo:List Tm→List (List SV)
 | []=>[]
 | t :: ts=>EH t :: Oo ts
end
theorem M5:∀ xs:List Tm,Oo xs=xs.map EH
 | []=>rfl
 | t :: ts=>by rw [Oo,M5 ts];rfl
theorem HH (t:Tm):EH t=[.str t.name,.list (t.args.map EH)]:=by
 cases t
 rw [EH,M5]
 rfl
theorem SB (t:Tm):(EH t).length=2:=by rw [HH];rfl
class SH {α:Type} (f:α→List SV) (n:outParam Nat):Prop where
 ok:∀ a,(f a).length=n
theorem Uy {α:Type} {f:α→List SV} {n:Nat} [h:SH f n] {ts:List α}:∀ x ∈ ts.map f,x.length=n:=fun x hx=>by
 obtain ⟨a,_,rfl⟩:=List.mem_map.1 hx
 exact h.ok a
instance:SH EH 2:=⟨fun t=>by rw [HH];rfl⟩
theorem QI {ts:List Tm}:∀ x ∈ ts.map EH,x.length=2:=by
 intro x hx
 obtain ⟨a,_,rfl⟩:=List.mem_map.1 hx
 exact SB a
theorem Tm.args_mk (n:ByteArray) (xs:List Tm):(Tm.mk n xs).args=xs:=rfl
theorem Tm.name_mk (n:ByteArray) (xs:List Tm):(Tm.mk n xs).name=n:=rfl
abbrev Ad (n:Int):AV:=.one (.st (.int .i64 n))
abbrev CH (b:Bool):AV:=.one (.st (.bool b))
abbrev CM (s:ByteArray):AV:=.one (.st (.str s))
abbrev aTm (t:Tm):AV:=.agg [.st (.str t.name),.st (.list (t.args.map EH))]
abbrev SK (n:Int):List SV:=[.int .i64 n]
abbrev Cw (s:ByteArray):List SV:=[.str s]
abbrev Mc (l:List Int):AV:=.one (.st (.list (l.map SK)))
abbrev Eh (l:List ByteArray):AV:=.one (.st (.list (l.map Cw)))
abbrev UN (l:List Tm):AV:=.one (.st (.list (l.map EH)))
theorem Bk {α:Type} {xs:List α} {k:Nat} (h:k < xs.length):∃ a,xs[k]?=some a:=⟨xs[k],List.getElem?_eq_getElem h⟩
theorem CO (n:Int):inR .i64 n ↔ -9223372036854775808≤n∧n≤9223372036854775807:=by
 simp [inR,IntKind.min,IntKind.max,IntKind.signed,IntKind.bits]
theorem Nk {l:List Int} (h:(SV.list (l.map SK)).known):l.length≤maxLen∧∀ n ∈ l,inR .i64 n:=by
 obtain ⟨h1,h2⟩:=h
 refine ⟨by simpa using h1,fun n hn=>?_⟩
 have:=GZ.1 (Fa.1 h2 (SK n) (List.mem_map.2 ⟨n,hn,rfl⟩)) (.int .i64 n) (by simp)
 exact this
theorem CK:maxLen=9223372036854775807:=by simp [maxLen]
theorem Kl {S:AA} {xs:List (List SV)} (h:(AV.one (.st (.list xs))).known S):xs.length≤9223372036854775807:=by
 simp only [AV.known,AC.known,SV.known] at h
 rw [CK] at h
 exact h.1
theorem JN {S:AA} {t:Tm} (h:(aTm t).known S):t.name.size≤9223372036854775807∧t.args.length≤9223372036854775807:=by
 have h1:t.name.size≤maxLen:=by
  have:=h (.st (.str t.name)) (by simp)
  simpa [AC.known,SV.known] using this
 have h2:t.args.length≤maxLen:=by
  have:=h (.st (.list (t.args.map EH))) (by simp)
  simp only [AC.known,SV.known,List.length_map] at this
  exact this.1
 rw [CK] at h1 h2
 exact ⟨h1,h2⟩

def Kd.isCall:Kd→Bool
 | .call _ _=>true
 | .callS _ _=>true
 | .callV _ _=>true
 | .callN _ _=>true
 | .callR _ _=>true
 | .callW _ _=>true
 | .callX _ _=>true
 | .callY _ _=>true
 | .buildFlat _=>false
 | .cutP _ _ _=>false
 | .indexP _ _ _=>false
 | .appP _ _ _ _ _=>false
 | .restP _ _ _=>false
 | .appS _ _ _=>false
 | .loadL _ _ _=>false
 | .indexL _ _ _=>false
 | .buildL _ _=>false
 | .fieldL _ _=>false
 | .lenL _ _=>false
 | .appF _ _ _ _ _ _=>false
 | .clearP _ _ _ _=>false
 | .copyP _ _=>false
 | .mov _=>false
 | .pick _ _ _=>false
 | .alloc _ _=>false
 | .box _ _=>false
 | .build _ _=>false
 | .buildSlice _ _ _ _=>false
 | .load _ _ _=>false
 | .store _ _ _=>false
 | .fieldAddr _ _=>false
 | .field _ _ _ _=>false
 | .indexAddr _ _ _=>false
 | .indexArr _ _ _ _=>false
 | .indexStr _ _=>false
 | .bin _ _ _=>false
 | .eqB _ _ _=>false
 | .eqN _ _=>false
 | .eqE _ _=>false
 | .eqP _ _=>false
 | .bits _ _ _=>false
 | .never=>false
 | .pan _=>false
 | .iface _ _=>false
 | .strOf _ _=>false
 | .un _ _=>false
 | .sliceS _ _ _=>false
 | .sliceL _ _ _ _=>false
 | .sliceM _ _ _ _=>false
 | .extract _ _=>false
 | .len _ _=>false
 | .append _ _ _ _ _ _=>false
 | .conv _ _=>false
 | .nilCheck _=>false
 | .mm _ _ _=>false
 | .makeSlice _ _ _ _ _ _=>false
 | .makeFunc _ _=>false
 | .makeMap _=>false
 | .lookup _ _ _ _ _=>false
 | .mapSet _ _ _ _=>false
 | .mapEntry _ _ _ _=>false
 | .entrySet _ _ _=>false
 | .rangeM _=>false
 | .next _=>false
 | .entry _=>false
 | .lenM _=>false
 | .buildArr _=>false
 | .makeMemo=>false
 | .memoGet _ _ _ _=>false
 | .memoSet _ _ _=>false
inductive Tt (P:Program) (f:FuncId) (vs:List AV) (d:Option Nat) (l:List Ins) (s:AS) (K:AS→Prop):Prop
 | mk (r:AV) (h1:AW P f vs r) (h2:Run P l (s.put d r) K)
inductive Lu (P:Program) (f:FuncId) (vs:List AV) (S:AA) (ks:List Nat) (d:Option Nat) (l:List Ins) (env:Nat→AV) (K:AS→Prop):Prop
 | mk (r:AV) (S':AA) (h1:Ay P f vs (upS S) r S') (h2:(∀ k ∈ ks,dnS S' k=S k)∧Run P l ((⟨env,dnS S'⟩:AS).put d (r.ren dn1)) K)
inductive HS (P:Program) (f:FuncId) (vs:List AV) (ks:List Nat) (d:Option Nat) (l:List Ins) (s:AS) (K:AS→Prop):Prop
 | mk (mu:Bool) (e:TypeId) (w:Nat) (ys:List (List SV)) (h1:Fy P f vs e w ys mu) (h2:s.S (d.getD 0)=none∧(∀ k ∈ ks,(s.set (d.getD 0) (GB mu e w ys)).S k=s.S k)∧Run P l ((s.set (d.getD 0) (GB mu e w ys)).put d (.one (.row (d.getD 0) ys.length))) K)
inductive UP (P:Program) (f:FuncId) (vs:List AV) (d:Option Nat) (l:List Ins) (s:AS) (K:AS→Prop):Prop
 | mk (r:AV) (rows:List (Nat × AU)) (h0:∀ q ∈ rows,s.S q.1=some q.2) (h1:∀ T:AA,(∀ q ∈ rows,T q.1=some q.2)→Ay P f vs (upS T) r (upS T)) (h2:Run P l (s.put d (r.ren dn1)) K)
inductive Q_ (P:Program) (f:FuncId) (vs:List AV) (ks:List Nat) (d:Option Nat) (l:List Ins) (s:AS) (K:AS→Prop):Prop
 | mk (r:AV) (rows:List (Nat × AU × AU)) (h0:PL s.S rows) (h1:∀ T:AA,PL T rows→Ay P f vs (upS T) r (upS (E6 T rows))) (h2:(∀ k ∈ ks,E6 s.S rows k=s.S k)∧Run P l ((⟨s.env,E6 s.S rows⟩:AS).put d (r.ren dn1)) K)
inductive OW (P:Program) (S:AA) (hs:Bool) (G:AA→(AV→AA→Prop)→Prop) (d:Option Nat) (l:List Ins) (env:Nat→AV) (K:AS→Prop):Prop
 | mk (T:AA) (Post:AV→AA→Prop) (h1:An T) (h2:∀ i,1000≤i→S i=T i) (h3:hs=true) (h4:G T Post) (h5:∀ r S',An S'→Post r S'→Run P l ((⟨env,EN S S'⟩:AS).put d r) K)
def Kd.goC (P:Program) (d:Option Nat) (s:AS) (t:Tag) (l:List Ins) (K:AS→Prop):Kd→Prop
 | .call f xs=>match t with
  | .no=>match outVs s.S (s.evs xs) with
   | some vs=>Tt P f vs d l s K
   | none=>False
  | _=>False
 | .callR f xs=>match t with
  | .no=>UP P f (AV.rens up1 (s.evs xs)) d l s K
  | _=>False
 | .callW f xs=>match t with
  | .no=>Q_ P f (AV.rens up1 (s.evs xs)) [] d l s K
  | .keeps ks=>Q_ P f (AV.rens up1 (s.evs xs)) ks d l s K
  | .onb _=>False
 | .callX f xs=>match t with
  | .no=>OW P s.S (AV.highs ((s.evs xs).map (HR s.S))) (G7 P f ((s.evs xs).map (HR s.S))) d l s.env K
  | _=>False
 | .callY f xs=>match t with
  | .no=>OW P s.S ((s.ev f).high && AV.highs ((s.evs xs).map (HR s.S))) (Ik P (s.ev f) ((s.evs xs).map (HR s.S))) d l s.env K
  | _=>False
 | .callN f xs=>match t with
  | .no=>match outVs s.S (s.evs xs) with
   | some vs=>HS P f vs [] d l s K
   | none=>False
  | .keeps ks=>match outVs s.S (s.evs xs) with
   | some vs=>HS P f vs ks d l s K
   | none=>False
  | .onb _=>False
 | .callS f xs=>match t with
  | .no=>Lu P f (AV.rens up1 (s.evs xs)) s.S [] d l s.env K
  | .keeps ks=>Lu P f (AV.rens up1 (s.evs xs)) s.S ks d l s.env K
  | .onb _=>False
 | .callV f xs=>match (s.ev f).fnOf with
  | some (g,caps)=>CS P g=true∧match t with
   | .no=>Lu P g (AV.rens up1 (s.evs xs ++ caps.map .one)) s.S [] d l s.env K
   | .keeps ks=>Lu P g (AV.rens up1 (s.evs xs ++ caps.map .one)) s.S ks d l s.env K
   | .onb _=>False
  | _=>False
 | _=>False
def FH (P:Program):List Ins→AS→(AS→Prop)→Prop
 | [],s,K=>K s
 | i :: l,s,K=>match i.kd.isCall with
  | false=>match i.guard with
   | none=>i.kd.goT P (i.dst.getD 0) s i.tag fun v s'=>FH P l (s'.put i.dst v) K
   | some (g,want)=>match s.env g with
    | .one (.st (.bool b))=>(b=want→i.kd.goT P (i.dst.getD 0) s i.tag fun v s'=>FH P l (s'.put i.dst v) K)∧(¬ b=want→FH P l (s.put i.dst (.tup [])) K)
    | .tup []=>FH P l (s.put i.dst (.tup [])) K
    | _=>False
  | true=>match i.guard with
   | none=>i.kd.goC P i.dst s i.tag l K
   | some (g,want)=>match s.env g with
    | .one (.st (.bool b))=>(b=want→i.kd.goC P i.dst s i.tag l K)∧(¬ b=want→FH P l (s.put i.dst (.tup [])) K)
    | .tup []=>FH P l (s.put i.dst (.tup [])) K
    | _=>False
section
variable {P:Program}
theorem PR {kd:Kd} {d:Option Nat} {s:AS} {t:Tag} {l:List Ins} {K:AS→Prop} (h:kd.goC P d s t l K):kd.goT P (d.getD 0) s t fun v s'=>Run P l (s'.put d v) K:=by
 cases kd <;> simp only [Kd.goC] at h
 case call f xs =>
  cases t <;> simp only at h
  split at h
  ·rename_i vs e
   obtain ⟨r,h1,h2⟩:=h
   simp only [Kd.goT,Kd.go,e]
   exact ⟨r,h1,trivial,h2⟩
  ·exact h.elim
 case callN f xs =>
  cases t <;> simp only at h
  ·split at h
   ·rename_i vs e
    obtain ⟨mu,ty,w,ys,h1,h2,_,h3⟩:=h
    simp only [Kd.goT,Kd.go,e]
    exact ⟨mu,ty,w,ys,h1,h2,trivial,h3⟩
   ·exact h.elim
  ·split at h
   ·rename_i vs e
    obtain ⟨mu,ty,w,ys,h1,h2,h4,h3⟩:=h
    simp only [Kd.goT,Kd.go,e]
    exact ⟨mu,ty,w,ys,h1,h2,h4,h3⟩
   ·exact h.elim
 case callW f xs =>
  cases t <;> simp only at h
  ·obtain ⟨r,rows,h0,h1,_,h2⟩:=h
   simp only [Kd.goT,Kd.go]
   exact ⟨r,rows,h0,h1,trivial,h2⟩
  ·obtain ⟨r,rows,h0,h1,hk,h2⟩:=h
   simp only [Kd.goT,Kd.go]
   exact ⟨r,rows,h0,h1,hk,h2⟩
 case callX f xs =>
  cases t <;> simp only at h
  obtain ⟨T,Post,h1,h2,h3,h4,h5⟩:=h
  exact ⟨T,Post,h1,h2,h3,h4,fun r S' k1 k2=>⟨trivial,h5 r S' k1 k2⟩⟩
 case callY f xs =>
  cases t <;> simp only at h
  obtain ⟨T,Post,h1,h2,h3,h4,h5⟩:=h
  exact ⟨T,Post,h1,h2,h3,h4,fun r S' k1 k2=>⟨trivial,h5 r S' k1 k2⟩⟩
 case callR f xs =>
  cases t <;> simp only at h
  obtain ⟨r,rows,h0,h1,h2⟩:=h
  simp only [Kd.goT,Kd.go]
  exact ⟨r,rows,h0,h1,trivial,h2⟩
 case callS f xs =>
  cases t <;> simp only at h
  ·obtain ⟨r,S',h1,h2,h3⟩:=h
   exact ⟨r,S',h1,trivial,h3⟩
  ·obtain ⟨r,S',h1,h2,h3⟩:=h
   exact ⟨r,S',h1,h2,h3⟩
 case callV f xs =>
  split at h
  ·rename_i g caps e
   obtain ⟨hp,h⟩:=h
   cases t <;> simp only at h
   ·obtain ⟨r,S',h1,h2,h3⟩:=h
    simp only [Kd.goT,Kd.go,e]
    exact ⟨hp,r,S',h1,trivial,h3⟩
   ·obtain ⟨r,S',h1,h2,h3⟩:=h
    simp only [Kd.goT,Kd.go,e]
    exact ⟨hp,r,S',h1,h2,h3⟩
  ·exact h.elim
theorem B5:∀ {l:List Ins} {s:AS} {K:AS→Prop},FH P l s K→Run P l s K
 | [],s,K,h=>h
 | i :: l,s,K,h=>by
  unfold FH at h
  unfold Run
  split at h
  ·split at h
   ·rename_i e
    simp only [e]
    exact Ck h fun v s' _ h'=>B5 h'
   ·rename_i g want e
    simp only [e]
    split at h
    ·rename_i b e2
     simp only [e2]
     exact ⟨fun hb=>Ck (h.1 hb) fun v s' _ h'=>B5 h',fun hb=>B5 (h.2 hb)⟩
    ·rename_i e2
     simp only [e2]
     exact B5 h
    ·exact h.elim
  ·split at h
   ·rename_i e
    simp only [e]
    exact PR h
   ·rename_i g want e
    simp only [e]
    split at h
    ·rename_i b e2
     simp only [e2]
     exact ⟨fun hb=>PR (h.1 hb),fun hb=>B5 (h.2 hb)⟩
    ·rename_i e2
     simp only [e2]
     exact B5 h
    ·exact h.elim
theorem Ha {l:List Ins} {s:AS} {K:AS→Prop} {A:Prop} (h:A∧FH P l s K):A∧Run P l s K:=⟨h.1,B5 h.2⟩
theorem IWP.ops2 {C:Ctx} {mu:List Nat} {Q:AX→AS→Prop} {s:AS} {l:List Ins} (h:∀ K:AS→Prop,(∀ s,Q .normal s→K s)→FH P l s K):IWP P C mu (.ops l) Q s:=IWP.opsK fun K hK=>B5 (h K hK)
end
attribute [go_sem] S7 R_ Sl K6 Ins.i Ins.m Ins.L Ins.l Ins.f Ins.s Opd.n GB E6 FH Kd.isCall Kd.goC Kd.goT Tag.ok Kd.ptrOpd Fr List.forall_mem_cons List.not_mem_nil Kd.go AS.ev AS.evs AS.put AS.set AK AV.cells fills DT FX stP Qz stC stCs outC outCs outV outVs H1 Cf CP Cp Sr EI Pm Pu optI LU splice AU.len AS.start AS.startS noS List.getElem?_cons_zero List.getElem?_cons_succ List.getElem?_nil List.getElem?_map Option.isSome_none Option.isSome_some Option.map_some Option.map_none Option.getD_some Option.getD_none List.length_map List.length_cons List.length_nil List.length_append List.map_cons List.map_nil List.take_succ_cons List.take_zero List.take_nil List.drop_succ_cons List.drop_zero List.drop_nil List.nil_append List.cons_append List.append_nil Nat.zero_add Nat.add_zero Nat.le_refl Nat.zero_le if_true if_false Bool.false_eq_true true_and and_true Option.some.injEq Int.toNat_natCast Int.natCast_nonneg Int.ofNat_eq_natCast ite_self decide_true decide_false not_true_eq_false not_false_eq_true true_implies false_implies implies_true Bool.true_eq_false eq_self Bool.not_true Bool.not_false beq_self_eq_true Tm.args_mk Tm.name_mk AV.rens AV.ren AC.ren AC.rens AU.ren C5 DF CE Dy
theorem S5 (T:AA) (i:Nat) (b:AU):upS (AK T i (some b))=AK (upS T) (up1 i) (some (b.ren up1)):=by
 funext k
 show (if k < 1000 then none else (AK T i (some b) (k - 1000)).map (AU.ren up1))=_
 by_cases e:k=up1 i
 ·subst e
  rw [AD,if_neg (by have:=AL i;omega),show up1 i - 1000=i from DF i,AD]
  rfl
 ·rw [AJ _ e]
  by_cases hk:k < 1000
  ·rw [if_pos hk]
   show none=if k < 1000 then none else _
   rw [if_pos hk]
  ·rw [if_neg hk,AJ _ (fun h=>e (by rw [← h];exact (Ea (by omega)).symm))]
   show _=if k < 1000 then none else _
   rw [if_neg hk]
abbrev Wo:=@IWP.ops2
abbrev Wp:=@IWP.cond
abbrev Wq:=@B5
abbrev Wr:=@Ha
abbrev iC:=@Q9
abbrev Cg:=@Tt.mk
abbrev dT:=@decide_eq_true_eq
abbrev dF:=@decide_eq_false_iff_not
abbrev nL:=@Int.ofNat_lt
abbrev eT:=@HH
abbrev iR:=@CO
attribute [go_sem ↓] Pj SR
theorem Ai {a b:Prop} (k:b) (h:a:=by first | omega | exact Uy | (simp [CK] <;> omega)):a∧b:=⟨h,k⟩
theorem Z0 {id id':Nat} {Q:AX→AS→Prop} {s:AS} (h:Q (.exit id') s) (hne:id' ≠ id:=by decide):AX.inBlock id Q (.exit id') s:=LW hne h
theorem fN {α:Type} (p:α→Prop):∀ x ∈ ([]:List α),p x:=List.forall_mem_nil p
class G1 (goal:Prop) (prev:outParam Prop):Prop where
 imp:prev→goal
theorem W {goal prev:Prop} [s:G1 goal prev] (h:prev):goal:=s.imp h
section
variable {P:Program} {C:Ctx} {mu:List Nat} {x y:IR} {Q:AX→AS→Prop} {s:AS} {id:Nat} {K:AS→Prop}
instance:G1 (IWP P C mu (.seq x y) Q s) (IWP P C mu x (Lx P C mu y Q) s):=⟨IWP.seq⟩
instance:G1 (Lx P C mu y Q .normal s) (IWP P C mu y Q s):=⟨Hz⟩
instance:G1 (IWP P C mu (.block id x) Q s) (IWP P C mu x (AX.inBlock id Q) s):=⟨IWP.block⟩
instance:G1 (IWP P C mu .skip Q s) (Q .normal s):=⟨IWP.skip⟩
instance:G1 (IWP P C mu (.exit id) Q s) (Q (.exit id) s):=⟨IWP.exit⟩
instance:G1 (IWP P C mu .ret Q s) (Q .ret s):=⟨IWP.ret⟩
instance:G1 (Lx P C mu y Q (.exit id) s) (Q (.exit id) s):=⟨Pa⟩
instance:G1 (Lx P C mu y Q .ret s) (Q .ret s):=⟨Sa⟩
instance:G1 (AX.inBlock id Q .normal s) (Q .normal s):=⟨Jy⟩
instance:G1 (AX.inBlock id Q (.exit id) s) (Q .normal s):=⟨Ld⟩
instance:G1 (AX.inBlock id Q .ret s) (Q .ret s):=⟨Mg⟩
instance:G1 (AX.then K Q (.exit id) s) (Q (.exit id) s):=⟨QL⟩
instance:G1 (AX.then K Q .ret s) (Q .ret s):=⟨Re⟩
class Q6 (goal:Prop) (prev:outParam Prop):Prop where
 imp:prev→goal
class Ot (goal:Prop) (prev:outParam Prop):Prop where
 imp:prev→goal
theorem U {goal prev:Prop} [s:Q6 goal prev] (h:prev):goal:=s.imp h
theorem V {goal prev:Prop} [s:Ot goal prev] (h:prev):goal:=s.imp h
instance {l:List Ins}:Q6 (Run P l s K) (FH P l s K):=⟨B5⟩
instance {l:List Ins} {A:Prop}:Q6 (A∧Run P l s K) (A∧FH P l s K):=⟨Ha⟩
instance {l:List Ins}:Ot (Run P l s K) (FH P l s K):=⟨B5⟩
instance {l:List Ins} {A:Prop}:Ot (A∧Run P l s K) (A∧FH P l s K):=⟨Ha⟩
instance {c0:Opd}:Ot (IWP P C mu (.cond c0 x y) Q s) (match s.ev c0 with | .one (.st (.bool b))=>(b=true→IWP P C mu x Q s)∧(b=false→IWP P C mu y Q s) | .one .ubool=>IWP P C mu x Q s∧IWP P C mu y Q s | _=>False):=⟨IWP.cond⟩
end
theorem IWP.fresh {P:Program} {C:Ctx} {mu:List Nat} {x:IR} {Q:AX→AS→Prop} {s:AS} (h1000:∀ i,1000≤i→s.S i=none) (h:∀ env':Nat→AV,(∀ i v,s.env i=.one (.st v)→env' i=.one (.st v))→IWP P C mu x Q ⟨env',noS⟩):IWP P C mu x Q s:=by
 refine IWP.ghost (Am.low (s:=s) fun i b hi hb=>by rw [h1000 i hi] at hb;cases hb) ?_
 have e:Dd s.S=noS:=by
  funext i
  show (if i < 1000 then none else s.S i)=none
  split
  ·rfl
  ·exact h1000 i (by omega)
 rw [e]
 exact h _ fun i v hv=>by rw [hv];rfl



inductive Lm where
 | mk (kind idx:Int) (subs:List Lm)
def Lm.kind:Lm→Int | .mk k _ _=>k
def Lm.idx:Lm→Int | .mk _ i _=>i
def Lm.subs:Lm→List Lm | .mk _ _ xs=>xs
theorem Lm.kind_mk (k i:Int) (xs:List Lm):(Lm.mk k i xs).kind=k:=rfl
theorem Lm.idx_mk (k i:Int) (xs:List Lm):(Lm.mk k i xs).idx=i:=rfl
theorem Lm.subs_mk (k i:Int) (xs:List Lm):(Lm.mk k i xs).subs=xs:=rfl
theorem Lm.eta (t:Lm):Lm.mk t.kind t.idx t.subs=t:=by cases t;rfl
mutual
def Ci:Lm→List SV
 | .mk k i xs=>[.int .i64 k,.int .i64 i,.list (O3 xs)]
def O3:List Lm→List (List SV)
 | []=>[]
 | t :: ts=>Ci t :: O3 ts
end
theorem Mk:∀ xs:List Lm,O3 xs=xs.map Ci
 | []=>rfl
 | t :: ts=>by rw [O3,Mk ts];rfl
theorem Bh (t:Lm):Ci t=[.int .i64 t.kind,.int .i64 t.idx,.list (t.subs.map Ci)]:=by
 cases t
 rw [Ci,Mk]
 rfl
theorem NJ (t:Lm):(Ci t).length=3:=by rw [Bh];rfl
instance:SH Ci 3:=⟨NJ⟩
theorem Hm {ts:List Lm}:∀ x ∈ ts.map Ci,x.length=3:=by
 intro x hx
 obtain ⟨a,_,rfl⟩:=List.mem_map.1 hx
 exact NJ a
abbrev aLm (t:Lm):AV:=.agg [.st (.int .i64 t.kind),.st (.int .i64 t.idx),.st (.list (t.subs.map Ci))]
abbrev UH (l:List Lm):AV:=.one (.st (.list (l.map Ci)))
theorem I4 {S:AA} {t:Lm} (h:(aLm t).known S):(-9223372036854775808≤t.kind∧t.kind≤9223372036854775807)∧(-9223372036854775808≤t.idx∧t.idx≤9223372036854775807)∧t.subs.length≤9223372036854775807:=by
 have h1:inR .i64 t.kind:=by
  have:=h (.st (.int .i64 t.kind)) (by simp)
  simpa [AC.known,SV.known] using this
 have h2:inR .i64 t.idx:=by
  have:=h (.st (.int .i64 t.idx)) (by simp)
  simpa [AC.known,SV.known] using this
 have h3:t.subs.length≤maxLen:=by
  have:=h (.st (.list (t.subs.map Ci))) (by simp)
  simp only [AC.known,SV.known,List.length_map] at this
  exact this.1
 rw [CO] at h1 h2
 rw [CK] at h3
 exact ⟨h1,h2,h3⟩
theorem Lm.lt_of_mem {a:Lm} {k i:Int} {xs:List Lm} (h:a ∈ xs):SizeOf.sizeOf a < SizeOf.sizeOf (Lm.mk k i xs):=by
 have:=List.sizeOf_lt_of_mem h
 simp only [Lm.mk.sizeOf_spec]
 omega
theorem Lm.lt_of_sub {a t:Lm} (h:a ∈ t.subs):SizeOf.sizeOf a < SizeOf.sizeOf t:=by
 cases t
 exact Lm.lt_of_mem h
attribute [go_sem] Lm.kind_mk Lm.idx_mk Lm.subs_mk Bh
mutual
def Lm.size:Lm→Nat
 | .mk _ _ xs=>1 + Lm.sizes xs
def Lm.sizes:List Lm→Nat
 | []=>0
 | t :: ts=>t.size + Lm.sizes ts
end
theorem Lm.sizes_append (xs ys:List Lm):Lm.sizes (xs ++ ys)=Lm.sizes xs + Lm.sizes ys:=by
 induction xs with
 | nil=>simp [Lm.sizes]
 | cons t ts ih=>simp only [List.cons_append,Lm.sizes,ih];omega
theorem Lm.sizes_take {xs:List Lm} {k:Nat} {a:Lm} (h:xs[k]?=some a):Lm.sizes (xs.take (k+1))=Lm.sizes (xs.take k) + a.size:=by
 rw [B7 h,Lm.sizes_append];simp [Lm.sizes]
theorem Lm.sizes_take_le (xs:List Lm) (k:Nat) :Lm.sizes (xs.take k)≤Lm.sizes xs:=by
 have:=Lm.sizes_append (xs.take k) (xs.drop k)
 rw [List.take_append_drop] at this
 omega
theorem Lm.size_eq (t:Lm):t.size=1 + Lm.sizes t.subs:=by cases t;rfl
theorem Lm.size_pos (t:Lm):1≤t.size:=by rw [Lm.size_eq];omega
theorem Lm.size_mem {a:Lm} {xs:List Lm} (h:a ∈ xs):a.size≤Lm.sizes xs:=by
 induction xs with
 | nil=>simp at h
 | cons t ts ih =>
  rcases List.mem_cons.1 h with rfl | h
  ·simp only [Lm.sizes];omega
  ·have:=ih h;simp only [Lm.sizes];omega
theorem Lm.size_sub {a t:Lm} (h:a ∈ t.subs):a.size + 1≤t.size:=by
 have:=Lm.size_mem h
 rw [Lm.size_eq t]
 omega
theorem Lm.length_le (xs:List Lm):xs.length≤Lm.sizes xs:=by
 induction xs with
 | nil=>simp [Lm.sizes]
 | cons t ts ih=>have:=Lm.size_pos t;simp only [Lm.sizes,List.length_cons];omega
def DU (k:Int):Int:=if k=2 then 1 else if k=3 then 2 else 0
def A3 (k u m:Int):Int:=if k=1 then u else if k=4 then 40 else if k=5 then m else 1
def Aj (k u:Int):Int:=if k=2 then u + 1 else u
mutual
def Lm.chk (m:Int):Lm→Int→Int
 | .mk k i xs,u=>if 1≤k∧k≤5∧(xs.length:Int)=DU k then (if 0≤i∧i < A3 k u m then Lm.chks m xs (Aj k u) else 15) else 2
def Lm.chks (m:Int):List Lm→Int→Int
 | [],_=>0
 | t :: ts,u=>if t.chk m u=0 then Lm.chks m ts u else t.chk m u
end
theorem Lm.chk_eq (m:Int) (t:Lm) (u:Int):t.chk m u=if 1≤t.kind∧t.kind≤5∧(t.subs.length:Int)=DU t.kind then (if 0≤t.idx∧t.idx < A3 t.kind u m then Lm.chks m t.subs (Aj t.kind u) else 15) else 2:=by cases t;rfl
theorem Lm.chks_append (m u:Int) (xs ys:List Lm):Lm.chks m (xs ++ ys) u=if Lm.chks m xs u=0 then Lm.chks m ys u else Lm.chks m xs u:=by
 induction xs with
 | nil=>simp [Lm.chks]
 | cons t ts ih =>
  simp only [List.cons_append,Lm.chks]
  by_cases h:t.chk m u=0
  ·simp only [h,if_true,ih]
  ·simp only [h,if_false]
theorem Lm.chks_take {m u:Int} {xs:List Lm} {k:Nat} {a:Lm} (h:xs[k]?=some a) (h0:Lm.chks m (xs.take k) u=0):Lm.chks m (xs.take (k+1)) u=a.chk m u:=by
 rw [B7 h,Lm.chks_append,if_pos h0]
 simp only [Lm.chks]
 split <;> simp_all
theorem Lm.chks_bad {m u:Int} {xs:List Lm} {k:Nat} (h0:Lm.chks m (xs.take k) u ≠ 0):Lm.chks m xs u=Lm.chks m (xs.take k) u:=by
 have:=Lm.chks_append m u (xs.take k) (xs.drop k)
 rw [List.take_append_drop,if_neg h0] at this
 exact this
mutual
def Lm.good (b:Int):Lm→Prop
 | .mk k i xs=>(k=1→xs=[])∧0≤i∧i≤b∧Lm.goods b xs
def Lm.goods (b:Int):List Lm→Prop
 | []=>True
 | t :: ts=>t.good b∧Lm.goods b ts
end
theorem Lm.good_eq (b:Int) (t:Lm):t.good b ↔ ((t.kind=1→t.subs=[])∧0≤t.idx∧t.idx≤b∧Lm.goods b t.subs):=by cases t;exact Iff.rfl
theorem Lm.goods_mem {b:Int} {xs:List Lm} (h:Lm.goods b xs):∀ t ∈ xs,t.good b:=by
 induction xs with
 | nil=>intro t ht;simp at ht
 | cons x xs ih =>
  intro t ht
  rcases List.mem_cons.1 ht with rfl | ht
  ·exact h.1
  ·exact ih h.2 t ht
theorem Lm.good_sub {b:Int} {t a:Lm} (h:t.good b) (ha:a ∈ t.subs):a.good b:=Lm.goods_mem ((Lm.good_eq b t).1 h).2.2.2 a ha
mutual
theorem Lm.good_chk {m:Int} (h1:m≤40):∀ (t:Lm) (u b:Int),0≤u→u + t.size≤b→40≤b→t.chk m u=0→t.good b
 | .mk k i xs,u,b,hu,hb,hb4,h=>by
  rw [Lm.chk] at h
  rw [Lm.size] at hb
  split at h
  ·rename_i hk
   split at h
   ·rename_i hi
    refine ⟨fun e=>?_,hi.1,?_,?_⟩
    ·subst e
     have:=hk.2.2
     simp [DU] at this
     exact this
    ·have:=hi.2
     simp only [A3] at this
     split at this
     ·omega
     ·split at this
      ·omega
      ·split at this <;> omega
    ·have hu2:Aj k u≤u + 1∧0≤Aj k u:=by unfold Aj;split <;> omega
     exact Lm.goods_chk h1 xs (Aj k u) b hu2.2 (by omega) hb4 h
   ·omega
  ·omega
theorem Lm.goods_chk {m:Int} (h1:m≤40):∀ (xs:List Lm) (u b:Int),0≤u→u + Lm.sizes xs≤b→40≤b→Lm.chks m xs u=0→Lm.goods b xs
 | [],_,_,_,_,_,_=>trivial
 | t :: ts,u,b,hu,hb,hb4,h=>by
  rw [Lm.chks] at h
  rw [Lm.sizes] at hb
  split at h
  ·rename_i e
   exact ⟨Lm.good_chk h1 t u b hu (by omega) hb4 e,Lm.goods_chk h1 ts u b hu (by omega) hb4 h⟩
  ·rename_i e
   exact absurd h e
end
mutual
def Lm.mv (by_:Int):Int→Lm→Lm
 | d,.mk k i xs=>.mk k (if k=1∧d≤i then i + by_ else i) (Lm.mvs by_ (Aj k d) xs)
def Lm.mvs (by_:Int):Int→List Lm→List Lm
 | _,[]=>[]
 | d,t :: ts=>Lm.mv by_ d t :: Lm.mvs by_ d ts
end
theorem Lm.mvs_eq (b d:Int):∀ xs:List Lm,Lm.mvs b d xs=xs.map (Lm.mv b d)
 | []=>rfl
 | t :: ts=>by rw [Lm.mvs,Lm.mvs_eq b d ts];rfl
theorem Lm.mv_eq (b d:Int) (t:Lm):Lm.mv b d t=.mk t.kind (if t.kind=1∧d≤t.idx then t.idx + b else t.idx) (t.subs.map (Lm.mv b (Aj t.kind d))):=by
 cases t
 rw [Lm.mv,Lm.mvs_eq]
 rfl
mutual
theorem Lm.size_mv (b:Int):∀ (d:Int) (t:Lm),(Lm.mv b d t).size=t.size
 | d,.mk k i xs=>by rw [Lm.mv,Lm.size,Lm.size,Lm.sizes_mv b _ xs]
theorem Lm.sizes_mv (b:Int):∀ (d:Int) (xs:List Lm),Lm.sizes (Lm.mvs b d xs)=Lm.sizes xs
 | _,[]=>rfl
 | d,t :: ts=>by rw [Lm.mvs,Lm.sizes,Lm.sizes,Lm.size_mv b d t,Lm.sizes_mv b d ts]
end
mutual
def Lm.put (x:Lm):Int→Lm→Lm
 | d,.mk k i xs=>if k=1 then (if i=d then Lm.mv d 0 x else if d < i then .mk 1 (i - 1) [] else .mk 1 i []) else .mk k i (Lm.puts x (Aj k d) xs)
def Lm.puts (x:Lm):Int→List Lm→List Lm
 | _,[]=>[]
 | d,t :: ts=>Lm.put x d t :: Lm.puts x d ts
end
theorem Lm.puts_eq (x:Lm) (d:Int):∀ xs:List Lm,Lm.puts x d xs=xs.map (Lm.put x d)
 | []=>rfl
 | t :: ts=>by rw [Lm.puts,Lm.puts_eq x d ts];rfl
theorem Lm.put_eq (x:Lm) (d:Int) (t:Lm):Lm.put x d t=if t.kind=1 then (if t.idx=d then Lm.mv d 0 x else if d < t.idx then .mk 1 (t.idx - 1) [] else .mk 1 t.idx []) else .mk t.kind t.idx (t.subs.map (Lm.put x (Aj t.kind d))):=by
 cases t
 rw [Lm.put,Lm.puts_eq]
 rfl
theorem M7 {a b c:Nat} (h:a≤b * c) (hc:1≤c):1 + a≤(1 + b) * c:=by
 rw [Nat.add_mul,Nat.one_mul]
 omega
mutual
theorem Lm.size_put (x:Lm):∀ (d:Int) (t:Lm),(Lm.put x d t).size≤t.size * x.size
 | d,.mk k i xs=>by
  have hx:=Lm.size_pos x
  have h1:1≤(1 + Lm.sizes xs) * x.size:=by
   rw [Nat.add_mul];omega
  have h2:x.size≤(1 + Lm.sizes xs) * x.size:=by
   rw [Nat.add_mul];omega
  rw [Lm.put,Lm.size]
  split
  ·split
   ·rw [Lm.size_mv];exact h2
   ·split
    ·simpa only [Lm.size,Lm.sizes,Nat.add_zero] using h1
    ·simpa only [Lm.size,Lm.sizes,Nat.add_zero] using h1
  ·rw [Lm.size]
   exact M7 (Lm.sizes_put x _ xs) hx
theorem Lm.sizes_put (x:Lm):∀ (d:Int) (xs:List Lm),Lm.sizes (Lm.puts x d xs)≤Lm.sizes xs * x.size
 | _,[]=>by simp [Lm.puts,Lm.sizes]
 | d,t :: ts=>by
  have h1:=Lm.size_put x d t
  have h2:=Lm.sizes_put x d ts
  rw [Lm.puts,Lm.sizes,Lm.sizes,Nat.add_mul]
  omega
end
mutual
def Lm.same:Lm→Lm→Bool
 | .mk k i xs,.mk l j ys=>decide (k=l) && decide (i=j) && Lm.sames xs ys
def Lm.sames:List Lm→List Lm→Bool
 | [],[]=>true
 | x :: xs,y :: ys=>x.same y && Lm.sames xs ys
 | [],_ :: _=>false
 | _ :: _,[]=>false
end
def Lm.may (m u:Int) (t:Lm):Int:=if u < 0 ∨ 40 < u then 10 else if 200 < t.size then 3 else t.chk m u
theorem Lm.may_ok {m u:Int} {t:Lm} (h:Lm.may m u t=0):0≤u∧u≤40∧t.size≤200∧t.chk m u=0:=by
 unfold Lm.may at h
 split at h
 ·omega
 ·split at h
  ·omega
  ·omega
def Lm.nil:Lm:=.mk 0 0 []
mutual
def Lm.pure:Lm→Bool
 | .mk k _ xs=>!decide (k=4) && Lm.pures xs
def Lm.pures:List Lm→Bool
 | []=>true
 | t :: ts=>t.pure && Lm.pures ts
end

inductive La where
 | v (n:Nat)
 | c (k i:Int)
 | l (b:La)
 | a (f x:La)
def upr (r:Nat→Nat):Nat→Nat
 | 0=>0
 | n + 1=>r n + 1
def La.ren (r:Nat→Nat):La→La
 | .v n=>.v (r n)
 | .c k i=>.c k i
 | .l b=>.l (b.ren (upr r))
 | .a f x=>.a (f.ren r) (x.ren r)
def ups (s:Nat→La):Nat→La
 | 0=>.v 0
 | n + 1=>(s n).ren Nat.succ
def La.sub (s:Nat→La):La→La
 | .v n=>s n
 | .c k i=>.c k i
 | .l b=>.l (b.sub (ups s))
 | .a f x=>.a (f.sub s) (x.sub s)
theorem La.ren_ren:∀ (t:La) (r q:Nat→Nat),(t.ren r).ren q=t.ren fun n=>q (r n)
 | .v n,r,q=>rfl
 | .c k i,r,q=>rfl
 | .l b,r,q=>by
  have h:(fun n=>upr q (upr r n))=upr fun n=>q (r n):=by
   funext n;cases n <;> rfl
  rw [La.ren,La.ren,La.ren_ren b,h];rfl
 | .a f x,r,q=>by rw [La.ren,La.ren,La.ren_ren f,La.ren_ren x];rfl
theorem La.ren_sub:∀ (t:La) (r:Nat→Nat) (s:Nat→La),(t.ren r).sub s=t.sub fun n=>s (r n)
 | .v n,r,s=>rfl
 | .c k i,r,s=>rfl
 | .l b,r,s=>by
  have h:(fun n=>ups s (upr r n))=ups fun n=>s (r n):=by
   funext n;cases n <;> rfl
  rw [La.ren,La.sub,La.ren_sub b,h];rfl
 | .a f x,r,s=>by rw [La.ren,La.sub,La.ren_sub f,La.ren_sub x];rfl
theorem La.sub_ren:∀ (t:La) (s:Nat→La) (r:Nat→Nat),(t.sub s).ren r=t.sub fun n=>(s n).ren r
 | .v n,s,r=>rfl
 | .c k i,s,r=>rfl
 | .l b,s,r=>by
  have h:(fun n=>(ups s n).ren (upr r))=ups fun n=>(s n).ren r:=by
   funext n
   cases n with
   | zero=>rfl
   | succ n =>
    show ((s n).ren Nat.succ).ren (upr r)=((s n).ren r).ren Nat.succ
    rw [La.ren_ren,La.ren_ren];rfl
  rw [La.sub,La.ren,La.sub_ren b,h];rfl
 | .a f x,s,r=>by rw [La.sub,La.ren,La.sub_ren f,La.sub_ren x];rfl
theorem La.sub_sub:∀ (t:La) (s q:Nat→La),(t.sub s).sub q=t.sub fun n=>(s n).sub q
 | .v n,s,q=>rfl
 | .c k i,s,q=>rfl
 | .l b,s,q=>by
  have h:(fun n=>(ups s n).sub (ups q))=ups fun n=>(s n).sub q:=by
   funext n
   cases n with
   | zero=>rfl
   | succ n =>
    show ((s n).ren Nat.succ).sub (ups q)=((s n).sub q).ren Nat.succ
    rw [La.ren_sub,La.sub_ren];rfl
  rw [La.sub,La.sub,La.sub_sub b,h];rfl
 | .a f x,s,q=>by rw [La.sub,La.sub,La.sub_sub f,La.sub_sub x];rfl
theorem Uf:ups La.v=La.v:=by
 funext n;cases n <;> rfl
theorem La.sub_v:∀ t:La,t.sub La.v=t
 | .v n=>rfl
 | .c k i=>rfl
 | .l b=>by rw [La.sub,Uf,La.sub_v b]
 | .a f x=>by rw [La.sub,La.sub_v f,La.sub_v x]
theorem La.ren_is:∀ (t:La) (r:Nat→Nat),t.ren r=t.sub fun n=>.v (r n)
 | .v n,r=>rfl
 | .c k i,r=>rfl
 | .l b,r=>by
  have h:(fun n=>La.v (upr r n))=ups fun n=>La.v (r n):=by
   funext n;cases n <;> rfl
  rw [La.ren,La.ren_is b,h];rfl
 | .a f x,r=>by rw [La.ren,La.ren_is f,La.ren_is x];rfl
def Dw (x:La):Nat→La
 | 0=>x
 | n + 1=>.v n
theorem Ii (t x:La):(t.ren Nat.succ).sub (Dw x)=t:=by
 rw [La.ren_sub]
 exact La.sub_v t
theorem Rb (b x:La) (s:Nat→La):(b.sub (Dw x)).sub s=(b.sub (ups s)).sub (Dw (x.sub s)):=by
 rw [La.sub_sub,La.sub_sub]
 congr 1
 funext n
 cases n with
 | zero=>rfl
 | succ n =>
  show s n=((s n).ren Nat.succ).sub (Dw (x.sub s))
  rw [Ii]
theorem JJ (b x:La) (r:Nat→Nat):(b.sub (Dw x)).ren r=(b.ren (upr r)).sub (Dw (x.ren r)):=by
 rw [La.sub_ren,La.ren_sub]
 congr 1
 funext n
 cases n <;> rfl
theorem T3 {t u:La} (h:t.ren Nat.succ=u.ren Nat.succ):t=u:=by
 rw [← Ii t (.v 0),h,Ii]
theorem HI:∀ (t u:La) (r r' q q':Nat→Nat),(∀ i j,r i=r' j→∃ k,i=q k∧j=q' k)→t.ren r=u.ren r'→∃ w:La,t=w.ren q∧u=w.ren q'
 | .v n,u,r,r',q,q',hp,h=>by
  cases u with
  | v m =>
   simp only [La.ren,La.v.injEq] at h
   obtain ⟨k,rfl,rfl⟩:=hp _ _ h
   exact ⟨.v k,rfl,rfl⟩
  | c _ _=>simp [La.ren] at h
  | l _=>simp [La.ren] at h
  | a _ _=>simp [La.ren] at h
 | .c k i,u,r,r',q,q',hp,h=>by
  cases u with
  | c k' i' =>
   simp only [La.ren,La.c.injEq] at h
   obtain ⟨rfl,rfl⟩:=h
   exact ⟨.c k i,rfl,rfl⟩
  | v _=>simp [La.ren] at h
  | l _=>simp [La.ren] at h
  | a _ _=>simp [La.ren] at h
 | .l b,u,r,r',q,q',hp,h=>by
  cases u with
  | l b' =>
   simp only [La.ren,La.l.injEq] at h
   obtain ⟨w,h1,h2⟩:=HI b b' (upr r) (upr r') (upr q) (upr q') (fun i j e=>by
    cases i with
    | zero =>
     cases j with
     | zero=>exact ⟨0,rfl,rfl⟩
     | succ j=>simp [upr] at e
    | succ i =>
     cases j with
     | zero=>simp [upr] at e
     | succ j =>
      simp only [upr,Nat.add_right_cancel_iff] at e
      obtain ⟨k,rfl,rfl⟩:=hp _ _ e
      exact ⟨k + 1,rfl,rfl⟩) h
   exact ⟨.l w,by rw [h1];rfl,by rw [h2];rfl⟩
  | v _=>simp [La.ren] at h
  | c _ _=>simp [La.ren] at h
  | a _ _=>simp [La.ren] at h
 | .a f x,u,r,r',q,q',hp,h=>by
  cases u with
  | a f' x' =>
   simp only [La.ren,La.a.injEq] at h
   obtain ⟨w,h1,h2⟩:=HI f f' r r' q q' hp h.1
   obtain ⟨z,h3,h4⟩:=HI x x' r r' q q' hp h.2
   exact ⟨.a w z,by rw [h1,h3];rfl,by rw [h2,h4];rfl⟩
  | v _=>simp [La.ren] at h
  | c _ _=>simp [La.ren] at h
  | l _=>simp [La.ren] at h
inductive Av {α:Type} (R:α→α→Prop):α→α→Prop
 | refl (a:α):Av R a a
 | step {a b c:α}:R a b→Av R b c→Av R a c
theorem Av.one {α:Type} {R:α→α→Prop} {a b:α} (h:R a b):Av R a b:=.step h (.refl b)
theorem Av.trans {α:Type} {R:α→α→Prop} {a b c:α} (h:Av R a b) (k:Av R b c):Av R a c:=by
 induction h with
 | refl=>exact k
 | step h _ ih=>exact .step h (ih k)
theorem Av.map {α β:Type} {R:α→α→Prop} {Q:β→β→Prop} {g:α→β} (hg:∀ a b,R a b→Av Q (g a) (g b)) {a b:α} (h:Av R a b):Av Q (g a) (g b):=by
 induction h with
 | refl=>exact .refl _
 | step h _ ih=>exact (hg _ _ h).trans ih
def J8 {α:Type} (R S:α→α→Prop):Prop:=∀ a b c,R a b→S a c→∃ d,S b d∧R c d
theorem Nr {α:Type} {R S:α→α→Prop} (h:∀ a b c,R a b→S a c→∃ d,Av S b d∧(c=d ∨ R c d)) {a b c:α} (hr:R a b) (hs:Av S a c):∃ d,Av S b d∧(c=d ∨ R c d):=by
 induction hs generalizing b with
 | refl=>exact ⟨b,.refl b,.inr hr⟩
 | step h1 h2 ih =>
  obtain ⟨d1,k1,k2⟩:=h _ _ _ hr h1
  rcases k2 with rfl | k2
  ·exact ⟨_,k1.trans h2,.inl rfl⟩
  ·obtain ⟨d,k3,k4⟩:=ih k2
   exact ⟨d,k1.trans k3,k4⟩
theorem Fu {α:Type} {R S:α→α→Prop} (h:∀ a b c,R a b→S a c→∃ d,Av S b d∧(c=d ∨ R c d)):J8 (Av R) (Av S):=by
 intro a b c hr
 induction hr generalizing c with
 | refl=>exact fun hs=>⟨c,hs,.refl c⟩
 | step h1 h2 ih =>
  intro hs
  obtain ⟨d1,k1,k2⟩:=Nr h h1 hs
  obtain ⟨d,k3,k4⟩:=ih d1 k1
  refine ⟨d,k3,?_⟩
  rcases k2 with rfl | k2
  ·exact k4
  ·exact .step k2 k4
theorem P7 {α:Type} {R S:α→α→Prop} (h1:J8 (Av R) (Av R)) (h2:J8 (Av S) (Av S)) (h3:J8 (Av R) (Av S)):J8 (Av fun a b=>R a b ∨ S a b) (Av fun a b=>R a b ∨ S a b):=by
 have hQ:∀ a b:α,(Av fun a b=>R a b ∨ S a b) a b ↔ (Av fun a b=>Av R a b ∨ Av S a b) a b:=fun a b=>by
  constructor
  ·exact Av.map (g:=id) fun a b h=>.one (h.imp Av.one Av.one)
  ·refine Av.map (g:=id) fun a b h=>?_
   rcases h with h | h
   ·exact Av.map (g:=id) (fun a b h=>.one (.inl h)) h
   ·exact Av.map (g:=id) (fun a b h=>.one (.inr h)) h
 have key:J8 (Av fun a b:α=>Av R a b ∨ Av S a b) (Av fun a b:α=>Av R a b ∨ Av S a b):=Fu fun a b c hb hc=>by
  rcases hb with hb | hb <;> rcases hc with hc | hc
  ·obtain ⟨d,k1,k2⟩:=h1 a b c hb hc
   exact ⟨d,.one (.inl k1),.inr (.inl k2)⟩
  ·obtain ⟨d,k1,k2⟩:=h3 a b c hb hc
   exact ⟨d,.one (.inr k1),.inr (.inl k2)⟩
  ·obtain ⟨d,k1,k2⟩:=h3 a c b hc hb
   exact ⟨d,.one (.inl k2),.inr (.inr k1)⟩
  ·obtain ⟨d,k1,k2⟩:=h2 a b c hb hc
   exact ⟨d,.one (.inr k1),.inr (.inr k2)⟩
 intro a b c hb hc
 obtain ⟨d,k1,k2⟩:=key a b c ((hQ _ _).1 hb) ((hQ _ _).1 hc)
 exact ⟨d,(hQ _ _).2 k1,(hQ _ _).2 k2⟩
inductive B1:La→La→Prop
 | beta (b x:La):B1 (.a (.l b) x) (b.sub (Dw x))
 | l {b b':La}:B1 b b'→B1 (.l b) (.l b')
 | f {f f' x:La}:B1 f f'→B1 (.a f x) (.a f' x)
 | x {f x x':La}:B1 x x'→B1 (.a f x) (.a f x')
inductive E1:La→La→Prop
 | eta (k:La):E1 (.l (.a (k.ren Nat.succ) (.v 0))) k
 | l {b b':La}:E1 b b'→E1 (.l b) (.l b')
 | f {f f' x:La}:E1 f f'→E1 (.a f x) (.a f' x)
 | x {f x x':La}:E1 x x'→E1 (.a f x) (.a f x')
inductive Par:La→La→Prop
 | v (n:Nat):Par (.v n) (.v n)
 | c (k i:Int):Par (.c k i) (.c k i)
 | l {b b':La}:Par b b'→Par (.l b) (.l b')
 | a {f f' x x':La}:Par f f'→Par x x'→Par (.a f x) (.a f' x')
 | beta {b b' x x':La}:Par b b'→Par x x'→Par (.a (.l b) x) (b'.sub (Dw x'))
theorem Par.refl:∀ t:La,Par t t
 | .v n=>.v n
 | .c k i=>.c k i
 | .l b=>.l (Par.refl b)
 | .a f x=>.a (Par.refl f) (Par.refl x)
theorem Par.ren {t u:La} (h:Par t u):∀ r:Nat→Nat,Par (t.ren r) (u.ren r):=by
 induction h with
 | v n=>exact fun r=>.v _
 | c k i=>exact fun r=>.c _ _
 | l _ ih=>exact fun r=>.l (ih _)
 | a _ _ ih1 ih2=>exact fun r=>.a (ih1 r) (ih2 r)
 | beta _ _ ih1 ih2 =>
  intro r
  rw [JJ]
  exact .beta (ih1 _) (ih2 r)
theorem Par.sub {t u:La} (h:Par t u):∀ {s q:Nat→La},(∀ n,Par (s n) (q n))→Par (t.sub s) (u.sub q):=by
 have hup:∀ {s q:Nat→La},(∀ n,Par (s n) (q n))→∀ n,Par (ups s n) (ups q n):=fun hs n=>by
  cases n with
  | zero=>exact .v 0
  | succ n=>exact (hs n).ren _
 induction h with
 | v n=>exact fun hs=>hs n
 | c k i=>exact fun hs=>.c _ _
 | l _ ih=>exact fun hs=>.l (ih (hup hs))
 | a _ _ ih1 ih2=>exact fun hs=>.a (ih1 hs) (ih2 hs)
 | beta _ _ ih1 ih2 =>
  intro s q hs
  rw [Rb]
  exact .beta (ih1 (hup hs)) (ih2 hs)
def La.dev:La→La
 | .v n=>.v n
 | .c k i=>.c k i
 | .l b=>.l b.dev
 | .a (.l b) x=>b.dev.sub (Dw x.dev)
 | .a (.v n) x=>.a (.v n) x.dev
 | .a (.c k i) x=>.a (.c k i) x.dev
 | .a (.a f y) x=>.a (La.a f y).dev x.dev
theorem RP {b b' x x':La} (hb:Par b b') (hx:Par x x'):Par (b.sub (Dw x)) (b'.sub (Dw x')):=hb.sub fun n=>by
 cases n with
 | zero=>exact hx
 | succ n=>exact .v n
theorem PU {t u:La} (h:Par t u):Par u t.dev:=by
 induction h with
 | v n=>exact .v n
 | c k i=>exact .c k i
 | l _ ih=>exact .l ih
 | @a f f' x x' hf hx ih1 ih2 =>
  cases f with
  | v n=>rw [La.dev];exact .a ih1 ih2
  | c k i=>rw [La.dev];exact .a ih1 ih2
  | a g y=>rw [La.dev];exact .a ih1 ih2
  | l b =>
   rw [La.dev]
   cases hf with
   | l hb =>
    rw [La.dev] at ih1
    cases ih1 with
    | l hb'=>exact .beta hb' ih2
 | beta _ _ ih1 ih2 =>
  rw [La.dev]
  exact RP ih1 ih2
theorem B1.par {t u:La} (h:B1 t u):Par t u:=by
 induction h with
 | beta b x=>exact .beta (Par.refl b) (Par.refl x)
 | l _ ih=>exact .l ih
 | f _ ih=>exact .a ih (Par.refl _)
 | x _ ih=>exact .a (Par.refl _) ih
theorem Gk {R:La→La→Prop} (hR:∀ b b',R b b'→R (.l b) (.l b')) {b b':La} (h:Av R b b'):Av R (.l b) (.l b'):=h.map (g:=La.l) fun _ _ k=>.one (hR _ _ k)
theorem FI {R:La→La→Prop} (hf:∀ f f' x,R f f'→R (.a f x) (.a f' x)) (hx:∀ f x x',R x x'→R (.a f x) (.a f x')) {f f' x x':La} (h1:Av R f f') (h2:Av R x x'):Av R (.a f x) (.a f' x') :=
 (h1.map (g:=fun f=>La.a f x) fun _ _ k=>.one (hf _ _ _ k)).trans (h2.map (g:=fun x=>La.a f' x) fun _ _ k=>.one (hx _ _ _ k))
theorem Par.many {t u:La} (h:Par t u):Av B1 t u:=by
 induction h with
 | v n=>exact .refl _
 | c k i=>exact .refl _
 | l _ ih=>exact Gk (fun _ _=>.l) ih
 | a _ _ ih1 ih2=>exact FI (fun _ _ _=>.f) (fun _ _ _=>.x) ih1 ih2
 | beta _ _ ih1 ih2=>exact (FI (fun _ _ _=>.f) (fun _ _ _=>.x) (Gk (fun _ _=>.l) ih1) ih2).trans (.one (.beta _ _))
theorem OI:J8 (Av B1) (Av B1):=by
 have key:J8 (Av Par) (Av Par):=Fu fun a b c hb hc=>⟨a.dev,.one (PU hb),.inr (PU hc)⟩
 have e:∀ {a b:La},Av B1 a b ↔ Av Par a b:=fun {a b} =>
  ⟨Av.map (g:=id) fun _ _ h=>.one h.par,Av.map (g:=id) fun _ _ h=>h.many⟩
 intro a b c hb hc
 obtain ⟨d,k1,k2⟩:=key a b c (e.1 hb) (e.1 hc)
 exact ⟨d,e.2 k1,e.2 k2⟩

theorem E1.ren {t u:La} (h:E1 t u):∀ r:Nat→Nat,E1 (t.ren r) (u.ren r):=by
 induction h with
 | eta k =>
  intro r
  have e:(La.l (.a (k.ren Nat.succ) (.v 0))).ren r=.l (.a ((k.ren r).ren Nat.succ) (.v 0)):=by
   rw [La.ren,La.ren,La.ren_ren,La.ren_ren];rfl
  rw [e]
  exact .eta _
 | l _ ih=>exact fun r=>.l (ih _)
 | f _ ih=>exact fun r=>.f (ih r)
 | x _ ih=>exact fun r=>.x (ih r)
theorem E1.sub {t u:La} (h:E1 t u):∀ s:Nat→La,E1 (t.sub s) (u.sub s):=by
 induction h with
 | eta k =>
  intro s
  have e:(La.l (.a (k.ren Nat.succ) (.v 0))).sub s=.l (.a ((k.sub s).ren Nat.succ) (.v 0)):=by
   rw [La.sub,La.sub,La.ren_sub,La.sub_ren];rfl
  rw [e]
  exact .eta _
 | l _ ih=>exact fun s=>.l (ih _)
 | f _ ih=>exact fun s=>.f (ih s)
 | x _ ih=>exact fun s=>.x (ih s)
theorem B1.ren {t u:La} (h:B1 t u):∀ r:Nat→Nat,B1 (t.ren r) (u.ren r):=by
 induction h with
 | beta b x =>
  intro r
  rw [JJ]
  exact .beta _ _
 | l _ ih=>exact fun r=>.l (ih _)
 | f _ ih=>exact fun r=>.f (ih r)
 | x _ ih=>exact fun r=>.x (ih r)
theorem B1.back:∀ (t:La) (r:Nat→Nat) {u:La},B1 (t.ren r) u→∃ w,u=w.ren r∧B1 t w
 | .v n,r,u,h=>by cases h
 | .c k i,r,u,h=>by cases h
 | .l b,r,u,h=>by
  cases h with
  | l h =>
   obtain ⟨w,rfl,k⟩:=B1.back b _ h
   exact ⟨.l w,rfl,.l k⟩
 | .a g y,r,u,h=>by
  rw [La.ren] at h
  generalize hF:g.ren r=F at h
  cases h with
  | beta b _ =>
   cases g with
   | l b0 =>
    simp only [La.ren,La.l.injEq] at hF
    subst hF
    exact ⟨b0.sub (Dw y),(JJ _ _ _).symm,.beta _ _⟩
   | v _=>simp [La.ren] at hF
   | c _ _=>simp [La.ren] at hF
   | a _ _=>simp [La.ren] at hF
  | f h =>
   subst hF
   obtain ⟨w,rfl,k⟩:=B1.back g r h
   exact ⟨.a w y,rfl,.f k⟩
  | x h =>
   subst hF
   obtain ⟨w,rfl,k⟩:=B1.back y r h
   exact ⟨.a g w,rfl,.x k⟩
theorem E1.back:∀ (t:La) (r:Nat→Nat) {u:La},E1 (t.ren r) u→∃ w,u=w.ren r∧E1 t w
 | .v n,r,u,h=>by cases h
 | .c k i,r,u,h=>by cases h
 | .l b,r,u,h=>by
  rw [La.ren] at h
  generalize hF:b.ren (upr r)=F at h
  cases h with
  | eta k =>
   cases b with
   | a g y =>
    simp only [La.ren,La.a.injEq] at hF
    obtain ⟨h1,h2⟩:=hF
    cases y with
    | v n =>
     simp only [La.ren,La.v.injEq] at h2
     cases n with
     | zero =>
      obtain ⟨w,rfl,rfl⟩:=HI g u (upr r) Nat.succ Nat.succ r (fun i j e=>by
       cases i with
       | zero=>simp [upr] at e
       | succ i =>
        simp only [upr,Nat.succ_eq_add_one,Nat.add_right_cancel_iff] at e
        exact ⟨i,rfl,e.symm⟩) h1
      exact ⟨w,rfl,.eta w⟩
     | succ n=>simp [upr] at h2
    | c _ _=>simp [La.ren] at h2
    | l _=>simp [La.ren] at h2
    | a _ _=>simp [La.ren] at h2
   | v _=>simp [La.ren] at hF
   | c _ _=>simp [La.ren] at hF
   | l _=>simp [La.ren] at hF
  | l h =>
   subst hF
   obtain ⟨w,rfl,k⟩:=E1.back b _ h
   exact ⟨.l w,rfl,.l k⟩
 | .a g y,r,u,h=>by
  cases h with
  | f h =>
   obtain ⟨w,rfl,k⟩:=E1.back g r h
   exact ⟨.a w y,rfl,.f k⟩
  | x h =>
   obtain ⟨w,rfl,k⟩:=E1.back y r h
   exact ⟨.a g w,rfl,.x k⟩
theorem R6 {k b:La} (h:E1 (.a (k.ren Nat.succ) (.v 0)) b):∃ k',b=.a (k'.ren Nat.succ) (.v 0)∧E1 k k':=by
 cases h with
 | f h =>
  obtain ⟨w,rfl,q⟩:=E1.back k _ h
  exact ⟨w,rfl,q⟩
 | x h=>cases h
theorem Q1 {a b:La} (hb:E1 a b):∀ {c:La},E1 a c→∃ d,(b=d ∨ E1 b d)∧(c=d ∨ E1 c d):=by
 induction hb with
 | eta k =>
  intro c hc
  generalize hF:La.l (.a (k.ren Nat.succ) (.v 0))=F at hc
  cases hc with
  | eta k' =>
   simp only [La.l.injEq,La.a.injEq,and_true] at hF
   have:=T3 hF
   subst this
   exact ⟨k,.inl rfl,.inl rfl⟩
  | l h =>
   simp only [La.l.injEq] at hF
   subst hF
   obtain ⟨k',rfl,q⟩:=R6 h
   exact ⟨k',.inr q,.inr (.eta k')⟩
  | f h=>cases hF
  | x h=>cases hF
 | @l b b' h1 ih =>
  intro c hc
  generalize hF:La.l b=F at hc
  cases hc with
  | eta k =>
   simp only [La.l.injEq] at hF
   subst hF
   obtain ⟨k',rfl,q⟩:=R6 h1
   exact ⟨k',.inr (.eta k'),.inr q⟩
  | l h =>
   simp only [La.l.injEq] at hF
   subst hF
   obtain ⟨d,k1,k2⟩:=ih h
   exact ⟨.l d,k1.imp (congrArg _) .l,k2.imp (congrArg _) .l⟩
  | f h=>cases hF
  | x h=>cases hF
 | @f f f' x h1 ih =>
  intro c hc
  cases hc with
  | f h =>
   obtain ⟨d,k1,k2⟩:=ih h
   exact ⟨.a d x,k1.imp (congrArg fun y=>La.a y x) .f,k2.imp (congrArg fun y=>La.a y x) .f⟩
  | x h=>exact ⟨_,.inr (.x h),.inr (.f h1)⟩
 | @x f x x' h1 ih =>
  intro c hc
  cases hc with
  | x h =>
   obtain ⟨d,k1,k2⟩:=ih h
   exact ⟨.a f d,k1.imp (congrArg fun y=>La.a f y) .x,k2.imp (congrArg fun y=>La.a f y) .x⟩
  | f h=>exact ⟨_,.inr (.f h),.inr (.x h1)⟩
theorem PZ:J8 (Av E1) (Av E1):=Fu fun a b c hb hc=>by
 obtain ⟨d,k1,k2⟩:=Q1 hb hc
 refine ⟨d,?_,k2⟩
 rcases k1 with rfl | k1
 ·exact .refl _
 ·exact .one k1
theorem HK:∀ (t:La) {s q:Nat→La},(∀ n,Av E1 (s n) (q n))→Av E1 (t.sub s) (t.sub q)
 | .v n,s,q,h=>h n
 | .c k i,s,q,h=>.refl _
 | .l b,s,q,h=>Gk (fun _ _=>.l) (HK b fun n=>by
  cases n with
  | zero=>exact .refl _
  | succ n=>exact (h n).map (g:=fun t=>t.ren Nat.succ) fun _ _ k=>.one (k.ren _))
 | .a f x,s,q,h=>FI (fun _ _ _=>.f) (fun _ _ _=>.x) (HK f h) (HK x h)
theorem QK {a b:La} (hb:B1 a b):∀ {c:La},E1 a c→∃ d,Av E1 b d∧(c=d ∨ B1 c d):=by
 induction hb with
 | beta b x =>
  intro c hc
  cases hc with
  | f h =>
   generalize hF:La.l b=F at h
   cases h with
   | eta k =>
    simp only [La.l.injEq] at hF
    subst hF
    refine ⟨_,?_,.inl rfl⟩
    rw [La.sub,Ii]
    exact .refl _
   | l h =>
    simp only [La.l.injEq] at hF
    subst hF
    exact ⟨_,.one (h.sub _),.inr (.beta _ _)⟩
   | f h=>cases hF
   | x h=>cases hF
  | x h =>
   refine ⟨_,HK b (q:=Dw _) fun n=>?_,.inr (.beta _ _)⟩
   cases n with
   | zero=>exact .one h
   | succ n=>exact .refl _
 | @l b b' h1 ih =>
  intro c hc
  generalize hF:La.l b=F at hc
  cases hc with
  | eta k =>
   simp only [La.l.injEq] at hF
   subst hF
   generalize hG:c.ren Nat.succ=G at h1
   generalize hV:La.v 0=V at h1
   cases h1 with
   | beta q _ =>
    subst hV
    cases c with
    | l q0 =>
     simp only [La.ren,La.l.injEq] at hG
     subst hG
     refine ⟨.l q0,?_,.inl rfl⟩
     have e:(q0.ren (upr Nat.succ)).sub (Dw (.v 0))=q0:=by
      rw [La.ren_sub]
      have h:(fun n=>Dw (.v 0) (upr Nat.succ n))=La.v:=by
       funext n;cases n <;> rfl
      rw [h,La.sub_v]
     rw [e]
     exact .refl _
    | v _=>simp [La.ren] at hG
    | c _ _=>simp [La.ren] at hG
    | a _ _=>simp [La.ren] at hG
   | f h =>
    subst hG hV
    obtain ⟨w,rfl,q⟩:=B1.back c _ h
    exact ⟨w,.one (.eta w),.inr q⟩
   | x h =>
    subst hV
    cases h
  | l h =>
   simp only [La.l.injEq] at hF
   subst hF
   obtain ⟨d,k1,k2⟩:=ih h
   exact ⟨.l d,Gk (fun _ _=>.l) k1,k2.imp (congrArg _) .l⟩
  | f h=>cases hF
  | x h=>cases hF
 | @f f f' x h1 ih =>
  intro c hc
  cases hc with
  | f h =>
   obtain ⟨d,k1,k2⟩:=ih h
   exact ⟨.a d x,FI (fun _ _ _=>.f) (fun _ _ _=>.x) k1 (.refl x),k2.imp (congrArg fun y=>La.a y x) .f⟩
  | x h=>exact ⟨_,.one (.x h),.inr (.f h1)⟩
 | @x f x x' h1 ih =>
  intro c hc
  cases hc with
  | x h =>
   obtain ⟨d,k1,k2⟩:=ih h
   exact ⟨.a f d,FI (fun _ _ _=>.f) (fun _ _ _=>.x) (.refl f) k1,k2.imp (congrArg fun y=>La.a f y) .x⟩
  | f h=>exact ⟨_,.one (.f h),.inr (.x h1)⟩
abbrev BE (a b:La):Prop:=B1 a b ∨ E1 a b
theorem SM:J8 (Av BE) (Av BE):=P7 OI PZ (Fu fun a b c hb hc=>QK hb hc)
def B9 (a b:La):Prop:=∃ d,Av BE a d∧Av BE b d
theorem B9.refl (a:La):B9 a a:=⟨a,.refl a,.refl a⟩
theorem B9.symm {a b:La} (h:B9 a b):B9 b a:=⟨h.choose,h.choose_spec.2,h.choose_spec.1⟩
theorem B9.trans {a b c:La} (h:B9 a b) (k:B9 b c):B9 a c:=by
 obtain ⟨d,h1,h2⟩:=h
 obtain ⟨e,k1,k2⟩:=k
 obtain ⟨g,q1,q2⟩:=SM b d e h2 k1
 exact ⟨g,h1.trans q1,k2.trans q2⟩
theorem Ih {a b:La} (h:Av BE a b):B9 a b:=⟨b,h,.refl b⟩
theorem BE.ren {a b:La} (h:BE a b) (r:Nat→Nat):BE (a.ren r) (b.ren r):=h.imp (·.ren r) (·.ren r)
theorem B9.ren {a b:La} (h:B9 a b) (r:Nat→Nat):B9 (a.ren r) (b.ren r):=by
 obtain ⟨d,h1,h2⟩:=h
 exact ⟨d.ren r,h1.map (g:=fun t=>t.ren r) fun _ _ k=>.one (BE.ren k r),h2.map (g:=fun t=>t.ren r) fun _ _ k=>.one (BE.ren k r)⟩
theorem Uh:∀ b b':La,BE b b'→BE (.l b) (.l b'):=fun _ _ h=>h.imp .l .l
theorem UY:∀ f f' x:La,BE f f'→BE (.a f x) (.a f' x):=fun _ _ _ h=>h.imp .f .f
theorem Ul:∀ f x x':La,BE x x'→BE (.a f x) (.a f x'):=fun _ _ _ h=>h.imp .x .x
theorem B9.l {a b:La} (h:B9 a b):B9 (.l a) (.l b):=by
 obtain ⟨d,h1,h2⟩:=h
 exact ⟨.l d,Gk Uh h1,Gk Uh h2⟩
theorem B9.a {f g x y:La} (h:B9 f g) (k:B9 x y):B9 (.a f x) (.a g y):=by
 obtain ⟨d,h1,h2⟩:=h
 obtain ⟨e,k1,k2⟩:=k
 exact ⟨.a d e,FI UY Ul h1 k1,FI UY Ul h2 k2⟩
theorem F2 (b x:La):B9 (.a (.l b) x) (b.sub (Dw x)):=Ih (.one (.inl (.beta b x)))
theorem SP (k:La):B9 (.l (.a (k.ren Nat.succ) (.v 0))) k:=Ih (.one (.inr (.eta k)))
theorem Pn {a b:La} (h:E1 a b):∀ {d:La},B1 b d→∃ e,B1 a e:=by
 induction h with
 | eta k=>exact fun hd=>⟨_,.l (.f (hd.ren _))⟩
 | l h ih =>
  intro d hd
  cases hd with
  | l hd =>
   obtain ⟨e,he⟩:=ih hd
   exact ⟨_,.l he⟩
 | @f f f' x h ih =>
  intro d hd
  cases hd with
  | beta b _ =>
   cases h with
   | eta k=>exact ⟨_,.beta _ _⟩
   | l h=>exact ⟨_,.beta _ _⟩
  | f hd =>
   obtain ⟨e,he⟩:=ih hd
   exact ⟨_,.f he⟩
  | x hd=>exact ⟨_,.x hd⟩
 | @x f x x' h ih =>
  intro d hd
  cases hd with
  | beta b _=>exact ⟨_,.beta _ _⟩
  | f hd=>exact ⟨_,.f hd⟩
  | x hd =>
   obtain ⟨e,he⟩:=ih hd
   exact ⟨_,.x he⟩
theorem Kx {a b:La} (h:Av E1 a b) (hn:∀ d,¬ B1 a d):∀ d,¬ B1 b d:=by
 induction h with
 | refl=>exact hn
 | step h1 _ ih =>
  refine ih fun d hd=>?_
  obtain ⟨e,he⟩:=Pn h1 hd
  exact hn e he
theorem Kr {a b:La} (h:Av BE a b) (h1:∀ d,¬ B1 a d) (h2:∀ d,¬ E1 a d):a=b:=by
 cases h with
 | refl=>rfl
 | step k _ =>
  rcases k with k | k
  ·exact absurd k (h1 _)
  ·exact absurd k (h2 _)
theorem SZ {t u a b x y:La} (h:B9 t u) (ha:Av B1 t a) (hb:Av B1 u b) (na:∀ d,¬ B1 a d) (nb:∀ d,¬ B1 b d) (hx:Av E1 a x) (hy:Av E1 b y) (nx:∀ d,¬ E1 x d) (ny:∀ d,¬ E1 y d):x=y:=by
 have toB:∀ {p q:La},Av B1 p q→Av BE p q:=fun h=>h.map (g:=id) fun _ _ k=>.one (.inl k)
 have toE:∀ {p q:La},Av E1 p q→Av BE p q:=fun h=>h.map (g:=id) fun _ _ k=>.one (.inr k)
 have k:=((Ih ((toB ha).trans (toE hx))).symm.trans h).trans (Ih ((toB hb).trans (toE hy)))
 obtain ⟨d,k1,k2⟩:=k
 rw [Kr k1 (Kx hx na) nx,Kr k2 (Kx hy nb) ny]

mutual
def Lm.wf:Lm→Prop
 | .mk k i xs=>(1≤k∧k≤5∧(xs.length:Int)=DU k)∧Lm.wfs xs
def Lm.wfs:List Lm→Prop
 | []=>True
 | t :: ts=>t.wf∧Lm.wfs ts
end
theorem Lm.wf_eq (t:Lm):t.wf ↔ ((1≤t.kind∧t.kind≤5∧(t.subs.length:Int)=DU t.kind)∧Lm.wfs t.subs):=by cases t;exact Iff.rfl
theorem Lm.wfs_iff {xs:List Lm}:Lm.wfs xs ↔ ∀ t ∈ xs,t.wf:=by
 induction xs with
 | nil=>simp [Lm.wfs]
 | cons x xs ih=>simp [Lm.wfs,ih]
theorem Lm.goods_iff {b:Int} {xs:List Lm}:Lm.goods b xs ↔ ∀ t ∈ xs,t.good b:=by
 induction xs with
 | nil=>simp [Lm.goods]
 | cons x xs ih=>simp [Lm.goods,ih]
theorem Lm.wf_sub {t a:Lm} (h:t.wf) (ha:a ∈ t.subs):a.wf:=Lm.wfs_iff.1 ((Lm.wf_eq t).1 h).2 a ha
mutual
theorem Lm.wf_chk {m:Int}:∀ (t:Lm) (u:Int),t.chk m u=0→t.wf
 | .mk k i xs,u,h=>by
  rw [Lm.chk] at h
  split at h
  ·rename_i hk
   split at h
   ·exact ⟨hk,Lm.wfs_chk xs _ h⟩
   ·omega
  ·omega
theorem Lm.wfs_chk {m:Int}:∀ (xs:List Lm) (u:Int),Lm.chks m xs u=0→Lm.wfs xs
 | [],_,_=>trivial
 | t :: ts,u,h=>by
  rw [Lm.chks] at h
  split at h
  ·rename_i e
   exact ⟨Lm.wf_chk t u e,Lm.wfs_chk ts u h⟩
  ·rename_i e
   exact absurd h e
end
mutual
theorem Lm.good_mono {b c:Int} (hbc:b≤c):∀ t:Lm,t.good b→t.good c
 | .mk k i xs,h=>⟨h.1,h.2.1,by have:=h.2.2.1;omega,Lm.goods_mono hbc xs h.2.2.2⟩
theorem Lm.goods_mono {b c:Int} (hbc:b≤c):∀ xs:List Lm,Lm.goods b xs→Lm.goods c xs
 | [],_=>trivial
 | t :: ts,h=>⟨Lm.good_mono hbc t h.1,Lm.goods_mono hbc ts h.2⟩
end
theorem Lm.mvs_length (b d:Int) (xs:List Lm):(Lm.mvs b d xs).length=xs.length:=by rw [Lm.mvs_eq,List.length_map]
theorem Lm.puts_length (x:Lm) (d:Int) (xs:List Lm):(Lm.puts x d xs).length=xs.length:=by rw [Lm.puts_eq,List.length_map]
mutual
theorem Lm.wf_mv {b:Int}:∀ (d:Int) (t:Lm),t.wf→(Lm.mv b d t).wf
 | d,.mk k i xs,h=>⟨by rw [Lm.mvs_length];exact h.1,Lm.wfs_mv _ xs h.2⟩
theorem Lm.wfs_mv {b:Int}:∀ (d:Int) (xs:List Lm),Lm.wfs xs→Lm.wfs (Lm.mvs b d xs)
 | _,[],_=>trivial
 | d,t :: ts,h=>⟨Lm.wf_mv d t h.1,Lm.wfs_mv d ts h.2⟩
end
mutual
theorem Lm.good_mv {b c:Int} (hb:0≤b):∀ (d:Int) (t:Lm),t.good c→(Lm.mv b d t).good (c + b)
 | d,.mk k i xs,h=>by
  refine ⟨fun e=>by rw [h.1 e];rfl,?_,?_,Lm.goods_mv hb _ xs h.2.2.2⟩
  ·have:=h.2.1
   split <;> omega
  ·have:=h.2.2.1
   split <;> omega
theorem Lm.goods_mv {b c:Int} (hb:0≤b):∀ (d:Int) (xs:List Lm),Lm.goods c xs→Lm.goods (c + b) (Lm.mvs b d xs)
 | _,[],_=>trivial
 | d,t :: ts,h=>⟨Lm.good_mv hb d t h.1,Lm.goods_mv hb d ts h.2⟩
end
mutual
theorem Lm.mv_zero:∀ (d:Int) (t:Lm),Lm.mv 0 d t=t
 | d,.mk k i xs=>by rw [Lm.mv,Lm.mvs_zero];simp
theorem Lm.mvs_zero:∀ (d:Int) (xs:List Lm),Lm.mvs 0 d xs=xs
 | _,[]=>rfl
 | d,t :: ts=>by rw [Lm.mvs,Lm.mv_zero d t,Lm.mvs_zero d ts]
end
theorem JA (k d:Int):Aj k d≤d + 1∧d≤Aj k d:=by unfold Aj;split <;> omega
mutual
theorem Lm.wf_put {x:Lm} (hx:x.wf):∀ (d:Int) (t:Lm),t.wf→(Lm.put x d t).wf
 | d,.mk k i xs,h=>by
  rw [Lm.put]
  split
  ·split
   ·exact Lm.wf_mv 0 x hx
   ·split
    ·exact ⟨⟨by decide,by decide,rfl⟩,trivial⟩
    ·exact ⟨⟨by decide,by decide,rfl⟩,trivial⟩
  ·exact ⟨by rw [Lm.puts_length];exact h.1,Lm.wfs_put hx _ xs h.2⟩
theorem Lm.wfs_put {x:Lm} (hx:x.wf):∀ (d:Int) (xs:List Lm),Lm.wfs xs→Lm.wfs (Lm.puts x d xs)
 | _,[],_=>trivial
 | d,t :: ts,h=>⟨Lm.wf_put hx d t h.1,Lm.wfs_put hx d ts h.2⟩
end
mutual
theorem Lm.good_put {x:Lm} {b D:Int} (hx:x.good b):∀ (d:Int) (t:Lm),0≤d→d + t.size≤D→t.good b→(Lm.put x d t).good (b + D)
 | d,.mk k i xs,hd,hD,h=>by
  rw [Lm.size] at hD
  have h2:=h.2.1
  have h3:=h.2.2.1
  rw [Lm.put]
  split
  ·split
   ·exact Lm.good_mono (by omega) _ (Lm.good_mv hd 0 x hx)
   ·split
    ·exact ⟨fun _=>rfl,by omega,by omega,trivial⟩
    ·exact ⟨fun _=>rfl,by omega,by omega,trivial⟩
  ·rename_i hk
   have hu:=JA k d
   exact ⟨fun e=>absurd e hk,h2,by omega,Lm.goods_put hx _ xs (by omega) (by omega) h.2.2.2⟩
theorem Lm.goods_put {x:Lm} {b D:Int} (hx:x.good b):∀ (d:Int) (xs:List Lm),0≤d→d + Lm.sizes xs≤D→Lm.goods b xs→Lm.goods (b + D) (Lm.puts x d xs)
 | _,[],_,_,_=>trivial
 | d,t :: ts,hd,hD,h=>by
  rw [Lm.sizes] at hD
  exact ⟨Lm.good_put hx d t hd (by omega) h.1,Lm.goods_put hx d ts hd (by omega) h.2⟩
end
def Lm.top (k:Int) (xs:List Lm):Option Lm:=match xs with
 | f :: x :: _=>if k=3∧f.kind=2 then (match f.subs with | b :: _=>some (Lm.put x 0 b) | []=>none) else none
 | _=>none
mutual
def Lm.outer:Lm→Option Lm
 | .mk k i xs=>match Lm.top k xs with
  | some y=>some y
  | none=>match Lm.outers xs with
   | some ys=>some (.mk k i ys)
   | none=>none
def Lm.outers:List Lm→Option (List Lm)
 | []=>none
 | t :: ts=>match t.outer with
  | some x=>some (x :: ts)
  | none=>match Lm.outers ts with
   | some ys=>some (t :: ys)
   | none=>none
end
theorem Lm.outer_eq (t:Lm):t.outer=match Lm.top t.kind t.subs with
  | some y=>some y
  | none=>match Lm.outers t.subs with
   | some ys=>some (.mk t.kind t.idx ys)
   | none=>none:=by cases t;rw [Lm.outer];rfl
theorem LN {α:Type} {xs:List α} (h:(xs.length:Int)=1):∃ a,xs=[a]:=by
 match xs,h with
 | [a],_=>exact ⟨a,rfl⟩
 | [],h=>simp at h
 | _ :: _ :: _,h=>simp at h;omega
theorem L9 {α:Type} {xs:List α} (h:(xs.length:Int)=2):∃ a b,xs=[a,b]:=by
 match xs,h with
 | [a,b],_=>exact ⟨a,b,rfl⟩
 | [],h=>simp at h
 | [_],h=>simp at h
 | _ :: _ :: _ :: _,h=>simp at h;omega
theorem Lm.subs1 {t:Lm} (h:t.wf) (hk:t.kind=2):∃ a,t.subs=[a]:=by
 have:=((Lm.wf_eq t).1 h).1.2.2
 rw [hk] at this
 exact LN this
theorem Lm.subs2 {t:Lm} (h:t.wf) (hk:t.kind=3):∃ a b,t.subs=[a,b]:=by
 have:=((Lm.wf_eq t).1 h).1.2.2
 rw [hk] at this
 exact L9 this
theorem Lm.top_cases {t:Lm} (h:t.wf):(∃ f x b,t.kind=3∧t.subs=[f,x]∧f.kind=2∧f.subs=[b]∧Lm.top t.kind t.subs=some (Lm.put x 0 b)) ∨ (Lm.top t.kind t.subs=none∧(t.kind=3→∃ f x,t.subs=[f,x]∧¬ f.kind=2)):=by
 by_cases hk:t.kind=3
 ·obtain ⟨f,x,hfx⟩:=Lm.subs2 h hk
  by_cases hf:f.kind=2
  ·obtain ⟨b,hb⟩:=Lm.subs1 (Lm.wf_sub h (by rw [hfx];simp)) hf
   exact Or.inl ⟨f,x,b,hk,hfx,hf,hb,by rw [hfx];simp [Lm.top,hk,hf,hb]⟩
  ·exact Or.inr ⟨by rw [hfx];simp [Lm.top,hf],fun _=>⟨f,x,hfx,hf⟩⟩
 ·refine Or.inr ⟨?_,fun e=>absurd e hk⟩
  unfold Lm.top
  split
  ·rw [if_neg (fun h=>hk h.1)]
  ·rfl
theorem Lm.outers_none {xs:List Lm} {k:Nat} {a:Lm} (ha:xs[k]?=some a) (h:Lm.outers (xs.take k)=none) (hn:a.outer=none):Lm.outers (xs.take (k + 1))=none:=by
 induction xs generalizing k with
 | nil=>simp at ha
 | cons x xs ih =>
  cases k with
  | zero =>
   have:x=a:=by simpa using ha
   subst this
   simp [Lm.outers,hn]
  | succ k =>
   rw [List.take_succ_cons,Lm.outers] at h ⊢
   split at h
   ·cases h
   ·rename_i hx
    split at h
    ·cases h
    ·rename_i h2
     rw [ih (by simpa using ha) h2]
theorem Lm.outers_some {xs:List Lm} {k:Nat} {a y:Lm} (ha:xs[k]?=some a) (h:Lm.outers (xs.take k)=none) (hy:a.outer=some y):Lm.outers xs=some (xs.set k y):=by
 induction xs generalizing k with
 | nil=>simp at ha
 | cons x xs ih =>
  cases k with
  | zero =>
   have:x=a:=by simpa using ha
   subst this
   simp [Lm.outers,hy]
  | succ k =>
   rw [List.take_succ_cons,Lm.outers] at h
   split at h
   ·cases h
   ·rename_i hx
    split at h
    ·cases h
    ·rename_i h2
     rw [Lm.outers,hx,ih (by simpa using ha) h2]
     rfl
theorem Lm.outers_length:∀ {xs ys:List Lm},Lm.outers xs=some ys→ys.length=xs.length
 | [],ys,h=>by cases h
 | t :: ts,ys,h=>by
  rw [Lm.outers] at h
  split at h
  ·cases h;rfl
  ·split at h
   ·rename_i h2
    cases h
    simp [Lm.outers_length h2]
   ·cases h
theorem Lm.top_some {k:Int} {xs:List Lm} {y:Lm} (h:Lm.top k xs=some y):∃ f x r b q,xs=f :: x :: r∧f.subs=b :: q∧k=3∧f.kind=2∧y=Lm.put x 0 b:=by
 unfold Lm.top at h
 split at h
 ·rename_i f x r
  split at h
  ·rename_i hk
   split at h
   ·rename_i b q hb
    cases h
    exact ⟨f,x,r,b,q,rfl,hb,hk.1,hk.2,rfl⟩
   ·cases h
  ·cases h
 ·cases h
mutual
theorem Lm.wf_outer:∀ {t y:Lm},t.wf→t.outer=some y→y.wf
 | .mk k i xs,y,hw,h=>by
  rw [Lm.outer] at h
  split at h
  ·rename_i z hz
   cases h
   obtain ⟨f,x,r,b,q,rfl,hb,_,_,rfl⟩:=Lm.top_some hz
   exact Lm.wf_put hw.2.2.1 0 b (Lm.wf_sub hw.2.1 (by rw [hb];simp))
  ·split at h
   ·rename_i ys hys
    cases h
    exact ⟨by rw [Lm.outers_length hys];exact hw.1,Lm.wfs_outers hw.2 hys⟩
   ·cases h
theorem Lm.wfs_outers:∀ {xs ys:List Lm},Lm.wfs xs→Lm.outers xs=some ys→Lm.wfs ys
 | [],_,_,h=>by cases h
 | t :: ts,ys,hw,h=>by
  rw [Lm.outers] at h
  split at h
  ·rename_i x hx
   cases h
   exact ⟨Lm.wf_outer hw.1 hx,hw.2⟩
  ·split at h
   ·rename_i zs hzs
    cases h
    exact ⟨hw.1,Lm.wfs_outers hw.2 hzs⟩
   ·cases h
end
mutual
theorem Lm.good_outer {b D:Int} (hD:0≤D):∀ {t y:Lm},t.size≤D→t.good b→t.outer=some y→y.good (b + D)
 | .mk k i xs,y,hs,hg,h=>by
  rw [Lm.size] at hs
  rw [Lm.outer] at h
  split at h
  ·rename_i z hz
   cases h
   obtain ⟨f,x,r,c,q,rfl,hb,_,_,rfl⟩:=Lm.top_some hz
   have h1:c ∈ f.subs:=by rw [hb];simp
   have h2:=Lm.size_sub h1
   simp only [Lm.sizes] at hs
   exact Lm.good_put hg.2.2.2.2.1 0 c (by decide) (by omega) (Lm.good_sub hg.2.2.2.1 h1)
  ·split at h
   ·rename_i ys hys
    cases h
    have:=hg.2.2.1
    refine ⟨fun e=>?_,hg.2.1,by omega,Lm.goods_outers hD (by omega) hg.2.2.2 hys⟩
    have h1:=Lm.outers_length hys
    rw [hg.1 e] at h1
    exact List.eq_nil_of_length_eq_zero (by simpa using h1)
   ·cases h
theorem Lm.goods_outers {b D:Int} (hD:0≤D):∀ {xs ys:List Lm},Lm.sizes xs≤D→Lm.goods b xs→Lm.outers xs=some ys→Lm.goods (b + D) ys
 | [],_,_,_,h=>by cases h
 | t :: ts,ys,hs,hg,h=>by
  rw [Lm.sizes] at hs
  rw [Lm.outers] at h
  split at h
  ·rename_i x hx
   cases h
   exact ⟨Lm.good_outer hD (by omega) hg.1 hx,Lm.goods_mono (by omega) ts hg.2⟩
  ·split at h
   ·rename_i zs hzs
    cases h
    exact ⟨Lm.good_mono (by omega) t hg.1,Lm.goods_outers hD (by omega) hg.2 hzs⟩
   ·cases h
end
theorem LY {a r x:Nat} (h:x≤a * a):x + r≤(a + r) * (a + r):=by
 have h1:(a + r) * (a + r)=a * a + a * r + (r * a + r * r):=by rw [Nat.add_mul,Nat.mul_add,Nat.mul_add]
 have h2:r≤r * r:=Nat.le_mul_self r
 rw [h1]
 omega
mutual
theorem Lm.size_outer:∀ {t y:Lm},t.outer=some y→y.size≤t.size * t.size
 | .mk k i xs,y,h=>by
  rw [Lm.outer] at h
  rw [Lm.size]
  split at h
  ·rename_i z hz
   cases h
   obtain ⟨f,x,r,c,q,rfl,hb,_,_,rfl⟩:=Lm.top_some hz
   have h1:c ∈ f.subs:=by rw [hb];simp
   have h2:=Lm.size_sub h1
   refine Nat.le_trans (Lm.size_put x 0 c) ?_
   simp only [Lm.sizes]
   exact Nat.mul_le_mul (by omega) (by omega)
  ·split at h
   ·rename_i ys hys
    cases h
    rw [Lm.size]
    have:=LY (r:=1) (Lm.sizes_outers hys)
    rw [Nat.add_comm 1,Nat.add_comm 1]
    exact this
   ·cases h
theorem Lm.sizes_outers:∀ {xs ys:List Lm},Lm.outers xs=some ys→Lm.sizes ys≤Lm.sizes xs * Lm.sizes xs
 | [],_,h=>by cases h
 | t :: ts,ys,h=>by
  rw [Lm.outers] at h
  rw [Lm.sizes]
  split at h
  ·rename_i x hx
   cases h
   rw [Lm.sizes]
   exact LY (Lm.size_outer hx)
  ·split at h
   ·rename_i zs hzs
    cases h
    rw [Lm.sizes,Nat.add_comm t.size,Nat.add_comm t.size]
    exact LY (Lm.sizes_outers hzs)
   ·cases h
end
def Lm.run:Nat→Int→Lm→Lm × Int × Int
 | left,n,t=>match t.outer with
  | none=>(t,n,0)
  | some x=>match left with
   | 0=>(Lm.nil,0,9)
   | left + 1=>if 2000 < x.size then (Lm.nil,0,8) else Lm.run left (n + 1) x
theorem Lm.run_none {left:Nat} {n:Int} {t:Lm} (h:t.outer=none):Lm.run left n t=(t,n,0):=by
 cases left <;> (rw [Lm.run];simp only [h])
theorem Lm.run_zero {n:Int} {t x:Lm} (h:t.outer=some x):Lm.run 0 n t=(Lm.nil,0,9):=by rw [Lm.run];simp only [h]
theorem Lm.run_succ {left:Nat} {n:Int} {t x:Lm} (h:t.outer=some x):Lm.run (left + 1) n t=if 2000 < x.size then (Lm.nil,0,8) else Lm.run left (n + 1) x:=by rw [Lm.run];simp only [h]

mutual
def Lm.has:Int→Lm→Bool
 | d,.mk k i xs=>if k=1 then decide (i=d) else Lm.hass (Aj k d) xs
def Lm.hass:Int→List Lm→Bool
 | _,[]=>false
 | d,t :: ts=>Lm.has d t || Lm.hass d ts
end
theorem Lm.has_eq (d:Int) (t:Lm):Lm.has d t=if t.kind=1 then decide (t.idx=d) else Lm.hass (Aj t.kind d) t.subs:=by cases t;rfl
theorem Lm.hass_append (d:Int) (xs ys:List Lm):Lm.hass d (xs ++ ys)=(Lm.hass d xs || Lm.hass d ys):=by
 induction xs with
 | nil=>simp [Lm.hass]
 | cons x xs ih=>simp [Lm.hass,ih,Bool.or_assoc]
theorem Lm.hass_take {d:Int} {xs:List Lm} {k:Nat} {a:Lm} (ha:xs[k]?=some a) (h:Lm.hass d (xs.take k)=false):Lm.hass d (xs.take (k + 1))=Lm.has d a:=by
 rw [B7 ha,Lm.hass_append,h]
 simp [Lm.hass]
theorem Lm.hass_yes {d:Int} {xs:List Lm} {k:Nat} (h:Lm.hass d (xs.take k)=true):Lm.hass d xs=true:=by
 have:=Lm.hass_append d (xs.take k) (xs.drop k)
 rw [List.take_append_drop,h] at this
 simpa using this
mutual
theorem Lm.good_down {c:Int}:∀ (d:Int) (t:Lm),0≤d→t.good c→Lm.has d t=false→(Lm.mv (-1) d t).good c
 | d,.mk k i xs,hd,h,hh=>by
  rw [Lm.has] at hh
  have h2:=h.2.1
  have h3:=h.2.2.1
  have hu:=JA k d
  by_cases hk:k=1
  ·rw [if_pos hk] at hh
   have hne:¬ i=d:=by simpa using hh
   have hx:=h.1 hk
   subst hx
   refine ⟨fun _=>rfl,?_,?_,trivial⟩
   ·split <;> omega
   ·split <;> omega
  ·rw [if_neg hk] at hh
   refine ⟨fun e=>absurd e hk,?_,?_,Lm.goods_down _ xs (by omega) h.2.2.2 hh⟩
   ·rw [if_neg (fun e=>hk e.1)];exact h2
   ·rw [if_neg (fun e=>hk e.1)];exact h3
theorem Lm.goods_down {c:Int}:∀ (d:Int) (xs:List Lm),0≤d→Lm.goods c xs→Lm.hass d xs=false→Lm.goods c (Lm.mvs (-1) d xs)
 | _,[],_,_,_=>trivial
 | d,t :: ts,hd,h,hh=>by
  rw [Lm.hass,Bool.or_eq_false_iff] at hh
  exact ⟨Lm.good_down d t hd h.1 hh.1,Lm.goods_down d ts hd h.2 hh.2⟩
end
def Lm.etaAt (ys:List Lm):Option Lm:=match ys with
 | b :: _=>if b.kind=3 then (match b.subs with | f :: x :: _=>if x.kind=1∧x.idx=0∧Lm.has 0 f=false then some (Lm.mv (-1) 0 f) else none | _=>none) else none
 | []=>none
mutual
def Lm.eta1:Lm→Lm
 | .mk k i xs=>if k=2 then (match Lm.etaAt (Lm.etas xs) with | some y=>y | none=>.mk k i (Lm.etas xs)) else .mk k i (Lm.etas xs)
def Lm.etas:List Lm→List Lm
 | []=>[]
 | t :: ts=>t.eta1 :: Lm.etas ts
end
theorem Lm.etas_eq:∀ xs:List Lm,Lm.etas xs=xs.map Lm.eta1
 | []=>rfl
 | t :: ts=>by rw [Lm.etas,Lm.etas_eq ts];rfl
theorem Lm.eta1_eq (t:Lm):t.eta1=if t.kind=2 then (match Lm.etaAt (t.subs.map Lm.eta1) with | some y=>y | none=>.mk t.kind t.idx (t.subs.map Lm.eta1)) else .mk t.kind t.idx (t.subs.map Lm.eta1):=by
 cases t
 rw [Lm.eta1,Lm.etas_eq]
 rfl
theorem Lm.etaAt_some {ys:List Lm} {y:Lm} (h:Lm.etaAt ys=some y):∃ b r f x q,ys=b :: r∧b.kind=3∧b.subs=f :: x :: q∧x.kind=1∧x.idx=0∧Lm.has 0 f=false∧y=Lm.mv (-1) 0 f:=by
 unfold Lm.etaAt at h
 split at h
 ·rename_i b r
  split at h
  ·rename_i hb
   split at h
   ·rename_i f x q hs
    split at h
    ·rename_i hx
     cases h
     exact ⟨b,r,f,x,q,rfl,hb,hs,hx.1,hx.2.1,hx.2.2,rfl⟩
    ·cases h
   ·cases h
  ·cases h
 ·cases h
mutual
theorem Lm.eta1_all {c:Int}:∀ t:Lm,t.wf→t.good c→t.eta1.wf∧t.eta1.good c∧t.eta1.size≤t.size
 | .mk k i xs,hw,hg=>by
  obtain ⟨h1,h2,h3,h4⟩:=Lm.etas_all xs hw.2 hg.2.2.2
  have hrest:(Lm.mk k i (Lm.etas xs)).wf∧(Lm.mk k i (Lm.etas xs)).good c∧(Lm.mk k i (Lm.etas xs)).size≤(Lm.mk k i xs).size :=
   ⟨⟨by rw [h4];exact hw.1,h1⟩,⟨fun e=>by rw [hg.1 e];rfl,hg.2.1,hg.2.2.1,h2⟩,by rw [Lm.size,Lm.size];omega⟩
  rw [Lm.eta1]
  split
  ·split
   ·rename_i y hy
    obtain ⟨b,r,f,x,q,e1,e2,e3,e4,e5,e6,rfl⟩:=Lm.etaAt_some hy
    have hb:b ∈ Lm.etas xs:=by rw [e1];simp
    have hf:f ∈ b.subs:=by rw [e3];simp
    have s1:=Lm.size_sub hf
    have s2:=Lm.size_mem hb
    refine ⟨Lm.wf_mv 0 f (Lm.wf_sub (Lm.wfs_iff.1 h1 b hb) hf),Lm.good_down 0 f (by decide) (Lm.good_sub (Lm.goods_iff.1 h2 b hb) hf) e6,?_⟩
    rw [Lm.size_mv,Lm.size]
    omega
   ·exact hrest
  ·exact hrest
theorem Lm.etas_all {c:Int}:∀ xs:List Lm,Lm.wfs xs→Lm.goods c xs→Lm.wfs (Lm.etas xs)∧Lm.goods c (Lm.etas xs)∧Lm.sizes (Lm.etas xs)≤Lm.sizes xs∧(Lm.etas xs).length=xs.length
 | [],_,_=>⟨trivial,trivial,Nat.le_refl _,rfl⟩
 | t :: ts,hw,hg=>by
  obtain ⟨a1,a2,a3⟩:=Lm.eta1_all t hw.1 hg.1
  obtain ⟨b1,b2,b3,b4⟩:=Lm.etas_all ts hw.2 hg.2
  refine ⟨⟨a1,b1⟩,⟨a2,b2⟩,?_,by simp [Lm.etas,b4]⟩
  rw [Lm.etas,Lm.sizes,Lm.sizes]
  omega
end
mutual
def Lm.known (m:Int):Lm→Prop
 | .mk k i xs=>(k=5→0≤i∧i < m)∧Lm.knowns m xs
def Lm.knowns (m:Int):List Lm→Prop
 | []=>True
 | t :: ts=>t.known m∧Lm.knowns m ts
end
mutual
def Lm.fill (ws:List Lm):Lm→Lm
 | .mk k i xs=>if k=5 then ws.getD i.toNat Lm.nil else .mk k i (Lm.fills ws xs)
def Lm.fills (ws:List Lm):List Lm→List Lm
 | []=>[]
 | t :: ts=>Lm.fill ws t :: Lm.fills ws ts
end
def Lm.v (i:Int):Lm:=.mk 1 i []
def Lm.l (t:Lm):Lm:=.mk 2 0 [t]
def Lm.a (f x:Lm):Lm:=.mk 3 0 [f,x]
def Lm.isOne (t:Lm):Option Lm:=match t.subs with
 | f :: x :: _=>if t.kind=3∧f.same (Lm.v 1)=true then some x else none
 | _=>none
def Lm.chain:Nat→Lm→Int × Lm
 | 0,t=>(0,t)
 | n + 1,t=>match t.isOne with
  | some x=>((Lm.chain n x).1 + 1,(Lm.chain n x).2)
  | none=>(0,t)
def Lm.ch (t:Lm):Int × Lm:=Lm.chain t.size t
def Lm.val (t:Lm):Int:=if t.same (Lm.l (Lm.v 0))=true then 1 else
 if t.kind=2 then (match t.subs with
  | g :: _=>if g.kind=2 then (match g.subs with
   | b :: _=>if b.ch.2.same (Lm.v 0)=true then b.ch.1 else -1
   | []=>-1) else -1
  | []=>-1) else -1

def La.enc:La→Lm
 | .v n=>.mk 1 n []
 | .c k i=>.mk 4 i []
 | .l b=>.mk 2 0 [b.enc]
 | .a f x=>.mk 3 0 [f.enc,x.enc]
def shR (b d n:Nat):Nat:=if d≤n then n + b else n
theorem Oc (b d:Nat):upr (shR b d)=shR b (d + 1):=by
 funext n
 cases n with
 | zero=>simp [upr,shR]
 | succ n =>
  show shR b d n + 1=shR b (d + 1) (n + 1)
  unfold shR
  by_cases h:d≤n
  ·rw [if_pos h,if_pos (by omega)]
   omega
  ·rw [if_neg h,if_neg (by omega)]
theorem EF (d:Nat):Aj 2 (d:Int)=((d + 1:Nat):Int):=by
 unfold Aj
 rw [if_pos rfl]
 omega
theorem EK (d:Int):Aj 3 d=d:=by
 unfold Aj
 rw [if_neg (by decide)]
theorem LH:∀ (t:La) (b d:Nat),Lm.mv b d t.enc=(t.ren (shR b d)).enc
 | .v n,b,d=>by
  rw [La.enc,Lm.mv,Lm.mvs,La.ren,La.enc]
  unfold shR
  by_cases h:d≤n
  ·rw [if_pos ⟨rfl,by omega⟩,if_pos h]
   rfl
  ·rw [if_neg (by omega),if_neg h]
 | .c k i,b,d=>by
  rw [La.enc,Lm.mv,Lm.mvs,La.ren,La.enc,if_neg (by omega)]
 | .l t,b,d=>by
  rw [La.enc,Lm.mv,Lm.mvs,Lm.mvs,La.ren,La.enc,EF,LH t b (d + 1),Oc,if_neg (by omega)]
 | .a f x,b,d=>by
  rw [La.enc,Lm.mv,Lm.mvs,Lm.mvs,Lm.mvs,La.ren,La.enc,EK,LH f b d,LH x b d,if_neg (by omega)]
def Jf (d:Nat) (x:La) (n:Nat):La:=if n=d then x.ren (shR d 0) else if d < n then .v (n - 1) else .v n
theorem SL (d:Nat) (x:La):ups (Jf d x)=Jf (d + 1) x:=by
 funext n
 cases n with
 | zero =>
  unfold ups Jf
  rw [if_neg (by omega),if_neg (by omega)]
 | succ n =>
  show (Jf d x n).ren Nat.succ=Jf (d + 1) x (n + 1)
  unfold Jf
  by_cases h1:n=d
  ·rw [if_pos h1,if_pos (by omega),La.ren_ren]
   congr 1
  ·rw [if_neg h1,if_neg (show ¬ n + 1=d + 1 by omega)]
   by_cases h2:d < n
   ·rw [if_pos h2,if_pos (show d + 1 < n + 1 by omega),La.ren]
    congr 1
    simp only [Nat.succ_eq_add_one]
    omega
   ·rw [if_neg h2,if_neg (show ¬ d + 1 < n + 1 by omega)]
    rfl
theorem QO (x:La):Jf 0 x=Dw x:=by
 funext n
 cases n with
 | zero =>
  unfold Jf
  rw [if_pos rfl,La.ren_is]
  exact La.sub_v x
 | succ n =>
  unfold Jf
  rw [if_neg (by omega),if_pos (by omega)]
  rfl
theorem Ie (x:La):∀ (t:La) (d:Nat),Lm.put x.enc d t.enc=(t.sub (Jf d x)).enc
 | .v n,d=>by
  rw [La.enc,Lm.put,if_pos rfl,La.sub]
  unfold Jf
  by_cases h1:n=d
  ·rw [if_pos (by omega),if_pos h1]
   exact LH x d 0
  ·rw [if_neg (by omega),if_neg h1]
   by_cases h2:d < n
   ·rw [if_pos (by omega),if_pos h2,La.enc]
    congr 1
    omega
   ·rw [if_neg (by omega),if_neg h2,La.enc]
 | .c k i,d=>by
  rw [La.enc,Lm.put,if_neg (by omega),Lm.puts,La.sub,La.enc]
 | .l t,d=>by
  rw [La.enc,Lm.put,if_neg (by omega),Lm.puts,Lm.puts,La.sub,La.enc,EF,Ie x t (d + 1),SL]
 | .a f y,d=>by
  rw [La.enc,Lm.put,if_neg (by omega),Lm.puts,Lm.puts,Lm.puts,La.sub,La.enc,EK,Ie x f d,Ie x y d]
theorem Q2 (x b:La):Lm.put x.enc 0 b.enc=(b.sub (Dw x)).enc:=by
 have h:=Ie x b 0
 rw [QO] at h
 exact h
theorem Lc:∀ (t:La) (d:Nat),Lm.has d t.enc=false→∃ w:La,t=w.ren (shR 1 d)∧Lm.mv (-1) d t.enc=w.enc
 | .v n,d,h=>by
  rw [La.enc,Lm.has,if_pos rfl] at h
  have hne:n ≠ d:=by
   intro e
   subst e
   simp at h
  rw [La.enc,Lm.mv,Lm.mvs]
  by_cases h1:d≤n
  ·refine ⟨.v (n - 1),?_,?_⟩
   ·rw [La.ren]
    congr 1
    unfold shR
    rw [if_pos (by omega)]
    omega
   ·rw [if_pos ⟨rfl,by omega⟩,La.enc]
    congr 1
    omega
  ·refine ⟨.v n,?_,?_⟩
   ·rw [La.ren]
    congr 1
    unfold shR
    rw [if_neg h1]
   ·rw [if_neg (by omega),La.enc]
 | .c k i,d,h=>⟨.c k i,rfl,by rw [La.enc,Lm.mv,Lm.mvs,if_neg (by omega)]⟩
 | .l b,d,h=>by
  rw [La.enc,Lm.has,if_neg (by omega),Lm.hass,Lm.hass,Bool.or_false,EF] at h
  obtain ⟨w,h1,h2⟩:=Lc b (d + 1) h
  refine ⟨.l w,by rw [La.ren,Oc,← h1],?_⟩
  rw [La.enc,Lm.mv,Lm.mvs,Lm.mvs,if_neg (by omega),EF,h2,La.enc]
 | .a f x,d,h=>by
  rw [La.enc,Lm.has,if_neg (by omega),Lm.hass,Lm.hass,Lm.hass,Bool.or_false,Bool.or_eq_false_iff,EK] at h
  obtain ⟨w,h1,h2⟩:=Lc f d h.1
  obtain ⟨z,h3,h4⟩:=Lc x d h.2
  refine ⟨.a w z,by rw [La.ren,← h1,← h3],?_⟩
  rw [La.enc,Lm.mv,Lm.mvs,Lm.mvs,Lm.mvs,if_neg (by omega),EK,h2,h4,La.enc]
theorem LQ:∀ (w:La) (d:Nat),Lm.has d (w.ren (shR 1 d)).enc=false
 | .v n,d=>by
  rw [La.ren,La.enc,Lm.has,if_pos rfl]
  unfold shR
  simp only [decide_eq_false_iff_not]
  split <;> omega
 | .c k i,d=>by
  rw [La.ren,La.enc,Lm.has,if_neg (by omega),Lm.hass]
 | .l b,d=>by
  rw [La.ren,La.enc,Lm.has,if_neg (by omega),Lm.hass,Lm.hass,Bool.or_false,EF,Oc,LQ b (d + 1)]
 | .a f x,d=>by
  rw [La.ren,La.enc,Lm.has,if_neg (by omega),Lm.hass,Lm.hass,Lm.hass,EK,LQ f d,LQ x d]
  rfl
theorem PP:shR 1 0=Nat.succ:=by
 funext n
 unfold shR
 rw [if_pos (by omega)]
theorem Fz:∀ t:La,(t.enc.outer=none∧∀ d,¬ B1 t d) ∨ ∃ u:La,t.enc.outer=some u.enc∧B1 t u
 | .v n=>.inl ⟨rfl,fun d h=>by cases h⟩
 | .c k i=>.inl ⟨rfl,fun d h=>by cases h⟩
 | .l b=>by
  rw [La.enc,Lm.outer]
  have ht:Lm.top 2 [b.enc]=none:=rfl
  rw [ht]
  simp only [Lm.outers]
  rcases Fz b with ⟨h1,h2⟩ | ⟨u,h1,h2⟩
  ·rw [h1]
   refine .inl ⟨rfl,fun d h=>?_⟩
   cases h with
   | l h=>exact h2 _ h
  ·rw [h1]
   exact .inr ⟨.l u,rfl,.l h2⟩
 | .a f x=>by
  have hrest:(∀ b,f ≠ .l b)→((La.a f x).enc.outer=none∧∀ d,¬ B1 (.a f x) d) ∨ ∃ u:La,(La.a f x).enc.outer=some u.enc∧B1 (.a f x) u:=fun hf=>by
   have hk:¬ f.enc.kind=2:=by
    cases f with
    | l b=>exact absurd rfl (hf b)
    | v n=>show ¬ (1:Int)=2;decide
    | c k i=>show ¬ (4:Int)=2;decide
    | a g y=>show ¬ (3:Int)=2;decide
   have ht:Lm.top 3 [f.enc,x.enc]=none:=by
    unfold Lm.top
    simp only
    rw [if_neg (fun h=>hk h.2)]
   rw [La.enc,Lm.outer,ht]
   simp only [Lm.outers]
   rcases Fz f with ⟨h1,h2⟩ | ⟨u,h1,h2⟩
   ·rw [h1]
    rcases Fz x with ⟨h3,h4⟩ | ⟨w,h3,h4⟩
    ·rw [h3]
     refine .inl ⟨rfl,fun d h=>?_⟩
     cases h with
     | beta b _=>exact hf b rfl
     | f h=>exact h2 _ h
     | x h=>exact h4 _ h
    ·rw [h3]
     exact .inr ⟨.a f w,rfl,.x h4⟩
   ·rw [h1]
    exact .inr ⟨.a u x,rfl,.f h2⟩
  cases f with
  | l b =>
   refine .inr ⟨b.sub (Dw x),?_,.beta b x⟩
   have ht:Lm.top 3 [(La.l b).enc,x.enc]=some (b.sub (Dw x)).enc:=by
    rw [← Q2]
    rfl
   rw [La.enc,Lm.outer,ht]
  | v n=>exact hrest (by simp)
  | c k i=>exact hrest (by simp)
  | a g y=>exact hrest (by simp)
theorem PT:∀ (left:Nat) (n:Int) (t:La),(Lm.run left n t.enc).2.2=0→∃ u:La,(Lm.run left n t.enc).1=u.enc∧Av B1 t u∧∀ d,¬ B1 u d
 | left,n,t,h=>by
  rcases Fz t with ⟨h1,h2⟩ | ⟨u,h1,h2⟩
  ·rw [Lm.run_none h1]
   exact ⟨t,rfl,.refl t,h2⟩
  ·cases left with
   | zero =>
    rw [Lm.run_zero h1] at h
    cases h
   | succ left =>
    rw [Lm.run_succ h1] at h ⊢
    by_cases hz:2000 < u.enc.size
    ·rw [if_pos hz] at h
     cases h
    ·rw [if_neg hz] at h ⊢
     obtain ⟨w,k1,k2,k3⟩:=PT left (n + 1) u h
     exact ⟨w,k1,.step h2 k2,k3⟩
theorem Ef:∀ t:La,∃ u:La,t.enc.eta1=u.enc∧Av E1 t u∧∀ d,¬ E1 u d
 | .v n=>⟨.v n,by rw [La.enc,Lm.eta1,if_neg (by omega),Lm.etas],.refl _,fun d h=>by cases h⟩
 | .c k i=>⟨.c k i,by rw [La.enc,Lm.eta1,if_neg (by omega),Lm.etas],.refl _,fun d h=>by cases h⟩
 | .a f x=>by
  obtain ⟨g,h1,h2,h3⟩:=Ef f
  obtain ⟨y,k1,k2,k3⟩:=Ef x
  refine ⟨.a g y,?_,FI (fun _ _ _=>.f) (fun _ _ _=>.x) h2 k2,fun d h=>?_⟩
  ·rw [La.enc,Lm.eta1,if_neg (by omega),Lm.etas,Lm.etas,Lm.etas,h1,k1,La.enc]
  ·cases h with
   | f h=>exact h3 _ h
   | x h=>exact k3 _ h
 | .l b=>by
  obtain ⟨q,h1,h2,h3⟩:=Ef b
  have hq:=Gk (R:=E1) (fun _ _=>.l) h2
  have hrest:Lm.etaAt [q.enc]=none→(∀ k:La,q ≠ .a (k.ren Nat.succ) (.v 0))→∃ u:La,(La.l b).enc.eta1=u.enc∧Av E1 (.l b) u∧∀ d,¬ E1 u d:=fun hn hk=>by
   refine ⟨.l q,?_,hq,fun d h=>?_⟩
   ·rw [La.enc,Lm.eta1,if_pos rfl,Lm.etas,Lm.etas,h1,hn,La.enc]
   ·generalize hF:La.l q=F at h
    cases h with
    | eta k =>
     simp only [La.l.injEq] at hF
     exact hk _ hF
    | l h =>
     simp only [La.l.injEq] at hF
     subst hF
     exact h3 _ h
    | f h=>cases hF
    | x h=>cases hF
  cases q with
  | v n=>exact hrest rfl (by simp)
  | c k i=>exact hrest rfl (by simp)
  | l p=>exact hrest rfl (by simp)
  | a g y =>
   by_cases hc:y=.v 0∧Lm.has 0 g.enc=false
   ·obtain ⟨rfl,hh⟩:=hc
    obtain ⟨w,e1,e2⟩:=Lc g 0 hh
    rw [PP] at e1
    have ht:Lm.etaAt [(La.a g (.v 0)).enc]=some w.enc:=by
     unfold Lm.etaAt
     simp only [La.enc,Lm.kind_mk,Lm.subs_mk,Lm.idx_mk]
     rw [if_pos trivial,if_pos ⟨trivial,rfl,hh⟩]
     exact congrArg some e2
    refine ⟨w,?_,hq.trans (.one (by rw [e1];exact .eta w)),fun d h=>?_⟩
    ·rw [La.enc,Lm.eta1,if_pos rfl,Lm.etas,Lm.etas,h1,ht]
    ·refine h3 (.a (d.ren Nat.succ) (.v 0)) ?_
     rw [e1]
     exact .f (h.ren _)
   ·refine hrest ?_ fun k hk=>hc ?_
    ·unfold Lm.etaAt
     simp only [La.enc,Lm.kind_mk,Lm.subs_mk]
     rw [if_pos trivial,if_neg]
     rintro ⟨q1,q2,q3⟩
     refine hc ⟨?_,q3⟩
     cases y with
     | v n =>
      simp only [La.enc,Lm.idx_mk] at q2
      congr 1
      omega
     | c k i=>simp [La.enc,Lm.kind_mk] at q1
     | l p=>simp [La.enc,Lm.kind_mk] at q1
     | a g y=>simp [La.enc,Lm.kind_mk] at q1
    ·simp only [La.a.injEq] at hk
     refine ⟨hk.2,?_⟩
     rw [hk.1,← PP]
     exact LQ k 0

def apS:ByteArray:=⟨#[97,112]⟩
def GN (t:Tm):Bool:=t.args.isEmpty || (decide (t.name=apS) && decide (t.args.length=2))
mutual
def Tm.fm:Tm→Bool
 | .mk n xs=>GN (.mk n xs) && Tm.fms xs
def Tm.fms:List Tm→Bool
 | []=>true
 | t :: ts=>t.fm && Tm.fms ts
end
theorem Tm.fm_eq (t:Tm):t.fm=(GN t && Tm.fms t.args):=by cases t;rfl
theorem Tm.fms_iff {xs:List Tm}:Tm.fms xs=true ↔ ∀ t ∈ xs,t.fm=true:=by
 induction xs with
 | nil=>simp [Tm.fms]
 | cons x xs ih=>simp [Tm.fms,ih]
theorem Tm.fm_cases {t:Tm} (h:t.fm=true):t.args=[] ∨ ∃ f x,t.name=apS∧t.args=[f,x]∧f.fm=true∧x.fm=true:=by
 rw [Tm.fm_eq,Bool.and_eq_true] at h
 obtain ⟨h1,h2⟩:=h
 unfold GN at h1
 rw [Bool.or_eq_true,Bool.and_eq_true] at h1
 rcases h1 with h1 | ⟨h1,h3⟩
 ·exact Or.inl (by simpa using h1)
 ·have h3:t.args.length=2:=by simpa using h3
  match hx:t.args,h3 with
  | [f,x],_ =>
   rw [hx] at h2
   have:=Tm.fms_iff.1 h2
   exact Or.inr ⟨f,x,by simpa using h1,rfl,this f (by simp),this x (by simp)⟩
def ap2 (f x:Tm):Tm:=.mk apS [f,x]
theorem Hq {f x:Tm} (hf:f.fm=true) (hx:x.fm=true):(ap2 f x).fm=true:=by
 simp [ap2,Tm.fm,GN,Tm.fms,hf,hx,Tm.name_mk,Tm.args_mk]
theorem HQ (f x:Tm):(ap2 f x).size=1 + f.size + x.size:=by
 simp only [ap2,Tm.size,Tm.sizes]
 omega
mutual
def Tm.hd:Tm→Tm
 | .mk n xs=>match Tm.hdL xs with | some h=>h | none=>.mk n xs
def Tm.hdL:List Tm→Option Tm
 | []=>none
 | f :: _=>some f.hd
end
mutual
def Tm.rw_:Tm→List Tm
 | .mk n xs=>match Tm.rwL xs,xs with
  | some l,_ :: x :: _=>l ++ [x]
  | _,_=>[]
def Tm.rwL:List Tm→Option (List Tm)
 | []=>none
 | f :: _=>some f.rw_
end
def aps (h:Tm) (l:List Tm):Tm:=l.foldl ap2 h
def iS:ByteArray:=⟨#[105]⟩
def kS:ByteArray:=⟨#[107]⟩
def sS:ByteArray:=⟨#[115]⟩
def Up (n:ByteArray) (l:List Tm):Option (Tm × Nat) :=
 if n=iS then (match l with | x :: _=>some (x,1) | _=>none)
 else if n=kS then (match l with | x :: _ :: _=>some (x,2) | _=>none)
 else if n=sS then (match l with | x :: y :: z :: _=>some (ap2 (ap2 x z) (ap2 y z),3) | _=>none)
 else none
def PH (f:Tm→Option Tm):List Tm→Option (Nat × Tm)
 | []=>none
 | t :: ts=>match f t with
  | some x=>some (0,x)
  | none=>(PH f ts).map fun p=>(p.1 + 1,p.2)
def Tm.stepF:Nat→Tm→Option Tm
 | 0,_=>none
 | k + 1,t=>match Up t.hd.name t.rw_ with
  | some (y,u)=>some (aps y (t.rw_.drop u))
  | none=>(PH (Tm.stepF k) t.rw_).map fun p=>aps t.hd (t.rw_.set p.1 p.2)
def Tm.step (t:Tm):Option Tm:=Tm.stepF t.size t
def Tm.run:Nat→Int→Tm→Tm × Int × Int
 | left,n,t=>match t.step with
  | none=>(t,n,0)
  | some x=>match left with
   | 0=>(.mk ⟨#[]⟩ [],0,9)
   | left + 1=>if 2000 < x.size then (.mk ⟨#[]⟩ [],0,8) else Tm.run left (n + 1) x
theorem Tm.run_none {left:Nat} {n:Int} {t:Tm} (h:t.step=none):Tm.run left n t=(t,n,0):=by
 cases left <;> (rw [Tm.run];simp only [h])
theorem Tm.run_zero {n:Int} {t x:Tm} (h:t.step=some x):Tm.run 0 n t=(.mk ⟨#[]⟩ [],0,9):=by rw [Tm.run];simp only [h]
theorem Tm.run_succ {left:Nat} {n:Int} {t x:Tm} (h:t.step=some x):Tm.run (left + 1) n t=if 2000 < x.size then (.mk ⟨#[]⟩ [],0,8) else Tm.run left (n + 1) x:=by rw [Tm.run];simp only [h]

mutual
def Tm.hasN (v:ByteArray):Tm→Bool
 | .mk n xs=>decide (n=v) || Tm.hasNs v xs
def Tm.hasNs (v:ByteArray):List Tm→Bool
 | []=>false
 | t :: ts=>t.hasN v || Tm.hasNs v ts
end
theorem Tm.hasN_eq (v:ByteArray) (t:Tm):t.hasN v=(decide (t.name=v) || Tm.hasNs v t.args):=by cases t;rfl
theorem Tm.hasNs_append (v:ByteArray) (xs ys:List Tm):Tm.hasNs v (xs ++ ys)=(Tm.hasNs v xs || Tm.hasNs v ys):=by
 induction xs with
 | nil=>simp [Tm.hasNs]
 | cons x xs ih=>simp [Tm.hasNs,ih,Bool.or_assoc]
theorem Tm.hasNs_take {v:ByteArray} {xs:List Tm} {k:Nat} {a:Tm} (ha:xs[k]?=some a) (h:Tm.hasNs v (xs.take k)=false):Tm.hasNs v (xs.take (k + 1))=a.hasN v:=by
 rw [B7 ha,Tm.hasNs_append,h]
 simp [Tm.hasNs]
theorem Tm.hasNs_yes {v:ByteArray} {xs:List Tm} {k:Nat} (h:Tm.hasNs v (xs.take k)=true):Tm.hasNs v xs=true:=by
 have:=Tm.hasNs_append v (xs.take k) (xs.drop k)
 rw [List.take_append_drop,h] at this
 simpa using this
def BB (n:ByteArray):Tm:=.mk n []
def Ua (v:ByteArray) (d:Tm):List Tm→List Tm→Tm
 | f :: x :: _,f' :: x' :: _=>if x.name=v∧f.hasN v=false then f else ap2 (ap2 (BB sS) f') x'
 | _,_=>d
mutual
def Tm.br (v:ByteArray):Tm→Tm
 | .mk n xs=>if (Tm.mk n xs).hasN v=false then ap2 (BB kS) (.mk n xs) else if n=v then BB iS else Ua v (.mk n xs) xs (Tm.brs v xs)
def Tm.brs (v:ByteArray):List Tm→List Tm
 | []=>[]
 | t :: ts=>t.br v :: Tm.brs v ts
end
theorem Tm.br_none {v:ByteArray} {t:Tm} (h:t.hasN v=false):t.br v=ap2 (BB kS) t:=by
 cases t
 rw [Tm.br,if_pos h]
theorem Tm.br_self {v:ByteArray} {t:Tm} (h:t.hasN v=true) (hn:t.name=v):t.br v=BB iS:=by
 cases t
 rw [Tm.name_mk] at hn
 rw [Tm.br,if_neg (by rw [h];decide),if_pos hn]
theorem Tm.br_ap {v:ByteArray} {t f x:Tm} (h:t.hasN v=true) (hn:¬ t.name=v) (ha:t.args=[f,x]):t.br v=if x.name=v∧f.hasN v=false then f else ap2 (ap2 (BB sS) (f.br v)) (x.br v):=by
 cases t
 rw [Tm.name_mk] at hn
 rw [Tm.args_mk] at ha
 subst ha
 rw [Tm.br,if_neg (by rw [h];decide),if_neg hn,Tm.brs,Tm.brs,Ua]
theorem JO {v:ByteArray} {t:Tm} (h:t.hasN v=true) (hn:¬ t.name=v):¬ t.args=[]:=by
 intro ha
 rw [Tm.hasN_eq,ha] at h
 simp [Tm.hasNs,hn] at h
theorem DO (n:ByteArray):(BB n).fm=true:=by simp [BB,Tm.fm,GN,Tm.fms,Tm.args_mk]
theorem D8 (n:ByteArray):(BB n).size=1:=rfl
theorem Tm.br_all:∀ (N:Nat) (v:ByteArray) (t:Tm),SizeOf.sizeOf t < N→t.fm=true→(t.br v).fm=true∧(t.br v).size≤3 * t.size:=by
 intro N
 induction N with
 | zero=>intro v t h;omega
 | succ N ih =>
  intro v t hN hf
  have hp:=Tm.size_pos t
  by_cases h:t.hasN v=true
  ·by_cases hn:t.name=v
   ·rw [Tm.br_self h hn]
    exact ⟨DO _,by rw [D8];omega⟩
   ·rcases Tm.fm_cases hf with h0 | ⟨f,x,_,ha,hf1,hx1⟩
    ·exact absurd h0 (JO h hn)
    ·rw [Tm.br_ap h hn ha]
     have hs:=Tm.size_eq t
     rw [ha] at hs
     simp only [Tm.sizes] at hs
     split
     ·exact ⟨hf1,by omega⟩
     ·obtain ⟨a1,a2⟩:=ih v f (by have:=Tm.lt_of_arg (a:=f) (t:=t) (by rw [ha];simp);omega) hf1
      obtain ⟨b1,b2⟩:=ih v x (by have:=Tm.lt_of_arg (a:=x) (t:=t) (by rw [ha];simp);omega) hx1
      refine ⟨Hq (Hq (DO _) a1) b1,?_⟩
      rw [HQ,HQ,D8]
      omega
  ·have h':t.hasN v=false:=by simpa using h
   rw [Tm.br_none h']
   refine ⟨Hq (DO _) hf,?_⟩
   rw [HQ,D8]
   omega
def O5 (n:Nat):ByteArray:=⟨#[UInt8.ofNat (48 + n)]⟩
def BT (n:Nat):ByteArray:=if n < 10 then O5 n else O5 (n / 10) ++ O5 (n % 10)

def cNm:ByteArray:=⟨#[99]⟩
def BJ (s:ByteArray):Int:=match (List.range 40).find? (fun k=>decide (s=cNm ++ BT k)) with
 | some k=>k
 | none=>-1
def Bf (s:ByteArray):ByteArray:=s.extract 1 s.size
theorem JQ (s:ByteArray):(Bf s).data.toList=s.data.toList.drop 1:=by
 unfold Bf
 rw [ByteArray.data_extract,Array.toList_extract,List.extract]
 simp
 rw [List.take_of_length_le (by simp)]
theorem LF {a b:ByteArray} (h:a.data.toList=b.data.toList):a=b:=by
 cases a;cases b
 simp only [ByteArray.mk.injEq]
 exact Array.toList_inj.1 h
theorem NR {n:Nat} (h:n < 100):(BT n).data.toList=Lib.decDigits n:=by
 unfold BT O5
 rw [Lib.decDigits]
 by_cases h1:n < 10
 ·rw [if_pos h1,dif_pos h1]
 ·rw [if_neg h1,dif_neg h1,Lib.decDigits,dif_pos (by omega),ByteArray.data_append]
  simp
theorem Ms:∀ a < 40,∀ b < 40,BT a=BT b→a=b:=by decide +kernel
theorem Px:∀ n < 40,Lib.atoi (BT n).data.toList=some (n:Int):=by decide +kernel
theorem K7 {n:Nat} (h:n < 100):(⟨(Lib.itoa (n:Int)).toArray⟩:ByteArray)=BT n:=by
 apply LF
 rw [NR h]
 unfold Lib.itoa
 rw [if_neg (by omega)]
 simp
theorem Rh {s:ByteArray} (h:1≤s.size):s.data.toList=UInt8.ofNat (Ac s 0).toNat :: (Bf s).data.toList:=by
 rw [JQ]
 unfold Ac
 have h2:0 < s.data.toList.length:=by
  have h3:s.data.toList.length=s.size:=by simp
  omega
 match hl:s.data.toList,h2 with
 | b :: r,_=>simp
theorem Ps (k:Nat):Ac (cNm ++ BT k) 0=99:=by
 unfold Ac
 rw [ByteArray.data_append]
 simp [cNm]
theorem EU (k:Nat):Bf (cNm ++ BT k)=BT k:=by
 apply LF
 rw [JQ,ByteArray.data_append]
 simp [cNm]
theorem ID {s:ByteArray} {n:Int} (hs:1≤s.size) (hl:B4 s s.size=true) (h0:Ac s 0=99) (hi:(⟨(Lib.itoa n).toArray⟩:ByteArray)=Bf s) (hn:n < 40):BJ s=n∧0≤n:=by
 have hn0:0≤n:=by
  rcases Int.lt_or_le n 0 with h | h
  ·exfalso
   have h1:(Bf s).data.toList=45 :: Lib.decDigits n.natAbs:=by
    rw [← hi]
    simp [Lib.itoa,h]
   have h2:(45:UInt8) ∈ s.data.toList:=by
    rw [Rh hs,h1]
    simp
   unfold B4 at hl
   rw [List.take_of_length_le (by simp)] at hl
   have:=List.all_eq_true.1 hl _ h2
   revert this
   decide
  ·exact h
 refine ⟨?_,hn0⟩
 obtain ⟨m,rfl⟩:∃ m:Nat,n=m:=⟨n.toNat,by omega⟩
 have hm:m < 40:=by omega
 have hs':s=cNm ++ BT m:=by
  apply LF
  rw [Rh hs,h0,← hi,K7 (by omega),ByteArray.data_append]
  simp [cNm]
 unfold BJ
 cases hf:(List.range 40).find? (fun k=>decide (s=cNm ++ BT k)) with
 | none =>
  have:=List.find?_eq_none.1 hf m (by simpa using hm)
  simp [hs'] at this
 | some k =>
  have h1:=List.find?_some hf
  have h2:=List.mem_of_find?_eq_some hf
  simp only [decide_eq_true_eq] at h1
  rw [List.mem_range] at h2
  have h3:BT m=BT k:=by rw [← EU m,← hs',h1,EU]
  simp only
  rw [Ms m hm k h2 h3]
theorem CU {s:ByteArray} (h:¬ (Ac s 0=99∧∃ n:Int,Lib.atoi (Bf s).data.toList=some n∧(⟨(Lib.itoa n).toArray⟩:ByteArray)=Bf s∧n < 40)):BJ s=-1:=by
 unfold BJ
 cases hf:(List.range 40).find? (fun k=>decide (s=cNm ++ BT k)) with
 | none=>rfl
 | some k =>
  have h1:=List.find?_some hf
  have h2:=List.mem_of_find?_eq_some hf
  simp only [decide_eq_true_eq] at h1
  rw [List.mem_range] at h2
  exact absurd ⟨by rw [h1,Ps],k,by rw [h1,EU];exact Px k h2,by rw [h1,EU];exact K7 (by omega),by omega⟩ h
theorem ON {s:ByteArray} {n:Int} (hz:s.size≤18) (h:Lib.atoi s.data.toList=some n):-9223372036854775808≤n∧n≤9223372036854775807:=by
 have:=Lib.atoi_bound h (by simpa using hz)
 omega
def iL:Lm:=.l (.v 0)
def kL:Lm:=.l (.l (.v 1))
def sL:Lm:=.l (.l (.l (.a (.a (.v 2) (.v 0)) (.a (.v 1) (.v 0)))))
def Dg (n:ByteArray):Lm × Int:=if n=iS then (iL,0) else if n=kS then (kL,0) else if n=sS then (sL,0) else if D0 n=true then (Lm.nil,15) else if BJ n < 0 then (Lm.nil,1) else (.mk 4 (BJ n) [],0)
def SU (d:Lm × Int):List (Lm × Int)→Lm × Int
 | f :: x :: _=>if f.2=0 then (.a f.1 x.1,x.2) else (Lm.nil,f.2)
 | _=>d
mutual
def Tm.toL:Tm→Lm × Int
 | .mk n xs=>SU (Dg n) (Tm.toLs xs)
def Tm.toLs:List Tm→List (Lm × Int)
 | []=>[]
 | t :: ts=>t.toL :: Tm.toLs ts
end
theorem Tm.toL_leaf {t:Tm} (h:t.args=[]):t.toL=Dg t.name:=by
 cases t
 rw [Tm.args_mk] at h
 subst h
 rw [Tm.toL,Tm.toLs,SU]
 ·rfl
 ·intros;simp_all
theorem Tm.toL_ap {t f x:Tm} (h:t.args=[f,x]):t.toL=if f.toL.2=0 then (.a f.toL.1 x.toL.1,x.toL.2) else (Lm.nil,f.toL.2):=by
 cases t
 rw [Tm.args_mk] at h
 subst h
 rw [Tm.toL,Tm.toLs,Tm.toLs,SU]
def T2 (r:Lm × Int):Lm × Int:=if r.2=0 then r else (Lm.nil,r.2)
theorem Of (n:ByteArray):(Dg n).1.size≤10:=by
 unfold Dg
 split
 ·decide
 split
 ·decide
 split
 ·decide
 split
 ·decide
 split
 ·decide
 ·simp [Lm.size,Lm.sizes]
theorem Tm.toL_size:∀ (N:Nat) (t:Tm),SizeOf.sizeOf t < N→t.fm=true→t.toL.1.size≤10 * t.size:=by
 intro N
 induction N with
 | zero=>intro t h;omega
 | succ N ih =>
  intro t hN hf
  have hp:=Tm.size_pos t
  rcases Tm.fm_cases hf with h0 | ⟨f,x,_,ha,hf1,hx1⟩
  ·rw [Tm.toL_leaf h0]
   have:=Of t.name
   omega
  ·have hs:=Tm.size_eq t
   rw [ha] at hs
   simp only [Tm.sizes] at hs
   have a1:=ih f (by have:=Tm.lt_of_arg (a:=f) (t:=t) (by rw [ha];simp);omega) hf1
   have b1:=ih x (by have:=Tm.lt_of_arg (a:=x) (t:=t) (by rw [ha];simp);omega) hx1
   rw [Tm.toL_ap ha]
   split
   ·simp only [Lm.a,Lm.size,Lm.sizes]
    omega
   ·simp only [Lm.nil,Lm.size,Lm.sizes]
    omega
theorem Tm.chk_name {t:Tm} (h:t.chk=0):A9 t.name=true∧Tm.chkL t.args=0:=by
 rw [Tm.chk_eq] at h
 split at h
 ·rename_i h1
  refine ⟨?_,h⟩
  unfold FZ at h1
  split at h1
  ·assumption
  ·cases h1
 ·contradiction
theorem Tm.chkL_mem {xs:List Tm} (h:Tm.chkL xs=0):∀ t ∈ xs,t.chk=0:=by
 induction xs with
 | nil=>intro t ht;simp at ht
 | cons x xs ih =>
  intro t ht
  rw [Tm.chkL] at h
  split at h
  ·rename_i h1
   rcases List.mem_cons.1 ht with rfl | ht
   ·exact h1
   ·exact ih h t ht
  ·contradiction
theorem E3 {s:ByteArray} (h:A9 s=true):1≤s.size∧s.size≤8∧B4 s s.size=true:=by
 unfold A9 at h
 simp only [Bool.and_eq_true,decide_eq_true_eq] at h
 exact ⟨h.1.1.1,h.1.1.2,h.2⟩
theorem JB (s:ByteArray):(Bf s).size=s.size - 1:=by
 unfold Bf
 simp

end Go.Proofs.YtignopbnnaimaaaGreatDoor
