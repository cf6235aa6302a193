/-
  Part 6 of the texts. Conditions: none.
-/
import Derived.Test.YtkegjgodjigjfaaAuM5
namespace Go.Proofs.Ytkegjgodjigjfaa
open Go Go.RowKit
set_option linter.unusedVariables false
set_option linter.unusedSimpArgs false
set_option maxHeartbeats 400000
mutual
def AC.clear (ds:List Nat):AC→Bool
 | .row id _=>!ds.contains id
 | .part id _ _=>!ds.contains id
 | .rest id _ _=>!ds.contains id
 | .ptr id _ _ _=>!ds.contains id
 | .mptr id=>!ds.contains id
 | .yld id=>!ds.contains id
 | .ubool=>true
 | .fn _ caps=>AC.clears ds caps
 | .st _=>true
 | .full _=>true
 | .eptr _=>true
 | .any=>true
def AC.clears (ds:List Nat):List AC→Bool
 | []=>true
 | c :: cs=>c.clear ds && AC.clears ds cs
end
theorem Ks {ds:List Nat}:∀ {l:List AC},AC.clears ds l=true→∀ a ∈ l,a.clear ds=true
 | [],_,a,ha=>by simp at ha
 | x :: xs,hx,a,ha=>by
  rw [AC.clears,Bool.and_eq_true] at hx
  rcases List.mem_cons.1 ha with rfl | ha
  ·exact hx.1
  ·exact Ks hx.2 a ha
def AC.purge (ds:List Nat):AC→AC
 | .row id n=>if ds.contains id then .any else .row id n
 | .part id k n=>if ds.contains id then .any else .part id k n
 | .rest id k n=>if ds.contains id then .any else .rest id k n
 | .ptr id n k off=>if ds.contains id then .any else .ptr id n k off
 | .mptr id=>if ds.contains id then .any else .mptr id
 | .yld id=>if ds.contains id then .any else .yld id
 | .fn f caps=>if AC.clears ds caps then .fn f caps else .any
 | c=>c
mutual
def AV.purge (ds:List Nat):AV→AV
 | .one c=>.one (c.purge ds)
 | .agg cs=>.agg (cs.map (AC.purge ds))
 | .tup vs=>.tup (AV.purges ds vs)
 | .any=>.any
def AV.purges (ds:List Nat):List AV→List AV
 | []=>[]
 | v :: vs=>v.purge ds :: AV.purges ds vs
end
def AL.purge (ds:List Nat):AL→AL
 | .box e cs=>.box e (cs.map (AC.purge ds))
 | .crow e cs=>.crow e (cs.map (AC.purge ds))
 | .iter x n seen=>.iter (x.purge ds) n seen
 | .loop env r=>.loop (AV.purges ds env) r
 | b=>b
def AY (ds:List Nat) (S:AB):AB:=fun id=>if ds.contains id then none else (S id).map (AL.purge ds)
def AS.drop (ds:List Nat) (s:AS):AS:=⟨fun i=>(s.env i).purge ds,AY ds s.S⟩
theorem Cp {ds:List Nat} (hds:∀ d ∈ ds,d < 1000) {id:Nat} (h:1000≤id):ds.contains id=false:=by
 cases hc:ds.contains id with
 | false=>rfl
 | true =>
  have:=hds id (List.contains_iff_mem.1 hc)
  omega
mutual
theorem AC.clear_high {ds:List Nat} (hds:∀ d ∈ ds,d < 1000):∀ {c:AC},c.high=true→c.clear ds=true
 | .st _,_=>rfl
 | .full _,_=>rfl
 | .row id n,h=>by
  rw [AC.high] at h
  rw [AC.clear,Cp hds (of_decide_eq_true h)]
  rfl
 | .part id k n,h=>by
  rw [AC.high] at h
  rw [AC.clear,Cp hds (of_decide_eq_true h)]
  rfl
 | .rest id k n,h=>by
  rw [AC.high] at h
  rw [AC.clear,Cp hds (of_decide_eq_true h)]
  rfl
 | .ptr id n k off,h=>by
  rw [AC.high] at h
  rw [AC.clear,Cp hds (of_decide_eq_true h)]
  rfl
 | .mptr id,h=>by
  rw [AC.high] at h
  rw [AC.clear,Cp hds (of_decide_eq_true h)]
  rfl
 | .yld id,h=>by
  rw [AC.high] at h
  rw [AC.clear,Cp hds (of_decide_eq_true h)]
  rfl
 | .ubool,_=>rfl
 | .eptr _,_=>rfl
 | .fn f caps,h=>by
  rw [AC.high] at h
  rw [AC.clear]
  exact AC.clears_highs hds h
 | .any,_=>rfl
theorem AC.clears_highs {ds:List Nat} (hds:∀ d ∈ ds,d < 1000):∀ {cs:List AC},AC.highs cs=true→AC.clears ds cs=true
 | [],_=>rfl
 | c :: cs,h=>by
  rw [AC.highs,Bool.and_eq_true] at h
  rw [AC.clears,AC.clear_high hds h.1,AC.clears_highs hds h.2]
  rfl
end
theorem AC.purge_high {ds:List Nat} (hds:∀ d ∈ ds,d < 1000):∀ {c:AC},c.high=true→c.purge ds=c
 | .st _,_=>rfl
 | .full _,_=>rfl
 | .row id n,h=>by
  rw [AC.high] at h
  simp only [AC.purge,Cp hds (of_decide_eq_true h),Bool.false_eq_true,if_false]
 | .part id k n,h=>by
  rw [AC.high] at h
  simp only [AC.purge,Cp hds (of_decide_eq_true h),Bool.false_eq_true,if_false]
 | .rest id k n,h=>by
  rw [AC.high] at h
  simp only [AC.purge,Cp hds (of_decide_eq_true h),Bool.false_eq_true,if_false]
 | .ptr id n k off,h=>by
  rw [AC.high] at h
  simp only [AC.purge,Cp hds (of_decide_eq_true h),Bool.false_eq_true,if_false]
 | .mptr id,h=>by
  rw [AC.high] at h
  simp only [AC.purge,Cp hds (of_decide_eq_true h),Bool.false_eq_true,if_false]
 | .yld id,h=>by
  rw [AC.high] at h
  simp only [AC.purge,Cp hds (of_decide_eq_true h),Bool.false_eq_true,if_false]
 | .ubool,_=>rfl
 | .eptr _,_=>rfl
 | .fn f caps,h=>by
  rw [AC.high] at h
  simp only [AC.purge,AC.clears_highs hds h,if_true]
 | .any,_=>rfl
mutual
theorem AV.purge_high {ds:List Nat} (hds:∀ d ∈ ds,d < 1000):∀ {c:AV},c.high=true→c.purge ds=c
 | .one c,h=>by rw [AV.high] at h;rw [AV.purge,AC.purge_high hds h]
 | .agg cs,h=>by
  rw [AV.high] at h
  rw [AV.purge]
  congr 1
  exact (List.map_congr_left fun a ha=>AC.purge_high hds (B6 h a ha)).trans (List.map_id _)
 | .tup vs,h=>by rw [AV.high] at h;rw [AV.purge,AV.purges_high hds h]
 | .any,_=>rfl
theorem AV.purges_high {ds:List Nat} (hds:∀ d ∈ ds,d < 1000):∀ {c:List AV},AV.highs c=true→AV.purges ds c=c
 | [],_=>rfl
 | c :: cs,h=>by
  rw [AV.highs,Bool.and_eq_true] at h
  rw [AV.purges,AV.purge_high hds h.1,AV.purges_high hds h.2]
end
theorem AL.purge_high {ds:List Nat} (hds:∀ d ∈ ds,d < 1000) {b:AL} (h:b.high=true):b.purge ds=b:=by
 cases b with
 | box e cs =>
  rw [AL.high] at h
  simp only [AL.purge]
  congr 1
  exact (List.map_congr_left fun a ha=>AC.purge_high hds (B6 h a ha)).trans (List.map_id _)
 | crow e cs =>
  rw [AL.high] at h
  simp only [AL.purge]
  congr 1
  exact (List.map_congr_left fun a ha=>AC.purge_high hds (B6 h a ha)).trans (List.map_id _)
 | arow=>rfl
 | mrow=>rfl
 | map=>rfl
 | memo=>rfl
 | iter x =>
  rw [AL.high] at h
  simp only [AL.purge,AC.purge_high hds h]
 | loop env r =>
  rw [AL.high] at h
  simp only [AL.purge,AV.purges_high hds h]
 | dead=>rfl
theorem OW {ds:List Nat} (hds:∀ d ∈ ds,d < 1000) {S:AB} (h:Am S):AY ds S=S:=by
 funext id
 unfold AY
 cases hb:S id with
 | none=>split <;> rfl
 | some b =>
  obtain ⟨h1,h2⟩:=h id b hb
  rw [Cp hds h1,if_neg (by simp),Option.map_some,AL.purge_high hds h2]
theorem QC {ds:List Nat} {S:AB} {i:Nat} {b:Option AL} (h:ds.contains i=true):AY ds (AD S i b)=AY ds S:=by
 funext k
 unfold AY
 by_cases e:k=i
 ·subst e
  rw [if_pos h,if_pos h]
 ·rw [AF _ e]
theorem Iv {ds:List Nat} {S:AB} {i:Nat} {b:AL} (h:ds.contains i=false):AY ds (AD S i (some b))=AD (AY ds S) i (some (b.purge ds)):=by
 funext k
 unfold AY
 by_cases e:k=i
 ·subst e
  rw [AG,AG,if_neg (by rw [h];simp)]
  rfl
 ·rw [AF _ e,AF _ e]
section
variable {C:Ctx} {σ:Sto} {ι:As} {s:AS} {a:Act} {w:World} {ds:List Nat}
theorem BL (b:AL):(b.purge ds).len=b.len:=by cases b <;> first | rfl | simp [AL.purge,AL.len]
theorem Gb (b:AL):(b.purge ds).wid=b.wid:=by cases b <;> rfl
theorem Aj.keepClear {ds:List Nat} {S S2:AB} (hS:∀ id b,ds.contains id=false→S id=some b→∃ b',S2 id=some b'∧b'.len=b.len∧b'.wid=b.wid) {v:Value} {c:AC} (h:Aj σ S ι v c) (hc:c.clear ds=true):Aj σ S2 ι v c:=by
 induction h with
 | st h=>exact .st h
 | full h=>exact .full h
 | row h1 h2 h3 h4 =>
  rw [AC.clear] at hc
  obtain ⟨b',q1,q2,q3⟩:=hS _ _ (by simpa using hc) h1
  exact .row q1 (by rw [q2];exact h2) h3 (by rw [q2];exact h4)
 | part h1 h2 h3 h4 =>
  rw [AC.clear] at hc
  obtain ⟨b',q1,q2,q3⟩:=hS _ _ (by simpa using hc) h1
  exact .part q1 (by rw [q2];exact h2) h3 (by rw [q2];exact h4)
 | rest h1 h2 h3 h4 =>
  rw [AC.clear] at hc
  obtain ⟨b',q1,q2,q3⟩:=hS _ _ (by simpa using hc) h1
  exact .rest q1 (by rw [q2];exact h2) h3 (by rw [q2,q3];exact h4)
 | ptr h1 h2 h3 h4 =>
  rw [AC.clear] at hc
  obtain ⟨b',q1,q2,q3⟩:=hS _ _ (by simpa using hc) h1
  exact .ptr q1 (by rw [q2];exact h2) h3 (by rw [q2,q3];exact h4)
 | mptr h1 h2 h3 h4 =>
  rw [AC.clear] at hc
  obtain ⟨b',q1,q2,q3⟩:=hS _ _ (by simpa using hc) h1
  exact .mptr q1 (by rw [q2];exact h2) h3 (by rw [q2];exact h4)
 | yld h1 h2 h3 h4 =>
  rw [AC.clear] at hc
  obtain ⟨b',q1,q2,q3⟩:=hS _ _ (by simpa using hc) h1
  exact .yld q1 (by rw [q2];exact h2) h3 (by rw [q2];exact h4)
 | ubool=>exact .ubool
 | eptr c h1 h2 hh=>exact .eptr c h1 h2 hh
 | fn c h1 h2 h3 ih =>
  rw [AC.clear] at hc
  exact .fn c h1 h2 (fun j a ha=>ih j a ha (Ks hc a (List.mem_of_getElem? ha)))
 | any h=>exact .any h
theorem Aj.purge (hds:∀ d ∈ ds,d < 1000) {v:Value} {c:AC} (h:Aj σ s.S ι v c):Aj σ (s.drop ds).S ι v (c.purge ds):=by
 have h0:=h
 cases h with
 | st h=>exact .st h
 | full h=>exact .full h
 | @row _ id n b h1 h2 h3 h4 =>
  simp only [AC.purge]
  split
  ·exact .any h3
  ·rename_i hn
   exact .row (b:=b.purge ds) (by simp only [AS.drop,AY,hn];rw [h1];rfl) (by rw [BL];exact h2) h3 (by rw [BL];exact h4)
 | @part _ id k n b h1 h2 h3 h4 =>
  simp only [AC.purge]
  split
  ·exact .any h3
  ·rename_i hn
   exact .part (b:=b.purge ds) (by simp only [AS.drop,AY,hn];rw [h1];rfl) (by rw [BL];exact h2) h3 (by rw [BL];exact h4)
 | @rest _ id k n b h1 h2 h3 h4 =>
  simp only [AC.purge]
  split
  ·exact .any h3
  ·rename_i hn
   exact .rest (b:=b.purge ds) (by simp only [AS.drop,AY,hn];rw [h1];rfl) (by rw [BL];exact h2) h3 (by rw [BL,Gb];exact h4)
 | @ptr _ id n k off b h1 h2 h3 h4 =>
  simp only [AC.purge]
  split
  ·exact .any h3
  ·rename_i hn
   exact .ptr (b:=b.purge ds) (by simp only [AS.drop,AY,hn];rw [h1];rfl) (by rw [BL];exact h2) h3 (by rw [BL,Gb];exact h4)
 | @mptr _ id b h1 h2 h3 h4 =>
  simp only [AC.purge]
  split
  ·exact .any h3
  ·rename_i hn
   exact .mptr (b:=b.purge ds) (by simp only [AS.drop,AY,hn];rw [h1];rfl) (by rw [BL];exact h2) h3 (by rw [BL];exact h4)
 | @yld _ id b h1 h2 h3 h4 =>
  simp only [AC.purge]
  split
  ·exact .any h3
  ·rename_i hn
   exact .yld (b:=b.purge ds) (by simp only [AS.drop,AY,hn];rw [h1];rfl) (by rw [BL];exact h2) h3 (by rw [BL];exact h4)
 | ubool=>exact .ubool
 | eptr c h1 h2 hh=>exact .eptr c h1 h2 hh
 | @fn f vs caps c h1 h2 h3 =>
  simp only [AC.purge]
  split
  ·rename_i hh
   exact h0.keepClear (ds:=ds) (fun id b hid hb=>⟨b.purge ds,by
    show AY ds s.S id=_
    unfold AY
    rw [hid,hb]
    rfl,BL b,Gb b⟩) (by rw [AC.clear];exact hh)
  ·exact .any rfl
 | any h=>exact .any h
mutual
theorem AT.purge (hds:∀ d ∈ ds,d < 1000):∀ {v:Value} {c:AV},AT σ s.S ι v c→AT σ (s.drop ds).S ι v (c.purge ds)
 | v,.one c,h=>by cases h with | one h=>exact .one (h.purge hds)
 | v,.agg cs,h=>by cases h with | agg h=>exact .agg ((h.mono fun _ _ x=>x.purge hds).map_right)
 | v,.tup vs,h=>by
  cases h with
  | tup c h1 h2 h3 =>
   obtain ⟨k1,k2⟩:=AT.purges hds (c:=c) h3
   exact .tup c (by rw [h1,k1]) (fun j b hb=>by
    rcases Nat.lt_or_ge j vs.length with hj | hj
    ·exact h2 j _ (List.getElem?_eq_getElem hj)
    ·rw [List.getElem?_eq_none (by omega)] at hb;cases hb) k2
 | v,.any,h=>.any
theorem AT.purges (hds:∀ d ∈ ds,d < 1000):∀ {vs:List AV} {c:Nat→Value},(∀ j b,vs[j]?=some b→AT σ s.S ι (c j) b)→vs.length=(AV.purges ds vs).length∧∀ j b,(AV.purges ds vs)[j]?=some b→AT σ (s.drop ds).S ι (c j) b
 | [],c,h=>by simp [AV.purges]
 | x :: xs,c,h=>by
  obtain ⟨m1,m2⟩:=AT.purges hds (vs:=xs) (c:=fun j=>c (j + 1)) (fun j b hb=>h (j + 1) b (by simpa using hb))
  refine ⟨by simp [AV.purges,← m1],fun j b hb=>?_⟩
  cases j with
  | zero =>
   simp [AV.purges] at hb
   subst hb
   exact AT.purge hds (h 0 x rfl)
  | succ j=>exact m2 j b (by simpa [AV.purges] using hb)
end
theorem Bn.purge (hds:∀ d ∈ ds,d < 1000) {h:Hnd} {b:AL} (hr:Bn σ s.S ι w h b):Bn σ (s.drop ds).S ι w h (b.purge ds):=by
 cases hr with
 | box h1 h2 h3 h4 h5=>exact .box h1 h2 h3 ((h4.mono fun _ _ x=>x.purge hds).map_right) h5
 | crow h1 h2 h3 hc hm h4 h5=>exact .crow h1 h2 h3 (by simpa using hc) hm (by rw [List.length_map];exact (h4.mono fun _ _ x=>x.purge hds).map_right) h5
 | afull h1 h2 h3 h4=>exact .afull h1 h2 h3 h4
 | arow h1 h2 h3 h4 h5 h6 h7 h8 h9 hh=>exact .arow h1 h2 h3 h4 h5 h6 h7 h8 h9 hh
 | mnil h1 h2=>exact .mnil h1 h2
 | mrow h1 h2 h3 h4 h5 h6 h7 h8 h9=>exact .mrow h1 h2 h3 h4 h5 h6 h7 h8 h9
 | map h1 h2 h3 h4=>exact .map h1 h2 h3 h4
 | memo h1 h2 h3 h4=>exact .memo h1 h2 h3 h4
 | iter h1 h2 h3 h4=>exact .iter h1 h2 (h3.purge hds) h4
 | loop h1 h2 h3 h4 h5 =>
  obtain ⟨k1,k2⟩:=AT.purges hds h4
  exact .loop h1 h2 (by rw [← k1];exact h3) k2 h5
 | dead h1=>exact .dead h1
theorem Gh {id:Nat} {b:AL} (h:(s.drop ds).S id=some b):∃ b',s.S id=some b'∧b=b'.purge ds:=by
 simp only [AS.drop,AY] at h
 split at h
 ·cases h
 ·rw [Option.map_eq_some_iff] at h
  obtain ⟨b',h1,h2⟩:=h
  exact ⟨b',h1,h2.symm⟩
theorem Ad.drop (ds:List Nat) (s:AS) (hds:∀ d ∈ ds,d < 1000):Ad C s (s.drop ds):=fun a w ⟨σ,ι,R⟩=>by
 refine ⟨σ,ι,R.size,fun i hi=>(R.env i hi).purge hds,R.nod,R.fit,fun id b h=>?_,fun id id' b b' g h1 h2 g1 g2=>?_,fun id b g h hg=>?_,R.ext,R.old,R.os,R.grown,R.same,fun id b hb=>?_⟩
 ·obtain ⟨b',h1,rfl⟩:=Gh h
  exact (R.blk id b' h1).purge hds
 ·obtain ⟨c1,k1,_⟩:=Gh h1
  obtain ⟨c2,k2,_⟩:=Gh h2
  exact R.inj _ _ _ _ _ k1 k2 g1 g2
 ·obtain ⟨c1,k1,_⟩:=Gh h
  exact R.base _ _ _ k1 hg
 ·obtain ⟨b',h1,h2,h3⟩:=R.upd id b hb
  have hid:=(C.clean id b hb).1
  have hnc:ds.contains id=false:=by
   cases hc:ds.contains id with
   | false=>rfl
   | true =>
    have:=hds id (List.contains_iff_mem.1 hc)
    omega
  refine ⟨b'.purge ds,by simp only [AS.drop,AY,hnc];rw [h1];rfl,by rw [BL];exact h2,fun hl=>?_⟩
  rw [BL] at hl
  rw [Gb]
  exact h3 hl
theorem Ad.share {id:Nat} {e:TypeId} {wd:Nat} {xs:List (List SV)} (hS:s.S id=some (.mrow e wd xs)):Ad C s (s.set id (.arow e wd xs)):=fun a w ⟨σ,ι,R⟩=>by
 have hb:=R.blk _ _ hS
 have hι:AD ι id (ι id)=ι:=by
  funext k
  unfold AD
  split
  ·rename_i h;rw [h]
  ·rfl
 cases hb with
 | mnil h1 h2 =>
  obtain ⟨hu,R'⟩:=R.turn (w':=w) hS (.arow e wd []) (ι id) (σ':=σ) (fun _ _ h=>h) (fun _ _ _=>rfl) R.fit (Nat.le_refl _) (fun _=>⟨rfl,rfl⟩) ⟨rfl,rfl,rfl⟩ (Nat.le_refl _) (fun _ _ _=>rfl) (fun g h=>.inl h) (fun hu=>.afull h1 (by simpa using h2) (by simp) (.list (b:=0) (o:=0) (w:=0) (fun _ _=>undef) rfl (by simp) (by rw [h2];simp [maxLen]) (fun _=>h2) (by simp) (by simp) (fun _ h _=>absurd h (by omega)) (by simp) (by simp)))
  exact ⟨σ,_,R'⟩
 | @mrow _ _ _ g vs h1 h2 h3 h4 h5 h6 h7 h8 h9 =>
  have hl:BA σ vs.toList wd xs:=⟨h7,fun k x j y hx hy=>by simpa using h8 k x j y hx hy⟩
  have hkeep:=E7 (σ:=σ) (w':=w) (g:=g) (k:=xs.length * wd) (fun p x e hx=>by rw [h9 _ e] at hx;cases hx)
  obtain ⟨hu,R'⟩:=R.turn (w':=w) hS (.arow e wd xs) (ι id) (σ':=EQ σ w g (xs.length * wd)) hkeep (fun p hp _=>Eu (fun e=>hp (by rw [e];exact h1))) (ER R.fit) (Nat.le_refl _) (fun _=>⟨rfl,rfl⟩) ⟨rfl,rfl,rfl⟩ (Nat.le_refl _) (fun _ _ _=>rfl) (fun g h=>.inl h)
   (fun hu=>by
    have:=Iz (S':=(s.set id (.arow e wd xs)).S) (ι':=AD ι id (ι id)) (w':=w) (p:=(ι id).p) h2 h3 h4 h5 h6 hl hkeep (fun p hp hne=>absurd (h9 p hp) hne)
    rw [← h1] at this
    exact this)
  exact ⟨_,_,R'⟩
theorem Ad.own (t id:Nat) (e:TypeId) (wd:Nat) {xs:List (List SV)} (ht:s.env t=.one (.full xs)) (hid:s.S id=none) (hw:∀ x ∈ xs,x.length=wd) (hn:t < C.n):Ad C s ⟨AD s.env t (.one (.row id xs.length)),AD s.S id (some (.arow e wd xs))⟩:=fun a w ⟨σ,ι,R⟩=>by
 have rt:=R.env t hn
 rw [ht] at rt
 generalize hv:a.tmps.getD t undef=v at rt
 cases AW rt with
 | @full p len xs hs =>
  have hl:len=xs.length:=by
   obtain ⟨p',cap',e1,_⟩:=CA hs
   cases e1
   rfl
  subst hl
  obtain ⟨hu,R'⟩:=R.fresh (w':=w) hid (.arow e wd xs) ⟨p,xs.length,none⟩ (Ext.refl _ _) R.fit (Below.refl _ _) (by simp) (fun S' ι' hu=>.afull rfl rfl hw hs)
  refine ⟨σ,_,R'.size,fun i hi=>?_,R'.nod,R'.fit,R'.blk,R'.inj,R'.base,R'.ext,R'.old,R'.os,R'.grown,R'.same,R'.upd⟩
  show AT σ (s.set id (.arow e wd xs)).S _ _ (AD s.env t _ i)
  unfold AD
  split
  ·rename_i e1
   subst e1
   rw [hv]
   exact .one (.row (b:=.arow e wd xs) (by simp [AS.set,AG]) (Nat.le_refl _) rfl fun _=>by simp [AD])
  ·exact R'.env i hi
theorem Ad.ownM (t id:Nat) (e:TypeId) (wd:Nat) (ht:s.env t=.one (.full [])) (hid:s.S id=none) (hn:t < C.n):Ad C s ⟨AD s.env t (.one (.row id 0)),AD s.S id (some (.mrow e wd []))⟩:=fun a w ⟨σ,ι,R⟩=>by
 have rt:=R.env t hn
 rw [ht] at rt
 generalize hv:a.tmps.getD t undef=v at rt
 cases AW rt with
 | @full p len xs hs =>
  have hl:len=0:=by
   obtain ⟨p',cap',e1,_⟩:=CA hs
   cases e1
   rfl
  subst hl
  obtain ⟨hu,R'⟩:=R.fresh (w':=w) hid (.mrow e wd []) ⟨p,0,none⟩ (Ext.refl _ _) R.fit (Below.refl _ _) (by simp) (fun S' ι' hu=>.mnil rfl rfl)
  refine ⟨σ,_,R'.size,fun i hi=>?_,R'.nod,R'.fit,R'.blk,R'.inj,R'.base,R'.ext,R'.old,R'.os,R'.grown,R'.same,R'.upd⟩
  show AT σ (s.set id (.mrow e wd [])).S _ _ (AD s.env t _ i)
  unfold AD
  split
  ·rename_i e1
   subst e1
   rw [hv]
   exact .one (.row (b:=.mrow e wd []) (by simp [AS.set,AG]) (Nat.le_refl _) rfl fun _=>by simp [AD])
  ·exact R'.env i hi
theorem Ad.keep (t id k n:Nat) {e:TypeId} {wd:Nat} {xs:List (List SV)} (ht:s.env t=.one (.part id k n)) (hS:s.S id=some (.arow e wd xs)) (hl:n=xs.length) (hn:t < C.n):Ad C s ⟨AD s.env t (.one (.st (.list (xs.take k)))),s.S⟩:=fun a w ⟨σ,ι,R⟩=>by
 have rt:=R.env t hn
 rw [ht] at rt
 refine ⟨σ,ι,R.size,fun i hi=>?_,R.nod,R.fit,R.blk,R.inj,R.base,R.ext,R.old,R.os,R.grown,R.same,R.upd⟩
 show AT σ s.S ι _ (AD s.env t _ i)
 unfold AD
 split
 ·rename_i e1
  subst e1
  obtain ⟨b,h1,h2,h3⟩:=FC (AW rt)
  rw [hS] at h1
  cases h1
  obtain ⟨h4,h5⟩:=h3 hl
  rw [h5]
  have hb:=R.blk _ _ hS
  have hr:=hb.srep
  have hmem:∀ {kk x},(xs.take k)[kk]?=some x→xs[kk]?=some x:=fun hx=>by
   rw [List.getElem?_take] at hx
   split at hx
   ·exact hx
   ·cases hx
  cases hr with
  | @list p len cap b o w' _ c q1 q2 q3 q4 q5 q6 qh q7 q8 =>
   exact .one (.st (.list (b:=b) (o:=o) (w:=w') c (by rw [List.length_take];omega) (by omega) q3 q4 (fun hne=>q5 (by omega)) (fun x hx=>q6 x (List.mem_of_mem_take hx)) (fun e1 e2 e3=>qh e1 e2 (fun e4=>e3 (by rw [e4];exact List.take_nil))) (fun kk x j a hx ha=>q7 kk x j a (hmem hx) ha) (fun kk x j a hx ha=>q8 kk x j a (hmem hx) ha)))
 ·exact R.env i hi
theorem Ad.ownC (id j nid:Nat) (e:TypeId) (wd:Nat) {xs:List (List SV)} {ty:TypeId} {cs:List AC} (hb:s.S id=some (.box ty cs)) (hc:cs[j]?=some (.full xs)) (hn:s.S nid=none) (hw:∀ x ∈ xs,x.length=wd) :
  Ad C s ((s.set nid (.arow e wd xs)).set id (.box ty (cs.set j (.row nid xs.length)))):=fun a w ⟨σ,ι,R⟩=>by
 have hbk:=R.blk id _ hb
 have hne:id ≠ nid:=fun e=>by subst e;rw [hb] at hn;cases hn
 cases hbk with
 | @box _ _ g vs h1 h2 h3 h4 h5 =>
  obtain ⟨v,hv,hr⟩:=h4.get hc
  cases hr with
  | @full p len xs hs =>
   have hl:len=xs.length:=by
    obtain ⟨p',cap',e1,_⟩:=CA hs
    cases e1
    rfl
   subst hl
   obtain ⟨hu,R'⟩:=R.fresh (w':=w) hn (.arow e wd xs) ⟨p,xs.length,none⟩ (Ext.refl _ _) R.fit (Below.refl _ _) (by simp) (fun S' ι' hu=>.afull rfl rfl hw hs)
   have hb':(s.set nid (.arow e wd xs)).S id=some (.box ty cs):=by simp [AS.set,AF _ hne,hb]
   have hι:AD ι nid ⟨p,xs.length,none⟩ id=ι id:=AF _ hne _
   obtain ⟨hu2,R2⟩:=R'.turn (w':=w) hb' (.box ty (cs.set j (.row nid xs.length))) (AD ι nid ⟨p,xs.length,none⟩ id) (σ':=σ) (fun _ _ h=>h) (fun _ _ _=>rfl) R.fit (Nat.le_refl _) (fun _=>⟨by simp [AL.wid],rfl⟩) ⟨rfl,rfl,rfl⟩ (Nat.le_refl _) (fun _ _ _=>rfl) (fun g h=>.inl h) (fun hu2=>by
    refine .box (by rw [hι];exact h1) (by rw [hι];exact h2) h3 (Af.of_get (by rw [List.length_set];exact h4.len) fun k u c hu' hck=>?_) h5
    by_cases hk:k=j
    ·subst hk
     rw [hv] at hu'
     cases hu'
     have hlt:k < cs.length:=(List.getElem?_eq_some_iff.1 hc).1
     rw [List.getElem?_set_self hlt] at hck
     cases hck
     exact .row (b:=.arow e wd xs) (by simp [AS.set,AD,hne.symm]) (Nat.le_refl _) rfl fun _=>by simp [AD,hne.symm]
    ·rw [List.getElem?_set_ne (fun e=>hk e.symm)] at hck
     obtain ⟨u',q1,q2⟩:=h4.get hck
     rw [hu'] at q1
     cases q1
     exact (q2.mono (fun _ _ h=>h) hu).mono (fun _ _ h=>h) hu2)
   exact ⟨_,_,R2⟩
theorem W5 {v:Value} {c:AV} (h:AT σ noS noH v c):AT σ s.S ι v c:=h.mono (fun _ _ h=>h) (H_ _ _)
def AV.low (v:AV):AV:=if v.high then v else .any
theorem AR.low (R:AR C σ ι s a w) (hb:∀ i b,1000≤i→s.S i=some b→b.high=true):AR C σ ι ⟨fun i=>(s.env i).low,CZ s.S⟩ a w:=by
 have hS:∀ i b,1000≤i→s.S i=some b→CZ s.S i=some b:=fun i b hi h=>by
  show (if i < 1000 then none else s.S i)=some b
  rw [if_neg (by omega),h]
 have hinv:∀ i b,CZ s.S i=some b→1000≤i∧s.S i=some b:=fun i b h=>by
  have h':(if i < 1000 then none else s.S i)=some b:=h
  split at h'
  ·cases h'
  ·exact ⟨by omega,h'⟩
 refine ⟨R.size,fun i hi=>?_,R.nod,R.fit,fun id b h=>?_,fun id id' b b' g h1 h2 g1 g2=>R.inj _ _ _ _ g (hinv _ _ h1).2 (hinv _ _ h2).2 g1 g2,fun id b g h hg=>R.base _ _ g (hinv _ _ h).2 hg,R.ext,R.old,R.os,R.grown,R.same,fun id b h=>?_⟩
 ·show AT σ (CZ s.S) ι _ ((s.env i).low)
  unfold AV.low
  split
  ·rename_i hh
   exact (R.env i hi).low hS hh
  ·exact .any
 ·obtain ⟨h1,h2⟩:=hinv _ _ h
  have hh:=hb id b h1 h2
  cases R.blk id b h2 with
  | box k1 k2 k3 k4 k5=>exact .box k1 k2 k3 (Kw hS k4 hh) k5
  | crow k1 k2 k3 kc km k4 k5=>exact .crow k1 k2 k3 kc km (Kw hS k4 hh) k5
  | afull k1 k2 k3 k4=>exact .afull k1 k2 k3 k4
  | arow k1 k2 k3 k4 k5 k6 k7 k8 k9 kh=>exact .arow k1 k2 k3 k4 k5 k6 k7 k8 k9 kh
  | mnil k1 k2=>exact .mnil k1 k2
  | mrow k1 k2 k3 k4 k5 k6 k7 k8 k9=>exact .mrow k1 k2 k3 k4 k5 k6 k7 k8 k9
  | map k1 k2 k3 k4=>exact .map k1 k2 k3 k4
  | memo k1 k2 k3 k4=>exact .memo k1 k2 k3 k4
  | iter k1 k2 k3 k4=>exact .iter k1 k2 (k3.low hS hh) k4
  | loop k1 k2 k3 k4 k5=>exact .loop k1 k2 k3 (AT.lows hS k4 hh) k5
  | dead k1=>exact .dead k1
 ·obtain ⟨b',h1,h2⟩:=R.upd id b h
  exact ⟨b',hS _ _ (C.clean id b h).1 h1,h2⟩
theorem Ad.low (hb:∀ i b,1000≤i→s.S i=some b→b.high=true):Ad C s ⟨fun i=>(s.env i).low,CZ s.S⟩:=fun a w ⟨σ,ι,R⟩=>⟨σ,ι,R.low hb⟩
def Bg (id a:Nat) (i:Nat):Nat:=if i=id then a else i
def AV.hand (id a:Nat) (v:AV):AV:=if (v.ren (Bg id a)).high then v.ren (Bg id a) else .any
section
variable {S S2:AB} {ι2:As} {id a0:Nat}
theorem Aj.hand (hS:∀ i b,1000≤Bg id a0 i→S i=some b→S2 (Bg id a0 i)=some b∧ι2 (Bg id a0 i)=ι i) {v:Value} {c:AC} (h:Aj σ S ι v c) (hc:(c.ren (Bg id a0)).high=true):Aj σ S2 ι2 v (c.ren (Bg id a0)):=by
 induction h with
 | st h=>exact .st h
 | full h=>exact .full h
 | row h1 h2 h3 h4 =>
  rw [AC.ren,AC.high] at hc
  obtain ⟨q1,q2⟩:=hS _ _ (of_decide_eq_true hc) h1
  rw [AC.ren]
  exact .row q1 h2 h3 (fun hn=>by rw [q2];exact h4 hn)
 | part h1 h2 h3 h4 =>
  rw [AC.ren,AC.high] at hc
  obtain ⟨q1,q2⟩:=hS _ _ (of_decide_eq_true hc) h1
  rw [AC.ren]
  exact .part q1 h2 h3 (fun hn=>by rw [q2];exact h4 hn)
 | rest h1 h2 h3 h4 =>
  rw [AC.ren,AC.high] at hc
  obtain ⟨q1,q2⟩:=hS _ _ (of_decide_eq_true hc) h1
  rw [AC.ren]
  exact .rest q1 h2 h3 (fun hn=>by rw [q2];exact h4 hn)
 | ptr h1 h2 h3 h4 =>
  rw [AC.ren,AC.high] at hc
  obtain ⟨q1,q2⟩:=hS _ _ (of_decide_eq_true hc) h1
  rw [AC.ren]
  exact .ptr q1 h2 h3 (fun hn=>by rw [q2];exact h4 hn)
 | mptr h1 h2 h3 h4 =>
  rw [AC.ren,AC.high] at hc
  obtain ⟨q1,q2⟩:=hS _ _ (of_decide_eq_true hc) h1
  rw [AC.ren]
  exact .mptr q1 h2 h3 (fun hn=>by rw [q2];exact h4 hn)
 | yld h1 h2 h3 h4 =>
  rw [AC.ren,AC.high] at hc
  obtain ⟨q1,q2⟩:=hS _ _ (of_decide_eq_true hc) h1
  rw [AC.ren]
  exact .yld q1 h2 h3 (fun hn=>by rw [q2];exact h4 hn)
 | ubool=>exact .ubool
 | eptr c h1 h2 hh=>exact .eptr c h1 h2 hh
 | @fn f vs caps c h1 h2 h3 ih =>
  rw [AC.ren,AC.high] at hc
  rw [AC.ren]
  have key:∀ (j:Nat) (b:AC),(AC.rens (Bg id a0) caps)[j]?=some b→∃ a,caps[j]?=some a∧b=a.ren (Bg id a0):=fun j b hb=>by
   rw [AC.rens_eq,List.getElem?_map,Option.map_eq_some_iff] at hb
   obtain ⟨a,ha,rfl⟩:=hb
   exact ⟨a,ha,rfl⟩
  refine .fn c (by rw [AC.rens_eq];simpa using h1) (fun j b hb=>?_) (fun j b hb=>?_)
  ·obtain ⟨a,ha,rfl⟩:=key j b hb
   exact h2 j a ha
  ·have hm:=B6 hc b (List.mem_of_getElem? hb)
   obtain ⟨a,ha,rfl⟩:=key j b hb
   exact ih j a ha hm
 | any h=>exact .any h
mutual
theorem AT.hand (hS:∀ i b,1000≤Bg id a0 i→S i=some b→S2 (Bg id a0 i)=some b∧ι2 (Bg id a0 i)=ι i):∀ {v:Value} {c:AV},AT σ S ι v c→(c.ren (Bg id a0)).high=true→AT σ S2 ι2 v (c.ren (Bg id a0))
 | v,.one c,h,hc=>by
  rw [AV.ren] at hc ⊢
  rw [AV.high] at hc
  cases h with | one h=>exact .one (h.hand hS hc)
 | v,.agg cs,h,hc=>by
  rw [AV.ren] at hc ⊢
  rw [AV.high] at hc
  cases h with
  | agg h =>
   refine .agg (Af.of_get (by rw [AC.rens_eq];simpa using h.len) fun j x c hx hcj=>?_)
   have hm:=B6 hc c (List.mem_of_getElem? hcj)
   rw [AC.rens_eq,List.getElem?_map,Option.map_eq_some_iff] at hcj
   obtain ⟨c',hc',rfl⟩:=hcj
   obtain ⟨x',h1,h2⟩:=h.get hc'
   rw [hx] at h1
   cases h1
   exact h2.hand hS hm
 | v,.tup vs,h,hc=>by
  rw [AV.ren] at hc ⊢
  rw [AV.high] at hc
  cases h with
  | tup c h1 h2 h3 =>
   obtain ⟨k1,k2⟩:=AT.hands hS h3 hc
   exact .tup c (by rw [h1,k1]) (fun j b hb=>by
    rcases Nat.lt_or_ge j vs.length with hj | hj
    ·exact h2 j _ (List.getElem?_eq_getElem hj)
    ·rw [List.getElem?_eq_none (by omega)] at hb;cases hb) k2
 | v,.any,h,_=>.any
theorem AT.hands (hS:∀ i b,1000≤Bg id a0 i→S i=some b→S2 (Bg id a0 i)=some b∧ι2 (Bg id a0 i)=ι i):∀ {vs:List AV} {c:Nat→Value},(∀ j b,vs[j]?=some b→AT σ S ι (c j) b)→AV.highs (AV.rens (Bg id a0) vs)=true→vs.length=(AV.rens (Bg id a0) vs).length∧∀ j b,(AV.rens (Bg id a0) vs)[j]?=some b→AT σ S2 ι2 (c j) b
 | [],c,h,_=>by simp [AV.rens]
 | x :: xs,c,h,hc=>by
  rw [AV.rens,AV.highs,Bool.and_eq_true] at hc
  obtain ⟨m1,m2⟩:=AT.hands hS (vs:=xs) (c:=fun j=>c (j + 1)) (fun j b hb=>h (j + 1) b (by simpa using hb)) hc.2
  refine ⟨by simp [AV.rens,← m1],fun j b hb=>?_⟩
  cases j with
  | zero =>
   simp [AV.rens] at hb
   subst hb
   exact AT.hand hS (h 0 x rfl) hc.1
  | succ j=>exact m2 j b (by simpa [AV.rens] using hb)
end
end
theorem Aj.stay {S S2:AB} {ι2:As} (hS:∀ i b,1000≤i→S i=some b→S2 i=some b∧ι2 i=ι i) {v:Value} {c:AC} (h:Aj σ S ι v c) (hc:c.high=true):Aj σ S2 ι2 v c:=by
 induction h with
 | st h=>exact .st h
 | full h=>exact .full h
 | row h1 h2 h3 h4 =>
  rw [AC.high] at hc
  obtain ⟨q1,q2⟩:=hS _ _ (of_decide_eq_true hc) h1
  exact .row q1 h2 h3 (fun hn=>by rw [q2];exact h4 hn)
 | part h1 h2 h3 h4 =>
  rw [AC.high] at hc
  obtain ⟨q1,q2⟩:=hS _ _ (of_decide_eq_true hc) h1
  exact .part q1 h2 h3 (fun hn=>by rw [q2];exact h4 hn)
 | rest h1 h2 h3 h4 =>
  rw [AC.high] at hc
  obtain ⟨q1,q2⟩:=hS _ _ (of_decide_eq_true hc) h1
  exact .rest q1 h2 h3 (fun hn=>by rw [q2];exact h4 hn)
 | ptr h1 h2 h3 h4 =>
  rw [AC.high] at hc
  obtain ⟨q1,q2⟩:=hS _ _ (of_decide_eq_true hc) h1
  exact .ptr q1 h2 h3 (fun hn=>by rw [q2];exact h4 hn)
 | mptr h1 h2 h3 h4 =>
  rw [AC.high] at hc
  obtain ⟨q1,q2⟩:=hS _ _ (of_decide_eq_true hc) h1
  exact .mptr q1 h2 h3 (fun hn=>by rw [q2];exact h4 hn)
 | yld h1 h2 h3 h4 =>
  rw [AC.high] at hc
  obtain ⟨q1,q2⟩:=hS _ _ (of_decide_eq_true hc) h1
  exact .yld q1 h2 h3 (fun hn=>by rw [q2];exact h4 hn)
 | ubool=>exact .ubool
 | eptr c h1 h2 hh=>exact .eptr c h1 h2 hh
 | fn c h1 h2 h3 ih =>
  rw [AC.high] at hc
  exact .fn c h1 h2 (fun j a ha=>ih j a ha (B6 hc a (List.mem_of_getElem? ha)))
 | any h=>exact .any h
theorem AR.hand (R:AR C σ ι s a w) (id a0:Nat) {b0:AL} (hid:id < 1000) (ha:1000≤a0) (hSa:s.S a0=none) (hb0:s.S id=some b0) (hbh:b0.high=true) (hb:∀ i b,1000≤i→s.S i=some b→b.high=true) :
  AR C σ (AD ι a0 (ι id)) ⟨fun i=>(s.env i).hand id a0,AD (CZ s.S) a0 (some b0)⟩ a w∧∀ i b,1000≤Bg id a0 i→s.S i=some b→AD (CZ s.S) a0 (some b0) (Bg id a0 i)=some b∧AD ι a0 (ι id) (Bg id a0 i)=ι i:=by
 have hlow:∀ i,1000≤i→CZ s.S i=s.S i:=fun i hi=>by
  show (if i < 1000 then none else s.S i)=_
  rw [if_neg (by omega)]
 have hS:∀ i b,1000≤Bg id a0 i→s.S i=some b→AD (CZ s.S) a0 (some b0) (Bg id a0 i)=some b∧AD ι a0 (ι id) (Bg id a0 i)=ι i:=fun i b hi h=>by
  unfold Bg at hi ⊢
  by_cases e:i=id
  ·subst e
   rw [if_pos rfl,AG,AG,← hb0,h]
   exact ⟨rfl,rfl⟩
  ·rw [if_neg e] at hi ⊢
   have hne:i ≠ a0:=fun e=>by subst e;rw [hSa] at h;cases h
   rw [AF _ hne,AF _ hne,hlow i hi]
   exact ⟨h,rfl⟩
 have hS':∀ i b,1000≤i→s.S i=some b→AD (CZ s.S) a0 (some b0) i=some b∧AD ι a0 (ι id) i=ι i:=fun i b hi h=>by
  have hne:i ≠ a0:=fun e=>by subst e;rw [hSa] at h;cases h
  rw [AF _ hne,AF _ hne,hlow i hi]
  exact ⟨h,rfl⟩
 have hinv:∀ i b,AD (CZ s.S) a0 (some b0) i=some b→(i=a0∧b=b0) ∨ (i ≠ a0∧1000≤i∧s.S i=some b):=fun i b h=>by
  by_cases e:i=a0
  ·subst e
   rw [AG] at h
   cases h
   exact .inl ⟨rfl,rfl⟩
  ·rw [AF _ e] at h
   have h':(if i < 1000 then none else s.S i)=some b:=h
   split at h'
   ·cases h'
   ·exact .inr ⟨e,by omega,h'⟩
 refine ⟨⟨R.size,fun i hi=>?_,R.nod,R.fit,fun i b h=>?_,fun i j b c g h1 h2 g1 g2=>?_,fun i b g h hg=>?_,R.ext,R.old,R.os,R.grown,R.same,fun i b h=>?_⟩,hS⟩
 ·show AT σ (AD (CZ s.S) a0 (some b0)) _ _ ((s.env i).hand id a0)
  unfold AV.hand
  split
  ·rename_i hh
   exact (R.env i hi).hand hS hh
  ·exact .any
 ·rcases hinv i b h with ⟨rfl,rfl⟩ | ⟨hne,h1,h2⟩
  ·rw [AG]
   exact (R.blk id _ hb0).samecells (fun v c hv hc=>hv.stay hS' hc) hbh
  ·rw [AF _ hne]
   exact (R.blk i b h2).samecells (fun v c hv hc=>hv.stay hS' hc) (hb i b h1 h2)
 ·rcases hinv i b h1 with ⟨rfl,rfl⟩ | ⟨hne,k1,k2⟩ <;> rcases hinv j c h2 with ⟨rfl,rfl⟩ | ⟨hne',k1',k2'⟩
  ·rfl
  ·rw [AG] at g1
   rw [AF _ hne'] at g2
   have:=R.inj _ _ _ _ g hb0 k2' g1 g2
   omega
  ·rw [AG] at g2
   rw [AF _ hne] at g1
   have:=R.inj _ _ _ _ g k2 hb0 g1 g2
   omega
  ·rw [AF _ hne] at g1
   rw [AF _ hne'] at g2
   exact R.inj _ _ _ _ g k2 k2' g1 g2
 ·rcases hinv i b h with ⟨rfl,rfl⟩ | ⟨hne,k1,k2⟩
  ·rw [AG] at hg
   exact R.base _ _ g hb0 hg
  ·rw [AF _ hne] at hg
   exact R.base _ _ g k2 hg
 ·obtain ⟨b',h1,h2,h3⟩:=R.upd i b h
  obtain ⟨q1,q2⟩:=hS' i b' (C.clean i b h).1 h1
  exact ⟨b',q1,h2,fun hl=>⟨(h3 hl).1,by rw [q2];exact (h3 hl).2⟩⟩
theorem Ad.hand (id a0:Nat) {b0:AL} (hid:id < 1000) (ha:1000≤a0) (hSa:s.S a0=none) (hb0:s.S id=some b0) (hbh:b0.high=true) (hb:∀ i b,1000≤i→s.S i=some b→b.high=true):Ad C s ⟨fun i=>(s.env i).hand id a0,AD (CZ s.S) a0 (some b0)⟩:=fun a w ⟨σ,ι,R⟩ =>
 ⟨σ,_,(R.hand id a0 hid ha hSa hb0 hbh hb).1⟩
theorem Ts {C:Ctx} {rs:List RV} {S':AB} {e:AX} {s:AS} (he:match e with | .normal=>True | .ret=>True | _=>False) (id a0:Nat) (r0:AV) {b0:AL} (hid:id < 1000) (ha:1000≤a0) (hSa:s.S a0=none) (hb0:s.S id=some b0) (hbh:b0.high=true) (hb:∀ i b,1000≤i→s.S i=some b→b.high=true)
  (h1:(AH s rs).map AN=some r0) (hh:(r0.ren (Bg id a0)).high=true) (h3:AD (CZ s.S) a0 (some b0)=S') (hc:Am S'):IG C rs (r0.ren (Bg id a0)) S' e s :=
 ⟨he,s,⟨fun i=>(s.env i).hand id a0,AD (CZ s.S) a0 (some b0)⟩,r0,Ad.refl _ _,h1,fun σ ι a w R=>⟨σ,_,(R.hand id a0 hid ha hSa hb0 hbh hb).1,fun v hv=>hv.hand (R.hand id a0 hid ha hSa hb0 hbh hb).2 hh⟩,h3,hc⟩
theorem Bl (S:AB) (i:Nat):upS S (up1 i)=(S i).map (AL.ren up1):=by
 show (if i + 1000 < 1000 then none else (S (i + 1000 - 1000)).map (AL.ren up1))=_
 rw [if_neg (by omega),Nat.add_sub_cancel]
theorem GV (S:AB) (i:Nat) (b:AL):dnS (AD S (up1 i) (some b))=AD (dnS S) i (some (b.ren dn1)):=by
 funext k
 show (AD S (up1 i) (some b) (up1 k)).map _=AD (dnS S) i _ k
 by_cases h:k=i
 ·subst h
  rw [AG,AG]
  rfl
 ·have hne:up1 k ≠ up1 i:=fun e=>h (by have:=congrArg dn1 e;rw [Jo,Jo] at this;exact this)
  rw [AF _ hne,AF _ h]
  rfl
theorem Kf (S:AB) {i:Nat} (h:i < 1000) (b:Option AL):CZ (AD S i b)=CZ S:=by
 funext k
 show (if k < 1000 then none else AD S i b k)=(if k < 1000 then none else S k)
 split
 ·rfl
 ·exact AF _ (by omega) _
theorem Tb (S:AB) {i:Nat} (h:1000≤i) (b:Option AL):CZ (AD S i b)=AD (CZ S) i b:=by
 funext k
 show (if k < 1000 then none else AD S i b k)=AD (CZ S) i b k
 by_cases e:k=i
 ·subst e
  rw [if_neg (by omega),AG,AG]
 ·rw [AF _ e,AF _ e]
  rfl
theorem Aq {S:AB} (h:Am S) {i:Nat} (hi:1000≤i) {b:AL} (hb:b.high=true):Am (AD S i (some b)):=fun k c hk=>by
 by_cases e:k=i
 ·subst e
  rw [AG] at hk
  cases hk
  exact ⟨hi,hb⟩
 ·rw [AF _ e] at hk
  exact h k c hk
theorem Vf {S:AB} {i:Nat} {b:AL} (h:∀ k c,1000≤k→S k=some c→c.high=true) (hb:b.high=true):∀ k c,1000≤k→AD S i (some b) k=some c→c.high=true:=fun k c hk hc=>by
 by_cases e:k=i
 ·subst e
  rw [AG] at hc
  cases hc
  exact hb
 ·rw [AF _ e] at hc
  exact h k c hk hc
theorem I8 {S:AB} {i:Nat} (hi:i < 1000) {b:Option AL} (h:∀ k c,1000≤k→S k=some c→c.high=true):∀ k c,1000≤k→AD S i b k=some c→c.high=true:=fun k c hk hc=>by
 rw [AF _ (by omega)] at hc
 exact h k c hk hc
end
theorem IWP.loopD {P:Program} {C:Ctx} {mu:List Nat} {Q:AX→AS→Prop} {s:AS} {x:IR} (ds:List Nat) (Inv:Nat→AS→Prop) (m0:Nat) (h0:Inv m0 s) (h:∀ m s,Inv m s→IWP P C mu x (AX.then (fun s'=>∃ m',m' < m∧Inv m' (s'.drop ds)) Q) s) (hds:∀ d ∈ ds,d < 1000:=by decide):IWP P C mu (.loop x) Q s:=by
 refine IWP.loop (fun m s=>∃ s1,Ad C s s1∧Inv m s1) m0 ⟨s,Ad.refl _ _,h0⟩ fun m s ⟨s1,hg,hi⟩=>?_
 refine (IWP.ghost hg (h m s1 hi)).mono fun e s2 he=>?_
 cases e with
 | normal =>
  obtain ⟨m',h1,h2⟩:=he
  exact ⟨m',h1,_,Ad.drop ds s2 hds,h2⟩
 | _=>exact he
theorem Aj.out {σ:Sto} {S:AB} {ι:As} {v:Value} {c:AC} (h:Aj σ S ι v c) (hc:outC noS c=some c):Aj σ noS noH v c:=by
 cases h with
 | st h=>exact .st h
 | full h=>simp [outC,stC] at hc
 | row h1 h2 h3 h4=>simp [outC,stC,noS] at hc
 | part h1 h2 h3 h4=>simp [outC,stC,noS] at hc
 | rest h1 h2 h3 h4=>simp [outC,stC,noS] at hc
 | ptr h1 h2 h3 h4=>simp [outC,stC] at hc
 | mptr h1 h2 h3 h4=>simp [outC,stC] at hc
 | yld h1 h2 h3 h4=>simp [outC,stC] at hc
 | ubool=>exact .ubool
 | eptr c h1 h2 hh=>exact .eptr c h1 h2 hh
 | @fn f vs caps c h1 h2 h3 =>
  cases caps with
  | nil=>exact .fn c h1 h2 (by simp)
  | cons x xs =>
   have hall:(x :: xs).all AC.stay=true:=by
    unfold outC at hc
    by_cases e:(x :: xs).all AC.stay=true
    ·exact e
    ·simp only [e,if_false] at hc
     cases hc
   exact .fn c h1 h2 fun j a ha=>(h3 j a ha).staying (List.all_eq_true.1 hall a (List.mem_of_getElem? ha))
 | any h=>simp [outC,stC] at hc
theorem LY:∀ {cs:List AC},outCs noS cs=some cs→∀ c ∈ cs,outC noS c=some c
 | [],_,c,hc=>by simp at hc
 | x :: xs,h,c,hc=>by
  simp only [outCs] at h
  split at h
  ·rename_i y ys h1 h2
   simp only [Option.some.injEq,List.cons.injEq] at h
   obtain ⟨rfl,rfl⟩:=h
   rcases List.mem_cons.1 hc with rfl | hc
   ·exact h1
   ·exact LY h2 c hc
  ·cases h
mutual
theorem AT.out {σ:Sto} {S:AB} {ι:As}:∀ {v:Value} {c:AV},AT σ S ι v c→outV noS c=some c→AT σ noS noH v c
 | v,.one c,h,hc=>by
  rw [outV,Option.map_eq_some_iff] at hc
  obtain ⟨a,h1,h2⟩:=hc
  cases h2
  cases h with | one h=>exact .one (h.out h1)
 | v,.agg cs,h,hc=>by
  rw [outV,Option.map_eq_some_iff] at hc
  obtain ⟨a,h1,h2⟩:=hc
  cases h2
  cases h with
  | agg h=>exact .agg (Af.of_get h.len fun j x c hx hcj=>by
    obtain ⟨x',q1,q2⟩:=h.get hcj
    rw [hx] at q1
    cases q1
    exact q2.out (LY h1 c (List.mem_of_getElem? hcj)))
 | v,.tup vs,h,hc=>by
  rw [outV,Option.map_eq_some_iff] at hc
  obtain ⟨a,h1,h2⟩:=hc
  cases h2
  cases h with
  | tup c k1 k2 k3=>exact .tup c k1 k2 (AT.outs k3 h1)
 | v,.any,h,_=>.any
theorem AT.outs {σ:Sto} {S:AB} {ι:As}:∀ {vs:List AV} {c:Nat→Value},(∀ j b,vs[j]?=some b→AT σ S ι (c j) b)→outVs noS vs=some vs→∀ j b,vs[j]?=some b→AT σ noS noH (c j) b
 | [],c,h,_,j,b,hb=>by simp at hb
 | x :: xs,c,h,hc,j,b,hb=>by
  rw [outVs] at hc
  split at hc
  ·rename_i y ys h1 h2
   simp only [Option.some.injEq,List.cons.injEq] at hc
   obtain ⟨rfl,rfl⟩:=hc
   cases j with
   | zero =>
    simp at hb
    subst hb
    exact AT.out (h 0 _ rfl) h1
   | succ j=>exact AT.outs (c:=fun j=>c (j + 1)) (fun j b hb=>h (j + 1) b (by simpa using hb)) h2 j b (by simpa using hb)
  ·cases hc
end
theorem QD {C:Ctx} {rs:List RV} {r:AV} {S':AB} {e:AX} {s:AS} (he:match e with | .normal=>True | .ret=>True | _=>False) (r0:AV) (h1:(AH s rs).map AN=some r0) (h2:outV s.S r0=some r) (hb:∀ i b,1000≤i→s.S i=some b→b.high=true) (h3:CZ s.S=S') (hc:Am S'):IG C rs r S' e s:=by
 refine ⟨he,s,⟨fun i=>(s.env i).low,CZ s.S⟩,r0,Ad.refl _ _,h1,fun σ ι a w R=>?_,h3,hc⟩
 exact ⟨σ,ι,R.low hb,fun v hv=>W5 (s:=⟨fun i=>(s.env i).low,CZ s.S⟩) (R.outV hv h2)⟩
theorem CU {C:Ctx} {rs:List RV} {r:AV} {e:AX} {s:AS} {S:AB} (r0:AV) (hS:Am S) (he:match e with | .normal=>True | .ret=>True | _=>False)
  (h1:(AH s rs).map AN=some r0) (h2:outV s.S r0=some r) (h4:∀ i,1000≤i→s.S i=S i):IG C rs r S e s :=
 QD he r0 h1 h2 (fun i b hi hb=>(hS i b (by rw [← h4 i hi];exact hb)).2) (by
  funext i
  unfold CZ
  split
  ·exact (A7 hS (by omega)).symm
  ·exact h4 i (by omega)) hS
theorem Q3 {C:Ctx} {rs:List RV} {r:AV} {S':AB} {e:AX} {s s1:AS} (hg:Ad C s s1) (h:IG C rs r S' e s1):IG C rs r S' e s:=by
 obtain ⟨he,s2,s3,r0,h1,h2⟩:=h
 exact ⟨he,s2,s3,r0,hg.trans h1,h2⟩
theorem XS {C:Ctx} {rs:List RV} {e:AX} {s:AS} {ty:TypeId} {w n:Nat} {ys:List (List SV)} {mu:Bool} (he:match e with | .normal=>True | .ret=>True | _=>False) (id:Nat) (hid:id < 1000) (hb0:s.S id=some (J7 mu ty w ys)) (hlow:∀ i,1000≤i→s.S i=none)
  (h1:(AH s rs).map AN=some (.one (.row id n))):IG C rs (.one (.row 1000 n)) (fun i=>if i=1000 then some (J7 mu ty w ys) else noS i) e s:=by
 have e1:(AV.one (.row id n)).ren (Bg id 1000)=.one (.row 1000 n):=by simp [AV.ren,AC.ren,Bg]
 rw [← e1]
 refine Ts he id 1000 _ hid (by decide) (hlow 1000 (by decide)) hb0 (by cases mu <;> rfl) (fun i b hi hb=>by rw [hlow i hi] at hb;cases hb) h1 (by rw [e1];rfl) ?_ ?_
 ·funext i
  unfold AD CZ noS
  by_cases h2:i=1000
  ·rw [if_pos h2,if_pos h2]
  ·rw [if_neg h2,if_neg h2]
   split
   ·rfl
   ·exact hlow i (by omega)
 ·intro i b hb
  have hb:(if i=1000 then some (J7 mu ty w ys) else noS i)=some b:=hb
  split at hb
  ·rename_i h2
   cases hb
   exact ⟨by omega,by cases mu <;> rfl⟩
  ·cases hb

theorem To (c P Q:Prop) [Decidable c]:((c→P)∧(¬ c→Q))=if c then P else Q:=by
 by_cases h:c <;> simp [h]
theorem UW {c A B:Prop} [Decidable c] (h:(c→A)∧(¬ c→B)):if c then A else B:=by
 by_cases hc:c
 ·rw [if_pos hc];exact h.1 hc
 ·rw [if_neg hc];exact h.2 hc
theorem VW (b:Bool) (P Q:Prop):((b=true→P)∧(b=false→Q))=if b=true then P else Q:=by
 cases b <;> simp
attribute [congr] Pt.congr JH.congr
mutual
def A_:Tm→List SV
 | .mk n xs=>[.str n,.list (SU xs)]
def SU:List Tm→List (List SV)
 | []=>[]
 | t :: ts=>A_ t :: SU ts
end
theorem Kp:∀ xs:List Tm,SU xs=xs.map A_
 | []=>rfl
 | t :: ts=>by rw [SU,Kp ts];rfl
theorem C9 (t:Tm):A_ t=[.str t.name,.list (t.args.map A_)]:=by
 cases t
 rw [A_,Kp]
 rfl
theorem Uc (t:Tm):(A_ t).length=2:=by rw [C9];rfl
class O2 {α:Type} (f:α→List SV) (n:outParam Nat):Prop where
 ok:∀ a,(f a).length=n
theorem Xn {α:Type} {f:α→List SV} {n:Nat} [h:O2 f n] {ts:List α}:∀ x ∈ ts.map f,x.length=n:=fun x hx=>by
 obtain ⟨a,_,rfl⟩:=List.mem_map.1 hx
 exact h.ok a
instance:O2 A_ 2:=⟨fun t=>by rw [C9];rfl⟩
theorem I1 {ts:List Tm}:∀ x ∈ ts.map A_,x.length=2:=by
 intro x hx
 obtain ⟨a,_,rfl⟩:=List.mem_map.1 hx
 exact Uc a
theorem Tm.args_mk (n:ByteArray) (xs:List Tm):(Tm.mk n xs).args=xs:=rfl
theorem Tm.name_mk (n:ByteArray) (xs:List Tm):(Tm.mk n xs).name=n:=rfl
abbrev AK (n:Int):AV:=.one (.st (.int .i64 n))
abbrev Ag (b:Bool):AV:=.one (.st (.bool b))
abbrev Da (s:ByteArray):AV:=.one (.st (.str s))
abbrev aTm (t:Tm):AV:=.agg [.st (.str t.name),.st (.list (t.args.map A_))]
abbrev BK (n:Int):List SV:=[.int .i64 n]
abbrev DV (s:ByteArray):List SV:=[.str s]
abbrev D7 (l:List Int):AV:=.one (.st (.list (l.map BK)))
abbrev Jw (l:List ByteArray):AV:=.one (.st (.list (l.map DV)))
abbrev JU (l:List Tm):AV:=.one (.st (.list (l.map A_)))
theorem Ab {α:Type} {xs:List α} {k:Nat} (h:k < xs.length):∃ a,xs[k]?=some a:=⟨xs[k],List.getElem?_eq_getElem h⟩
theorem Cj (n:Int):inR .i64 n ↔ -9223372036854775808≤n∧n≤9223372036854775807:=by
 simp [inR,IntKind.min,IntKind.max,IntKind.signed,IntKind.bits]
theorem RO {l:List Int} (h:(SV.list (l.map BK)).known):l.length≤maxLen∧∀ n ∈ l,inR .i64 n:=by
 obtain ⟨h1,h2⟩:=h
 refine ⟨by simpa using h1,fun n hn=>?_⟩
 have:=FQ.1 (Ea.1 h2 (BK n) (List.mem_map.2 ⟨n,hn,rfl⟩)) (.int .i64 n) (by simp)
 exact this
theorem BM:maxLen=9223372036854775807:=by simp [maxLen]
theorem JG {S:AB} {xs:List (List SV)} (h:(AV.one (.st (.list xs))).known S):xs.length≤9223372036854775807:=by
 simp only [AV.known,AC.known,SV.known] at h
 rw [BM] at h
 exact h.1
theorem Il {S:AB} {t:Tm} (h:(aTm t).known S):t.name.size≤9223372036854775807∧t.args.length≤9223372036854775807:=by
 have h1:t.name.size≤maxLen:=by
  have:=h (.st (.str t.name)) (by simp)
  simpa [AC.known,SV.known] using this
 have h2:t.args.length≤maxLen:=by
  have:=h (.st (.list (t.args.map A_))) (by simp)
  simp only [AC.known,SV.known,List.length_map] at this
  exact this.1
 rw [BM] at h1 h2
 exact ⟨h1,h2⟩

def Kd.isCall:Kd→Bool
 | .call _ _=>true
 | .callS _ _=>true
 | .callV _ _=>true
 | .callN _ _=>true
 | .callR _ _=>true
 | .callW _ _=>true
 | .callX _ _=>true
 | .callY _ _=>true
 | .buildFlat _=>false
 | .cutP _ _ _=>false
 | .indexP _ _ _=>false
 | .appP _ _ _ _ _=>false
 | .restP _ _ _=>false
 | .appS _ _ _=>false
 | .loadL _ _ _=>false
 | .indexL _ _ _=>false
 | .buildL _ _=>false
 | .fieldL _ _=>false
 | .lenL _ _=>false
 | .appF _ _ _ _ _ _=>false
 | .clearP _ _ _ _=>false
 | .copyP _ _=>false
 | .mov _=>false
 | .pick _ _ _=>false
 | .alloc _ _=>false
 | .box _ _=>false
 | .build _ _=>false
 | .buildSlice _ _ _ _=>false
 | .load _ _ _=>false
 | .store _ _ _=>false
 | .fieldAddr _ _=>false
 | .field _ _ _ _=>false
 | .indexAddr _ _ _=>false
 | .indexArr _ _ _ _=>false
 | .indexStr _ _=>false
 | .bin _ _ _=>false
 | .eqB _ _ _=>false
 | .eqN _ _=>false
 | .eqE _ _=>false
 | .eqP _ _=>false
 | .bits _ _ _=>false
 | .never=>false
 | .pan _=>false
 | .iface _ _=>false
 | .strOf _ _=>false
 | .un _ _=>false
 | .sliceS _ _ _=>false
 | .sliceL _ _ _ _=>false
 | .sliceM _ _ _ _=>false
 | .extract _ _=>false
 | .len _ _=>false
 | .append _ _ _ _ _ _=>false
 | .conv _ _=>false
 | .nilCheck _=>false
 | .mm _ _ _=>false
 | .makeSlice _ _ _ _ _ _=>false
 | .makeFunc _ _=>false
 | .makeMap _=>false
 | .lookup _ _ _ _ _=>false
 | .mapSet _ _ _ _=>false
 | .mapEntry _ _ _ _=>false
 | .entrySet _ _ _=>false
 | .rangeM _=>false
 | .next _=>false
 | .entry _=>false
 | .lenM _=>false
 | .buildArr _=>false
 | .makeMemo=>false
 | .memoGet _ _ _ _=>false
 | .memoSet _ _ _=>false
inductive XG (P:Program) (f:FuncId) (vs:List AV) (d:Option Nat) (l:List Ins) (s:AS) (K:AS→Prop):Prop
 | mk (r:AV) (h1:AU P f vs r) (h2:Run P l (s.put d r) K)
inductive OO (P:Program) (f:FuncId) (vs:List AV) (S:AB) (ks:List Nat) (d:Option Nat) (l:List Ins) (env:Nat→AV) (K:AS→Prop):Prop
 | mk (r:AV) (S':AB) (h1:A2 P f vs (upS S) r S') (h2:(∀ k ∈ ks,dnS S' k=S k)∧Run P l ((⟨env,dnS S'⟩:AS).put d (r.ren dn1)) K)
inductive U4 (P:Program) (f:FuncId) (vs:List AV) (ks:List Nat) (d:Option Nat) (l:List Ins) (s:AS) (K:AS→Prop):Prop
 | mk (mu:Bool) (e:TypeId) (w:Nat) (ys:List (List SV)) (h1:KN P f vs e w ys mu) (h2:s.S (d.getD 0)=none∧(∀ k ∈ ks,(s.set (d.getD 0) (J7 mu e w ys)).S k=s.S k)∧Run P l ((s.set (d.getD 0) (J7 mu e w ys)).put d (.one (.row (d.getD 0) ys.length))) K)
inductive XM (P:Program) (f:FuncId) (vs:List AV) (d:Option Nat) (l:List Ins) (s:AS) (K:AS→Prop):Prop
 | mk (r:AV) (rows:List (Nat × AL)) (h0:∀ q ∈ rows,s.S q.1=some q.2) (h1:∀ T:AB,(∀ q ∈ rows,T q.1=some q.2)→A2 P f vs (upS T) r (upS T)) (h2:Run P l (s.put d (r.ren dn1)) K)
inductive Uw (P:Program) (f:FuncId) (vs:List AV) (ks:List Nat) (d:Option Nat) (l:List Ins) (s:AS) (K:AS→Prop):Prop
 | mk (r:AV) (rows:List (Nat × AL × AL)) (h0:Sl s.S rows) (h1:∀ T:AB,Sl T rows→A2 P f vs (upS T) r (upS (Ft T rows))) (h2:(∀ k ∈ ks,Ft s.S rows k=s.S k)∧Run P l ((⟨s.env,Ft s.S rows⟩:AS).put d (r.ren dn1)) K)
inductive Nf (P:Program) (S:AB) (hs:Bool) (G:AB→(AV→AB→Prop)→Prop) (d:Option Nat) (l:List Ins) (env:Nat→AV) (K:AS→Prop):Prop
 | mk (T:AB) (Post:AV→AB→Prop) (h1:Am T) (h2:∀ i,1000≤i→S i=T i) (h3:hs=true) (h4:G T Post) (h5:∀ r S',Am S'→Post r S'→Run P l ((⟨env,DC S S'⟩:AS).put d r) K)
def Kd.goC (P:Program) (d:Option Nat) (s:AS) (t:Tag) (l:List Ins) (K:AS→Prop):Kd→Prop
 | .call f xs=>match t with
  | .no=>match outVs s.S (s.evs xs) with
   | some vs=>XG P f vs d l s K
   | none=>False
  | _=>False
 | .callR f xs=>match t with
  | .no=>XM P f (AV.rens up1 (s.evs xs)) d l s K
  | _=>False
 | .callW f xs=>match t with
  | .no=>Uw P f (AV.rens up1 (s.evs xs)) [] d l s K
  | .keeps ks=>Uw P f (AV.rens up1 (s.evs xs)) ks d l s K
  | .onb _=>False
 | .callX f xs=>match t with
  | .no=>Nf P s.S (AV.highs ((s.evs xs).map (HE s.S))) (GZ P f ((s.evs xs).map (HE s.S))) d l s.env K
  | _=>False
 | .callY f xs=>match t with
  | .no=>Nf P s.S ((s.ev f).high && AV.highs ((s.evs xs).map (HE s.S))) (Dw P (s.ev f) ((s.evs xs).map (HE s.S))) d l s.env K
  | _=>False
 | .callN f xs=>match t with
  | .no=>match outVs s.S (s.evs xs) with
   | some vs=>U4 P f vs [] d l s K
   | none=>False
  | .keeps ks=>match outVs s.S (s.evs xs) with
   | some vs=>U4 P f vs ks d l s K
   | none=>False
  | .onb _=>False
 | .callS f xs=>match t with
  | .no=>OO P f (AV.rens up1 (s.evs xs)) s.S [] d l s.env K
  | .keeps ks=>OO P f (AV.rens up1 (s.evs xs)) s.S ks d l s.env K
  | .onb _=>False
 | .callV f xs=>match (s.ev f).fnOf with
  | some (g,caps)=>Cn P g=true∧match t with
   | .no=>OO P g (AV.rens up1 (s.evs xs ++ caps.map .one)) s.S [] d l s.env K
   | .keeps ks=>OO P g (AV.rens up1 (s.evs xs ++ caps.map .one)) s.S ks d l s.env K
   | .onb _=>False
  | _=>False
 | _=>False
def Hc (P:Program):List Ins→AS→(AS→Prop)→Prop
 | [],s,K=>K s
 | i :: l,s,K=>match i.kd.isCall with
  | false=>match i.guard with
   | none=>i.kd.goT P (i.dst.getD 0) s i.tag fun v s'=>Hc P l (s'.put i.dst v) K
   | some (g,want)=>match s.env g with
    | .one (.st (.bool b))=>(b=want→i.kd.goT P (i.dst.getD 0) s i.tag fun v s'=>Hc P l (s'.put i.dst v) K)∧(¬ b=want→Hc P l (s.put i.dst (.tup [])) K)
    | .tup []=>Hc P l (s.put i.dst (.tup [])) K
    | _=>False
  | true=>match i.guard with
   | none=>i.kd.goC P i.dst s i.tag l K
   | some (g,want)=>match s.env g with
    | .one (.st (.bool b))=>(b=want→i.kd.goC P i.dst s i.tag l K)∧(¬ b=want→Hc P l (s.put i.dst (.tup [])) K)
    | .tup []=>Hc P l (s.put i.dst (.tup [])) K
    | _=>False
section
variable {P:Program}
theorem Sa {kd:Kd} {d:Option Nat} {s:AS} {t:Tag} {l:List Ins} {K:AS→Prop} (h:kd.goC P d s t l K):kd.goT P (d.getD 0) s t fun v s'=>Run P l (s'.put d v) K:=by
 cases kd <;> simp only [Kd.goC] at h
 case call f xs =>
  cases t <;> simp only at h
  split at h
  ·rename_i vs e
   obtain ⟨r,h1,h2⟩:=h
   simp only [Kd.goT,Kd.go,e]
   exact ⟨r,h1,trivial,h2⟩
  ·exact h.elim
 case callN f xs =>
  cases t <;> simp only at h
  ·split at h
   ·rename_i vs e
    obtain ⟨mu,ty,w,ys,h1,h2,_,h3⟩:=h
    simp only [Kd.goT,Kd.go,e]
    exact ⟨mu,ty,w,ys,h1,h2,trivial,h3⟩
   ·exact h.elim
  ·split at h
   ·rename_i vs e
    obtain ⟨mu,ty,w,ys,h1,h2,h4,h3⟩:=h
    simp only [Kd.goT,Kd.go,e]
    exact ⟨mu,ty,w,ys,h1,h2,h4,h3⟩
   ·exact h.elim
 case callW f xs =>
  cases t <;> simp only at h
  ·obtain ⟨r,rows,h0,h1,_,h2⟩:=h
   simp only [Kd.goT,Kd.go]
   exact ⟨r,rows,h0,h1,trivial,h2⟩
  ·obtain ⟨r,rows,h0,h1,hk,h2⟩:=h
   simp only [Kd.goT,Kd.go]
   exact ⟨r,rows,h0,h1,hk,h2⟩
 case callX f xs =>
  cases t <;> simp only at h
  obtain ⟨T,Post,h1,h2,h3,h4,h5⟩:=h
  exact ⟨T,Post,h1,h2,h3,h4,fun r S' k1 k2=>⟨trivial,h5 r S' k1 k2⟩⟩
 case callY f xs =>
  cases t <;> simp only at h
  obtain ⟨T,Post,h1,h2,h3,h4,h5⟩:=h
  exact ⟨T,Post,h1,h2,h3,h4,fun r S' k1 k2=>⟨trivial,h5 r S' k1 k2⟩⟩
 case callR f xs =>
  cases t <;> simp only at h
  obtain ⟨r,rows,h0,h1,h2⟩:=h
  simp only [Kd.goT,Kd.go]
  exact ⟨r,rows,h0,h1,trivial,h2⟩
 case callS f xs =>
  cases t <;> simp only at h
  ·obtain ⟨r,S',h1,h2,h3⟩:=h
   exact ⟨r,S',h1,trivial,h3⟩
  ·obtain ⟨r,S',h1,h2,h3⟩:=h
   exact ⟨r,S',h1,h2,h3⟩
 case callV f xs =>
  split at h
  ·rename_i g caps e
   obtain ⟨hp,h⟩:=h
   cases t <;> simp only at h
   ·obtain ⟨r,S',h1,h2,h3⟩:=h
    simp only [Kd.goT,Kd.go,e]
    exact ⟨hp,r,S',h1,trivial,h3⟩
   ·obtain ⟨r,S',h1,h2,h3⟩:=h
    simp only [Kd.goT,Kd.go,e]
    exact ⟨hp,r,S',h1,h2,h3⟩
  ·exact h.elim
theorem CT:∀ {l:List Ins} {s:AS} {K:AS→Prop},Hc P l s K→Run P l s K
 | [],s,K,h=>h
 | i :: l,s,K,h=>by
  unfold Hc at h
  unfold Run
  split at h
  ·split at h
   ·rename_i e
    simp only [e]
    exact Ex h fun v s' _ h'=>CT h'
   ·rename_i g want e
    simp only [e]
    split at h
    ·rename_i b e2
     simp only [e2]
     exact ⟨fun hb=>Ex (h.1 hb) fun v s' _ h'=>CT h',fun hb=>CT (h.2 hb)⟩
    ·rename_i e2
     simp only [e2]
     exact CT h
    ·exact h.elim
  ·split at h
   ·rename_i e
    simp only [e]
    exact Sa h
   ·rename_i g want e
    simp only [e]
    split at h
    ·rename_i b e2
     simp only [e2]
     exact ⟨fun hb=>Sa (h.1 hb),fun hb=>CT (h.2 hb)⟩
    ·rename_i e2
     simp only [e2]
     exact CT h
    ·exact h.elim
theorem JQ {l:List Ins} {s:AS} {K:AS→Prop} {A:Prop} (h:A∧Hc P l s K):A∧Run P l s K:=⟨h.1,CT h.2⟩
theorem IWP.ops2 {C:Ctx} {mu:List Nat} {Q:AX→AS→Prop} {s:AS} {l:List Ins} (h:∀ K:AS→Prop,(∀ s,Q .normal s→K s)→Hc P l s K):IWP P C mu (.ops l) Q s:=IWP.opsK fun K hK=>CT (h K hK)
end
attribute [go_sem] WP Uj UF NP Ins.i Ins.m Ins.L Ins.l Ins.f Ins.s Opd.n J7 Ft Hc Kd.isCall Kd.goC Kd.goT Tag.ok Kd.ptrOpd F4 List.forall_mem_cons List.not_mem_nil Kd.go AS.ev AS.evs AS.put AS.set AD AV.cells Hq Dj GM stP UM stC stCs outC outCs outV outVs G_ C4 CQ Co UK Er Td Tq optI QR splice AL.len AS.start AS.startS noS List.getElem?_cons_zero List.getElem?_cons_succ List.getElem?_nil List.getElem?_map Option.isSome_none Option.isSome_some Option.map_some Option.map_none Option.getD_some Option.getD_none List.length_map List.length_cons List.length_nil List.length_append List.map_cons List.map_nil List.take_succ_cons List.take_zero List.take_nil List.drop_succ_cons List.drop_zero List.drop_nil List.nil_append List.cons_append List.append_nil Nat.zero_add Nat.add_zero Nat.le_refl Nat.zero_le if_true if_false Bool.false_eq_true true_and and_true Option.some.injEq Int.toNat_natCast Int.natCast_nonneg Int.ofNat_eq_natCast ite_self decide_true decide_false not_true_eq_false not_false_eq_true true_implies false_implies implies_true Bool.true_eq_false eq_self Bool.not_true Bool.not_false beq_self_eq_true Tm.args_mk Tm.name_mk AV.rens AV.ren AC.ren AC.rens AL.ren Bl Jo GV Kn
theorem ST (T:AB) (i:Nat) (b:AL):upS (AD T i (some b))=AD (upS T) (up1 i) (some (b.ren up1)):=by
 funext k
 show (if k < 1000 then none else (AD T i (some b) (k - 1000)).map (AL.ren up1))=_
 by_cases e:k=up1 i
 ·subst e
  rw [AG,if_neg (by have:=Ba i;omega),show up1 i - 1000=i from Jo i,AG]
  rfl
 ·rw [AF _ e]
  by_cases hk:k < 1000
  ·rw [if_pos hk]
   show none=if k < 1000 then none else _
   rw [if_pos hk]
  ·rw [if_neg hk,AF _ (fun h=>e (by rw [← h];exact (Lv (by omega)).symm))]
   show _=if k < 1000 then none else _
   rw [if_neg hk]
abbrev Wa:=@IWP.seq
abbrev Wb:=@GU
abbrev Wc:=@IWP.block
abbrev Wd:=@IWP.skip
abbrev We:=@IWP.exit
abbrev Wg:=@NZ
abbrev Wh:=@QP
abbrev Wi:=@GI
abbrev Wj:=@Hx
abbrev Wk:=@Im
abbrev Wl:=@Jb
abbrev Wm:=@NG
abbrev Wn:=@Pe
abbrev Wo:=@IWP.ops2
abbrev Wp:=@IWP.cond
abbrev Wq:=@CT
abbrev Wr:=@JQ
abbrev iC:=@UW
abbrev Cg:=@XG.mk
abbrev dT:=@decide_eq_true_eq
abbrev dF:=@decide_eq_false_iff_not
abbrev nL:=@Int.ofNat_lt
abbrev eT:=@C9
abbrev iR:=@Cj
attribute [go_sem ↓] To VW
theorem Ai {a b:Prop} (k:b) (h:a:=by first | omega | exact Xn | (simp [BM] <;> omega)):a∧b:=⟨h,k⟩
theorem Z0 {id id':Nat} {Q:AX→AS→Prop} {s:AS} (h:Q (.exit id') s) (hne:id' ≠ id:=by decide):AX.inBlock id Q (.exit id') s:=Im hne h
theorem fN {α:Type} (p:α→Prop):∀ x ∈ ([]:List α),p x:=List.forall_mem_nil p
class IF (goal:Prop) (prev:outParam Prop):Prop where
 imp:prev→goal
theorem W {goal prev:Prop} [s:IF goal prev] (h:prev):goal:=s.imp h
section
variable {P:Program} {C:Ctx} {mu:List Nat} {x y:IR} {Q:AX→AS→Prop} {s:AS} {id:Nat} {K:AS→Prop}
instance:IF (IWP P C mu (.seq x y) Q s) (IWP P C mu x (O0 P C mu y Q) s):=⟨IWP.seq⟩
instance:IF (O0 P C mu y Q .normal s) (IWP P C mu y Q s):=⟨GU⟩
instance:IF (IWP P C mu (.block id x) Q s) (IWP P C mu x (AX.inBlock id Q) s):=⟨IWP.block⟩
instance:IF (IWP P C mu .skip Q s) (Q .normal s):=⟨IWP.skip⟩
instance:IF (IWP P C mu (.exit id) Q s) (Q (.exit id) s):=⟨IWP.exit⟩
instance:IF (IWP P C mu .ret Q s) (Q .ret s):=⟨IWP.ret⟩
instance:IF (O0 P C mu y Q (.exit id) s) (Q (.exit id) s):=⟨NZ⟩
instance:IF (O0 P C mu y Q .ret s) (Q .ret s):=⟨QP⟩
instance:IF (AX.inBlock id Q .normal s) (Q .normal s):=⟨GI⟩
instance:IF (AX.inBlock id Q (.exit id) s) (Q .normal s):=⟨Hx⟩
instance:IF (AX.inBlock id Q .ret s) (Q .ret s):=⟨Jb⟩
instance:IF (AX.then K Q (.exit id) s) (Q (.exit id) s):=⟨NG⟩
instance:IF (AX.then K Q .ret s) (Q .ret s):=⟨Pe⟩
class V1 (goal:Prop) (prev:outParam Prop):Prop where
 imp:prev→goal
class R_ (goal:Prop) (prev:outParam Prop):Prop where
 imp:prev→goal
theorem U {goal prev:Prop} [s:V1 goal prev] (h:prev):goal:=s.imp h
theorem V {goal prev:Prop} [s:R_ goal prev] (h:prev):goal:=s.imp h
instance {l:List Ins}:V1 (Run P l s K) (Hc P l s K):=⟨CT⟩
instance {l:List Ins} {A:Prop}:V1 (A∧Run P l s K) (A∧Hc P l s K):=⟨JQ⟩
instance {l:List Ins}:R_ (Run P l s K) (Hc P l s K):=⟨CT⟩
instance {l:List Ins} {A:Prop}:R_ (A∧Run P l s K) (A∧Hc P l s K):=⟨JQ⟩
instance {c0:Opd}:R_ (IWP P C mu (.cond c0 x y) Q s) (match s.ev c0 with | .one (.st (.bool b))=>(b=true→IWP P C mu x Q s)∧(b=false→IWP P C mu y Q s) | .one .ubool=>IWP P C mu x Q s∧IWP P C mu y Q s | _=>False):=⟨IWP.cond⟩
end
theorem IWP.fresh {P:Program} {C:Ctx} {mu:List Nat} {x:IR} {Q:AX→AS→Prop} {s:AS} (h1000:∀ i,1000≤i→s.S i=none) (h:∀ env':Nat→AV,(∀ i v,s.env i=.one (.st v)→env' i=.one (.st v))→IWP P C mu x Q ⟨env',noS⟩):IWP P C mu x Q s:=by
 refine IWP.ghost (Ad.low (s:=s) fun i b hi hb=>by rw [h1000 i hi] at hb;cases hb) ?_
 have e:CZ s.S=noS:=by
  funext i
  show (if i < 1000 then none else s.S i)=none
  split
  ·rfl
  ·exact h1000 i (by omega)
 rw [e]
 exact h _ fun i v hv=>by rw [hv];rfl
theorem IWP.mid {P:Program} {C:Ctx} {mu:List Nat} {x y:IR} {Q:AX→AS→Prop} {s:AS} (M:AS→Prop) (h1:IWP P C mu x (fun e s=>e=.normal∧M s) s) (h2:∀ s,M s→IWP P C mu y Q s):IWP P C mu (x.seq y) Q s :=
 IWP.seq (h1.mono fun e s ⟨he,hm⟩=>by subst he;exact GU (h2 s hm))



structure Mv where
 name:ByteArray
 frm:List Int
 to_:Int
structure Au where
 states:Int
 moves:List Mv
 last:List Int
def inS (S:Int) (s:Int):Bool:=decide (0≤s) && decide (s < S)
def Mv.err (S:Int) (m:Mv):Int:=if Az m.name=true∧BH m.name=false then (if 4 < m.frm.length then 3 else if m.frm.all (inS S)=true∧inS S m.to_=true then 0 else 10) else 1
def Bb (S:Int):List Mv→Int
 | []=>0
 | m :: ms=>if m.err S=0 then Bb S ms else m.err S
def Au.may (a:Au) (S M:Int):Int:=if a.states < 0 ∨ S < a.states ∨ M < a.moves.length then 3 else if Bb a.states a.moves=0 then (if a.last.all (inS a.states)=true then 0 else 10) else Bb a.states a.moves
theorem Gt (S:Int) (xs ys:List Mv):Bb S (xs ++ ys)=if Bb S xs=0 then Bb S ys else Bb S xs:=by
 induction xs with
 | nil=>simp [Bb]
 | cons x xs ih =>
  simp only [List.cons_append,Bb,ih]
  by_cases h:x.err S=0
  ·simp [h]
  ·simp [h]
theorem EX {S:Int} {xs:List Mv} {k:Nat} {m:Mv} (hm:xs[k]?=some m) (h:Bb S (xs.take k)=0):Bb S (xs.take (k + 1))=m.err S:=by
 rw [AQ hm,Gt,if_pos h]
 simp only [Bb]
 split
 ·rename_i h1
  rw [h1]
 ·rfl
theorem TV {S:Int} {xs:List Mv} {k:Nat} (h:¬ Bb S (xs.take k)=0):Bb S xs=Bb S (xs.take k):=by
 have:=Gt S (xs.take k) (xs.drop k)
 rw [List.take_append_drop,if_neg h] at this
 exact this
theorem NO {S:Int}:∀ {xs:List Mv},Bb S xs=0 ↔ ∀ m ∈ xs,m.err S=0
 | []=>by simp [Bb]
 | x :: xs=>by
  rw [Bb]
  by_cases h:x.err S=0
  ·rw [if_pos h,NO]
   simp [h]
  ·rw [if_neg h]
   simp [h]
theorem Mv.err_ok {S:Int} {m:Mv}:m.err S=0 ↔ (Az m.name=true∧BH m.name=false)∧m.frm.length≤4∧m.frm.all (inS S)=true∧inS S m.to_=true:=by
 unfold Mv.err
 by_cases h1:Az m.name=true∧BH m.name=false
 ·rw [if_pos h1]
  by_cases h2:4 < m.frm.length
  ·rw [if_pos h2]
   constructor
   ·intro h;cases h
   ·intro h;omega
  ·rw [if_neg h2]
   by_cases h3:m.frm.all (inS S)=true∧inS S m.to_=true
   ·rw [if_pos h3]
    exact ⟨fun _=>⟨h1,by omega,h3⟩,fun _=>rfl⟩
   ·rw [if_neg h3]
    constructor
    ·intro h;cases h
    ·intro h;exact absurd h.2.2 h3
 ·rw [if_neg h1]
  constructor
  ·intro h;cases h
  ·intro h;exact absurd h.1 h1
theorem Au.may_ok {a:Au} {S M:Int}:a.may S M=0 ↔ (0≤a.states∧a.states≤S∧a.moves.length≤M)∧(∀ m ∈ a.moves,m.err a.states=0)∧a.last.all (inS a.states)=true:=by
 unfold Au.may
 by_cases h1:a.states < 0 ∨ S < a.states ∨ M < a.moves.length
 ·rw [if_pos h1]
  constructor
  ·intro h;cases h
  ·intro h;omega
 ·rw [if_neg h1,← NO]
  by_cases h2:Bb a.states a.moves=0
  ·rw [if_pos h2]
   by_cases h3:a.last.all (inS a.states)=true
   ·rw [if_pos h3]
    exact ⟨fun _=>⟨by omega,h2,h3⟩,fun _=>rfl⟩
   ·rw [if_neg h3]
    constructor
    ·intro h;cases h
    ·intro h;exact absurd h.2.2 h3
  ·rw [if_neg h2]
   constructor
   ·intro h;exact absurd h h2
   ·intro h;exact absurd h.2.1 h2
theorem B9 {S s:Int}:inS S s=true ↔ 0≤s∧s < S:=by simp [inS]
def A9:List (List Bool)→List Int→Bool
 | b :: bs,s :: ss=>b.getD s.toNat false && A9 bs ss
 | [],[]=>true
 | _,_=>false
def Mv.fits (m:Mv) (n:ByteArray) (below:List (List Bool)):Bool:=decide (m.name=n) && A9 below m.frm
def B8 (n:ByteArray) (below:List (List Bool)) (out:List Bool) (m:Mv):List Bool:=if m.fits n below=true then out.set m.to_.toNat true else out
def Au.ending (a:Au) (n:ByteArray) (below:List (List Bool)):List Bool:=a.moves.foldl (B8 n below) (List.replicate a.states.toNat false)
mutual
def Au.ends (a:Au):Tm→List Bool
 | .mk n xs=>a.ending n (a.endsL xs)
def Au.endsL (a:Au):List Tm→List (List Bool)
 | []=>[]
 | t :: ts=>a.ends t :: a.endsL ts
end
theorem Au.ends_eq (a:Au) (t:Tm):a.ends t=a.ending t.name (a.endsL t.args):=by cases t;rfl
theorem Au.endsL_eq (a:Au):∀ ts:List Tm,a.endsL ts=ts.map a.ends
 | []=>rfl
 | t :: ts=>by rw [Au.endsL,Au.endsL_eq a ts];rfl
def Au.acc (a:Au) (t:Tm):Bool:=a.last.any fun s=>(a.ends t).getD s.toNat false
theorem H1 (n:ByteArray) (below:List (List Bool)) (out:List Bool) (m:Mv):(B8 n below out m).length=out.length:=by
 unfold B8
 split <;> simp
theorem Ef (n:ByteArray) (below:List (List Bool)):∀ (ms:List Mv) (out:List Bool),(ms.foldl (B8 n below) out).length=out.length
 | [],_=>rfl
 | m :: ms,out=>by rw [List.foldl_cons,Ef n below ms,H1]
theorem Au.ending_length (a:Au) (n:ByteArray) (below:List (List Bool)):(a.ending n below).length=a.states.toNat:=by
 unfold Au.ending
 rw [Ef]
 simp
theorem Au.ends_length (a:Au) (t:Tm):(a.ends t).length=a.states.toNat:=by rw [Au.ends_eq,Au.ending_length]
theorem Qh (n:ByteArray) (below:List (List Bool)) (i:Nat):∀ (ms:List Mv) (out:List Bool),i < out.length→(ms.foldl (B8 n below) out).getD i false=(out.getD i false || ms.any fun m=>m.fits n below && decide (m.to_.toNat=i))
 | [],out,h=>by simp
 | m :: ms,out,h=>by
  rw [List.foldl_cons,Qh n below i ms _ (by rw [H1];exact h),List.any_cons,← Bool.or_assoc]
  congr 1
  unfold B8
  by_cases hf:m.fits n below=true
  ·rw [if_pos hf,hf,Bool.true_and]
   by_cases he:m.to_.toNat=i
   ·subst he
    simp [List.getD_eq_getElem?_getD,h]
   ·simp [List.getD_eq_getElem?_getD,List.getElem?_set_ne he,he]
  ·rw [if_neg hf]
   have:m.fits n below=false:=by simpa using hf
   rw [this]
   simp
theorem Au.ends_get (a:Au) (t:Tm) (i:Nat) (h:i < a.states.toNat):(a.ends t).getD i false=a.moves.any fun m=>m.fits t.name (a.endsL t.args) && decide (m.to_.toNat=i):=by
 rw [Au.ends_eq]
 unfold Au.ending
 rw [Qh _ _ _ _ _ (by simpa using h)]
 simp [List.getD_eq_getElem?_getD,h]
def C2 (B:Int) (m n:Mv):List Int:=List.zipWith (fun i j=>i * B + j) m.frm n.frm
def GJ (B:Int) (m n:Mv):Mv:=⟨m.name,C2 B m n,m.to_ * B + n.to_⟩
def IW (m n:Mv):Bool:=decide (m.name=n.name) && decide (m.frm.length=n.frm.length)
def A8 (B:Int) (m:Mv) (ns:List Mv):List Mv:=(ns.filter (IW m)).map (GJ B m)
def BQ (B:Int) (ms ns:List Mv):List Mv:=ms.flatMap fun m=>A8 B m ns
def Aw (B:Int) (ss ts:List Int):List Int:=ss.flatMap fun s=>ts.map fun t=>s * B + t
def Au.both (a b:Au):Au:=⟨a.states * b.states,BQ b.states a.moves b.moves,Aw b.states a.last b.last⟩
def CS (A:Int) (m:Mv):Mv:=⟨m.name,m.frm.map (· + A),m.to_ + A⟩
def Au.either (a b:Au):Au:=⟨a.states + b.states,a.moves ++ b.moves.map (CS a.states),a.last ++ b.last.map (· + a.states)⟩
structure Au.Good (a:Au):Prop where
 states:0≤a.states
 to_:∀ m ∈ a.moves,0≤m.to_∧m.to_ < a.states
 frm:∀ m ∈ a.moves,∀ s ∈ m.frm,0≤s∧s < a.states
 last:∀ s ∈ a.last,0≤s∧s < a.states
theorem Au.may_good {a:Au} {S M:Int} (h:a.may S M=0):a.Good:=by
 obtain ⟨h1,h2,h3⟩:=Au.may_ok.1 h
 refine ⟨h1.1,fun m hm=>?_,fun m hm s hs=>?_,fun s hs=>?_⟩
 ·exact B9.1 (Mv.err_ok.1 (h2 m hm)).2.2.2
 ·exact B9.1 (List.all_eq_true.1 (Mv.err_ok.1 (h2 m hm)).2.2.1 s hs)
 ·exact B9.1 (List.all_eq_true.1 h3 s hs)
theorem E9 {s u:Int} {B:Int} (hs:0≤s) (hu:0≤u) (hB:0≤B):(s * B + u).toNat=s.toNat * B.toNat + u.toNat:=by
 obtain ⟨a,rfl⟩:=Int.eq_ofNat_of_zero_le hs
 obtain ⟨b,rfl⟩:=Int.eq_ofNat_of_zero_le hu
 obtain ⟨c,rfl⟩:=Int.eq_ofNat_of_zero_le hB
 simp only [Int.toNat_natCast]
 rw [← Int.natCast_mul,← Int.natCast_add,Int.toNat_natCast]
theorem U8 {a b c d B:Nat} (hb:b < B) (hd:d < B):a * B + b=c * B + d ↔ a=c∧b=d:=by
 constructor
 ·intro h
  have h1:(a * B + b) / B=a:=by
   rw [Nat.mul_comm,Nat.mul_add_div (by omega),Nat.div_eq_of_lt hb,Nat.add_zero]
  have h2:(c * B + d) / B=c:=by
   rw [Nat.mul_comm,Nat.mul_add_div (by omega),Nat.div_eq_of_lt hd,Nat.add_zero]
  have h3:a=c:=by rw [← h1,h,h2]
  subst h3
  exact ⟨rfl,by omega⟩
 ·rintro ⟨rfl,rfl⟩
  rfl
theorem WN {a b A B:Nat} (ha:a < A) (hb:b < B):a * B + b < A * B:=by
 have:(a + 1) * B≤A * B:=Nat.mul_le_mul_right B ha
 rw [Nat.add_mul] at this
 omega
theorem FX:∀ {bs:List (List Bool)} {ss:List Int},A9 bs ss=true→ss.length=bs.length
 | [],[],_=>rfl
 | [],_ :: _,h=>by simp [A9] at h
 | _ :: _,[],h=>by simp [A9] at h
 | b :: bs,s :: ss,h=>by
  simp only [A9,Bool.and_eq_true] at h
  simp [FX h.2]
theorem Ll {A B:Int} (hB:0≤B) {e ea eb:Tm→List Bool}:∀ {ts:List Tm} {ss us:List Int},ss.length=us.length→(∀ s ∈ ss,0≤s∧s < A)→(∀ u ∈ us,0≤u∧u < B) →
  (∀ t ∈ ts,∀ i j:Nat,i < A.toNat→j < B.toNat→(e t).getD (i * B.toNat + j) false=((ea t).getD i false && (eb t).getD j false)) →
  A9 (ts.map e) (List.zipWith (fun i j=>i * B + j) ss us)=(A9 (ts.map ea) ss && A9 (ts.map eb) us)
 | [],[],[],_,_,_,_=>by simp [A9]
 | [],s :: ss,u :: us,_,_,_,_=>by simp [A9]
 | t :: ts,[],[],_,_,_,_=>by simp [A9]
 | t :: ts,s :: ss,u :: us,hl,hs,hu,h=>by
  have h1:=hs s (by simp)
  have h2:=hu u (by simp)
  simp only [List.map_cons,List.zipWith_cons_cons,A9]
  rw [E9 h1.1 h2.1 hB,h t (by simp) _ _ (by omega) (by omega),Ll hB (by simpa using hl) (fun x hx=>hs x (by simp [hx])) (fun x hx=>hu x (by simp [hx])) (fun x hx=>h x (by simp [hx]))]
  generalize (ea t).getD s.toNat false=p
  generalize (eb t).getD u.toNat false=q
  generalize A9 (ts.map ea) ss=r
  generalize A9 (ts.map eb) us=w
  cases p <;> cases q <;> cases r <;> cases w <;> rfl
 | _,[],_ :: _,hl,_,_,_=>by simp at hl
 | _,_ :: _,[],hl,_,_,_=>by simp at hl
theorem GP {B:Int} {ms ns:List Mv} {x:Mv}:x ∈ BQ B ms ns ↔ ∃ m ∈ ms,∃ n ∈ ns,IW m n=true∧x=GJ B m n:=by
 unfold BQ A8
 simp only [List.mem_flatMap,List.mem_map,List.mem_filter]
 constructor
 ·rintro ⟨m,hm,n,⟨hn,h⟩,rfl⟩
  exact ⟨m,hm,n,hn,h,rfl⟩
 ·rintro ⟨m,hm,n,hn,h,rfl⟩
  exact ⟨m,hm,n,⟨hn,h⟩,rfl⟩
theorem O6 {a b:Au} (ha:a.Good) (hb:b.Good):(a.both b).states.toNat=a.states.toNat * b.states.toNat:=by
 have:=E9 (u:=0) ha.states (by omega) hb.states
 simpa [Au.both] using this
theorem NX {a b:Au} (ha:a.Good) (hb:b.Good):∀ (N:Nat) (t:Tm),SizeOf.sizeOf t < N→∀ i j:Nat,i < a.states.toNat→j < b.states.toNat →
  ((a.both b).ends t).getD (i * b.states.toNat + j) false=((a.ends t).getD i false && (b.ends t).getD j false):=by
 intro N
 induction N with
 | zero=>intro t h;omega
 | succ N ih =>
  intro t hN i j hi hj
  rw [Au.ends_get _ _ _ (by rw [O6 ha hb];exact WN hi hj),Au.ends_get _ _ _ hi,Au.ends_get _ _ _ hj]
  have key:∀ m ∈ a.moves,∀ n ∈ b.moves,m.frm.length=n.frm.length→A9 ((a.both b).endsL t.args) (C2 b.states m n)=(A9 (a.endsL t.args) m.frm && A9 (b.endsL t.args) n.frm):=fun m hm n hn hl=>by
   rw [Au.endsL_eq,Au.endsL_eq,Au.endsL_eq]
   exact Ll hb.states hl (ha.frm m hm) (hb.frm n hn) (fun x hx i j hi hj=>ih x (by have:=Tm.lt_of_arg hx;omega) i j hi hj)
  rw [Bool.eq_iff_iff,Bool.and_eq_true,List.any_eq_true,List.any_eq_true,List.any_eq_true]
  constructor
  ·rintro ⟨x,hx,h⟩
   obtain ⟨m,hm,n,hn,hmn,rfl⟩:=GP.1 hx
   simp only [IW,Bool.and_eq_true,decide_eq_true_eq] at hmn
   simp only [Mv.fits,Bool.and_eq_true,decide_eq_true_eq] at h
   obtain ⟨⟨h1,h2⟩,h3⟩:=h
   have h2':=(key m hm n hn hmn.2).symm.trans h2
   rw [Bool.and_eq_true] at h2'
   have q1:=ha.to_ m hm
   have q2:=hb.to_ n hn
   simp only [GJ] at h1 h3
   rw [E9 q1.1 q2.1 hb.states,U8 (by omega) hj] at h3
   refine ⟨⟨m,hm,?_⟩,⟨n,hn,?_⟩⟩
   ·simp [Mv.fits,h1,h2'.1,h3.1]
   ·simp [Mv.fits,← hmn.1,h1,h2'.2,h3.2]
  ·rintro ⟨⟨m,hm,h⟩,⟨n,hn,g⟩⟩
   simp only [Mv.fits,Bool.and_eq_true,decide_eq_true_eq] at h g
   have hl:m.frm.length=n.frm.length:=by
    rw [FX h.1.2,FX g.1.2,Au.endsL_eq,Au.endsL_eq,List.length_map,List.length_map]
   have q1:=ha.to_ m hm
   have q2:=hb.to_ n hn
   refine ⟨GJ b.states m n,GP.2 ⟨m,hm,n,hn,by simp [IW,h.1.1,g.1.1,hl],rfl⟩,?_⟩
   have h2:=key m hm n hn hl
   rw [h.1.2,g.1.2] at h2
   simp only [Mv.fits,Bool.and_eq_true,decide_eq_true_eq]
   refine ⟨⟨h.1.1,h2⟩,?_⟩
   simp only [GJ]
   rw [E9 q1.1 q2.1 hb.states,h.2,g.2]
theorem WD {a b:Au} (ha:a.Good) (hb:b.Good) (t:Tm):(a.both b).acc t=(a.acc t && b.acc t):=by
 unfold Au.acc
 have e:(a.both b).last=Aw b.states a.last b.last:=rfl
 rw [e,Bool.eq_iff_iff,Bool.and_eq_true,List.any_eq_true,List.any_eq_true,List.any_eq_true]
 unfold Aw
 constructor
 ·rintro ⟨x,hx,h⟩
  obtain ⟨s,hs,hx⟩:=List.mem_flatMap.1 hx
  obtain ⟨u,hu,rfl⟩:=List.mem_map.1 hx
  have q1:=ha.last s hs
  have q2:=hb.last u hu
  rw [E9 q1.1 q2.1 hb.states,NX ha hb _ t (Nat.lt_succ_self _) _ _ (by omega) (by omega),Bool.and_eq_true] at h
  exact ⟨⟨s,hs,h.1⟩,⟨u,hu,h.2⟩⟩
 ·rintro ⟨⟨s,hs,h⟩,⟨u,hu,g⟩⟩
  have q1:=ha.last s hs
  have q2:=hb.last u hu
  refine ⟨s * b.states + u,List.mem_flatMap.2 ⟨s,hs,List.mem_map.2 ⟨u,hu,rfl⟩⟩,?_⟩
  rw [E9 q1.1 q2.1 hb.states,NX ha hb _ t (Nat.lt_succ_self _) _ _ (by omega) (by omega),Bool.and_eq_true]
  exact ⟨h,g⟩
theorem HZ {e ea:Tm→List Bool}:∀ {ts:List Tm} {ss us:List Int},ss.length=us.length→(∀ t ∈ ts,∀ k,(h1:k < ss.length)→(h2:k < us.length)→(e t).getD (ss[k]).toNat false=(ea t).getD (us[k]).toNat false) →
  A9 (ts.map e) ss=A9 (ts.map ea) us
 | [],[],[],_,_=>rfl
 | [],_ :: _,_ :: _,_,_=>rfl
 | _ :: _,[],[],_,_=>rfl
 | t :: ts,s :: ss,u :: us,hl,h=>by
  simp only [List.map_cons,A9]
  have h0:=h t (by simp) 0 (by simp) (by simp)
  simp only [List.getElem_cons_zero] at h0
  rw [h0,HZ (by simpa using hl) (fun x hx k h1 h2=>by
   have:=h x (by simp [hx]) (k + 1) (by simpa using h1) (by simpa using h2)
   simpa using this)]
 | _,[],_ :: _,hl,_=>by simp at hl
 | _,_ :: _,[],hl,_=>by simp at hl
theorem G5 {a b:Au} (ha:a.Good) (hb:b.Good):(a.either b).states.toNat=a.states.toNat + b.states.toNat:=by
 have h1:=ha.states
 have h2:=hb.states
 simp only [Au.either]
 omega
theorem P9 {a b:Au} (ha:a.Good) (hb:b.Good):∀ (N:Nat) (t:Tm),SizeOf.sizeOf t < N →
  (∀ i:Nat,i < a.states.toNat→((a.either b).ends t).getD i false=(a.ends t).getD i false)∧(∀ j:Nat,j < b.states.toNat→((a.either b).ends t).getD (j + a.states.toNat) false=(b.ends t).getD j false):=by
 intro N
 induction N with
 | zero=>intro t h;omega
 | succ N ih =>
  intro t hN
  have hA:=ha.states
  have hB:=hb.states
  have k1:∀ m ∈ a.moves,A9 ((a.either b).endsL t.args) m.frm=A9 (a.endsL t.args) m.frm:=fun m hm=>by
   rw [Au.endsL_eq,Au.endsL_eq]
   refine HZ rfl (fun x hx k h1 h2=>?_)
   have:=ha.frm m hm _ (List.getElem_mem h1)
   exact (ih x (by have:=Tm.lt_of_arg hx;omega)).1 _ (by omega)
  have k2:∀ m ∈ b.moves,A9 ((a.either b).endsL t.args) (m.frm.map (· + a.states))=A9 (b.endsL t.args) m.frm:=fun m hm=>by
   rw [Au.endsL_eq,Au.endsL_eq]
   refine HZ (by simp) (fun x hx k h1 h2=>?_)
   have q:=hb.frm m hm _ (List.getElem_mem h2)
   have:=(ih x (by have:=Tm.lt_of_arg hx;omega)).2 (m.frm[k]).toNat (by omega)
   rw [List.getElem_map,← this]
   congr 1
   omega
  have e:(a.either b).moves=a.moves ++ b.moves.map (CS a.states):=rfl
  constructor
  ·intro i hi
   rw [Au.ends_get _ _ _ (by rw [G5 ha hb];omega),Au.ends_get _ _ _ hi,e,List.any_append]
   have h0:(b.moves.map (CS a.states)).any (fun m=>m.fits t.name ((a.either b).endsL t.args) && decide (m.to_.toNat=i))=false:=by
    rw [List.any_eq_false]
    intro x hx
    obtain ⟨m,hm,rfl⟩:=List.mem_map.1 hx
    have:=hb.to_ m hm
    intro h
    rw [Bool.and_eq_true] at h
    have h3:=of_decide_eq_true h.2
    simp only [CS] at h3
    omega
   rw [h0,Bool.or_false,Bool.eq_iff_iff,List.any_eq_true,List.any_eq_true]
   constructor <;> rintro ⟨m,hm,h⟩ <;> refine ⟨m,hm,?_⟩
   ·simpa [Mv.fits,k1 m hm] using h
   ·simpa [Mv.fits,k1 m hm] using h
  ·intro j hj
   rw [Au.ends_get _ _ _ (by rw [G5 ha hb];omega),Au.ends_get _ _ _ hj,e,List.any_append]
   have h0:a.moves.any (fun m=>m.fits t.name ((a.either b).endsL t.args) && decide (m.to_.toNat=j + a.states.toNat))=false:=by
    rw [List.any_eq_false]
    intro m hm
    have:=ha.to_ m hm
    simp only [Bool.and_eq_true,decide_eq_true_eq,not_and]
    intro _
    omega
   rw [h0,Bool.false_or,Bool.eq_iff_iff,List.any_eq_true,List.any_eq_true]
   have q:∀ m ∈ b.moves,((m.to_ + a.states).toNat=j + a.states.toNat ↔ m.to_.toNat=j):=fun m hm=>by
    have:=hb.to_ m hm
    omega
   constructor
   ·rintro ⟨x,hx,h⟩
    obtain ⟨m,hm,rfl⟩:=List.mem_map.1 hx
    simp only [CS,Mv.fits,Bool.and_eq_true,decide_eq_true_eq,k2 m hm,q m hm] at h
    refine ⟨m,hm,?_⟩
    simp only [Mv.fits,Bool.and_eq_true,decide_eq_true_eq]
    exact ⟨⟨of_decide_eq_true h.1.1,h.1.2⟩,h.2⟩
   ·rintro ⟨m,hm,h⟩
    refine ⟨CS a.states m,List.mem_map.2 ⟨m,hm,rfl⟩,?_⟩
    simp only [Mv.fits,Bool.and_eq_true,decide_eq_true_eq] at h
    simp only [CS,Mv.fits,Bool.and_eq_true,decide_eq_true_eq,k2 m hm,q m hm]
    exact ⟨⟨decide_eq_true h.1.1,h.1.2⟩,h.2⟩
theorem RH {a b:Au} (ha:a.Good) (hb:b.Good) (t:Tm):(a.either b).acc t=(a.acc t || b.acc t):=by
 obtain ⟨h1,h2⟩:=P9 ha hb _ t (Nat.lt_succ_self _)
 have hA:=ha.states
 unfold Au.acc
 have e:(a.either b).last=a.last ++ b.last.map (· + a.states):=rfl
 rw [e,List.any_append]
 congr 1
 ·rw [Bool.eq_iff_iff,List.any_eq_true,List.any_eq_true]
  constructor <;> rintro ⟨s,hs,h⟩ <;> refine ⟨s,hs,?_⟩
  ·have:=ha.last s hs
   rwa [h1 _ (by omega)] at h
  ·have:=ha.last s hs
   rwa [h1 _ (by omega)]
 ·rw [Bool.eq_iff_iff,List.any_eq_true,List.any_eq_true]
  have q:∀ s ∈ b.last,(s + a.states).toNat=s.toNat + a.states.toNat∧s.toNat < b.states.toNat:=fun s hs=>by
   have:=hb.last s hs
   omega
  constructor
  ·rintro ⟨x,hx,h⟩
   obtain ⟨s,hs,rfl⟩:=List.mem_map.1 hx
   obtain ⟨q1,q2⟩:=q s hs
   rw [q1,h2 _ q2] at h
   exact ⟨s,hs,h⟩
  ·rintro ⟨s,hs,h⟩
   obtain ⟨q1,q2⟩:=q s hs
   exact ⟨_,List.mem_map.2 ⟨s,hs,rfl⟩,by rw [q1,h2 _ q2];exact h⟩
theorem HI {i j A B:Int} (hi:0≤i∧i < A) (hj:0≤j∧j < B):0≤i * B + j∧i * B + j < A * B:=by
 have h1:0≤i * B:=Int.mul_nonneg hi.1 (by omega)
 have h2:(i + 1) * B≤A * B:=Int.mul_le_mul_of_nonneg_right (by omega) (by omega)
 rw [Int.add_mul] at h2
 omega
theorem L5 {m n:Mv} {A B:Int} (hm:∀ s ∈ m.frm,0≤s∧s < A) (hn:∀ s ∈ n.frm,0≤s∧s < B):∀ s ∈ C2 B m n,0≤s∧s < A * B:=by
 intro s hs
 unfold C2 at hs
 rw [List.mem_iff_getElem] at hs
 obtain ⟨k,hk,rfl⟩:=hs
 rw [List.getElem_zipWith]
 exact HI (hm _ (List.getElem_mem _)) (hn _ (List.getElem_mem _))
theorem HA (B:Int) (m:Mv) (ns:List Mv):(A8 B m ns).length≤ns.length:=by
 unfold A8
 rw [List.length_map]
 exact List.length_filter_le _ _
theorem EL (B:Int):∀ ms ns:List Mv,(BQ B ms ns).length≤ms.length * ns.length
 | [],ns=>by simp [BQ]
 | m :: ms,ns=>by
  have h1:=EL B ms ns
  have h2:=HA B m ns
  unfold BQ at h1 ⊢
  rw [List.flatMap_cons,List.length_append,List.length_cons,Nat.add_mul]
  omega
theorem Dr (B:Int):∀ ss ts:List Int,(Aw B ss ts).length=ss.length * ts.length
 | [],ts=>by simp [Aw]
 | s :: ss,ts=>by
  have h1:=Dr B ss ts
  unfold Aw at h1 ⊢
  rw [List.flatMap_cons,List.length_append,List.length_map,h1,List.length_cons,Nat.add_mul]
  omega
theorem VR {a b:Au} (ha:a.may 8 40=0) (hb:b.may 8 40=0):(a.both b).may 64 1600=0:=by
 have ga:=Au.may_good ha
 have gb:=Au.may_good hb
 obtain ⟨a1,a2,a3⟩:=Au.may_ok.1 ha
 obtain ⟨b1,b2,b3⟩:=Au.may_ok.1 hb
 refine Au.may_ok.2 ⟨⟨Int.mul_nonneg ga.states gb.states,?_,?_⟩,fun x hx=>?_,?_⟩
 ·have h1:a.states * b.states≤8 * b.states:=Int.mul_le_mul_of_nonneg_right a1.2.1 gb.states
  show a.states * b.states≤64
  omega
 ·have h1:=EL b.states a.moves b.moves
  have h2:a.moves.length * b.moves.length≤40 * b.moves.length:=Nat.mul_le_mul_right _ (by omega)
  show ((BQ b.states a.moves b.moves).length:Int)≤1600
  omega
 ·obtain ⟨m,hm,n,hn,hmn,rfl⟩:=GP.1 hx
  have q1:=Mv.err_ok.1 (a2 m hm)
  refine Mv.err_ok.2 ⟨q1.1,?_,?_,?_⟩
  ·simp only [GJ,C2,List.length_zipWith]
   omega
  ·exact List.all_eq_true.2 fun s hs=>B9.2 (L5 (ga.frm m hm) (gb.frm n hn) s hs)
  ·exact B9.2 (HI (ga.to_ m hm) (gb.to_ n hn))
 ·refine List.all_eq_true.2 fun x hx=>B9.2 ?_
  obtain ⟨s,hs,hx⟩:=List.mem_flatMap.1 hx
  obtain ⟨u,hu,rfl⟩:=List.mem_map.1 hx
  exact HI (ga.last s hs) (gb.last u hu)
theorem RX {a b:Au} (ha:a.may 8 40=0) (hb:b.may 8 40=0):(a.either b).may 64 1600=0:=by
 have ga:=Au.may_good ha
 have gb:=Au.may_good hb
 obtain ⟨a1,a2,a3⟩:=Au.may_ok.1 ha
 obtain ⟨b1,b2,b3⟩:=Au.may_ok.1 hb
 have e:(a.either b).states=a.states + b.states:=rfl
 refine Au.may_ok.2 ⟨⟨by rw [e];omega,by rw [e];omega,?_⟩,fun x hx=>?_,?_⟩
 ·simp only [Au.either,List.length_append,List.length_map]
  omega
 ·rw [e]
  rcases List.mem_append.1 hx with hx | hx
  ·have q:=Mv.err_ok.1 (a2 x hx)
   refine Mv.err_ok.2 ⟨q.1,q.2.1,List.all_eq_true.2 fun s hs=>B9.2 ?_,B9.2 ?_⟩
   ·have:=ga.frm x hx s hs
    omega
   ·have:=ga.to_ x hx
    omega
  ·obtain ⟨m,hm,rfl⟩:=List.mem_map.1 hx
   have q:=Mv.err_ok.1 (b2 m hm)
   refine Mv.err_ok.2 ⟨q.1,by simpa [CS] using q.2.1,List.all_eq_true.2 fun s hs=>B9.2 ?_,B9.2 ?_⟩
   ·obtain ⟨u,hu,rfl⟩:=List.mem_map.1 hs
    have:=gb.frm m hm u hu
    omega
   ·have:=gb.to_ m hm
    simp only [CS]
    omega
 ·rw [e]
  refine List.all_eq_true.2 fun x hx=>B9.2 ?_
  rcases List.mem_append.1 hx with hx | hx
  ·have:=ga.last x hx
   omega
  ·obtain ⟨u,hu,rfl⟩:=List.mem_map.1 hx
   have:=gb.last u hu
   omega

set_option maxRecDepth 100000
def B4:IR :=
 (.seq (.ops [.i 2 (.mov (.c (.one (.full []))))]) (.seq (.seq (.ops [.m 3 0,.i 4 (.eqN false (.t 3))]) (.cond (.t 4) (.seq (.ops [.i 2 (.mov (.c (.one (.full []))))]) .ret) .skip)) (.seq (.ops [.i 5 (.buildFlat []),.m 6 0,.i 7 (.append false 3 1 8 (.t 5) (.t 6)),.m 2 7]) .ret)))
theorem Cq:OkF Try.prog 49 8 [] B4 [.t 2]:=.of Try.func49 rfl rfl (by kernel_rfl) rfl
def Bz:IR :=
 (.seq (.ops [.i 4 (.mov (.c (.one (.st (.bool false)))))]) (.seq (.ops [.m 5 0,.m 6 1,.i 7 (.callS 87 [.t 5,.t 6]),.i 8 (.bin .geq (.t 7) (.n 0)),.m 4 8]) .ret))
theorem DS:OkF Try.prog 71 9 [7] Bz [.t 4]:=.of Try.func71 rfl rfl (by kernel_rfl) rfl
def CN:IR :=
 (.seq (.ops [.i 4 (.mov (.n 0))]) (.seq (.seq (.ops [.m 6 0,.i 7 (.len false (.t 6)),.i 8 (.mov (.n 0))]) (.block 0 (.loop (.seq (.ops [.i 9 (.bin .lss (.t 8) (.t 7))]) (.seq (.cond (.t 9) .skip (.exit 0)) (.seq (.block 1 (.seq (.ops [.m 10 8,.m 5 10]) (.seq (.ops [.m 11 1,.m 12 0,.m 13 5,.i 14 (.indexAddr 1 (.t 12) (.t 13)),.l 15 14,.i 16 (.callV (.t 11) [.t 15])]) (.cond (.t 16) (.seq (.ops [.m 17 5,.m 4 17]) .ret) .skip)))) (.ops [.i 18 (.bin .add (.t 8) (.n 1)),.m 8 18]))))))) (.seq (.ops [.i 4 (.mov (.c (.one (.st (.int .i64 (-1))))))]) .ret)))
theorem Dy:OkF Try.prog 87 19 [] CN [.t 4]:=.of Try.func87 rfl rfl (by kernel_rfl) rfl
def EY:IR :=
 (.seq (.ops [.i 3 (.mov (.c (.one (.st (.bool false)))))]) (.seq (.ops [.m 4 0,.i 5 (.bin .lss (.t 4) (.n 0)),.m 6 5,.mk (some 7) (some (6,false)) (.mov (.t 0)) .no,.mk (some 8) (some (6,false)) (.fieldAddr 0 (.t 1)) .no,.mk (some 9) (some (6,false)) (.load false 1 (.t 8)) .no,.mk (some 10) (some (6,false)) (.bin .geq (.t 7) (.t 9)) .no,.i 11 (.pick (.t 6) (.c (.one (.st (.bool true)))) (.t 10)),.m 3 11]) .ret))
theorem Hs:OkF Try.prog 72 12 [] EY [.t 3]:=.of Try.func72 rfl rfl (by kernel_rfl) rfl
def CC:IR :=
 (.seq (.ops [.i 3 (.box 25 (.t 0)),.i 6 (.mov (.n 0))]) (.seq (.seq (.ops [.f 11 0 3,.l 12 11,.i 13 (.bin .lss (.t 12) (.n 0)),.m 14 13,.mk (some 15) (some (14,false)) (.fieldAddr 0 (.t 3)) .no,.mk (some 16) (some (14,false)) (.load false 1 (.t 15)) .no,.mk (some 17) (some (14,false)) (.mov (.t 1)) .no,.mk (some 18) (some (14,false)) (.bin .gtr (.t 16) (.t 17)) .no,.i 19 (.pick (.t 14) (.c (.one (.st (.bool true)))) (.t 18)),.m 20 19,.mk (some 21) (some (20,false)) (.fieldAddr 1 (.t 3)) .no,.mk (some 22) (some (20,false)) (.load false 1 (.t 21)) .no,.mk (some 23) (some (20,false)) (.len false (.t 22)) .no,.mk (some 24) (some (20,false)) (.mov (.t 2)) .no,.mk (some 25) (some (20,false)) (.bin .gtr (.t 23) (.t 24)) .no,.i 26 (.pick (.t 20) (.c (.one (.st (.bool true)))) (.t 25))]) (.cond (.t 26) (.seq (.ops [.i 6 (.mov (.n 3))]) .ret) .skip)) (.seq (.seq (.ops [.f 27 1 3,.l 28 27,.i 29 (.len false (.t 28)),.i 30 (.mov (.n 0))]) (.block 0 (.loop (.seq (.ops [.i 31 (.bin .lss (.t 30) (.t 29))]) (.seq (.cond (.t 31) .skip (.exit 0)) (.seq (.block 1 (.seq (.ops [.i 32 (.indexAddr 3 (.t 28) (.t 30)),.L 33 3 32,.i 8 (.alloc 46 [.st (.str (ByteArray.mk (#[]))),.full [],.st (.int .i64 0)]),.s 3 8 33]) (.seq (.seq (.ops [.f 34 0 8,.l 35 34,.i 36 (.call 69 [.t 35]),.i 37 (.un .not (.t 36)),.m 38 37,.mk (some 39) (some (38,false)) (.fieldAddr 0 (.t 8)) .no,.mk (some 40) (some (38,false)) (.load false 1 (.t 39)) .no,.mk (some 41) (some (38,false)) (.call 70 [.t 40]) .no,.i 42 (.pick (.t 38) (.c (.one (.st (.bool true)))) (.t 41))]) (.cond (.t 42) (.seq (.ops [.i 6 (.mov (.n 1))]) .ret) .skip)) (.seq (.seq (.ops [.f 43 1 8,.l 44 43,.i 45 (.len false (.t 44)),.i 46 (.bin .gtr (.t 45) (.n 4))]) (.cond (.t 46) (.seq (.ops [.i 6 (.mov (.n 3))]) .ret) .skip)) (.seq (.ops [.f 47 1 8,.l 48 47,.mk (some 49) none (.callN 49 [.t 48]) (.keeps [8,8]),.mk (some 50) none (.fieldAddr 2 (.t 8)) (.onb 8),.mk (some 51) none (.load false 1 (.t 50)) (.onb 8),.i 52 (.buildFlat [.t 51]),.i 53 (.append false 3 1 8 (.t 49) (.t 52)),.i 54 (.len false (.t 53)),.i 55 (.mov (.n 0))]) (.block 2 (.loop (.seq (.ops [.i 56 (.bin .lss (.t 55) (.t 54))]) (.seq (.cond (.t 56) .skip (.exit 2)) (.seq (.block 3 (.seq (.ops [.i 57 (.indexAddr 1 (.t 53) (.t 55)),.l 58 57,.m 10 58]) (.seq (.ops [.m 59 10,.i 60 (.bin .lss (.t 59) (.n 0)),.m 61 60,.mk (some 62) (some (61,false)) (.mov (.t 10)) .no,.mk (some 63) (some (61,false)) (.fieldAddr 0 (.t 3)) .no,.mk (some 64) (some (61,false)) (.load false 1 (.t 63)) .no,.mk (some 65) (some (61,false)) (.bin .geq (.t 62) (.t 64)) .no,.i 66 (.pick (.t 61) (.c (.one (.st (.bool true)))) (.t 65))]) (.cond (.t 66) (.seq (.ops [.i 6 (.mov (.n 10))]) .ret) .skip)))) (.ops [.i 67 (.bin .add (.t 55) (.n 1)),.m 55 67]))))))))))) (.ops [.i 68 (.bin .add (.t 30) (.n 1)),.m 30 68]))))))) (.seq (.seq (.ops [.f 69 2 3,.l 70 69,.i 71 (.makeFunc 72 [.t 3]),.i 72 (.callS 71 [.t 70,.t 71])]) (.cond (.t 72) (.seq (.ops [.i 6 (.mov (.n 10))]) .ret) .skip)) (.seq (.ops [.i 6 (.mov (.n 0))]) .ret)))))
theorem Cl:OkF Try.prog 56 73 [20000049,72] CC [.t 6]:=.of Try.func56 rfl rfl (by kernel_rfl) rfl
def G8:IR :=
 (.seq (.ops [.i 1 (.box 25 (.t 0)),.i 2 (.mov (.n 0))]) (.seq (.ops [.L 3 3 1,.i 4 (.call 56 [.t 3,.n 8,.n 40]),.m 2 4]) .ret))
theorem L6:OkF Try.prog 34 5 [] G8 [.t 2]:=.of Try.func34 rfl rfl (by kernel_rfl) rfl
def Fh:IR :=
 (.seq (.ops [.i 2 (.box 25 (.t 0)),.i 3 (.box 25 (.t 1)),.i 4 (.mov (.n 0))]) (.seq (.seq (.ops [.L 6 3 2,.i 7 (.call 34 [.t 6]),.m 5 7]) (.seq (.ops [.m 8 5,.i 9 (.bin .neq (.t 8) (.n 0))]) (.cond (.t 9) (.seq (.ops [.m 10 5,.m 4 10]) .ret) .skip))) (.seq (.ops [.L 11 3 3,.i 12 (.call 34 [.t 11]),.m 4 12]) .ret)))
theorem Ic:OkF Try.prog 29 13 [] Fh [.t 4]:=.of Try.func29 rfl rfl (by kernel_rfl) rfl
def Fn:IR :=
 (.seq (.ops [.i 2 (.box 25 (.t 0)),.i 3 (.box 25 (.t 1)),.i 4 (.alloc 25 [.st (.int .i64 0),.full [],.full []]),.i 5 (.mov (.n 0))]) (.seq (.seq (.ops [.L 18 3 2,.L 19 3 3,.i 20 (.call 29 [.t 18,.t 19]),.m 6 20]) (.seq (.ops [.m 21 6,.i 22 (.bin .neq (.t 21) (.n 0))]) (.cond (.t 22) (.seq (.ops [.i 23 (.build [.st (.int .i64 0),.full [],.full []] []),.m 24 6,.s 3 4 23,.m 5 24]) .ret) .skip))) (.seq (.ops [.f 25 0 2,.l 26 25,.f 27 0 3,.l 28 27,.i 29 (.bin .mul (.t 26) (.t 28)),.i 30 (.build [.st (.int .i64 0),.full [],.full []] [(0,1,.t 29)]),.i 7 (.alloc 25 [.st (.int .i64 0),.full [],.full []]),.s 3 7 30]) (.seq (.seq (.ops [.f 31 1 2,.l 32 31,.i 33 (.len false (.t 32)),.i 34 (.mov (.n 0))]) (.block 0 (.loop (.seq (.ops [.i 35 (.bin .lss (.t 34) (.t 33))]) (.seq (.cond (.t 35) .skip (.exit 0)) (.seq (.block 1 (.seq (.ops [.i 36 (.indexAddr 3 (.t 32) (.t 34)),.L 37 3 36,.i 9 (.alloc 46 [.st (.str (ByteArray.mk (#[]))),.full [],.st (.int .i64 0)]),.s 3 9 37]) (.seq (.ops [.f 38 1 3,.l 39 38,.i 40 (.len false (.t 39)),.i 41 (.mov (.n 0))]) (.block 2 (.loop (.seq (.ops [.i 42 (.bin .lss (.t 41) (.t 40))]) (.seq (.cond (.t 42) .skip (.exit 2)) (.seq (.block 3 (.seq (.ops [.i 43 (.indexAddr 3 (.t 39) (.t 41)),.L 44 3 43,.i 11 (.alloc 46 [.st (.str (ByteArray.mk (#[]))),.full [],.st (.int .i64 0)]),.s 3 11 44]) (.seq (.seq (.ops [.f 45 0 9,.l 46 45,.f 47 0 11,.l 48 47,.i 49 (.bin .neq (.t 46) (.t 48)),.m 50 49,.mk (some 51) (some (50,false)) (.fieldAddr 1 (.t 9)) .no,.mk (some 52) (some (50,false)) (.load false 1 (.t 51)) .no,.mk (some 53) (some (50,false)) (.len false (.t 52)) .no,.mk (some 54) (some (50,false)) (.fieldAddr 1 (.t 11)) .no,.mk (some 55) (some (50,false)) (.load false 1 (.t 54)) .no,.mk (some 56) (some (50,false)) (.len false (.t 55)) .no,.mk (some 57) (some (50,false)) (.bin .neq (.t 53) (.t 56)) .no,.i 58 (.pick (.t 50) (.c (.one (.st (.bool true)))) (.t 57))]) (.cond (.t 58) (.exit 3) .skip)) (.seq (.ops [.f 59 0 9,.l 60 59,.f 61 2 9,.l 62 61,.f 63 0 3,.l 64 63,.i 65 (.bin .mul (.t 62) (.t 64)),.f 66 2 11,.l 67 66,.i 68 (.bin .add (.t 65) (.t 67)),.i 69 (.build [.st (.str (ByteArray.mk (#[]))),.full [],.st (.int .i64 0)] [(0,1,.t 60),(2,1,.t 68)]),.i 12 (.alloc 46 [.st (.str (ByteArray.mk (#[]))),.full [],.st (.int .i64 0)]),.s 3 12 69]) (.seq (.seq (.ops [.f 70 1 9,.l 71 70,.i 72 (.len false (.t 71)),.i 73 (.mov (.n 0))]) (.block 4 (.loop (.seq (.ops [.i 74 (.bin .lss (.t 73) (.t 72))]) (.seq (.cond (.t 74) .skip (.exit 4)) (.seq (.block 5 (.seq (.ops [.m 75 73,.m 13 75]) (.ops [.f 76 1 12,.l 77 76,.f 78 1 9,.l 79 78,.m 80 13,.i 81 (.indexAddr 1 (.t 79) (.t 80)),.l 82 81,.f 83 0 3,.l 84 83,.i 85 (.bin .mul (.t 82) (.t 84)),.f 86 1 11,.l 87 86,.m 88 13,.i 89 (.indexAddr 1 (.t 87) (.t 88)),.l 90 89,.i 91 (.bin .add (.t 85) (.t 90)),.i 92 (.buildFlat [.t 91]),.i 93 (.append false 3 1 8 (.t 77) (.t 92)),.f 94 1 12,.s 1 94 93]))) (.ops [.i 95 (.bin .add (.t 73) (.n 1)),.m 73 95]))))))) (.ops [.f 96 1 7,.l 97 96,.L 98 3 12,.i 99 (.buildSlice false 46 3 [.t 98]),.i 100 (.append false 46 3 48 (.t 97) (.t 99)),.f 101 1 7,.s 1 101 100])))))) (.ops [.i 102 (.bin .add (.t 41) (.n 1)),.m 41 102]))))))))) (.ops [.i 103 (.bin .add (.t 34) (.n 1)),.m 34 103]))))))) (.seq (.seq (.ops [.f 104 2 2,.l 105 104,.i 106 (.len false (.t 105)),.i 107 (.mov (.n 0))]) (.block 6 (.loop (.seq (.ops [.i 108 (.bin .lss (.t 107) (.t 106))]) (.seq (.cond (.t 108) .skip (.exit 6)) (.seq (.block 7 (.seq (.ops [.i 109 (.indexAddr 1 (.t 105) (.t 107)),.l 110 109,.m 15 110]) (.seq (.ops [.f 111 2 3,.l 112 111,.i 113 (.len false (.t 112)),.i 114 (.mov (.n 0))]) (.block 8 (.loop (.seq (.ops [.i 115 (.bin .lss (.t 114) (.t 113))]) (.seq (.cond (.t 115) .skip (.exit 8)) (.seq (.block 9 (.seq (.ops [.i 116 (.indexAddr 1 (.t 112) (.t 114)),.l 117 116,.m 17 117]) (.ops [.f 118 2 7,.l 119 118,.m 120 15,.f 121 0 3,.l 122 121,.i 123 (.bin .mul (.t 120) (.t 122)),.m 124 17,.i 125 (.bin .add (.t 123) (.t 124)),.i 126 (.buildFlat [.t 125]),.i 127 (.append false 3 1 8 (.t 119) (.t 126)),.f 128 2 7,.s 1 128 127]))) (.ops [.i 129 (.bin .add (.t 114) (.n 1)),.m 114 129]))))))))) (.ops [.i 130 (.bin .add (.t 107) (.n 1)),.m 107 130]))))))) (.seq (.ops [.L 131 3 7,.s 3 4 131,.i 5 (.mov (.n 0))]) .ret))))))
theorem Ih:OkF Try.prog 20 132 [] Fn [.cell 4 true 3,.t 5]:=.of Try.func20 rfl rfl (by kernel_rfl) rfl
def D9:IR :=
 (.seq (.ops [.i 2 (.box 25 (.t 0)),.i 3 (.box 25 (.t 1)),.i 4 (.alloc 25 [.st (.int .i64 0),.full [],.full []]),.i 5 (.mov (.n 0))]) (.seq (.seq (.ops [.L 17 3 2,.L 18 3 3,.i 19 (.call 29 [.t 17,.t 18]),.m 6 19]) (.seq (.ops [.m 20 6,.i 21 (.bin .neq (.t 20) (.n 0))]) (.cond (.t 21) (.seq (.ops [.i 22 (.build [.st (.int .i64 0),.full [],.full []] []),.m 23 6,.s 3 4 22,.m 5 23]) .ret) .skip))) (.seq (.ops [.f 24 0 2,.l 25 24,.f 26 0 3,.l 27 26,.i 28 (.bin .add (.t 25) (.t 27)),.f 29 2 2,.l 30 29,.i 31 (.callN 49 [.t 30]),.i 32 (.build [.st (.int .i64 0),.full [],.full []] [(0,1,.t 28),(2,1,.t 31)]),.i 7 (.alloc 25 [.st (.int .i64 0),.full [],.full []]),.s 3 7 32]) (.seq (.seq (.ops [.f 33 1 2,.l 34 33,.i 35 (.len false (.t 34)),.i 36 (.mov (.n 0))]) (.block 0 (.loop (.seq (.ops [.i 37 (.bin .lss (.t 36) (.t 35))]) (.seq (.cond (.t 37) .skip (.exit 0)) (.seq (.block 1 (.seq (.ops [.i 38 (.indexAddr 3 (.t 34) (.t 36)),.L 39 3 38,.i 9 (.alloc 46 [.st (.str (ByteArray.mk (#[]))),.full [],.st (.int .i64 0)]),.s 3 9 39]) (.ops [.f 40 1 7,.l 41 40,.f 42 0 9,.l 43 42,.f 44 1 9,.l 45 44,.i 46 (.call 49 [.t 45]),.f 47 2 9,.l 48 47,.i 49 (.build [.st (.str (ByteArray.mk (#[]))),.full [],.st (.int .i64 0)] [(0,1,.t 43),(1,1,.t 46),(2,1,.t 48)]),.i 50 (.buildSlice false 46 3 [.t 49]),.i 51 (.append false 46 3 48 (.t 41) (.t 50)),.f 52 1 7,.s 1 52 51]))) (.ops [.i 53 (.bin .add (.t 36) (.n 1)),.m 36 53]))))))) (.seq (.seq (.ops [.f 54 1 3,.l 55 54,.i 56 (.len false (.t 55)),.i 57 (.mov (.n 0))]) (.block 2 (.loop (.seq (.ops [.i 58 (.bin .lss (.t 57) (.t 56))]) (.seq (.cond (.t 58) .skip (.exit 2)) (.seq (.block 3 (.seq (.ops [.i 59 (.indexAddr 3 (.t 55) (.t 57)),.L 60 3 59,.i 11 (.alloc 46 [.st (.str (ByteArray.mk (#[]))),.full [],.st (.int .i64 0)]),.s 3 11 60]) (.seq (.ops [.f 61 0 11,.l 62 61,.f 63 2 11,.l 64 63,.f 65 0 2,.l 66 65,.i 67 (.bin .add (.t 64) (.t 66)),.i 68 (.build [.st (.str (ByteArray.mk (#[]))),.full [],.st (.int .i64 0)] [(0,1,.t 62),(2,1,.t 67)]),.i 12 (.alloc 46 [.st (.str (ByteArray.mk (#[]))),.full [],.st (.int .i64 0)]),.s 3 12 68]) (.seq (.seq (.ops [.f 69 1 11,.l 70 69,.i 71 (.len false (.t 70)),.i 72 (.mov (.n 0))]) (.block 4 (.loop (.seq (.ops [.i 73 (.bin .lss (.t 72) (.t 71))]) (.seq (.cond (.t 73) .skip (.exit 4)) (.seq (.block 5 (.seq (.ops [.i 74 (.indexAddr 1 (.t 70) (.t 72)),.l 75 74,.m 14 75]) (.ops [.f 76 1 12,.l 77 76,.m 78 14,.f 79 0 2,.l 80 79,.i 81 (.bin .add (.t 78) (.t 80)),.i 82 (.buildFlat [.t 81]),.i 83 (.append false 3 1 8 (.t 77) (.t 82)),.f 84 1 12,.s 1 84 83]))) (.ops [.i 85 (.bin .add (.t 72) (.n 1)),.m 72 85]))))))) (.ops [.f 86 1 7,.l 87 86,.L 88 3 12,.i 89 (.buildSlice false 46 3 [.t 88]),.i 90 (.append false 46 3 48 (.t 87) (.t 89)),.f 91 1 7,.s 1 91 90]))))) (.ops [.i 92 (.bin .add (.t 57) (.n 1)),.m 57 92]))))))) (.seq (.seq (.ops [.f 93 2 3,.l 94 93,.i 95 (.len false (.t 94)),.i 96 (.mov (.n 0))]) (.block 6 (.loop (.seq (.ops [.i 97 (.bin .lss (.t 96) (.t 95))]) (.seq (.cond (.t 97) .skip (.exit 6)) (.seq (.block 7 (.seq (.ops [.i 98 (.indexAddr 1 (.t 94) (.t 96)),.l 99 98,.m 16 99]) (.ops [.f 100 2 7,.l 101 100,.m 102 16,.f 103 0 2,.l 104 103,.i 105 (.bin .add (.t 102) (.t 104)),.i 106 (.buildFlat [.t 105]),.i 107 (.append false 3 1 8 (.t 101) (.t 106)),.f 108 2 7,.s 1 108 107]))) (.ops [.i 109 (.bin .add (.t 96) (.n 1)),.m 96 109]))))))) (.seq (.ops [.L 110 3 7,.s 3 4 110,.i 5 (.mov (.n 0))]) .ret)))))))
theorem F2:OkF Try.prog 21 111 [20000031] D9 [.cell 4 true 3,.t 5]:=.of Try.func21 rfl rfl (by kernel_rfl) rfl
def C0:IR :=
 (.seq (.ops [.i 3 (.box 25 (.t 0)),.i 6 (.mov (.n 0))]) (.seq (.seq (.ops [.f 11 0 3,.l 12 11,.i 13 (.bin .lss (.t 12) (.n 0)),.m 14 13,.mk (some 15) (some (14,false)) (.fieldAddr 0 (.t 3)) .no,.mk (some 16) (some (14,false)) (.load false 1 (.t 15)) .no,.mk (some 17) (some (14,false)) (.mov (.t 1)) .no,.mk (some 18) (some (14,false)) (.bin .gtr (.t 16) (.t 17)) .no,.i 19 (.pick (.t 14) (.c (.one (.st (.bool true)))) (.t 18)),.m 20 19,.mk (some 21) (some (20,false)) (.fieldAddr 1 (.t 3)) .no,.mk (some 22) (some (20,false)) (.load false 1 (.t 21)) .no,.mk (some 23) (some (20,false)) (.len false (.t 22)) .no,.mk (some 24) (some (20,false)) (.mov (.t 2)) .no,.mk (some 25) (some (20,false)) (.bin .gtr (.t 23) (.t 24)) .no,.i 26 (.pick (.t 20) (.c (.one (.st (.bool true)))) (.t 25))]) (.cond (.t 26) (.seq (.ops [.i 6 (.mov (.n 3))]) .ret) .skip)) (.seq (.seq (.ops [.i 7 (.mov (.n 0))]) (.block 0 (.loop (.seq (.seq (.ops [.m 27 7,.f 28 1 3,.l 29 28,.i 30 (.len false (.t 29)),.i 31 (.bin .lss (.t 27) (.t 30))]) (.cond (.t 31) .skip (.exit 0))) (.seq (.block 1 (.seq (.ops [.f 34 1 3,.l 35 34,.m 36 7,.i 37 (.indexAddr 3 (.t 35) (.t 36)),.L 38 3 37,.i 8 (.alloc 46 [.st (.str (ByteArray.mk (#[]))),.full [],.st (.int .i64 0)]),.s 3 8 38]) (.seq (.seq (.ops [.f 39 0 8,.l 40 39,.i 41 (.call 22 [.t 40]),.i 42 (.un .not (.t 41)),.m 43 42,.mk (some 44) (some (43,false)) (.fieldAddr 0 (.t 8)) .no,.mk (some 45) (some (43,false)) (.load false 1 (.t 44)) .no,.mk (some 46) (some (43,false)) (.call 23 [.t 45]) .no,.i 47 (.pick (.t 43) (.c (.one (.st (.bool true)))) (.t 46))]) (.cond (.t 47) (.seq (.ops [.i 6 (.mov (.n 1))]) .ret) .skip)) (.seq (.seq (.ops [.f 48 1 8,.l 49 48,.i 50 (.len false (.t 49)),.i 51 (.bin .gtr (.t 50) (.n 4))]) (.cond (.t 51) (.seq (.ops [.i 6 (.mov (.n 3))]) .ret) .skip)) (.seq (.seq (.ops [.i 9 (.mov (.n 0))]) (.block 2 (.loop (.seq (.seq (.ops [.m 52 9,.f 53 1 8,.l 54 53,.i 55 (.len false (.t 54)),.i 56 (.bin .lss (.t 52) (.t 55))]) (.cond (.t 56) .skip (.exit 2))) (.seq (.block 3 (.seq (.ops [.f 59 1 8,.l 60 59,.m 61 9,.i 62 (.indexAddr 1 (.t 60) (.t 61)),.l 63 62,.i 64 (.bin .lss (.t 63) (.n 0)),.m 65 64,.mk (some 66) (some (65,false)) (.fieldAddr 1 (.t 8)) .no,.mk (some 67) (some (65,false)) (.load false 1 (.t 66)) .no,.mk (some 68) (some (65,false)) (.mov (.t 9)) .no,.mk (some 69) (some (65,false)) (.indexAddr 1 (.t 67) (.t 68)) .no,.mk (some 70) (some (65,false)) (.load false 1 (.t 69)) .no,.mk (some 71) (some (65,false)) (.fieldAddr 0 (.t 3)) .no,.mk (some 72) (some (65,false)) (.load false 1 (.t 71)) .no,.mk (some 73) (some (65,false)) (.bin .geq (.t 70) (.t 72)) .no,.i 74 (.pick (.t 65) (.c (.one (.st (.bool true)))) (.t 73))]) (.cond (.t 74) (.seq (.ops [.i 6 (.mov (.n 10))]) .ret) .skip))) (.ops [.m 57 9,.i 58 (.bin .add (.t 57) (.n 1)),.m 9 58])))))) (.seq (.ops [.f 75 2 8,.l 76 75,.i 77 (.bin .lss (.t 76) (.n 0)),.m 78 77,.mk (some 79) (some (78,false)) (.fieldAddr 2 (.t 8)) .no,.mk (some 80) (some (78,false)) (.load false 1 (.t 79)) .no,.mk (some 81) (some (78,false)) (.fieldAddr 0 (.t 3)) .no,.mk (some 82) (some (78,false)) (.load false 1 (.t 81)) .no,.mk (some 83) (some (78,false)) (.bin .geq (.t 80) (.t 82)) .no,.i 84 (.pick (.t 78) (.c (.one (.st (.bool true)))) (.t 83))]) (.cond (.t 84) (.seq (.ops [.i 6 (.mov (.n 10))]) .ret) .skip))))))) (.ops [.m 32 7,.i 33 (.bin .add (.t 32) (.n 1)),.m 7 33])))))) (.seq (.seq (.ops [.i 10 (.mov (.n 0))]) (.block 4 (.loop (.seq (.seq (.ops [.m 85 10,.f 86 2 3,.l 87 86,.i 88 (.len false (.t 87)),.i 89 (.bin .lss (.t 85) (.t 88))]) (.cond (.t 89) .skip (.exit 4))) (.seq (.block 5 (.seq (.ops [.f 92 2 3,.l 93 92,.m 94 10,.i 95 (.indexAddr 1 (.t 93) (.t 94)),.l 96 95,.i 97 (.bin .lss (.t 96) (.n 0)),.m 98 97,.mk (some 99) (some (98,false)) (.fieldAddr 2 (.t 3)) .no,.mk (some 100) (some (98,false)) (.load false 1 (.t 99)) .no,.mk (some 101) (some (98,false)) (.mov (.t 10)) .no,.mk (some 102) (some (98,false)) (.indexAddr 1 (.t 100) (.t 101)) .no,.mk (some 103) (some (98,false)) (.load false 1 (.t 102)) .no,.mk (some 104) (some (98,false)) (.fieldAddr 0 (.t 3)) .no,.mk (some 105) (some (98,false)) (.load false 1 (.t 104)) .no,.mk (some 106) (some (98,false)) (.bin .geq (.t 103) (.t 105)) .no,.i 107 (.pick (.t 98) (.c (.one (.st (.bool true)))) (.t 106))]) (.cond (.t 107) (.seq (.ops [.i 6 (.mov (.n 10))]) .ret) .skip))) (.ops [.m 90 10,.i 91 (.bin .add (.t 90) (.n 1)),.m 10 91])))))) (.seq (.ops [.i 6 (.mov (.n 0))]) .ret)))))
theorem D0:OkF Try.prog 8 108 [] C0 [.t 6]:=.of Try.func8 rfl rfl (by kernel_rfl) rfl
def GS:IR :=
 (.seq (.ops [.i 2 (.box 25 (.t 0)),.i 3 (.box 39 (.t 1)),.i 4 (.mov (.c (.one (.full []))))]) (.seq (.ops [.i 5 (.mov (.c (.one (.full []))))]) (.seq (.seq (.ops [.i 6 (.mov (.n 0))]) (.block 0 (.loop (.seq (.seq (.ops [.m 7 6,.f 8 1 3,.l 9 8,.i 10 (.len false (.t 9)),.i 11 (.bin .lss (.t 7) (.t 10))]) (.cond (.t 11) .skip (.exit 0))) (.seq (.block 1 (.ops [.m 14 5,.L 15 3 2,.f 16 1 3,.l 17 16,.m 18 6,.i 19 (.indexAddr 2 (.t 17) (.t 18)),.L 20 2 19,.i 21 (.call 26 [.t 15,.t 20]),.i 22 (.buildSlice false 55 1 [.t 21]),.i 23 (.append false 55 1 24 (.t 14) (.t 22)),.m 5 23])) (.ops [.m 12 6,.i 13 (.bin .add (.t 12) (.n 1)),.m 6 13])))))) (.seq (.ops [.L 24 3 2,.f 25 0 3,.l 26 25,.m 27 5,.i 28 (.call 52 [.t 24,.t 26,.t 27]),.m 4 28]) .ret))))
theorem Js:OkF Try.prog 26 29 [] GS [.t 4]:=.of Try.func26 rfl rfl (by kernel_rfl) rfl
def Jg:IR :=
 (.seq (.ops [.i 3 (.box 25 (.t 0)),.i 6 (.mov (.c (.one (.full []))))]) (.seq (.ops [.f 12 0 3,.l 13 12,.i 14 (.makeSlice 4 1 1 [.bool false] (.t 13) (.t 13)),.m 7 14]) (.seq (.seq (.ops [.i 8 (.mov (.n 0))]) (.block 0 (.loop (.seq (.seq (.ops [.m 15 8,.f 16 1 3,.l 17 16,.i 18 (.len false (.t 17)),.i 19 (.bin .lss (.t 15) (.t 18))]) (.cond (.t 19) .skip (.exit 0))) (.seq (.block 1 (.seq (.ops [.f 22 1 3,.l 23 22,.m 24 8,.i 25 (.indexAddr 3 (.t 23) (.t 24)),.L 26 3 25,.i 9 (.alloc 46 [.st (.str (ByteArray.mk (#[]))),.full [],.st (.int .i64 0)]),.s 3 9 26]) (.seq (.seq (.ops [.f 27 0 9,.l 28 27,.m 29 1,.i 30 (.bin .neq (.t 28) (.t 29)),.m 31 30,.mk (some 32) (some (31,false)) (.fieldAddr 1 (.t 9)) .no,.mk (some 33) (some (31,false)) (.load false 1 (.t 32)) .no,.mk (some 34) (some (31,false)) (.len false (.t 33)) .no,.mk (some 35) (some (31,false)) (.mov (.t 2)) .no,.mk (some 36) (some (31,false)) (.len false (.t 35)) .no,.mk (some 37) (some (31,false)) (.bin .neq (.t 34) (.t 36)) .no,.i 38 (.pick (.t 31) (.c (.one (.st (.bool true)))) (.t 37))]) (.cond (.t 38) (.exit 1) .skip)) (.seq (.ops [.i 10 (.mov (.c (.one (.st (.bool true)))))]) (.seq (.seq (.ops [.i 11 (.mov (.n 0))]) (.block 2 (.loop (.seq (.seq (.ops [.m 39 11,.m 40 2,.i 41 (.len false (.t 40)),.i 42 (.bin .lss (.t 39) (.t 41))]) (.cond (.t 42) .skip (.exit 2))) (.seq (.block 3 (.ops [.m 45 10,.m 46 45,.mk (some 47) (some (46,true)) (.mov (.t 2)) .no,.mk (some 48) (some (46,true)) (.mov (.t 11)) .no,.mk (some 49) (some (46,true)) (.indexAddr 1 (.t 47) (.t 48)) .no,.mk (some 50) (some (46,true)) (.load false 1 (.t 49)) .no,.mk (some 51) (some (46,true)) (.fieldAddr 1 (.t 9)) .no,.mk (some 52) (some (46,true)) (.load false 1 (.t 51)) .no,.mk (some 53) (some (46,true)) (.mov (.t 11)) .no,.mk (some 54) (some (46,true)) (.indexAddr 1 (.t 52) (.t 53)) .no,.mk (some 55) (some (46,true)) (.load false 1 (.t 54)) .no,.mk (some 56) (some (46,true)) (.indexAddr 1 (.t 50) (.t 55)) .no,.mk (some 57) (some (46,true)) (.load false 1 (.t 56)) .no,.i 58 (.pick (.t 46) (.t 57) (.c (.one (.st (.bool false))))),.m 10 58])) (.ops [.m 43 11,.i 44 (.bin .add (.t 43) (.n 1)),.m 11 44])))))) (.seq (.ops [.m 59 10]) (.cond (.t 59) (.ops [.m 60 7,.f 61 2 9,.l 62 61,.i 63 (.indexAddr 1 (.t 60) (.t 62)),.mk none none (.store 1 (.t 63) (.c (.one (.st (.bool true))))) .no]) .skip))))))) (.ops [.m 20 8,.i 21 (.bin .add (.t 20) (.n 1)),.m 8 21])))))) (.seq (.ops [.m 64 7,.m 6 64]) .ret))))
theorem P6:OkF Try.prog 52 65 [] Jg [.t 6]:=.of Try.func52 rfl rfl (by kernel_rfl) rfl
def Kl:IR :=
 (.seq (.ops [.i 2 (.box 25 (.t 0)),.i 4 (.mov (.c (.one (.st (.bool false)))))]) (.seq (.seq (.ops [.i 5 (.mov (.n 0))]) (.block 0 (.loop (.seq (.seq (.ops [.m 6 5,.f 7 2 2,.l 8 7,.i 9 (.len false (.t 8)),.i 10 (.bin .lss (.t 6) (.t 9))]) (.cond (.t 10) .skip (.exit 0))) (.seq (.block 1 (.seq (.ops [.m 13 1,.f 14 2 2,.l 15 14,.m 16 5,.i 17 (.indexAddr 1 (.t 15) (.t 16)),.l 18 17,.i 19 (.indexAddr 1 (.t 13) (.t 18)),.l 20 19]) (.cond (.t 20) (.seq (.ops [.i 4 (.mov (.c (.one (.st (.bool true)))))]) .ret) .skip))) (.ops [.m 11 5,.i 12 (.bin .add (.t 11) (.n 1)),.m 5 12])))))) (.seq (.ops [.i 4 (.mov (.c (.one (.st (.bool false)))))]) .ret)))
theorem Ra:OkF Try.prog 53 21 [] Kl [.t 4]:=.of Try.func53 rfl rfl (by kernel_rfl) rfl
def ES:IR :=
 (.seq (.ops [.i 2 (.box 25 (.t 0)),.i 3 (.box 39 (.t 1)),.i 4 (.mov (.c (.one (.st (.bool false)))))]) (.seq (.ops [.L 5 3 2,.L 6 3 2,.L 7 2 3,.i 8 (.call 26 [.t 6,.t 7]),.i 9 (.call 53 [.t 5,.t 8]),.m 4 9]) .ret))
theorem GL:OkF Try.prog 27 10 [] ES [.t 4]:=.of Try.func27 rfl rfl (by kernel_rfl) rfl
def G6:IR :=
 (.seq (.ops [.i 1 (.box 25 (.t 0)),.i 2 (.mov (.c (.one (.st (.bool false)))))]) (.seq (.seq (.ops [.i 3 (.mov (.n 0))]) (.block 0 (.loop (.seq (.seq (.ops [.m 4 3,.f 5 1 1,.l 6 5,.i 7 (.len false (.t 6)),.i 8 (.bin .lss (.t 4) (.t 7))]) (.cond (.t 8) .skip (.exit 0))) (.seq (.block 1 (.seq (.ops [.f 11 1 1,.l 12 11,.m 13 3,.i 14 (.indexAddr 3 (.t 12) (.t 13)),.f 15 1 14,.l 16 15,.i 17 (.len false (.t 16)),.i 18 (.bin .gtr (.t 17) (.n 50))]) (.cond (.t 18) (.seq (.ops [.i 2 (.mov (.c (.one (.st (.bool true)))))]) .ret) .skip))) (.ops [.m 9 3,.i 10 (.bin .add (.t 9) (.n 1)),.m 3 10])))))) (.seq (.ops [.f 19 1 1,.l 20 19,.i 21 (.len false (.t 20)),.i 22 (.bin .gtr (.t 21) (.n 100)),.m 23 22,.mk (some 24) (some (23,false)) (.fieldAddr 2 (.t 1)) .no,.mk (some 25) (some (23,false)) (.load false 1 (.t 24)) .no,.mk (some 26) (some (23,false)) (.len false (.t 25)) .no,.mk (some 27) (some (23,false)) (.bin .gtr (.t 26) (.n 100)) .no,.i 28 (.pick (.t 23) (.c (.one (.st (.bool true)))) (.t 27)),.m 2 28]) .ret)))
theorem MD:OkF Try.prog 7 29 [] G6 [.t 2]:=.of Try.func7 rfl rfl (by kernel_rfl) rfl
def Bj:IR :=
 (.seq (.ops [.i 3 (.box 25 (.t 0)),.i 4 (.box 25 (.t 1)),.i 5 (.box 39 (.t 2)),.i 6 (.mov (.c (.one (.st (.bool false)))))]) (.seq (.seq (.ops [.L 14 3 3,.i 15 (.call 7 [.t 14]),.m 16 15,.mk (some 17) (some (16,false)) (.load true 3 (.t 4)) .no,.mk (some 18) (some (16,false)) (.call 7 [.t 17]) .no,.i 19 (.pick (.t 16) (.c (.one (.st (.bool true)))) (.t 18)),.m 20 19,.mk (some 21) (some (20,false)) (.load true 2 (.t 5)) .no,.mk (some 22) (some (20,false)) (.call 45 [.t 21,.n 100]) .no,.mk (some 23) (some (20,false)) (.bin .gtr (.t 22) (.n 100)) .no,.i 24 (.pick (.t 20) (.c (.one (.st (.bool true)))) (.t 23))]) (.cond (.t 24) (.seq (.ops [.i 6 (.mov (.c (.one (.st (.bool true)))))]) .ret) .skip)) (.seq (.ops [.L 25 3 3,.i 26 (.call 8 [.t 25,.n 8,.n 40]),.m 7 26]) (.seq (.seq (.ops [.m 27 7,.i 28 (.bin .eql (.t 27) (.n 0))]) (.cond (.t 28) (.ops [.L 29 3 4,.i 30 (.call 8 [.t 29,.n 8,.n 40]),.m 7 30]) .skip)) (.seq (.ops [.L 32 3 3,.L 33 3 4,.i 34 (.call 20 [.t 32,.t 33]),.m 31 34,.i 35 (.extract 0 (.t 31)),.i 36 (.extract 1 (.t 31)),.i 8 (.alloc 25 [.st (.int .i64 0),.full [],.full []]),.s 3 8 35,.m 9 36]) (.seq (.ops [.L 38 3 3,.L 39 3 4,.i 40 (.call 21 [.t 38,.t 39]),.m 37 40,.i 41 (.extract 0 (.t 37)),.i 42 (.extract 1 (.t 37)),.i 10 (.alloc 25 [.st (.int .i64 0),.full [],.full []]),.s 3 10 41,.m 11 42]) (.seq (.seq (.ops [.m 43 9,.m 44 7,.i 45 (.bin .neq (.t 43) (.t 44)),.m 46 45,.mk (some 47) (some (46,false)) (.mov (.t 11)) .no,.mk (some 48) (some (46,false)) (.mov (.t 7)) .no,.mk (some 49) (some (46,false)) (.bin .neq (.t 47) (.t 48)) .no,.i 50 (.pick (.t 46) (.c (.one (.st (.bool true)))) (.t 49))]) (.cond (.t 50) (.seq (.ops [.i 6 (.mov (.c (.one (.st (.bool false)))))]) .ret) .skip)) (.seq (.seq (.ops [.m 51 7,.i 52 (.bin .neq (.t 51) (.n 0))]) (.cond (.t 52) (.seq (.ops [.f 53 0 8,.l 54 53,.i 55 (.bin .eql (.t 54) (.n 0)),.m 56 55,.mk (some 57) (some (56,true)) (.fieldAddr 0 (.t 10)) .no,.mk (some 58) (some (56,true)) (.load false 1 (.t 57)) .no,.mk (some 59) (some (56,true)) (.bin .eql (.t 58) (.n 0)) .no,.i 60 (.pick (.t 56) (.t 59) (.c (.one (.st (.bool false))))),.m 61 60,.mk (some 62) (some (61,true)) (.fieldAddr 1 (.t 8)) .no,.mk (some 63) (some (61,true)) (.load false 1 (.t 62)) .no,.mk (some 64) (some (61,true)) (.len false (.t 63)) .no,.mk (some 65) (some (61,true)) (.fieldAddr 1 (.t 10)) .no,.mk (some 66) (some (61,true)) (.load false 1 (.t 65)) .no,.mk (some 67) (some (61,true)) (.len false (.t 66)) .no,.mk (some 68) (some (61,true)) (.bin .add (.t 64) (.t 67)) .no,.mk (some 69) (some (61,true)) (.fieldAddr 2 (.t 8)) .no,.mk (some 70) (some (61,true)) (.load false 1 (.t 69)) .no,.mk (some 71) (some (61,true)) (.len false (.t 70)) .no,.mk (some 72) (some (61,true)) (.bin .add (.t 68) (.t 71)) .no,.mk (some 73) (some (61,true)) (.fieldAddr 2 (.t 10)) .no,.mk (some 74) (some (61,true)) (.load false 1 (.t 73)) .no,.mk (some 75) (some (61,true)) (.len false (.t 74)) .no,.mk (some 76) (some (61,true)) (.bin .add (.t 72) (.t 75)) .no,.mk (some 77) (some (61,true)) (.bin .eql (.t 76) (.n 0)) .no,.i 78 (.pick (.t 61) (.t 77) (.c (.one (.st (.bool false))))),.m 6 78]) .ret) .skip)) (.seq (.seq (.ops [.L 79 3 8,.i 80 (.call 8 [.t 79,.n 64,.n 1600]),.i 81 (.bin .neq (.t 80) (.n 0)),.m 82 81,.mk (some 83) (some (82,false)) (.load true 3 (.t 10)) .no,.mk (some 84) (some (82,false)) (.call 8 [.t 83,.n 64,.n 1600]) .no,.mk (some 85) (some (82,false)) (.bin .neq (.t 84) (.n 0)) .no,.i 86 (.pick (.t 82) (.c (.one (.st (.bool true)))) (.t 85)),.m 87 86,.mk (some 88) (some (87,false)) (.fieldAddr 2 (.t 8)) .no,.mk (some 89) (some (87,false)) (.load false 1 (.t 88)) .no,.mk (some 90) (some (87,false)) (.len false (.t 89)) .no,.mk (some 91) (some (87,false)) (.bin .gtr (.t 90) (.n 100000)) .no,.i 92 (.pick (.t 87) (.c (.one (.st (.bool true)))) (.t 91)),.m 93 92,.mk (some 94) (some (93,false)) (.fieldAddr 2 (.t 10)) .no,.mk (some 95) (some (93,false)) (.load false 1 (.t 94)) .no,.mk (some 96) (some (93,false)) (.len false (.t 95)) .no,.mk (some 97) (some (93,false)) (.bin .gtr (.t 96) (.n 100000)) .no,.i 98 (.pick (.t 93) (.c (.one (.st (.bool true)))) (.t 97))]) (.cond (.t 98) (.seq (.ops [.i 6 (.mov (.c (.one (.st (.bool false)))))]) .ret) .skip)) (.seq (.ops [.L 99 3 3,.L 100 2 5,.i 101 (.call 27 [.t 99,.t 100]),.m 12 101]) (.seq (.ops [.L 102 3 4,.L 103 2 5,.i 104 (.call 27 [.t 102,.t 103]),.m 13 104]) (.seq (.ops [.L 105 3 8,.L 106 2 5,.i 107 (.call 27 [.t 105,.t 106]),.m 108 12,.m 109 108,.mk (some 110) (some (109,true)) (.mov (.t 13)) .no,.i 111 (.pick (.t 109) (.t 110) (.c (.one (.st (.bool false))))),.i 112 (.eqB false (.t 107) (.t 111)),.m 113 112,.mk (some 114) (some (113,true)) (.load true 3 (.t 10)) .no,.mk (some 115) (some (113,true)) (.load true 2 (.t 5)) .no,.mk (some 116) (some (113,true)) (.call 27 [.t 114,.t 115]) .no,.mk (some 117) (some (113,true)) (.mov (.t 12)) .no,.mk (some 118) (some (113,true)) (.mov (.t 117)) .no,.mk (some 119) (some (118,false)) (.mov (.t 13)) .no,.mk (some 120) (some (113,true)) (.pick (.t 118) (.c (.one (.st (.bool true)))) (.t 119)) .no,.mk (some 121) (some (113,true)) (.eqB false (.t 116) (.t 120)) .no,.i 122 (.pick (.t 113) (.t 121) (.c (.one (.st (.bool false))))),.m 6 122]) .ret))))))))))))
theorem B5:OkF Try.prog 18 123 [] Bj [.t 6]:=.of Try.func18 rfl rfl (by kernel_rfl) rfl

def F1:IR :=
 (.seq (.ops [.i 2 (.mov (.c (.one (.st (.bool false)))))]) (.seq (.ops [.m 3 0,.i 4 (.bin .geq (.t 3) (.c (.one (.st (.int .u8 97))))),.m 5 4,.mk (some 6) (some (5,true)) (.mov (.t 0)) .no,.mk (some 7) (some (5,true)) (.bin .leq (.t 6) (.c (.one (.st (.int .u8 122))))) .no,.i 8 (.pick (.t 5) (.t 7) (.c (.one (.st (.bool false))))),.m 9 8,.mk (some 10) (some (9,false)) (.mov (.t 0)) .no,.mk (some 11) (some (9,false)) (.bin .geq (.t 10) (.c (.one (.st (.int .u8 65))))) .no,.mk (some 12) (some (9,false)) (.mov (.t 11)) .no,.mk (some 13) (some (12,true)) (.mov (.t 0)) .no,.mk (some 14) (some (12,true)) (.bin .leq (.t 13) (.c (.one (.st (.int .u8 90))))) .no,.mk (some 15) (some (9,false)) (.pick (.t 12) (.t 14) (.c (.one (.st (.bool false))))) .no,.i 16 (.pick (.t 9) (.c (.one (.st (.bool true)))) (.t 15)),.m 17 16,.mk (some 18) (some (17,false)) (.mov (.t 0)) .no,.mk (some 19) (some (17,false)) (.bin .geq (.t 18) (.c (.one (.st (.int .u8 48))))) .no,.mk (some 20) (some (17,false)) (.mov (.t 19)) .no,.mk (some 21) (some (20,true)) (.mov (.t 0)) .no,.mk (some 22) (some (20,true)) (.bin .leq (.t 21) (.c (.one (.st (.int .u8 57))))) .no,.mk (some 23) (some (17,false)) (.pick (.t 20) (.t 22) (.c (.one (.st (.bool false))))) .no,.i 24 (.pick (.t 17) (.c (.one (.st (.bool true)))) (.t 23)),.m 2 24]) .ret))
theorem LN:OkF Try.prog 86 25 [] F1 [.t 2]:=.of Try.func86 rfl rfl (by kernel_rfl) rfl
def Gz:IR :=
 (.seq (.ops [.i 2 (.mov (.c (.one (.st (.bool false)))))]) (.seq (.ops [.m 3 0,.i 4 (.bin .geq (.t 3) (.c (.one (.st (.int .u8 97))))),.m 5 4,.mk (some 6) (some (5,true)) (.mov (.t 0)) .no,.mk (some 7) (some (5,true)) (.bin .leq (.t 6) (.c (.one (.st (.int .u8 122))))) .no,.i 8 (.pick (.t 5) (.t 7) (.c (.one (.st (.bool false))))),.m 9 8,.mk (some 10) (some (9,false)) (.mov (.t 0)) .no,.mk (some 11) (some (9,false)) (.bin .geq (.t 10) (.c (.one (.st (.int .u8 65))))) .no,.mk (some 12) (some (9,false)) (.mov (.t 11)) .no,.mk (some 13) (some (12,true)) (.mov (.t 0)) .no,.mk (some 14) (some (12,true)) (.bin .leq (.t 13) (.c (.one (.st (.int .u8 90))))) .no,.mk (some 15) (some (9,false)) (.pick (.t 12) (.t 14) (.c (.one (.st (.bool false))))) .no,.i 16 (.pick (.t 9) (.c (.one (.st (.bool true)))) (.t 15)),.m 17 16,.mk (some 18) (some (17,false)) (.mov (.t 0)) .no,.mk (some 19) (some (17,false)) (.bin .geq (.t 18) (.c (.one (.st (.int .u8 48))))) .no,.mk (some 20) (some (17,false)) (.mov (.t 19)) .no,.mk (some 21) (some (20,true)) (.mov (.t 0)) .no,.mk (some 22) (some (20,true)) (.bin .leq (.t 21) (.c (.one (.st (.int .u8 57))))) .no,.mk (some 23) (some (17,false)) (.pick (.t 20) (.t 22) (.c (.one (.st (.bool false))))) .no,.i 24 (.pick (.t 17) (.c (.one (.st (.bool true)))) (.t 23)),.m 2 24]) .ret))
theorem L7:OkF Try.prog 50 25 [] Gz [.t 2]:=.of Try.func50 rfl rfl (by kernel_rfl) rfl
def C7:IR :=
 (.seq (.ops [.i 2 (.mov (.c (.one (.st (.bool false)))))]) (.seq (.seq (.ops [.m 4 0,.i 5 (.len true (.t 4)),.i 6 (.bin .lss (.t 5) (.n 1)),.m 7 6,.mk (some 8) (some (7,false)) (.mov (.t 0)) .no,.mk (some 9) (some (7,false)) (.len true (.t 8)) .no,.mk (some 10) (some (7,false)) (.bin .gtr (.t 9) (.n 8)) .no,.i 11 (.pick (.t 7) (.c (.one (.st (.bool true)))) (.t 10)),.m 12 11,.mk (some 13) (some (12,false)) (.mov (.t 0)) .no,.mk (some 14) (some (12,false)) (.indexStr (.t 13) (.n 0)) .no,.mk (some 15) (some (12,false)) (.bin .geq (.t 14) (.c (.one (.st (.int .u8 48))))) .no,.mk (some 16) (some (12,false)) (.mov (.t 15)) .no,.mk (some 17) (some (16,true)) (.mov (.t 0)) .no,.mk (some 18) (some (16,true)) (.indexStr (.t 17) (.n 0)) .no,.mk (some 19) (some (16,true)) (.bin .leq (.t 18) (.c (.one (.st (.int .u8 57))))) .no,.mk (some 20) (some (12,false)) (.pick (.t 16) (.t 19) (.c (.one (.st (.bool false))))) .no,.i 21 (.pick (.t 12) (.c (.one (.st (.bool true)))) (.t 20))]) (.cond (.t 21) (.seq (.ops [.i 2 (.mov (.c (.one (.st (.bool false)))))]) .ret) .skip)) (.seq (.seq (.ops [.m 22 0,.i 23 (.len true (.t 22)),.i 24 (.mov (.n 0))]) (.block 0 (.loop (.seq (.ops [.i 25 (.bin .lss (.t 24) (.t 23))]) (.seq (.cond (.t 25) .skip (.exit 0)) (.seq (.block 1 (.seq (.ops [.m 26 24,.m 3 26]) (.seq (.ops [.m 27 0,.m 28 3,.i 29 (.indexStr (.t 27) (.t 28)),.i 30 (.call 86 [.t 29]),.i 31 (.un .not (.t 30))]) (.cond (.t 31) (.seq (.ops [.i 2 (.mov (.c (.one (.st (.bool false)))))]) .ret) .skip)))) (.ops [.i 32 (.bin .add (.t 24) (.n 1)),.m 24 32]))))))) (.seq (.ops [.i 2 (.mov (.c (.one (.st (.bool true)))))]) .ret))))
theorem Dz:OkF Try.prog 69 33 [] C7 [.t 2]:=.of Try.func69 rfl rfl (by kernel_rfl) rfl
def DZ:IR :=
 (.seq (.ops [.i 2 (.mov (.c (.one (.st (.bool false)))))]) (.seq (.seq (.ops [.m 4 0,.i 5 (.bin .eql (.t 4) (.c (.one (.st (.str (ByteArray.mk (#[]))))))),.m 6 5,.mk (some 7) (some (6,false)) (.mov (.t 0)) .no,.mk (some 8) (some (6,false)) (.len true (.t 7)) .no,.mk (some 9) (some (6,false)) (.bin .gtr (.t 8) (.n 8)) .no,.i 10 (.pick (.t 6) (.c (.one (.st (.bool true)))) (.t 9)),.m 11 10,.mk (some 12) (some (11,false)) (.mov (.t 0)) .no,.mk (some 13) (some (11,false)) (.indexStr (.t 12) (.n 0)) .no,.mk (some 14) (some (11,false)) (.bin .geq (.t 13) (.c (.one (.st (.int .u8 48))))) .no,.mk (some 15) (some (11,false)) (.mov (.t 14)) .no,.mk (some 16) (some (15,true)) (.mov (.t 0)) .no,.mk (some 17) (some (15,true)) (.indexStr (.t 16) (.n 0)) .no,.mk (some 18) (some (15,true)) (.bin .leq (.t 17) (.c (.one (.st (.int .u8 57))))) .no,.mk (some 19) (some (11,false)) (.pick (.t 15) (.t 18) (.c (.one (.st (.bool false))))) .no,.i 20 (.pick (.t 11) (.c (.one (.st (.bool true)))) (.t 19))]) (.cond (.t 20) (.seq (.ops [.i 2 (.mov (.c (.one (.st (.bool false)))))]) .ret) .skip)) (.seq (.seq (.ops [.i 3 (.mov (.n 0))]) (.block 0 (.loop (.seq (.seq (.ops [.m 21 3,.m 22 0,.i 23 (.len true (.t 22)),.i 24 (.bin .lss (.t 21) (.t 23))]) (.cond (.t 24) .skip (.exit 0))) (.seq (.block 1 (.seq (.ops [.m 27 0,.m 28 3,.i 29 (.indexStr (.t 27) (.t 28)),.i 30 (.call 50 [.t 29]),.i 31 (.un .not (.t 30))]) (.cond (.t 31) (.seq (.ops [.i 2 (.mov (.c (.one (.st (.bool false)))))]) .ret) .skip))) (.ops [.m 25 3,.i 26 (.bin .add (.t 25) (.n 1)),.m 3 26])))))) (.seq (.ops [.i 2 (.mov (.c (.one (.st (.bool true)))))]) .ret))))
theorem El:OkF Try.prog 22 32 [] DZ [.t 2]:=.of Try.func22 rfl rfl (by kernel_rfl) rfl
def DU:IR :=
 (.seq (.ops [.i 2 (.mov (.c (.one (.st (.bool false)))))]) (.seq (.ops [.m 3 0,.i 4 (.bin .neq (.t 3) (.c (.one (.st (.str (ByteArray.mk (#[]))))))),.m 5 4,.mk (some 6) (some (5,true)) (.mov (.t 0)) .no,.mk (some 7) (some (5,true)) (.indexStr (.t 6) (.n 0)) .no,.mk (some 8) (some (5,true)) (.bin .geq (.t 7) (.c (.one (.st (.int .u8 65))))) .no,.i 9 (.pick (.t 5) (.t 8) (.c (.one (.st (.bool false))))),.m 10 9,.mk (some 11) (some (10,true)) (.mov (.t 0)) .no,.mk (some 12) (some (10,true)) (.indexStr (.t 11) (.n 0)) .no,.mk (some 13) (some (10,true)) (.bin .leq (.t 12) (.c (.one (.st (.int .u8 90))))) .no,.i 14 (.pick (.t 10) (.t 13) (.c (.one (.st (.bool false))))),.m 2 14]) .ret))
theorem E4:OkF Try.prog 70 15 [] DU [.t 2]:=.of Try.func70 rfl rfl (by kernel_rfl) rfl
def HT:IR :=
 (.seq (.ops [.i 2 (.mov (.c (.one (.st (.bool false)))))]) (.seq (.ops [.m 3 0,.i 4 (.bin .neq (.t 3) (.c (.one (.st (.str (ByteArray.mk (#[]))))))),.m 5 4,.mk (some 6) (some (5,true)) (.mov (.t 0)) .no,.mk (some 7) (some (5,true)) (.indexStr (.t 6) (.n 0)) .no,.mk (some 8) (some (5,true)) (.bin .geq (.t 7) (.c (.one (.st (.int .u8 65))))) .no,.i 9 (.pick (.t 5) (.t 8) (.c (.one (.st (.bool false))))),.m 10 9,.mk (some 11) (some (10,true)) (.mov (.t 0)) .no,.mk (some 12) (some (10,true)) (.indexStr (.t 11) (.n 0)) .no,.mk (some 13) (some (10,true)) (.bin .leq (.t 12) (.c (.one (.st (.int .u8 90))))) .no,.i 14 (.pick (.t 10) (.t 13) (.c (.one (.st (.bool false))))),.m 2 14]) .ret))
theorem Ls:OkF Try.prog 23 15 [] HT [.t 2]:=.of Try.func23 rfl rfl (by kernel_rfl) rfl
def F0:IR :=
 (.seq (.ops [.i 2 (.box 39 (.t 0)),.i 4 (.mov (.n 0))]) (.seq (.ops [.m 7 1,.i 8 (.bin .sub (.t 7) (.n 1)),.m 1 8]) (.seq (.seq (.ops [.f 9 1 2,.l 10 9,.i 11 (.len false (.t 10)),.i 12 (.mov (.n 0))]) (.block 0 (.loop (.seq (.ops [.i 13 (.bin .lss (.t 12) (.t 11))]) (.seq (.cond (.t 13) .skip (.exit 0)) (.seq (.block 1 (.seq (.ops [.i 14 (.indexAddr 2 (.t 10) (.t 12)),.L 15 2 14,.i 6 (.alloc 39 [.st (.str (ByteArray.mk (#[]))),.full []]),.s 2 6 15]) (.seq (.seq (.ops [.m 16 1,.i 17 (.bin .lss (.t 16) (.n 0))]) (.cond (.t 17) (.exit 0) .skip)) (.ops [.L 18 2 6,.m 19 1,.i 20 (.call 64 [.t 18,.t 19]),.m 1 20])))) (.ops [.i 21 (.bin .add (.t 12) (.n 1)),.m 12 21]))))))) (.seq (.ops [.m 22 1,.m 4 22]) .ret))))
theorem K6:OkF Try.prog 64 23 [] F0 [.t 4]:=.of Try.func64 rfl rfl (by kernel_rfl) rfl
def NA:IR :=
 (.seq (.ops [.i 2 (.box 39 (.t 0)),.i 4 (.mov (.n 0))]) (.seq (.ops [.i 5 (.mov (.n 1))]) (.seq (.seq (.ops [.i 6 (.mov (.n 0))]) (.block 0 (.loop (.seq (.seq (.ops [.m 7 6,.f 8 1 2,.l 9 8,.i 10 (.len false (.t 9)),.i 11 (.bin .lss (.t 7) (.t 10)),.m 12 11,.mk (some 13) (some (12,true)) (.mov (.t 5)) .no,.mk (some 14) (some (12,true)) (.mov (.t 1)) .no,.mk (some 15) (some (12,true)) (.bin .leq (.t 13) (.t 14)) .no,.i 16 (.pick (.t 12) (.t 15) (.c (.one (.st (.bool false)))))]) (.cond (.t 16) .skip (.exit 0))) (.seq (.block 1 (.ops [.m 19 5,.f 20 1 2,.l 21 20,.m 22 6,.i 23 (.indexAddr 2 (.t 21) (.t 22)),.L 24 2 23,.m 25 1,.m 26 5,.i 27 (.bin .sub (.t 25) (.t 26)),.i 28 (.call 45 [.t 24,.t 27]),.i 29 (.bin .add (.t 19) (.t 28)),.m 5 29])) (.ops [.m 17 6,.i 18 (.bin .add (.t 17) (.n 1)),.m 6 18])))))) (.seq (.seq (.ops [.m 30 5,.m 31 1,.i 32 (.bin .gtr (.t 30) (.t 31))]) (.cond (.t 32) (.seq (.ops [.m 33 1,.i 34 (.bin .add (.t 33) (.n 1)),.m 4 34]) .ret) .skip)) (.seq (.ops [.m 35 5,.m 4 35]) .ret)))))
theorem TB:OkF Try.prog 45 36 [] NA [.t 4]:=.of Try.func45 rfl rfl (by kernel_rfl) rfl
def Gw:IR :=
 (.seq (.ops [.i 1 (.box 39 (.t 0)),.i 2 (.mov (.n 0))]) (.seq (.seq (.ops [.f 6 0 1,.l 7 6,.i 8 (.call 69 [.t 7]),.i 9 (.un .not (.t 8))]) (.cond (.t 9) (.seq (.ops [.i 2 (.mov (.n 1))]) .ret) .skip)) (.seq (.seq (.ops [.f 10 0 1,.l 11 10,.i 12 (.call 70 [.t 11]),.m 13 12,.mk (some 14) (some (13,true)) (.fieldAddr 1 (.t 1)) .no,.mk (some 15) (some (13,true)) (.load false 1 (.t 14)) .no,.mk (some 16) (some (13,true)) (.len false (.t 15)) .no,.mk (some 17) (some (13,true)) (.bin .gtr (.t 16) (.n 0)) .no,.i 18 (.pick (.t 13) (.t 17) (.c (.one (.st (.bool false)))))]) (.cond (.t 18) (.seq (.ops [.i 2 (.mov (.n 2))]) .ret) .skip)) (.seq (.seq (.ops [.f 19 1 1,.l 20 19,.i 21 (.len false (.t 20)),.i 22 (.mov (.n 0))]) (.block 0 (.loop (.seq (.ops [.i 23 (.bin .lss (.t 22) (.t 21))]) (.seq (.cond (.t 23) .skip (.exit 0)) (.seq (.block 1 (.seq (.ops [.i 24 (.indexAddr 2 (.t 20) (.t 22)),.L 25 2 24,.i 4 (.alloc 39 [.st (.str (ByteArray.mk (#[]))),.full []]),.s 2 4 25]) (.seq (.ops [.L 26 2 4,.i 27 (.call 65 [.t 26]),.m 5 27]) (.seq (.ops [.m 28 5,.i 29 (.bin .neq (.t 28) (.n 0))]) (.cond (.t 29) (.seq (.ops [.m 30 5,.m 2 30]) .ret) .skip))))) (.ops [.i 31 (.bin .add (.t 22) (.n 1)),.m 22 31]))))))) (.seq (.ops [.i 2 (.mov (.n 0))]) .ret)))))
theorem MG:OkF Try.prog 65 32 [] Gw [.t 2]:=.of Try.func65 rfl rfl (by kernel_rfl) rfl
def Gv:IR :=
 (.seq (.ops [.i 1 (.box 39 (.t 0)),.i 2 (.mov (.n 0))]) (.seq (.seq (.ops [.L 3 2 1,.i 4 (.call 64 [.t 3,.n 200]),.i 5 (.bin .lss (.t 4) (.n 0))]) (.cond (.t 5) (.seq (.ops [.i 2 (.mov (.n 3))]) .ret) .skip)) (.seq (.ops [.L 6 2 1,.i 7 (.call 65 [.t 6]),.m 2 7]) .ret)))
theorem MF:OkF Try.prog 46 8 [] Gv [.t 2]:=.of Try.func46 rfl rfl (by kernel_rfl) rfl
def Ke:IR :=
 (.seq (.ops [.i 1 (.box 39 (.t 0)),.i 2 (.mov (.c (.one (.full []))))]) (.seq (.ops [.L 5 2 1,.i 6 (.buildSlice false 39 2 [.t 5]),.m 3 6]) (.seq (.seq (.ops [.i 4 (.mov (.n 0))]) (.block 0 (.loop (.seq (.seq (.ops [.m 7 4,.f 8 1 1,.l 9 8,.i 10 (.len false (.t 9)),.i 11 (.bin .lss (.t 7) (.t 10))]) (.cond (.t 11) .skip (.exit 0))) (.seq (.block 1 (.ops [.m 14 3,.f 15 1 1,.l 16 15,.m 17 4,.i 18 (.indexAddr 2 (.t 16) (.t 17)),.L 19 2 18,.i 20 (.call 58 [.t 19]),.i 21 (.append false 39 2 40 (.t 14) (.t 20)),.m 3 21])) (.ops [.m 12 4,.i 13 (.bin .add (.t 12) (.n 1)),.m 4 13])))))) (.seq (.ops [.m 22 3,.m 2 22]) .ret))))
theorem Qy:OkF Try.prog 58 23 [] Ke [.t 2]:=.of Try.func58 rfl rfl (by kernel_rfl) rfl
def H6:IR :=
 (.seq (.ops [.i 1 (.box 39 (.t 0)),.i 2 (.mov (.n 0))]) (.seq (.seq (.ops [.L 5 2 1,.i 6 (.call 45 [.t 5,.n 200]),.i 7 (.bin .gtr (.t 6) (.n 200))]) (.cond (.t 7) (.seq (.ops [.i 2 (.mov (.n 3))]) .ret) .skip)) (.seq (.ops [.L 8 2 1,.i 9 (.call 58 [.t 8]),.m 3 9]) (.seq (.seq (.ops [.i 4 (.mov (.n 0))]) (.block 0 (.loop (.seq (.seq (.ops [.m 10 4,.m 11 3,.i 12 (.len false (.t 11)),.i 13 (.bin .lss (.t 10) (.t 12))]) (.cond (.t 13) .skip (.exit 0))) (.seq (.block 1 (.seq (.seq (.ops [.m 16 3,.m 17 4,.i 18 (.indexAddr 2 (.t 16) (.t 17)),.f 19 0 18,.l 20 19,.i 21 (.call 22 [.t 20]),.i 22 (.un .not (.t 21))]) (.cond (.t 22) (.seq (.ops [.i 2 (.mov (.n 1))]) .ret) .skip)) (.seq (.ops [.m 23 3,.m 24 4,.i 25 (.indexAddr 2 (.t 23) (.t 24)),.f 26 0 25,.l 27 26,.i 28 (.call 23 [.t 27]),.m 29 28,.mk (some 30) (some (29,true)) (.mov (.t 3)) .no,.mk (some 31) (some (29,true)) (.mov (.t 4)) .no,.mk (some 32) (some (29,true)) (.indexAddr 2 (.t 30) (.t 31)) .no,.mk (some 33) (some (29,true)) (.fieldAddr 1 (.t 32)) .no,.mk (some 34) (some (29,true)) (.load false 1 (.t 33)) .no,.mk (some 35) (some (29,true)) (.len false (.t 34)) .no,.mk (some 36) (some (29,true)) (.bin .gtr (.t 35) (.n 0)) .no,.i 37 (.pick (.t 29) (.t 36) (.c (.one (.st (.bool false)))))]) (.cond (.t 37) (.seq (.ops [.i 2 (.mov (.n 2))]) .ret) .skip)))) (.ops [.m 14 4,.i 15 (.bin .add (.t 14) (.n 1)),.m 4 15])))))) (.seq (.ops [.i 2 (.mov (.n 0))]) .ret)))))
theorem OR:OkF Try.prog 40 38 [] H6 [.t 2]:=.of Try.func40 rfl rfl (by kernel_rfl) rfl
def M3:IR :=
 (.seq (.ops [.i 2 (.box 39 (.t 0)),.i 3 (.box 39 (.t 1)),.i 4 (.mov (.c (.one (.st (.bool false)))))]) (.seq (.seq (.ops [.f 6 0 2,.l 7 6,.f 8 0 3,.l 9 8,.i 10 (.bin .neq (.t 7) (.t 9)),.m 11 10,.mk (some 12) (some (11,false)) (.fieldAddr 1 (.t 2)) .no,.mk (some 13) (some (11,false)) (.load false 1 (.t 12)) .no,.mk (some 14) (some (11,false)) (.len false (.t 13)) .no,.mk (some 15) (some (11,false)) (.fieldAddr 1 (.t 3)) .no,.mk (some 16) (some (11,false)) (.load false 1 (.t 15)) .no,.mk (some 17) (some (11,false)) (.len false (.t 16)) .no,.mk (some 18) (some (11,false)) (.bin .neq (.t 14) (.t 17)) .no,.i 19 (.pick (.t 11) (.c (.one (.st (.bool true)))) (.t 18))]) (.cond (.t 19) (.seq (.ops [.i 4 (.mov (.c (.one (.st (.bool false)))))]) .ret) .skip)) (.seq (.seq (.ops [.i 5 (.mov (.n 0))]) (.block 0 (.loop (.seq (.seq (.ops [.m 20 5,.f 21 1 2,.l 22 21,.i 23 (.len false (.t 22)),.i 24 (.bin .lss (.t 20) (.t 23))]) (.cond (.t 24) .skip (.exit 0))) (.seq (.block 1 (.seq (.ops [.f 27 1 2,.l 28 27,.m 29 5,.i 30 (.indexAddr 2 (.t 28) (.t 29)),.L 31 2 30,.f 32 1 3,.l 33 32,.m 34 5,.i 35 (.indexAddr 2 (.t 33) (.t 34)),.L 36 2 35,.i 37 (.call 63 [.t 31,.t 36]),.i 38 (.un .not (.t 37))]) (.cond (.t 38) (.seq (.ops [.i 4 (.mov (.c (.one (.st (.bool false)))))]) .ret) .skip))) (.ops [.m 25 5,.i 26 (.bin .add (.t 25) (.n 1)),.m 5 26])))))) (.seq (.ops [.i 4 (.mov (.c (.one (.st (.bool true)))))]) .ret))))
theorem Sx:OkF Try.prog 63 39 [] M3 [.t 4]:=.of Try.func63 rfl rfl (by kernel_rfl) rfl
def SZ:IR :=
 (.seq (.ops [.i 4 (.mov (.c (.one (.st (.bool false)))))]) (.seq (.seq (.ops [.i 5 (.mov (.n 0))]) (.block 0 (.loop (.seq (.seq (.ops [.m 6 5,.m 7 1,.i 8 (.len false (.t 7)),.i 9 (.bin .lss (.t 6) (.t 8))]) (.cond (.t 9) .skip (.exit 0))) (.seq (.block 1 (.seq (.ops [.m 12 1,.m 13 5,.i 14 (.indexAddr 1 (.t 12) (.t 13)),.l 15 14,.m 16 0,.i 17 (.bin .eql (.t 15) (.t 16))]) (.cond (.t 17) (.seq (.ops [.i 4 (.mov (.c (.one (.st (.bool true)))))]) .ret) .skip))) (.ops [.m 10 5,.i 11 (.bin .add (.t 10) (.n 1)),.m 5 11])))))) (.seq (.ops [.i 4 (.mov (.c (.one (.st (.bool false)))))]) .ret)))
theorem XA:OkF Try.prog 51 18 [] SZ [.t 4]:=.of Try.func51 rfl rfl (by kernel_rfl) rfl
def Jh:IR :=
 (.seq (.ops [.i 1 (.box 39 (.t 0)),.i 2 (.mov (.c (.one (.full []))))]) (.seq (.ops [.L 6 2 1,.i 7 (.call 58 [.t 6]),.m 3 7]) (.seq (.ops [.i 4 (.mov (.c (.one (.full []))))]) (.seq (.seq (.ops [.i 5 (.mov (.n 0))]) (.block 0 (.loop (.seq (.seq (.ops [.m 8 5,.m 9 3,.i 10 (.len false (.t 9)),.i 11 (.bin .lss (.t 8) (.t 10))]) (.cond (.t 11) .skip (.exit 0))) (.seq (.block 1 (.seq (.ops [.m 14 3,.m 15 5,.i 16 (.indexAddr 2 (.t 14) (.t 15)),.f 17 0 16,.l 18 17,.i 19 (.call 23 [.t 18]),.m 20 19,.mk (some 21) (some (20,true)) (.mov (.t 3)) .no,.mk (some 22) (some (20,true)) (.mov (.t 5)) .no,.mk (some 23) (some (20,true)) (.indexAddr 2 (.t 21) (.t 22)) .no,.mk (some 24) (some (20,true)) (.fieldAddr 0 (.t 23)) .no,.mk (some 25) (some (20,true)) (.load false 1 (.t 24)) .no,.mk (some 26) (some (20,true)) (.mov (.t 4)) .no,.mk (some 27) (some (20,true)) (.call 51 [.t 25,.t 26]) .no,.mk (some 28) (some (20,true)) (.un .not (.t 27)) .no,.i 29 (.pick (.t 20) (.t 28) (.c (.one (.st (.bool false)))))]) (.cond (.t 29) (.ops [.m 30 4,.m 31 3,.m 32 5,.i 33 (.indexAddr 2 (.t 31) (.t 32)),.f 34 0 33,.l 35 34,.i 36 (.buildFlat [.t 35]),.i 37 (.append false 9 1 16 (.t 30) (.t 36)),.m 4 37]) .skip))) (.ops [.m 12 5,.i 13 (.bin .add (.t 12) (.n 1)),.m 5 13])))))) (.seq (.ops [.m 38 4,.m 2 38]) .ret)))))
theorem Ox:OkF Try.prog 41 39 [] Jh [.t 2]:=.of Try.func41 rfl rfl (by kernel_rfl) rfl
def MR:IR :=
 (.seq (.ops [.i 1 (.box 39 (.t 0)),.i 2 (.mov (.c (.one (.st (.bool false)))))]) (.seq (.ops [.L 3 2 1,.i 4 (.call 45 [.t 3,.n 3000]),.i 5 (.bin .gtr (.t 4) (.n 3000)),.m 2 5]) .ret))
theorem Sr:OkF Try.prog 39 6 [] MR [.t 2]:=.of Try.func39 rfl rfl (by kernel_rfl) rfl
def KZ:IR :=
 (.seq (.ops [.i 4 (.box 39 (.t 0)),.i 6 (.box 39 (.t 2)),.i 8 (.mov (.c (.one (.st (.bool false)))))]) (.seq (.seq (.ops [.m 9 3,.i 10 (.bin .neq (.t 9) (.n 0))]) (.cond (.t 10) (.seq (.ops [.m 11 1,.m 12 3,.i 13 (.bin .eql (.t 11) (.t 12)),.m 14 13,.mk (some 15) (some (14,true)) (.fieldAddr 0 (.t 4)) .no,.mk (some 16) (some (14,true)) (.load false 1 (.t 15)) .no,.mk (some 17) (some (14,true)) (.bin .eql (.t 16) (.c (.one (.st (.str (ByteArray.mk (#[]))))))) .no,.i 18 (.pick (.t 14) (.t 17) (.c (.one (.st (.bool false))))),.m 19 18,.mk (some 20) (some (19,true)) (.fieldAddr 1 (.t 4)) .no,.mk (some 21) (some (19,true)) (.load false 1 (.t 20)) .no,.mk (some 22) (some (19,true)) (.len false (.t 21)) .no,.mk (some 23) (some (19,true)) (.bin .eql (.t 22) (.n 0)) .no,.i 24 (.pick (.t 19) (.t 23) (.c (.one (.st (.bool false))))),.m 8 24]) .ret) .skip)) (.seq (.ops [.m 25 1,.i 26 (.bin .eql (.t 25) (.n 0)),.m 27 26,.mk (some 28) (some (27,true)) (.load true 2 (.t 4)) .no,.mk (some 29) (some (27,true)) (.load true 2 (.t 6)) .no,.mk (some 30) (some (27,true)) (.call 63 [.t 28,.t 29]) .no,.i 31 (.pick (.t 27) (.t 30) (.c (.one (.st (.bool false))))),.m 8 31]) .ret)))
theorem Rc:OkF Try.prog 44 32 [] KZ [.t 8]:=.of Try.func44 rfl rfl (by kernel_rfl) rfl
def H3:IR :=
 (.seq (.ops [.i 1 (.box 39 (.t 0)),.i 2 (.alloc 39 [.st (.str (ByteArray.mk (#[]))),.full []])]) (.seq (.ops [.f 6 0 1,.l 7 6,.i 8 (.build [.st (.str (ByteArray.mk (#[]))),.full []] [(0,1,.t 7)]),.i 3 (.alloc 39 [.st (.str (ByteArray.mk (#[]))),.full []]),.s 2 3 8]) (.seq (.seq (.ops [.f 9 1 1,.l 10 9,.i 11 (.len false (.t 10)),.i 12 (.mov (.n 0))]) (.block 0 (.loop (.seq (.ops [.i 13 (.bin .lss (.t 12) (.t 11))]) (.seq (.cond (.t 13) .skip (.exit 0)) (.seq (.block 1 (.seq (.ops [.i 14 (.indexAddr 2 (.t 10) (.t 12)),.L 15 2 14,.i 5 (.alloc 39 [.st (.str (ByteArray.mk (#[]))),.full []]),.s 2 5 15]) (.ops [.f 16 1 3,.l 17 16,.L 18 2 5,.i 19 (.call 62 [.t 18]),.i 20 (.buildSlice false 39 2 [.t 19]),.i 21 (.append false 39 2 40 (.t 17) (.t 20)),.f 22 1 3,.s 1 22 21]))) (.ops [.i 23 (.bin .add (.t 12) (.n 1)),.m 12 23]))))))) (.seq (.ops [.L 24 2 3,.s 2 2 24]) .ret))))
theorem Nh:OkF Try.prog 62 25 [] H3 [.cell 2 true 2]:=.of Try.func62 rfl rfl (by kernel_rfl) rfl
def BS:IR :=
 (.seq (.ops [.i 4 (.mov (.n 0))]) (.seq (.seq (.ops [.m 6 0,.i 7 (.len false (.t 6)),.i 8 (.mov (.n 0))]) (.block 0 (.loop (.seq (.ops [.i 9 (.bin .lss (.t 8) (.t 7))]) (.seq (.cond (.t 9) .skip (.exit 0)) (.seq (.block 1 (.seq (.ops [.m 10 8,.m 5 10]) (.seq (.ops [.m 11 1,.m 12 0,.m 13 5,.i 14 (.indexAddr 1 (.t 12) (.t 13)),.l 15 14,.i 16 (.bin .eql (.t 11) (.t 15))]) (.cond (.t 16) (.seq (.ops [.m 17 5,.m 4 17]) .ret) .skip)))) (.ops [.i 18 (.bin .add (.t 8) (.n 1)),.m 8 18]))))))) (.seq (.ops [.i 4 (.mov (.c (.one (.st (.int .i64 (-1))))))]) .ret)))
theorem B7:OkF Try.prog 90 19 [] BS [.t 4]:=.of Try.func90 rfl rfl (by kernel_rfl) rfl
def Br:IR :=
 (.seq (.ops [.i 4 (.mov (.c (.one (.st (.bool false)))))]) (.seq (.ops [.m 5 0,.m 6 1,.i 7 (.call 90 [.t 5,.t 6]),.i 8 (.bin .geq (.t 7) (.n 0)),.m 4 8]) .ret))
theorem Cy:OkF Try.prog 75 9 [] Br [.t 4]:=.of Try.func75 rfl rfl (by kernel_rfl) rfl
def Fa:IR :=
 (.seq (.ops [.i 2 (.box 39 (.t 0)),.i 4 (.mov (.c (.one (.full []))))]) (.seq (.seq (.ops [.f 7 0 2,.l 8 7,.i 9 (.call 70 [.t 8]),.m 10 9,.mk (some 11) (some (10,true)) (.mov (.t 1)) .no,.mk (some 12) (some (10,true)) (.fieldAddr 0 (.t 2)) .no,.mk (some 13) (some (10,true)) (.load false 1 (.t 12)) .no,.mk (some 14) (some (10,true)) (.call 75 [.t 11,.t 13]) .no,.mk (some 15) (some (10,true)) (.un .not (.t 14)) .no,.i 16 (.pick (.t 10) (.t 15) (.c (.one (.st (.bool false)))))]) (.cond (.t 16) (.ops [.m 17 1,.f 18 0 2,.l 19 18,.i 20 (.buildFlat [.t 19]),.i 21 (.append false 9 1 16 (.t 17) (.t 20)),.m 1 21]) .skip)) (.seq (.seq (.ops [.f 22 1 2,.l 23 22,.i 24 (.len false (.t 23)),.i 25 (.mov (.n 0))]) (.block 0 (.loop (.seq (.ops [.i 26 (.bin .lss (.t 25) (.t 24))]) (.seq (.cond (.t 26) .skip (.exit 0)) (.seq (.block 1 (.seq (.ops [.i 27 (.indexAddr 2 (.t 23) (.t 25)),.L 28 2 27,.i 6 (.alloc 39 [.st (.str (ByteArray.mk (#[]))),.full []]),.s 2 6 28]) (.ops [.L 29 2 6,.m 30 1,.i 31 (.callS 66 [.t 29,.t 30]),.m 1 31]))) (.ops [.i 32 (.bin .add (.t 25) (.n 1)),.m 25 32]))))))) (.seq (.ops [.m 33 1,.m 4 33]) .ret))))
theorem H5:OkF Try.prog 66 34 [31] Fa [.t 4]:=.of Try.func66 rfl rfl (by kernel_rfl) rfl
def Ik:IR :=
 (.seq (.ops [.i 1 (.box 39 (.t 0)),.i 2 (.mov (.c (.one (.full []))))]) (.seq (.ops [.L 3 2 1,.i 4 (.callS 66 [.t 3,.c (.one (.full []))]),.m 2 4]) .ret))
theorem OJ:OkF Try.prog 47 5 [4] Ik [.t 2]:=.of Try.func47 rfl rfl (by kernel_rfl) rfl

end Go.Proofs.Ytkegjgodjigjfaa
