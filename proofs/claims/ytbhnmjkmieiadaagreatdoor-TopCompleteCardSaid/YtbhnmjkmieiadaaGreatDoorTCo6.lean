/-
  Part 6 of the texts. Conditions: none.
-/
import Derived.Test.YtbhnmjkmieiadaaGreatDoorTCo5
namespace Go.Proofs.YtbhnmjkmieiadaaGreatDoor
open Go Go.RowKit
set_option linter.unusedVariables false
set_option linter.unusedSimpArgs false
set_option maxHeartbeats 400000
mutual
def AC.clear (ds:List Nat):AC→Bool
 | .row id _=>!ds.contains id
 | .part id _ _=>!ds.contains id
 | .rest id _ _=>!ds.contains id
 | .ptr id _ _ _=>!ds.contains id
 | .mptr id=>!ds.contains id
 | .yld id=>!ds.contains id
 | .ubool=>true
 | .fn _ caps=>AC.clears ds caps
 | .st _=>true
 | .full _=>true
 | .eptr _=>true
 | .any=>true
def AC.clears (ds:List Nat):List AC→Bool
 | []=>true
 | c :: cs=>c.clear ds && AC.clears ds cs
end
theorem L3 {ds:List Nat}:∀ {l:List AC},AC.clears ds l=true→∀ a ∈ l,a.clear ds=true
 | [],_,a,ha=>by simp at ha
 | x :: xs,hx,a,ha=>by
  rw [AC.clears,Bool.and_eq_true] at hx
  rcases List.mem_cons.1 ha with rfl | ha
  ·exact hx.1
  ·exact L3 hx.2 a ha
def AC.purge (ds:List Nat):AC→AC
 | .row id n=>if ds.contains id then .any else .row id n
 | .part id k n=>if ds.contains id then .any else .part id k n
 | .rest id k n=>if ds.contains id then .any else .rest id k n
 | .ptr id n k off=>if ds.contains id then .any else .ptr id n k off
 | .mptr id=>if ds.contains id then .any else .mptr id
 | .yld id=>if ds.contains id then .any else .yld id
 | .fn f caps=>if AC.clears ds caps then .fn f caps else .any
 | c=>c
mutual
def AV.purge (ds:List Nat):AV→AV
 | .one c=>.one (c.purge ds)
 | .agg cs=>.agg (cs.map (AC.purge ds))
 | .tup vs=>.tup (AV.purges ds vs)
 | .any=>.any
def AV.purges (ds:List Nat):List AV→List AV
 | []=>[]
 | v :: vs=>v.purge ds :: AV.purges ds vs
end
def AK.purge (ds:List Nat):AK→AK
 | .box e cs=>.box e (cs.map (AC.purge ds))
 | .crow e cs=>.crow e (cs.map (AC.purge ds))
 | .iter x n seen=>.iter (x.purge ds) n seen
 | .loop env r=>.loop (AV.purges ds env) r
 | b=>b
def Ac (ds:List Nat) (S:AA):AA:=fun id=>if ds.contains id then none else (S id).map (AK.purge ds)
def AS.drop (ds:List Nat) (s:AS):AS:=⟨fun i=>(s.env i).purge ds,Ac ds s.S⟩
theorem DS {ds:List Nat} (hds:∀ d ∈ ds,d < 1000) {id:Nat} (h:1000≤id):ds.contains id=false:=by
 cases hc:ds.contains id with
 | false=>rfl
 | true =>
  have:=hds id (List.contains_iff_mem.1 hc)
  omega
mutual
theorem AC.clear_high {ds:List Nat} (hds:∀ d ∈ ds,d < 1000):∀ {c:AC},c.high=true→c.clear ds=true
 | .st _,_=>rfl
 | .full _,_=>rfl
 | .row id n,h=>by
  rw [AC.high] at h
  rw [AC.clear,DS hds (of_decide_eq_true h)]
  rfl
 | .part id k n,h=>by
  rw [AC.high] at h
  rw [AC.clear,DS hds (of_decide_eq_true h)]
  rfl
 | .rest id k n,h=>by
  rw [AC.high] at h
  rw [AC.clear,DS hds (of_decide_eq_true h)]
  rfl
 | .ptr id n k off,h=>by
  rw [AC.high] at h
  rw [AC.clear,DS hds (of_decide_eq_true h)]
  rfl
 | .mptr id,h=>by
  rw [AC.high] at h
  rw [AC.clear,DS hds (of_decide_eq_true h)]
  rfl
 | .yld id,h=>by
  rw [AC.high] at h
  rw [AC.clear,DS hds (of_decide_eq_true h)]
  rfl
 | .ubool,_=>rfl
 | .eptr _,_=>rfl
 | .fn f caps,h=>by
  rw [AC.high] at h
  rw [AC.clear]
  exact AC.clears_highs hds h
 | .any,_=>rfl
theorem AC.clears_highs {ds:List Nat} (hds:∀ d ∈ ds,d < 1000):∀ {cs:List AC},AC.highs cs=true→AC.clears ds cs=true
 | [],_=>rfl
 | c :: cs,h=>by
  rw [AC.highs,Bool.and_eq_true] at h
  rw [AC.clears,AC.clear_high hds h.1,AC.clears_highs hds h.2]
  rfl
end
theorem AC.purge_high {ds:List Nat} (hds:∀ d ∈ ds,d < 1000):∀ {c:AC},c.high=true→c.purge ds=c
 | .st _,_=>rfl
 | .full _,_=>rfl
 | .row id n,h=>by
  rw [AC.high] at h
  simp only [AC.purge,DS hds (of_decide_eq_true h),Bool.false_eq_true,if_false]
 | .part id k n,h=>by
  rw [AC.high] at h
  simp only [AC.purge,DS hds (of_decide_eq_true h),Bool.false_eq_true,if_false]
 | .rest id k n,h=>by
  rw [AC.high] at h
  simp only [AC.purge,DS hds (of_decide_eq_true h),Bool.false_eq_true,if_false]
 | .ptr id n k off,h=>by
  rw [AC.high] at h
  simp only [AC.purge,DS hds (of_decide_eq_true h),Bool.false_eq_true,if_false]
 | .mptr id,h=>by
  rw [AC.high] at h
  simp only [AC.purge,DS hds (of_decide_eq_true h),Bool.false_eq_true,if_false]
 | .yld id,h=>by
  rw [AC.high] at h
  simp only [AC.purge,DS hds (of_decide_eq_true h),Bool.false_eq_true,if_false]
 | .ubool,_=>rfl
 | .eptr _,_=>rfl
 | .fn f caps,h=>by
  rw [AC.high] at h
  simp only [AC.purge,AC.clears_highs hds h,if_true]
 | .any,_=>rfl
mutual
theorem AV.purge_high {ds:List Nat} (hds:∀ d ∈ ds,d < 1000):∀ {c:AV},c.high=true→c.purge ds=c
 | .one c,h=>by rw [AV.high] at h;rw [AV.purge,AC.purge_high hds h]
 | .agg cs,h=>by
  rw [AV.high] at h
  rw [AV.purge]
  congr 1
  exact (List.map_congr_left fun a ha=>AC.purge_high hds (CR h a ha)).trans (List.map_id _)
 | .tup vs,h=>by rw [AV.high] at h;rw [AV.purge,AV.purges_high hds h]
 | .any,_=>rfl
theorem AV.purges_high {ds:List Nat} (hds:∀ d ∈ ds,d < 1000):∀ {c:List AV},AV.highs c=true→AV.purges ds c=c
 | [],_=>rfl
 | c :: cs,h=>by
  rw [AV.highs,Bool.and_eq_true] at h
  rw [AV.purges,AV.purge_high hds h.1,AV.purges_high hds h.2]
end
theorem AK.purge_high {ds:List Nat} (hds:∀ d ∈ ds,d < 1000) {b:AK} (h:b.high=true):b.purge ds=b:=by
 cases b with
 | box e cs =>
  rw [AK.high] at h
  simp only [AK.purge]
  congr 1
  exact (List.map_congr_left fun a ha=>AC.purge_high hds (CR h a ha)).trans (List.map_id _)
 | crow e cs =>
  rw [AK.high] at h
  simp only [AK.purge]
  congr 1
  exact (List.map_congr_left fun a ha=>AC.purge_high hds (CR h a ha)).trans (List.map_id _)
 | arow=>rfl
 | mrow=>rfl
 | map=>rfl
 | memo=>rfl
 | iter x =>
  rw [AK.high] at h
  simp only [AK.purge,AC.purge_high hds h]
 | loop env r =>
  rw [AK.high] at h
  simp only [AK.purge,AV.purges_high hds h]
 | dead=>rfl
theorem QS {ds:List Nat} (hds:∀ d ∈ ds,d < 1000) {S:AA} (h:Am S):Ac ds S=S:=by
 funext id
 unfold Ac
 cases hb:S id with
 | none=>split <;> rfl
 | some b =>
  obtain ⟨h1,h2⟩:=h id b hb
  rw [DS hds h1,if_neg (by simp),Option.map_some,AK.purge_high hds h2]
theorem Q3 {ds:List Nat} {S:AA} {i:Nat} {b:Option AK} (h:ds.contains i=true):Ac ds (AG S i b)=Ac ds S:=by
 funext k
 unfold Ac
 by_cases e:k=i
 ·subst e
  rw [if_pos h,if_pos h]
 ·rw [AF _ e]
theorem JT {ds:List Nat} {S:AA} {i:Nat} {b:AK} (h:ds.contains i=false):Ac ds (AG S i (some b))=AG (Ac ds S) i (some (b.purge ds)):=by
 funext k
 unfold Ac
 by_cases e:k=i
 ·subst e
  rw [AE,AE,if_neg (by rw [h];simp)]
  rfl
 ·rw [AF _ e,AF _ e]
section
variable {C:Ctx} {σ:Sto} {ι:Ax} {s:AS} {a:Act} {w:World} {ds:List Nat}
theorem BZ (b:AK):(b.purge ds).len=b.len:=by cases b <;> first | rfl | simp [AK.purge,AK.len]
theorem HX (b:AK):(b.purge ds).wid=b.wid:=by cases b <;> rfl
theorem Ar.keepClear {ds:List Nat} {S S2:AA} (hS:∀ id b,ds.contains id=false→S id=some b→∃ b',S2 id=some b'∧b'.len=b.len∧b'.wid=b.wid) {v:Value} {c:AC} (h:Ar σ S ι v c) (hc:c.clear ds=true):Ar σ S2 ι v c:=by
 induction h with
 | st h=>exact .st h
 | full h=>exact .full h
 | row h1 h2 h3 h4 =>
  rw [AC.clear] at hc
  obtain ⟨b',q1,q2,q3⟩:=hS _ _ (by simpa using hc) h1
  exact .row q1 (by rw [q2];exact h2) h3 (by rw [q2];exact h4)
 | part h1 h2 h3 h4 =>
  rw [AC.clear] at hc
  obtain ⟨b',q1,q2,q3⟩:=hS _ _ (by simpa using hc) h1
  exact .part q1 (by rw [q2];exact h2) h3 (by rw [q2];exact h4)
 | rest h1 h2 h3 h4 =>
  rw [AC.clear] at hc
  obtain ⟨b',q1,q2,q3⟩:=hS _ _ (by simpa using hc) h1
  exact .rest q1 (by rw [q2];exact h2) h3 (by rw [q2,q3];exact h4)
 | ptr h1 h2 h3 h4 =>
  rw [AC.clear] at hc
  obtain ⟨b',q1,q2,q3⟩:=hS _ _ (by simpa using hc) h1
  exact .ptr q1 (by rw [q2];exact h2) h3 (by rw [q2,q3];exact h4)
 | mptr h1 h2 h3 h4 =>
  rw [AC.clear] at hc
  obtain ⟨b',q1,q2,q3⟩:=hS _ _ (by simpa using hc) h1
  exact .mptr q1 (by rw [q2];exact h2) h3 (by rw [q2];exact h4)
 | yld h1 h2 h3 h4 =>
  rw [AC.clear] at hc
  obtain ⟨b',q1,q2,q3⟩:=hS _ _ (by simpa using hc) h1
  exact .yld q1 (by rw [q2];exact h2) h3 (by rw [q2];exact h4)
 | ubool=>exact .ubool
 | eptr c h1 h2 hh=>exact .eptr c h1 h2 hh
 | fn c h1 h2 h3 ih =>
  rw [AC.clear] at hc
  exact .fn c h1 h2 (fun j a ha=>ih j a ha (L3 hc a (List.mem_of_getElem? ha)))
 | any h=>exact .any h
theorem Ar.purge (hds:∀ d ∈ ds,d < 1000) {v:Value} {c:AC} (h:Ar σ s.S ι v c):Ar σ (s.drop ds).S ι v (c.purge ds):=by
 have h0:=h
 cases h with
 | st h=>exact .st h
 | full h=>exact .full h
 | @row _ id n b h1 h2 h3 h4 =>
  simp only [AC.purge]
  split
  ·exact .any h3
  ·rename_i hn
   exact .row (b:=b.purge ds) (by simp only [AS.drop,Ac,hn];rw [h1];rfl) (by rw [BZ];exact h2) h3 (by rw [BZ];exact h4)
 | @part _ id k n b h1 h2 h3 h4 =>
  simp only [AC.purge]
  split
  ·exact .any h3
  ·rename_i hn
   exact .part (b:=b.purge ds) (by simp only [AS.drop,Ac,hn];rw [h1];rfl) (by rw [BZ];exact h2) h3 (by rw [BZ];exact h4)
 | @rest _ id k n b h1 h2 h3 h4 =>
  simp only [AC.purge]
  split
  ·exact .any h3
  ·rename_i hn
   exact .rest (b:=b.purge ds) (by simp only [AS.drop,Ac,hn];rw [h1];rfl) (by rw [BZ];exact h2) h3 (by rw [BZ,HX];exact h4)
 | @ptr _ id n k off b h1 h2 h3 h4 =>
  simp only [AC.purge]
  split
  ·exact .any h3
  ·rename_i hn
   exact .ptr (b:=b.purge ds) (by simp only [AS.drop,Ac,hn];rw [h1];rfl) (by rw [BZ];exact h2) h3 (by rw [BZ,HX];exact h4)
 | @mptr _ id b h1 h2 h3 h4 =>
  simp only [AC.purge]
  split
  ·exact .any h3
  ·rename_i hn
   exact .mptr (b:=b.purge ds) (by simp only [AS.drop,Ac,hn];rw [h1];rfl) (by rw [BZ];exact h2) h3 (by rw [BZ];exact h4)
 | @yld _ id b h1 h2 h3 h4 =>
  simp only [AC.purge]
  split
  ·exact .any h3
  ·rename_i hn
   exact .yld (b:=b.purge ds) (by simp only [AS.drop,Ac,hn];rw [h1];rfl) (by rw [BZ];exact h2) h3 (by rw [BZ];exact h4)
 | ubool=>exact .ubool
 | eptr c h1 h2 hh=>exact .eptr c h1 h2 hh
 | @fn f vs caps c h1 h2 h3 =>
  simp only [AC.purge]
  split
  ·rename_i hh
   exact h0.keepClear (ds:=ds) (fun id b hid hb=>⟨b.purge ds,by
    show Ac ds s.S id=_
    unfold Ac
    rw [hid,hb]
    rfl,BZ b,HX b⟩) (by rw [AC.clear];exact hh)
  ·exact .any rfl
 | any h=>exact .any h
mutual
theorem AQ.purge (hds:∀ d ∈ ds,d < 1000):∀ {v:Value} {c:AV},AQ σ s.S ι v c→AQ σ (s.drop ds).S ι v (c.purge ds)
 | v,.one c,h=>by cases h with | one h=>exact .one (h.purge hds)
 | v,.agg cs,h=>by cases h with | agg h=>exact .agg ((h.mono fun _ _ x=>x.purge hds).map_right)
 | v,.tup vs,h=>by
  cases h with
  | tup c h1 h2 h3 =>
   obtain ⟨k1,k2⟩:=AQ.purges hds (c:=c) h3
   exact .tup c (by rw [h1,k1]) (fun j b hb=>by
    rcases Nat.lt_or_ge j vs.length with hj | hj
    ·exact h2 j _ (List.getElem?_eq_getElem hj)
    ·rw [List.getElem?_eq_none (by omega)] at hb;cases hb) k2
 | v,.any,h=>.any
theorem AQ.purges (hds:∀ d ∈ ds,d < 1000):∀ {vs:List AV} {c:Nat→Value},(∀ j b,vs[j]?=some b→AQ σ s.S ι (c j) b)→vs.length=(AV.purges ds vs).length∧∀ j b,(AV.purges ds vs)[j]?=some b→AQ σ (s.drop ds).S ι (c j) b
 | [],c,h=>by simp [AV.purges]
 | x :: xs,c,h=>by
  obtain ⟨m1,m2⟩:=AQ.purges hds (vs:=xs) (c:=fun j=>c (j + 1)) (fun j b hb=>h (j + 1) b (by simpa using hb))
  refine ⟨by simp [AV.purges,← m1],fun j b hb=>?_⟩
  cases j with
  | zero =>
   simp [AV.purges] at hb
   subst hb
   exact AQ.purge hds (h 0 x rfl)
  | succ j=>exact m2 j b (by simpa [AV.purges] using hb)
end
theorem Bm.purge (hds:∀ d ∈ ds,d < 1000) {h:Hnd} {b:AK} (hr:Bm σ s.S ι w h b):Bm σ (s.drop ds).S ι w h (b.purge ds):=by
 cases hr with
 | box h1 h2 h3 h4 h5=>exact .box h1 h2 h3 ((h4.mono fun _ _ x=>x.purge hds).map_right) h5
 | crow h1 h2 h3 hc hm h4 h5=>exact .crow h1 h2 h3 (by simpa using hc) hm (by rw [List.length_map];exact (h4.mono fun _ _ x=>x.purge hds).map_right) h5
 | afull h1 h2 h3 h4=>exact .afull h1 h2 h3 h4
 | arow h1 h2 h3 h4 h5 h6 h7 h8 h9 hh=>exact .arow h1 h2 h3 h4 h5 h6 h7 h8 h9 hh
 | mnil h1 h2=>exact .mnil h1 h2
 | mrow h1 h2 h3 h4 h5 h6 h7 h8 h9=>exact .mrow h1 h2 h3 h4 h5 h6 h7 h8 h9
 | map h1 h2 h3 h4=>exact .map h1 h2 h3 h4
 | memo h1 h2 h3 h4=>exact .memo h1 h2 h3 h4
 | iter h1 h2 h3 h4=>exact .iter h1 h2 (h3.purge hds) h4
 | loop h1 h2 h3 h4 h5 =>
  obtain ⟨k1,k2⟩:=AQ.purges hds h4
  exact .loop h1 h2 (by rw [← k1];exact h3) k2 h5
 | dead h1=>exact .dead h1
theorem HP {id:Nat} {b:AK} (h:(s.drop ds).S id=some b):∃ b',s.S id=some b'∧b=b'.purge ds:=by
 simp only [AS.drop,Ac] at h
 split at h
 ·cases h
 ·rw [Option.map_eq_some_iff] at h
  obtain ⟨b',h1,h2⟩:=h
  exact ⟨b',h1,h2.symm⟩
theorem Aa.drop (ds:List Nat) (s:AS) (hds:∀ d ∈ ds,d < 1000):Aa C s (s.drop ds):=fun a w ⟨σ,ι,R⟩=>by
 refine ⟨σ,ι,R.size,fun i hi=>(R.env i hi).purge hds,R.nod,R.fit,fun id b h=>?_,fun id id' b b' g h1 h2 g1 g2=>?_,fun id b g h hg=>?_,R.ext,R.old,R.os,R.grown,R.same,fun id b hb=>?_⟩
 ·obtain ⟨b',h1,rfl⟩:=HP h
  exact (R.blk id b' h1).purge hds
 ·obtain ⟨c1,k1,_⟩:=HP h1
  obtain ⟨c2,k2,_⟩:=HP h2
  exact R.inj _ _ _ _ _ k1 k2 g1 g2
 ·obtain ⟨c1,k1,_⟩:=HP h
  exact R.base _ _ _ k1 hg
 ·obtain ⟨b',h1,h2,h3⟩:=R.upd id b hb
  have hid:=(C.clean id b hb).1
  have hnc:ds.contains id=false:=by
   cases hc:ds.contains id with
   | false=>rfl
   | true =>
    have:=hds id (List.contains_iff_mem.1 hc)
    omega
  refine ⟨b'.purge ds,by simp only [AS.drop,Ac,hnc];rw [h1];rfl,by rw [BZ];exact h2,fun hl=>?_⟩
  rw [BZ] at hl
  rw [HX]
  exact h3 hl
theorem Aa.share {id:Nat} {e:TypeId} {wd:Nat} {xs:List (List SV)} (hS:s.S id=some (.mrow e wd xs)):Aa C s (s.set id (.arow e wd xs)):=fun a w ⟨σ,ι,R⟩=>by
 have hb:=R.blk _ _ hS
 have hι:AG ι id (ι id)=ι:=by
  funext k
  unfold AG
  split
  ·rename_i h;rw [h]
  ·rfl
 cases hb with
 | mnil h1 h2 =>
  obtain ⟨hu,R'⟩:=R.turn (w':=w) hS (.arow e wd []) (ι id) (σ':=σ) (fun _ _ h=>h) (fun _ _ _=>rfl) R.fit (Nat.le_refl _) (fun _=>⟨rfl,rfl⟩) ⟨rfl,rfl,rfl⟩ (Nat.le_refl _) (fun _ _ _=>rfl) (fun g h=>.inl h) (fun hu=>.afull h1 (by simpa using h2) (by simp) (.list (b:=0) (o:=0) (w:=0) (fun _ _=>undef) rfl (by simp) (by rw [h2];simp [maxLen]) (fun _=>h2) (by simp) (by simp) (fun _ h _=>absurd h (by omega)) (by simp) (by simp)))
  exact ⟨σ,_,R'⟩
 | @mrow _ _ _ g vs h1 h2 h3 h4 h5 h6 h7 h8 h9 =>
  have hl:BL σ vs.toList wd xs:=⟨h7,fun k x j y hx hy=>by simpa using h8 k x j y hx hy⟩
  have hkeep:=FS (σ:=σ) (w':=w) (g:=g) (k:=xs.length * wd) (fun p x e hx=>by rw [h9 _ e] at hx;cases hx)
  obtain ⟨hu,R'⟩:=R.turn (w':=w) hS (.arow e wd xs) (ι id) (σ':=El σ w g (xs.length * wd)) hkeep (fun p hp _=>FT (fun e=>hp (by rw [e];exact h1))) (En R.fit) (Nat.le_refl _) (fun _=>⟨rfl,rfl⟩) ⟨rfl,rfl,rfl⟩ (Nat.le_refl _) (fun _ _ _=>rfl) (fun g h=>.inl h)
   (fun hu=>by
    have:=J1 (S':=(s.set id (.arow e wd xs)).S) (ι':=AG ι id (ι id)) (w':=w) (p:=(ι id).p) h2 h3 h4 h5 h6 hl hkeep (fun p hp hne=>absurd (h9 p hp) hne)
    rw [← h1] at this
    exact this)
  exact ⟨_,_,R'⟩
theorem Aa.own (t id:Nat) (e:TypeId) (wd:Nat) {xs:List (List SV)} (ht:s.env t=.one (.full xs)) (hid:s.S id=none) (hw:∀ x ∈ xs,x.length=wd) (hn:t < C.n):Aa C s ⟨AG s.env t (.one (.row id xs.length)),AG s.S id (some (.arow e wd xs))⟩:=fun a w ⟨σ,ι,R⟩=>by
 have rt:=R.env t hn
 rw [ht] at rt
 generalize hv:a.tmps.getD t undef=v at rt
 cases AW rt with
 | @full p len xs hs =>
  have hl:len=xs.length:=by
   obtain ⟨p',cap',e1,_⟩:=Ca hs
   cases e1
   rfl
  subst hl
  obtain ⟨hu,R'⟩:=R.fresh (w':=w) hid (.arow e wd xs) ⟨p,xs.length,none⟩ (Ext.refl _ _) R.fit (Below.refl _ _) (by simp) (fun S' ι' hu=>.afull rfl rfl hw hs)
  refine ⟨σ,_,R'.size,fun i hi=>?_,R'.nod,R'.fit,R'.blk,R'.inj,R'.base,R'.ext,R'.old,R'.os,R'.grown,R'.same,R'.upd⟩
  show AQ σ (s.set id (.arow e wd xs)).S _ _ (AG s.env t _ i)
  unfold AG
  split
  ·rename_i e1
   subst e1
   rw [hv]
   exact .one (.row (b:=.arow e wd xs) (by simp [AS.set,AE]) (Nat.le_refl _) rfl fun _=>by simp [AG])
  ·exact R'.env i hi
theorem Aa.ownM (t id:Nat) (e:TypeId) (wd:Nat) (ht:s.env t=.one (.full [])) (hid:s.S id=none) (hn:t < C.n):Aa C s ⟨AG s.env t (.one (.row id 0)),AG s.S id (some (.mrow e wd []))⟩:=fun a w ⟨σ,ι,R⟩=>by
 have rt:=R.env t hn
 rw [ht] at rt
 generalize hv:a.tmps.getD t undef=v at rt
 cases AW rt with
 | @full p len xs hs =>
  have hl:len=0:=by
   obtain ⟨p',cap',e1,_⟩:=Ca hs
   cases e1
   rfl
  subst hl
  obtain ⟨hu,R'⟩:=R.fresh (w':=w) hid (.mrow e wd []) ⟨p,0,none⟩ (Ext.refl _ _) R.fit (Below.refl _ _) (by simp) (fun S' ι' hu=>.mnil rfl rfl)
  refine ⟨σ,_,R'.size,fun i hi=>?_,R'.nod,R'.fit,R'.blk,R'.inj,R'.base,R'.ext,R'.old,R'.os,R'.grown,R'.same,R'.upd⟩
  show AQ σ (s.set id (.mrow e wd [])).S _ _ (AG s.env t _ i)
  unfold AG
  split
  ·rename_i e1
   subst e1
   rw [hv]
   exact .one (.row (b:=.mrow e wd []) (by simp [AS.set,AE]) (Nat.le_refl _) rfl fun _=>by simp [AG])
  ·exact R'.env i hi
theorem Aa.toPart (t id n:Nat) (ht:s.env t=.one (.row id n)) (hn:t < C.n):Aa C s ⟨AG s.env t (.one (.part id n n)),s.S⟩:=fun a w ⟨σ,ι,R⟩=>by
 have rt:=R.env t hn
 rw [ht] at rt
 refine ⟨σ,ι,R.size,fun i hi=>?_,R.nod,R.fit,R.blk,R.inj,R.base,R.ext,R.old,R.os,R.grown,R.same,R.upd⟩
 show AQ σ s.S ι _ (AG s.env t _ i)
 unfold AG
 split
 ·rename_i e1
  subst e1
  obtain ⟨b,h1,h2,h3⟩:=Cq (AW rt)
  exact .one (.part h1 h2 (AW rt).one fun hl=>⟨Nat.le_refl _,h3 hl⟩)
 ·exact R.env i hi
theorem Aa.keep (t id k n:Nat) {e:TypeId} {wd:Nat} {xs:List (List SV)} (ht:s.env t=.one (.part id k n)) (hS:s.S id=some (.arow e wd xs)) (hl:n=xs.length) (hn:t < C.n):Aa C s ⟨AG s.env t (.one (.st (.list (xs.take k)))),s.S⟩:=fun a w ⟨σ,ι,R⟩=>by
 have rt:=R.env t hn
 rw [ht] at rt
 refine ⟨σ,ι,R.size,fun i hi=>?_,R.nod,R.fit,R.blk,R.inj,R.base,R.ext,R.old,R.os,R.grown,R.same,R.upd⟩
 show AQ σ s.S ι _ (AG s.env t _ i)
 unfold AG
 split
 ·rename_i e1
  subst e1
  obtain ⟨b,h1,h2,h3⟩:=Fk (AW rt)
  rw [hS] at h1
  cases h1
  obtain ⟨h4,h5⟩:=h3 hl
  rw [h5]
  have hb:=R.blk _ _ hS
  have hr:=hb.srep
  have hmem:∀ {kk x},(xs.take k)[kk]?=some x→xs[kk]?=some x:=fun hx=>by
   rw [List.getElem?_take] at hx
   split at hx
   ·exact hx
   ·cases hx
  cases hr with
  | @list p len cap b o w' _ c q1 q2 q3 q4 q5 q6 qh q7 q8 =>
   exact .one (.st (.list (b:=b) (o:=o) (w:=w') c (by rw [List.length_take];omega) (by omega) q3 q4 (fun hne=>q5 (by omega)) (fun x hx=>q6 x (List.mem_of_mem_take hx)) (fun e1 e2 e3=>qh e1 e2 (fun e4=>e3 (by rw [e4];exact List.take_nil))) (fun kk x j a hx ha=>q7 kk x j a (hmem hx) ha) (fun kk x j a hx ha=>q8 kk x j a (hmem hx) ha)))
 ·exact R.env i hi
theorem Aa.ownC (id j nid:Nat) (e:TypeId) (wd:Nat) {xs:List (List SV)} {ty:TypeId} {cs:List AC} (hb:s.S id=some (.box ty cs)) (hc:cs[j]?=some (.full xs)) (hn:s.S nid=none) (hw:∀ x ∈ xs,x.length=wd) :
  Aa C s ((s.set nid (.arow e wd xs)).set id (.box ty (cs.set j (.row nid xs.length)))):=fun a w ⟨σ,ι,R⟩=>by
 have hbk:=R.blk id _ hb
 have hne:id ≠ nid:=fun e=>by subst e;rw [hb] at hn;cases hn
 cases hbk with
 | @box _ _ g vs h1 h2 h3 h4 h5 =>
  obtain ⟨v,hv,hr⟩:=h4.get hc
  cases hr with
  | @full p len xs hs =>
   have hl:len=xs.length:=by
    obtain ⟨p',cap',e1,_⟩:=Ca hs
    cases e1
    rfl
   subst hl
   obtain ⟨hu,R'⟩:=R.fresh (w':=w) hn (.arow e wd xs) ⟨p,xs.length,none⟩ (Ext.refl _ _) R.fit (Below.refl _ _) (by simp) (fun S' ι' hu=>.afull rfl rfl hw hs)
   have hb':(s.set nid (.arow e wd xs)).S id=some (.box ty cs):=by simp [AS.set,AF _ hne,hb]
   have hι:AG ι nid ⟨p,xs.length,none⟩ id=ι id:=AF _ hne _
   obtain ⟨hu2,R2⟩:=R'.turn (w':=w) hb' (.box ty (cs.set j (.row nid xs.length))) (AG ι nid ⟨p,xs.length,none⟩ id) (σ':=σ) (fun _ _ h=>h) (fun _ _ _=>rfl) R.fit (Nat.le_refl _) (fun _=>⟨by simp [AK.wid],rfl⟩) ⟨rfl,rfl,rfl⟩ (Nat.le_refl _) (fun _ _ _=>rfl) (fun g h=>.inl h) (fun hu2=>by
    refine .box (by rw [hι];exact h1) (by rw [hι];exact h2) h3 (Af.of_get (by rw [List.length_set];exact h4.len) fun k u c hu' hck=>?_) h5
    by_cases hk:k=j
    ·subst hk
     rw [hv] at hu'
     cases hu'
     have hlt:k < cs.length:=(List.getElem?_eq_some_iff.1 hc).1
     rw [List.getElem?_set_self hlt] at hck
     cases hck
     exact .row (b:=.arow e wd xs) (by simp [AS.set,AG,hne.symm]) (Nat.le_refl _) rfl fun _=>by simp [AG,hne.symm]
    ·rw [List.getElem?_set_ne (fun e=>hk e.symm)] at hck
     obtain ⟨u',q1,q2⟩:=h4.get hck
     rw [hu'] at q1
     cases q1
     exact (q2.mono (fun _ _ h=>h) hu).mono (fun _ _ h=>h) hu2)
   exact ⟨_,_,R2⟩
theorem O6 {v:Value} {c:AV} (h:AQ σ noS noH v c):AQ σ s.S ι v c:=h.mono (fun _ _ h=>h) (Ii _ _)
theorem Aa.settle (t:Nat) {v:AV} (h:outV s.S (s.env t)=some v):Aa C s ⟨AG s.env t v,s.S⟩:=fun a w ⟨σ,ι,R⟩=>by
 refine ⟨σ,ι,R.size,fun i hi=>?_,R.nod,R.fit,R.blk,R.inj,R.base,R.ext,R.old,R.os,R.grown,R.same,R.upd⟩
 show AQ σ s.S ι _ (AG s.env t v i)
 unfold AG
 split
 ·rename_i e
  subst e
  exact O6 (R.outV (R.env i hi) h)
 ·exact R.env i hi
def AV.low (v:AV):AV:=if v.high then v else .any
theorem AT.low (R:AT C σ ι s a w) (hb:∀ i b,1000≤i→s.S i=some b→b.high=true):AT C σ ι ⟨fun i=>(s.env i).low,CD s.S⟩ a w:=by
 have hS:∀ i b,1000≤i→s.S i=some b→CD s.S i=some b:=fun i b hi h=>by
  show (if i < 1000 then none else s.S i)=some b
  rw [if_neg (by omega),h]
 have hinv:∀ i b,CD s.S i=some b→1000≤i∧s.S i=some b:=fun i b h=>by
  have h':(if i < 1000 then none else s.S i)=some b:=h
  split at h'
  ·cases h'
  ·exact ⟨by omega,h'⟩
 refine ⟨R.size,fun i hi=>?_,R.nod,R.fit,fun id b h=>?_,fun id id' b b' g h1 h2 g1 g2=>R.inj _ _ _ _ g (hinv _ _ h1).2 (hinv _ _ h2).2 g1 g2,fun id b g h hg=>R.base _ _ g (hinv _ _ h).2 hg,R.ext,R.old,R.os,R.grown,R.same,fun id b h=>?_⟩
 ·show AQ σ (CD s.S) ι _ ((s.env i).low)
  unfold AV.low
  split
  ·rename_i hh
   exact (R.env i hi).low hS hh
  ·exact .any
 ·obtain ⟨h1,h2⟩:=hinv _ _ h
  have hh:=hb id b h1 h2
  cases R.blk id b h2 with
  | box k1 k2 k3 k4 k5=>exact .box k1 k2 k3 (MF hS k4 hh) k5
  | crow k1 k2 k3 kc km k4 k5=>exact .crow k1 k2 k3 kc km (MF hS k4 hh) k5
  | afull k1 k2 k3 k4=>exact .afull k1 k2 k3 k4
  | arow k1 k2 k3 k4 k5 k6 k7 k8 k9 kh=>exact .arow k1 k2 k3 k4 k5 k6 k7 k8 k9 kh
  | mnil k1 k2=>exact .mnil k1 k2
  | mrow k1 k2 k3 k4 k5 k6 k7 k8 k9=>exact .mrow k1 k2 k3 k4 k5 k6 k7 k8 k9
  | map k1 k2 k3 k4=>exact .map k1 k2 k3 k4
  | memo k1 k2 k3 k4=>exact .memo k1 k2 k3 k4
  | iter k1 k2 k3 k4=>exact .iter k1 k2 (k3.low hS hh) k4
  | loop k1 k2 k3 k4 k5=>exact .loop k1 k2 k3 (AQ.lows hS k4 hh) k5
  | dead k1=>exact .dead k1
 ·obtain ⟨b',h1,h2⟩:=R.upd id b h
  exact ⟨b',hS _ _ (C.clean id b h).1 h1,h2⟩
theorem Aa.low (hb:∀ i b,1000≤i→s.S i=some b→b.high=true):Aa C s ⟨fun i=>(s.env i).low,CD s.S⟩:=fun a w ⟨σ,ι,R⟩=>⟨σ,ι,R.low hb⟩
def Bn (id a:Nat) (i:Nat):Nat:=if i=id then a else i
def AV.hand (id a:Nat) (v:AV):AV:=if (v.ren (Bn id a)).high then v.ren (Bn id a) else .any
section
variable {S S2:AA} {ι2:Ax} {id a0:Nat}
theorem Ar.hand (hS:∀ i b,1000≤Bn id a0 i→S i=some b→S2 (Bn id a0 i)=some b∧ι2 (Bn id a0 i)=ι i) {v:Value} {c:AC} (h:Ar σ S ι v c) (hc:(c.ren (Bn id a0)).high=true):Ar σ S2 ι2 v (c.ren (Bn id a0)):=by
 induction h with
 | st h=>exact .st h
 | full h=>exact .full h
 | row h1 h2 h3 h4 =>
  rw [AC.ren,AC.high] at hc
  obtain ⟨q1,q2⟩:=hS _ _ (of_decide_eq_true hc) h1
  rw [AC.ren]
  exact .row q1 h2 h3 (fun hn=>by rw [q2];exact h4 hn)
 | part h1 h2 h3 h4 =>
  rw [AC.ren,AC.high] at hc
  obtain ⟨q1,q2⟩:=hS _ _ (of_decide_eq_true hc) h1
  rw [AC.ren]
  exact .part q1 h2 h3 (fun hn=>by rw [q2];exact h4 hn)
 | rest h1 h2 h3 h4 =>
  rw [AC.ren,AC.high] at hc
  obtain ⟨q1,q2⟩:=hS _ _ (of_decide_eq_true hc) h1
  rw [AC.ren]
  exact .rest q1 h2 h3 (fun hn=>by rw [q2];exact h4 hn)
 | ptr h1 h2 h3 h4 =>
  rw [AC.ren,AC.high] at hc
  obtain ⟨q1,q2⟩:=hS _ _ (of_decide_eq_true hc) h1
  rw [AC.ren]
  exact .ptr q1 h2 h3 (fun hn=>by rw [q2];exact h4 hn)
 | mptr h1 h2 h3 h4 =>
  rw [AC.ren,AC.high] at hc
  obtain ⟨q1,q2⟩:=hS _ _ (of_decide_eq_true hc) h1
  rw [AC.ren]
  exact .mptr q1 h2 h3 (fun hn=>by rw [q2];exact h4 hn)
 | yld h1 h2 h3 h4 =>
  rw [AC.ren,AC.high] at hc
  obtain ⟨q1,q2⟩:=hS _ _ (of_decide_eq_true hc) h1
  rw [AC.ren]
  exact .yld q1 h2 h3 (fun hn=>by rw [q2];exact h4 hn)
 | ubool=>exact .ubool
 | eptr c h1 h2 hh=>exact .eptr c h1 h2 hh
 | @fn f vs caps c h1 h2 h3 ih =>
  rw [AC.ren,AC.high] at hc
  rw [AC.ren]
  have key:∀ (j:Nat) (b:AC),(AC.rens (Bn id a0) caps)[j]?=some b→∃ a,caps[j]?=some a∧b=a.ren (Bn id a0):=fun j b hb=>by
   rw [AC.rens_eq,List.getElem?_map,Option.map_eq_some_iff] at hb
   obtain ⟨a,ha,rfl⟩:=hb
   exact ⟨a,ha,rfl⟩
  refine .fn c (by rw [AC.rens_eq];simpa using h1) (fun j b hb=>?_) (fun j b hb=>?_)
  ·obtain ⟨a,ha,rfl⟩:=key j b hb
   exact h2 j a ha
  ·have hm:=CR hc b (List.mem_of_getElem? hb)
   obtain ⟨a,ha,rfl⟩:=key j b hb
   exact ih j a ha hm
 | any h=>exact .any h
mutual
theorem AQ.hand (hS:∀ i b,1000≤Bn id a0 i→S i=some b→S2 (Bn id a0 i)=some b∧ι2 (Bn id a0 i)=ι i):∀ {v:Value} {c:AV},AQ σ S ι v c→(c.ren (Bn id a0)).high=true→AQ σ S2 ι2 v (c.ren (Bn id a0))
 | v,.one c,h,hc=>by
  rw [AV.ren] at hc ⊢
  rw [AV.high] at hc
  cases h with | one h=>exact .one (h.hand hS hc)
 | v,.agg cs,h,hc=>by
  rw [AV.ren] at hc ⊢
  rw [AV.high] at hc
  cases h with
  | agg h =>
   refine .agg (Af.of_get (by rw [AC.rens_eq];simpa using h.len) fun j x c hx hcj=>?_)
   have hm:=CR hc c (List.mem_of_getElem? hcj)
   rw [AC.rens_eq,List.getElem?_map,Option.map_eq_some_iff] at hcj
   obtain ⟨c',hc',rfl⟩:=hcj
   obtain ⟨x',h1,h2⟩:=h.get hc'
   rw [hx] at h1
   cases h1
   exact h2.hand hS hm
 | v,.tup vs,h,hc=>by
  rw [AV.ren] at hc ⊢
  rw [AV.high] at hc
  cases h with
  | tup c h1 h2 h3 =>
   obtain ⟨k1,k2⟩:=AQ.hands hS h3 hc
   exact .tup c (by rw [h1,k1]) (fun j b hb=>by
    rcases Nat.lt_or_ge j vs.length with hj | hj
    ·exact h2 j _ (List.getElem?_eq_getElem hj)
    ·rw [List.getElem?_eq_none (by omega)] at hb;cases hb) k2
 | v,.any,h,_=>.any
theorem AQ.hands (hS:∀ i b,1000≤Bn id a0 i→S i=some b→S2 (Bn id a0 i)=some b∧ι2 (Bn id a0 i)=ι i):∀ {vs:List AV} {c:Nat→Value},(∀ j b,vs[j]?=some b→AQ σ S ι (c j) b)→AV.highs (AV.rens (Bn id a0) vs)=true→vs.length=(AV.rens (Bn id a0) vs).length∧∀ j b,(AV.rens (Bn id a0) vs)[j]?=some b→AQ σ S2 ι2 (c j) b
 | [],c,h,_=>by simp [AV.rens]
 | x :: xs,c,h,hc=>by
  rw [AV.rens,AV.highs,Bool.and_eq_true] at hc
  obtain ⟨m1,m2⟩:=AQ.hands hS (vs:=xs) (c:=fun j=>c (j + 1)) (fun j b hb=>h (j + 1) b (by simpa using hb)) hc.2
  refine ⟨by simp [AV.rens,← m1],fun j b hb=>?_⟩
  cases j with
  | zero =>
   simp [AV.rens] at hb
   subst hb
   exact AQ.hand hS (h 0 x rfl) hc.1
  | succ j=>exact m2 j b (by simpa [AV.rens] using hb)
end
end
theorem Ar.stay {S S2:AA} {ι2:Ax} (hS:∀ i b,1000≤i→S i=some b→S2 i=some b∧ι2 i=ι i) {v:Value} {c:AC} (h:Ar σ S ι v c) (hc:c.high=true):Ar σ S2 ι2 v c:=by
 induction h with
 | st h=>exact .st h
 | full h=>exact .full h
 | row h1 h2 h3 h4 =>
  rw [AC.high] at hc
  obtain ⟨q1,q2⟩:=hS _ _ (of_decide_eq_true hc) h1
  exact .row q1 h2 h3 (fun hn=>by rw [q2];exact h4 hn)
 | part h1 h2 h3 h4 =>
  rw [AC.high] at hc
  obtain ⟨q1,q2⟩:=hS _ _ (of_decide_eq_true hc) h1
  exact .part q1 h2 h3 (fun hn=>by rw [q2];exact h4 hn)
 | rest h1 h2 h3 h4 =>
  rw [AC.high] at hc
  obtain ⟨q1,q2⟩:=hS _ _ (of_decide_eq_true hc) h1
  exact .rest q1 h2 h3 (fun hn=>by rw [q2];exact h4 hn)
 | ptr h1 h2 h3 h4 =>
  rw [AC.high] at hc
  obtain ⟨q1,q2⟩:=hS _ _ (of_decide_eq_true hc) h1
  exact .ptr q1 h2 h3 (fun hn=>by rw [q2];exact h4 hn)
 | mptr h1 h2 h3 h4 =>
  rw [AC.high] at hc
  obtain ⟨q1,q2⟩:=hS _ _ (of_decide_eq_true hc) h1
  exact .mptr q1 h2 h3 (fun hn=>by rw [q2];exact h4 hn)
 | yld h1 h2 h3 h4 =>
  rw [AC.high] at hc
  obtain ⟨q1,q2⟩:=hS _ _ (of_decide_eq_true hc) h1
  exact .yld q1 h2 h3 (fun hn=>by rw [q2];exact h4 hn)
 | ubool=>exact .ubool
 | eptr c h1 h2 hh=>exact .eptr c h1 h2 hh
 | fn c h1 h2 h3 ih =>
  rw [AC.high] at hc
  exact .fn c h1 h2 (fun j a ha=>ih j a ha (CR hc a (List.mem_of_getElem? ha)))
 | any h=>exact .any h
theorem AT.hand (R:AT C σ ι s a w) (id a0:Nat) {b0:AK} (hid:id < 1000) (ha:1000≤a0) (hSa:s.S a0=none) (hb0:s.S id=some b0) (hbh:b0.high=true) (hb:∀ i b,1000≤i→s.S i=some b→b.high=true) :
  AT C σ (AG ι a0 (ι id)) ⟨fun i=>(s.env i).hand id a0,AG (CD s.S) a0 (some b0)⟩ a w∧∀ i b,1000≤Bn id a0 i→s.S i=some b→AG (CD s.S) a0 (some b0) (Bn id a0 i)=some b∧AG ι a0 (ι id) (Bn id a0 i)=ι i:=by
 have hlow:∀ i,1000≤i→CD s.S i=s.S i:=fun i hi=>by
  show (if i < 1000 then none else s.S i)=_
  rw [if_neg (by omega)]
 have hS:∀ i b,1000≤Bn id a0 i→s.S i=some b→AG (CD s.S) a0 (some b0) (Bn id a0 i)=some b∧AG ι a0 (ι id) (Bn id a0 i)=ι i:=fun i b hi h=>by
  unfold Bn at hi ⊢
  by_cases e:i=id
  ·subst e
   rw [if_pos rfl,AE,AE,← hb0,h]
   exact ⟨rfl,rfl⟩
  ·rw [if_neg e] at hi ⊢
   have hne:i ≠ a0:=fun e=>by subst e;rw [hSa] at h;cases h
   rw [AF _ hne,AF _ hne,hlow i hi]
   exact ⟨h,rfl⟩
 have hS':∀ i b,1000≤i→s.S i=some b→AG (CD s.S) a0 (some b0) i=some b∧AG ι a0 (ι id) i=ι i:=fun i b hi h=>by
  have hne:i ≠ a0:=fun e=>by subst e;rw [hSa] at h;cases h
  rw [AF _ hne,AF _ hne,hlow i hi]
  exact ⟨h,rfl⟩
 have hinv:∀ i b,AG (CD s.S) a0 (some b0) i=some b→(i=a0∧b=b0) ∨ (i ≠ a0∧1000≤i∧s.S i=some b):=fun i b h=>by
  by_cases e:i=a0
  ·subst e
   rw [AE] at h
   cases h
   exact .inl ⟨rfl,rfl⟩
  ·rw [AF _ e] at h
   have h':(if i < 1000 then none else s.S i)=some b:=h
   split at h'
   ·cases h'
   ·exact .inr ⟨e,by omega,h'⟩
 refine ⟨⟨R.size,fun i hi=>?_,R.nod,R.fit,fun i b h=>?_,fun i j b c g h1 h2 g1 g2=>?_,fun i b g h hg=>?_,R.ext,R.old,R.os,R.grown,R.same,fun i b h=>?_⟩,hS⟩
 ·show AQ σ (AG (CD s.S) a0 (some b0)) _ _ ((s.env i).hand id a0)
  unfold AV.hand
  split
  ·rename_i hh
   exact (R.env i hi).hand hS hh
  ·exact .any
 ·rcases hinv i b h with ⟨rfl,rfl⟩ | ⟨hne,h1,h2⟩
  ·rw [AE]
   exact (R.blk id _ hb0).samecells (fun v c hv hc=>hv.stay hS' hc) hbh
  ·rw [AF _ hne]
   exact (R.blk i b h2).samecells (fun v c hv hc=>hv.stay hS' hc) (hb i b h1 h2)
 ·rcases hinv i b h1 with ⟨rfl,rfl⟩ | ⟨hne,k1,k2⟩ <;> rcases hinv j c h2 with ⟨rfl,rfl⟩ | ⟨hne',k1',k2'⟩
  ·rfl
  ·rw [AE] at g1
   rw [AF _ hne'] at g2
   have:=R.inj _ _ _ _ g hb0 k2' g1 g2
   omega
  ·rw [AE] at g2
   rw [AF _ hne] at g1
   have:=R.inj _ _ _ _ g k2 hb0 g1 g2
   omega
  ·rw [AF _ hne] at g1
   rw [AF _ hne'] at g2
   exact R.inj _ _ _ _ g k2 k2' g1 g2
 ·rcases hinv i b h with ⟨rfl,rfl⟩ | ⟨hne,k1,k2⟩
  ·rw [AE] at hg
   exact R.base _ _ g hb0 hg
  ·rw [AF _ hne] at hg
   exact R.base _ _ g k2 hg
 ·obtain ⟨b',h1,h2,h3⟩:=R.upd i b h
  obtain ⟨q1,q2⟩:=hS' i b' (C.clean i b h).1 h1
  exact ⟨b',q1,h2,fun hl=>⟨(h3 hl).1,by rw [q2];exact (h3 hl).2⟩⟩
theorem Aa.hand (id a0:Nat) {b0:AK} (hid:id < 1000) (ha:1000≤a0) (hSa:s.S a0=none) (hb0:s.S id=some b0) (hbh:b0.high=true) (hb:∀ i b,1000≤i→s.S i=some b→b.high=true):Aa C s ⟨fun i=>(s.env i).hand id a0,AG (CD s.S) a0 (some b0)⟩:=fun a w ⟨σ,ι,R⟩ =>
 ⟨σ,_,(R.hand id a0 hid ha hSa hb0 hbh hb).1⟩
theorem Ob {C:Ctx} {rs:List RV} {S':AA} {e:AX} {s:AS} (he:match e with | .normal=>True | .ret=>True | _=>False) (id a0:Nat) (r0:AV) {b0:AK} (hid:id < 1000) (ha:1000≤a0) (hSa:s.S a0=none) (hb0:s.S id=some b0) (hbh:b0.high=true) (hb:∀ i b,1000≤i→s.S i=some b→b.high=true)
  (h1:(AB s rs).map AL=some r0) (hh:(r0.ren (Bn id a0)).high=true) (h3:AG (CD s.S) a0 (some b0)=S') (hc:Am S'):F7 C rs (r0.ren (Bn id a0)) S' e s :=
 ⟨he,s,⟨fun i=>(s.env i).hand id a0,AG (CD s.S) a0 (some b0)⟩,r0,Aa.refl _ _,h1,fun σ ι a w R=>⟨σ,_,(R.hand id a0 hid ha hSa hb0 hbh hb).1,fun v hv=>hv.hand (R.hand id a0 hid ha hSa hb0 hbh hb).2 hh⟩,h3,hc⟩
theorem At (S:AA) (i:Nat):upS S (up1 i)=(S i).map (AK.ren up1):=by
 show (if i + 1000 < 1000 then none else (S (i + 1000 - 1000)).map (AK.ren up1))=_
 rw [if_neg (by omega),Nat.add_sub_cancel]
theorem I1 (S:AA) (i:Nat) (b:AK):dnS (AG S (up1 i) (some b))=AG (dnS S) i (some (b.ren dn1)):=by
 funext k
 show (AG S (up1 i) (some b) (up1 k)).map _=AG (dnS S) i _ k
 by_cases h:k=i
 ·subst h
  rw [AE,AE]
  rfl
 ·have hne:up1 k ≠ up1 i:=fun e=>h (by have:=congrArg dn1 e;rw [Gi,Gi] at this;exact this)
  rw [AF _ hne,AF _ h]
  rfl
theorem JG (S:AA) {i:Nat} (h:i < 1000) (b:Option AK):CD (AG S i b)=CD S:=by
 funext k
 show (if k < 1000 then none else AG S i b k)=(if k < 1000 then none else S k)
 split
 ·rfl
 ·exact AF _ (by omega) _
theorem VS (S:AA) {i:Nat} (h:1000≤i) (b:Option AK):CD (AG S i b)=AG (CD S) i b:=by
 funext k
 show (if k < 1000 then none else AG S i b k)=AG (CD S) i b k
 by_cases e:k=i
 ·subst e
  rw [if_neg (by omega),AE,AE]
 ·rw [AF _ e,AF _ e]
  rfl
theorem BP {S:AA} (h:Am S) {i:Nat} (hi:1000≤i) {b:AK} (hb:b.high=true):Am (AG S i (some b)):=fun k c hk=>by
 by_cases e:k=i
 ·subst e
  rw [AE] at hk
  cases hk
  exact ⟨hi,hb⟩
 ·rw [AF _ e] at hk
  exact h k c hk
theorem X4 {S:AA} {i:Nat} {b:AK} (h:∀ k c,1000≤k→S k=some c→c.high=true) (hb:b.high=true):∀ k c,1000≤k→AG S i (some b) k=some c→c.high=true:=fun k c hk hc=>by
 by_cases e:k=i
 ·subst e
  rw [AE] at hc
  cases hc
  exact hb
 ·rw [AF _ e] at hc
  exact h k c hk hc
theorem Jl {S:AA} {i:Nat} (hi:i < 1000) {b:Option AK} (h:∀ k c,1000≤k→S k=some c→c.high=true):∀ k c,1000≤k→AG S i b k=some c→c.high=true:=fun k c hk hc=>by
 rw [AF _ (by omega)] at hc
 exact h k c hk hc
end
theorem IWP.loopD {P:Program} {C:Ctx} {mu:List Nat} {Q:AX→AS→Prop} {s:AS} {x:IR} (ds:List Nat) (Inv:Nat→AS→Prop) (m0:Nat) (h0:Inv m0 s) (h:∀ m s,Inv m s→IWP P C mu x (AX.then (fun s'=>∃ m',m' < m∧Inv m' (s'.drop ds)) Q) s) (hds:∀ d ∈ ds,d < 1000:=by decide):IWP P C mu (.loop x) Q s:=by
 refine IWP.loop (fun m s=>∃ s1,Aa C s s1∧Inv m s1) m0 ⟨s,Aa.refl _ _,h0⟩ fun m s ⟨s1,hg,hi⟩=>?_
 refine (IWP.ghost hg (h m s1 hi)).mono fun e s2 he=>?_
 cases e with
 | normal =>
  obtain ⟨m',h1,h2⟩:=he
  exact ⟨m',h1,_,Aa.drop ds s2 hds,h2⟩
 | _=>exact he
theorem Ar.out {σ:Sto} {S:AA} {ι:Ax} {v:Value} {c:AC} (h:Ar σ S ι v c) (hc:outC noS c=some c):Ar σ noS noH v c:=by
 cases h with
 | st h=>exact .st h
 | full h=>simp [outC,stC] at hc
 | row h1 h2 h3 h4=>simp [outC,stC,noS] at hc
 | part h1 h2 h3 h4=>simp [outC,stC,noS] at hc
 | rest h1 h2 h3 h4=>simp [outC,stC,noS] at hc
 | ptr h1 h2 h3 h4=>simp [outC,stC] at hc
 | mptr h1 h2 h3 h4=>simp [outC,stC] at hc
 | yld h1 h2 h3 h4=>simp [outC,stC] at hc
 | ubool=>exact .ubool
 | eptr c h1 h2 hh=>exact .eptr c h1 h2 hh
 | @fn f vs caps c h1 h2 h3 =>
  cases caps with
  | nil=>exact .fn c h1 h2 (by simp)
  | cons x xs =>
   have hall:(x :: xs).all AC.stay=true:=by
    unfold outC at hc
    by_cases e:(x :: xs).all AC.stay=true
    ·exact e
    ·simp only [e,if_false] at hc
     cases hc
   exact .fn c h1 h2 fun j a ha=>(h3 j a ha).staying (List.all_eq_true.1 hall a (List.mem_of_getElem? ha))
 | any h=>simp [outC,stC] at hc
theorem Lm:∀ {cs:List AC},outCs noS cs=some cs→∀ c ∈ cs,outC noS c=some c
 | [],_,c,hc=>by simp at hc
 | x :: xs,h,c,hc=>by
  simp only [outCs] at h
  split at h
  ·rename_i y ys h1 h2
   simp only [Option.some.injEq,List.cons.injEq] at h
   obtain ⟨rfl,rfl⟩:=h
   rcases List.mem_cons.1 hc with rfl | hc
   ·exact h1
   ·exact Lm h2 c hc
  ·cases h
mutual
theorem AQ.out {σ:Sto} {S:AA} {ι:Ax}:∀ {v:Value} {c:AV},AQ σ S ι v c→outV noS c=some c→AQ σ noS noH v c
 | v,.one c,h,hc=>by
  rw [outV,Option.map_eq_some_iff] at hc
  obtain ⟨a,h1,h2⟩:=hc
  cases h2
  cases h with | one h=>exact .one (h.out h1)
 | v,.agg cs,h,hc=>by
  rw [outV,Option.map_eq_some_iff] at hc
  obtain ⟨a,h1,h2⟩:=hc
  cases h2
  cases h with
  | agg h=>exact .agg (Af.of_get h.len fun j x c hx hcj=>by
    obtain ⟨x',q1,q2⟩:=h.get hcj
    rw [hx] at q1
    cases q1
    exact q2.out (Lm h1 c (List.mem_of_getElem? hcj)))
 | v,.tup vs,h,hc=>by
  rw [outV,Option.map_eq_some_iff] at hc
  obtain ⟨a,h1,h2⟩:=hc
  cases h2
  cases h with
  | tup c k1 k2 k3=>exact .tup c k1 k2 (AQ.outs k3 h1)
 | v,.any,h,_=>.any
theorem AQ.outs {σ:Sto} {S:AA} {ι:Ax}:∀ {vs:List AV} {c:Nat→Value},(∀ j b,vs[j]?=some b→AQ σ S ι (c j) b)→outVs noS vs=some vs→∀ j b,vs[j]?=some b→AQ σ noS noH (c j) b
 | [],c,h,_,j,b,hb=>by simp at hb
 | x :: xs,c,h,hc,j,b,hb=>by
  rw [outVs] at hc
  split at hc
  ·rename_i y ys h1 h2
   simp only [Option.some.injEq,List.cons.injEq] at hc
   obtain ⟨rfl,rfl⟩:=hc
   cases j with
   | zero =>
    simp at hb
    subst hb
    exact AQ.out (h 0 _ rfl) h1
   | succ j=>exact AQ.outs (c:=fun j=>c (j + 1)) (fun j b hb=>h (j + 1) b (by simpa using hb)) h2 j b (by simpa using hb)
  ·cases hc
end
theorem AY.toS {P:Program} {f:FuncId} {xs:List AV} {S:AA} {r:AV} (h:AY P f xs r) (hx:outVs noS xs=some xs):Ah P f xs S r S:=by
 intro hclean σ w vs ι hglob hfit hown hvs
 have hvs':Af (AQ σ noS noH) vs xs:=Af.of_get hvs.len fun j v x hv hxj=>by
  have:=AQ.outs (c:=fun j=>(vs[j]?).getD undef) (σ:=σ) (S:=S) (ι:=ι) (vs:=xs) (fun j b hb=>by
   obtain ⟨v',h1,h2⟩:=hvs.get hb
   rw [h1]
   exact h2) hx j x hxj
  rw [hv] at this
  exact this
 refine (h σ w vs hglob hfit hvs').mono fun e w' he=>?_
 obtain ⟨v,σ',he1,he2,hf,hext,hb⟩:=he
 have hlt:∀ id b g,S id=some b→(ι id).g=some g→g < w.heap.size:=fun id b g h1 h2=>(hown.1 id b h1).gsome h2
 refine ⟨v,σ',ι,he1,hclean,Upd.refl _ _,⟨fun id b hid=>(hown.1 id b hid).mono hext.keep (Upd.refl _ _) (fun g hg=>hb.block g (hlt id b g hid hg)) (fun g hg p hp=>hext.old p (by have:=hlt id b g hid hg;omega)),hown.2⟩,
  O6 (s:=⟨fun _=>.any,S⟩) he2,hf,hext.keep,fun p hp _=>hext.old p hp,⟨hb.os,hb.tape,hb.output⟩,hb.size,fun g hg _=>hb.block g hg,fun id b g h1 h2=>.inr fun hn=>hn id b h1 h2⟩
theorem K_ {C:Ctx} {rs:List RV} {r:AV} {S':AA} {e:AX} {s:AS} (he:match e with | .normal=>True | .ret=>True | _=>False) (r0:AV) (h1:(AB s rs).map AL=some r0) (h2:outV s.S r0=some r) (hb:∀ i b,1000≤i→s.S i=some b→b.high=true) (h3:CD s.S=S') (hc:Am S'):F7 C rs r S' e s:=by
 refine ⟨he,s,⟨fun i=>(s.env i).low,CD s.S⟩,r0,Aa.refl _ _,h1,fun σ ι a w R=>?_,h3,hc⟩
 exact ⟨σ,ι,R.low hb,fun v hv=>O6 (s:=⟨fun i=>(s.env i).low,CD s.S⟩) (R.outV hv h2)⟩
theorem U9 {C:Ctx} {rs:List RV} {r:AV} {S':AA} {e:AX} {s:AS} (he:match e with | .normal=>True | .ret=>True | _=>False) (h1:(AB s rs).map AL=some r) (hh:r.high=true) (hb:∀ i b,1000≤i→s.S i=some b→b.high=true) (h3:CD s.S=S') (hc:Am S'):F7 C rs r S' e s :=
 ⟨he,s,⟨fun i=>(s.env i).low,CD s.S⟩,r,Aa.refl _ _,h1,fun σ ι a w R=>⟨σ,ι,R.low hb,fun v hv=>hv.low (fun i b hi hS=>by
  show CD s.S i=some b
  unfold CD
  rw [if_neg (by omega)]
  exact hS) hh⟩,h3,hc⟩
theorem Ay {C:Ctx} {rs:List RV} {r:AV} {e:AX} {s:AS} {S:AA} (r0:AV) (hS:Am S) (he:match e with | .normal=>True | .ret=>True | _=>False)
  (h1:(AB s rs).map AL=some r0) (h2:outV s.S r0=some r) (h4:∀ i,1000≤i→s.S i=S i):F7 C rs r S e s :=
 K_ he r0 h1 h2 (fun i b hi hb=>(hS i b (by rw [← h4 i hi];exact hb)).2) (by
  funext i
  unfold CD
  split
  ·exact (AJ hS (by omega)).symm
  ·exact h4 i (by omega)) hS
theorem MO {C:Ctx} {rs:List RV} {r:AV} {S':AA} {e:AX} {s s1:AS} (hg:Aa C s s1) (h:F7 C rs r S' e s1):F7 C rs r S' e s:=by
 obtain ⟨he,s2,s3,r0,h1,h2⟩:=h
 exact ⟨he,s2,s3,r0,hg.trans h1,h2⟩
theorem Ye {C:Ctx} {rs:List RV} {e:AX} {s:AS} {ty:TypeId} {w n:Nat} {ys:List (List SV)} {mu:Bool} (he:match e with | .normal=>True | .ret=>True | _=>False) (id:Nat) (hid:id < 1000) (hb0:s.S id=some (J4 mu ty w ys)) (hlow:∀ i,1000≤i→s.S i=none)
  (h1:(AB s rs).map AL=some (.one (.row id n))):F7 C rs (.one (.row 1000 n)) (fun i=>if i=1000 then some (J4 mu ty w ys) else noS i) e s:=by
 have e1:(AV.one (.row id n)).ren (Bn id 1000)=.one (.row 1000 n):=by simp [AV.ren,AC.ren,Bn]
 rw [← e1]
 refine Ob he id 1000 _ hid (by decide) (hlow 1000 (by decide)) hb0 (by cases mu <;> rfl) (fun i b hi hb=>by rw [hlow i hi] at hb;cases hb) h1 (by rw [e1];rfl) ?_ ?_
 ·funext i
  unfold AG CD noS
  by_cases h2:i=1000
  ·rw [if_pos h2,if_pos h2]
  ·rw [if_neg h2,if_neg h2]
   split
   ·rfl
   ·exact hlow i (by omega)
 ·intro i b hb
  have hb:(if i=1000 then some (J4 mu ty w ys) else noS i)=some b:=hb
  split at hb
  ·rename_i h2
   cases hb
   exact ⟨by omega,by cases mu <;> rfl⟩
  ·cases hb

theorem U_ (c P Q:Prop) [Decidable c]:((c→P)∧(¬ c→Q))=if c then P else Q:=by
 by_cases h:c <;> simp [h]
theorem WC {c A B:Prop} [Decidable c] (h:(c→A)∧(¬ c→B)):if c then A else B:=by
 by_cases hc:c
 ·rw [if_pos hc];exact h.1 hc
 ·rw [if_neg hc];exact h.2 hc
theorem Vt (b:Bool) (P Q:Prop):((b=true→P)∧(b=false→Q))=if b=true then P else Q:=by
 cases b <;> simp
attribute [congr] QL.congr J8.congr
mutual
def Ao:Tm→List SV
 | .mk n xs=>[.str n,.list (Tk xs)]
def Tk:List Tm→List (List SV)
 | []=>[]
 | t :: ts=>Ao t :: Tk ts
end
theorem RF:∀ xs:List Tm,Tk xs=xs.map Ao
 | []=>rfl
 | t :: ts=>by rw [Tk,RF ts];rfl
theorem An (t:Tm):Ao t=[.str t.name,.list (t.args.map Ao)]:=by
 cases t
 rw [Ao,RF]
 rfl
theorem QB (t:Tm):(Ao t).length=2:=by rw [An];rfl
class YT {α:Type} (f:α→List SV) (n:outParam Nat):Prop where
 ok:∀ a,(f a).length=n
theorem AAI {α:Type} {f:α→List SV} {n:Nat} [h:YT f n] {ts:List α}:∀ x ∈ ts.map f,x.length=n:=fun x hx=>by
 obtain ⟨a,_,rfl⟩:=List.mem_map.1 hx
 exact h.ok a
instance:YT Ao 2:=⟨fun t=>by rw [An];rfl⟩
theorem Do {ts:List Tm}:∀ x ∈ ts.map Ao,x.length=2:=by
 intro x hx
 obtain ⟨a,_,rfl⟩:=List.mem_map.1 hx
 exact QB a
theorem Tm.args_mk (n:ByteArray) (xs:List Tm):(Tm.mk n xs).args=xs:=rfl
theorem Tm.name_mk (n:ByteArray) (xs:List Tm):(Tm.mk n xs).name=n:=rfl
abbrev AN (n:Int):AV:=.one (.st (.int .i64 n))
abbrev Ad (b:Bool):AV:=.one (.st (.bool b))
abbrev Bo (s:ByteArray):AV:=.one (.st (.str s))
abbrev aTm (t:Tm):AV:=.agg [.st (.str t.name),.st (.list (t.args.map Ao))]
abbrev R_ (n:Int):List SV:=[.int .i64 n]
abbrev DH (s:ByteArray):List SV:=[.str s]
abbrev T3 (p:List Int):List SV:=[.list (p.map R_)]
abbrev Zh (l:List (List Int)):AV:=.one (.st (.list (l.map T3)))
abbrev RU (l:List Int):AV:=.one (.st (.list (l.map R_)))
abbrev CX (l:List ByteArray):AV:=.one (.st (.list (l.map DH)))
abbrev F6 (l:List Tm):AV:=.one (.st (.list (l.map Ao)))
theorem Aj {α:Type} {xs:List α} {k:Nat} (h:k < xs.length):∃ a,xs[k]?=some a:=⟨xs[k],List.getElem?_eq_getElem h⟩
theorem I9 (n:Int):inR .i64 n ↔ -9223372036854775808≤n∧n≤9223372036854775807:=by
 simp [inR,IntKind.min,IntKind.max,IntKind.signed,IntKind.bits]
theorem HT:maxLen=9223372036854775807:=by simp [maxLen]
theorem Fe {S:AA} {xs:List (List SV)} (h:(AV.one (.st (.list xs))).known S):xs.length≤9223372036854775807:=by
 simp only [AV.known,AC.known,SV.known] at h
 rw [HT] at h
 exact h.1
theorem Lb {S:AA} {t:Tm} (h:(aTm t).known S):t.name.size≤9223372036854775807∧t.args.length≤9223372036854775807:=by
 have h1:t.name.size≤maxLen:=by
  have:=h (.st (.str t.name)) (by simp)
  simpa [AC.known,SV.known] using this
 have h2:t.args.length≤maxLen:=by
  have:=h (.st (.list (t.args.map Ao))) (by simp)
  simp only [AC.known,SV.known,List.length_map] at this
  exact this.1
 rw [HT] at h1 h2
 exact ⟨h1,h2⟩

def Kd.isCall:Kd→Bool
 | .call _ _=>true
 | .callS _ _=>true
 | .callV _ _=>true
 | .callN _ _=>true
 | .callR _ _=>true
 | .callW _ _=>true
 | .callX _ _=>true
 | .callY _ _=>true
 | .buildFlat _=>false
 | .cutP _ _ _=>false
 | .indexP _ _ _=>false
 | .appP _ _ _ _ _=>false
 | .restP _ _ _=>false
 | .appS _ _ _=>false
 | .loadL _ _ _=>false
 | .indexL _ _ _=>false
 | .buildL _ _=>false
 | .fieldL _ _=>false
 | .lenL _ _=>false
 | .appF _ _ _ _ _ _=>false
 | .clearP _ _ _ _=>false
 | .copyP _ _=>false
 | .mov _=>false
 | .pick _ _ _=>false
 | .alloc _ _=>false
 | .box _ _=>false
 | .build _ _=>false
 | .buildSlice _ _ _ _=>false
 | .load _ _ _=>false
 | .store _ _ _=>false
 | .fieldAddr _ _=>false
 | .field _ _ _ _=>false
 | .indexAddr _ _ _=>false
 | .indexArr _ _ _ _=>false
 | .indexStr _ _=>false
 | .bin _ _ _=>false
 | .eqB _ _ _=>false
 | .eqN _ _=>false
 | .eqE _ _=>false
 | .eqP _ _=>false
 | .bits _ _ _=>false
 | .never=>false
 | .pan _=>false
 | .iface _ _=>false
 | .strOf _ _=>false
 | .un _ _=>false
 | .sliceS _ _ _=>false
 | .sliceL _ _ _ _=>false
 | .sliceM _ _ _ _=>false
 | .extract _ _=>false
 | .len _ _=>false
 | .append _ _ _ _ _ _=>false
 | .conv _ _=>false
 | .nilCheck _=>false
 | .mm _ _ _=>false
 | .makeSlice _ _ _ _ _ _=>false
 | .makeFunc _ _=>false
 | .makeMap _=>false
 | .lookup _ _ _ _ _=>false
 | .mapSet _ _ _ _=>false
 | .mapEntry _ _ _ _=>false
 | .entrySet _ _ _=>false
 | .rangeM _=>false
 | .next _=>false
 | .entry _=>false
 | .lenM _=>false
 | .buildArr _=>false
 | .makeMemo=>false
 | .memoGet _ _ _ _=>false
 | .memoSet _ _ _=>false
inductive ZU (P:Program) (f:FuncId) (vs:List AV) (d:Option Nat) (l:List Ins) (s:AS) (K:AS→Prop):Prop
 | mk (r:AV) (h1:AY P f vs r) (h2:Run P l (s.put d r) K)
inductive PC (P:Program) (f:FuncId) (vs:List AV) (S:AA) (ks:List Nat) (d:Option Nat) (l:List Ins) (env:Nat→AV) (K:AS→Prop):Prop
 | mk (r:AV) (S':AA) (h1:Ah P f vs (upS S) r S') (h2:(∀ k ∈ ks,dnS S' k=S k)∧Run P l ((⟨env,dnS S'⟩:AS).put d (r.ren dn1)) K)
inductive XO (P:Program) (f:FuncId) (vs:List AV) (ks:List Nat) (d:Option Nat) (l:List Ins) (s:AS) (K:AS→Prop):Prop
 | mk (mu:Bool) (e:TypeId) (w:Nat) (ys:List (List SV)) (h1:Hf P f vs e w ys mu) (h2:s.S (d.getD 0)=none∧(∀ k ∈ ks,(s.set (d.getD 0) (J4 mu e w ys)).S k=s.S k)∧Run P l ((s.set (d.getD 0) (J4 mu e w ys)).put d (.one (.row (d.getD 0) ys.length))) K)
inductive Z1 (P:Program) (f:FuncId) (vs:List AV) (d:Option Nat) (l:List Ins) (s:AS) (K:AS→Prop):Prop
 | mk (r:AV) (rows:List (Nat × AK)) (h0:∀ q ∈ rows,s.S q.1=some q.2) (h1:∀ T:AA,(∀ q ∈ rows,T q.1=some q.2)→Ah P f vs (upS T) r (upS T)) (h2:Run P l (s.put d (r.ren dn1)) K)
inductive V5 (P:Program) (f:FuncId) (vs:List AV) (ks:List Nat) (d:Option Nat) (l:List Ins) (s:AS) (K:AS→Prop):Prop
 | mk (r:AV) (rows:List (Nat × AK × AK)) (h0:N3 s.S rows) (h1:∀ T:AA,N3 T rows→Ah P f vs (upS T) r (upS (E1 T rows))) (h2:(∀ k ∈ ks,E1 s.S rows k=s.S k)∧Run P l ((⟨s.env,E1 s.S rows⟩:AS).put d (r.ren dn1)) K)
inductive IH (P:Program) (S:AA) (hs:Bool) (G:AA→(AV→AA→Prop)→Prop) (d:Option Nat) (l:List Ins) (env:Nat→AV) (K:AS→Prop):Prop
 | mk (T:AA) (Post:AV→AA→Prop) (h1:Am T) (h2:∀ i,1000≤i→S i=T i) (h3:hs=true) (h4:G T Post) (h5:∀ r S',Am S'→Post r S'→Run P l ((⟨env,ES S S'⟩:AS).put d r) K)
theorem Pt {S:AA} {i j:Nat} {b c d e:AK} (h:S i=some b) (h':S j=some d):N3 S [(i,b,c),(j,d,e)]:=fun q hq=>by
 rcases List.mem_cons.1 hq with rfl | hq
 ·exact h
 ·rw [List.mem_singleton.1 hq];exact h'
theorem BV {S:AA} {i:Nat} {b:AK} (h:S i=some b):∀ q ∈ [(i,b)],S q.1=some q.2:=fun q hq=>by rw [List.mem_singleton.1 hq];exact h
def Kd.goC (P:Program) (d:Option Nat) (s:AS) (t:Tag) (l:List Ins) (K:AS→Prop):Kd→Prop
 | .call f xs=>match t with
  | .no=>match outVs s.S (s.evs xs) with
   | some vs=>ZU P f vs d l s K
   | none=>False
  | _=>False
 | .callR f xs=>match t with
  | .no=>Z1 P f (AV.rens up1 (s.evs xs)) d l s K
  | _=>False
 | .callW f xs=>match t with
  | .no=>V5 P f (AV.rens up1 (s.evs xs)) [] d l s K
  | .keeps ks=>V5 P f (AV.rens up1 (s.evs xs)) ks d l s K
  | .onb _=>False
 | .callX f xs=>match t with
  | .no=>IH P s.S (AV.highs ((s.evs xs).map (IP s.S))) (E3 P f ((s.evs xs).map (IP s.S))) d l s.env K
  | _=>False
 | .callY f xs=>match t with
  | .no=>IH P s.S ((s.ev f).high && AV.highs ((s.evs xs).map (IP s.S))) (Iy P (s.ev f) ((s.evs xs).map (IP s.S))) d l s.env K
  | _=>False
 | .callN f xs=>match t with
  | .no=>match outVs s.S (s.evs xs) with
   | some vs=>XO P f vs [] d l s K
   | none=>False
  | .keeps ks=>match outVs s.S (s.evs xs) with
   | some vs=>XO P f vs ks d l s K
   | none=>False
  | .onb _=>False
 | .callS f xs=>match t with
  | .no=>PC P f (AV.rens up1 (s.evs xs)) s.S [] d l s.env K
  | .keeps ks=>PC P f (AV.rens up1 (s.evs xs)) s.S ks d l s.env K
  | .onb _=>False
 | .callV f xs=>match (s.ev f).fnOf with
  | some (g,caps)=>B6 P g=true∧match t with
   | .no=>PC P g (AV.rens up1 (s.evs xs ++ caps.map .one)) s.S [] d l s.env K
   | .keeps ks=>PC P g (AV.rens up1 (s.evs xs ++ caps.map .one)) s.S ks d l s.env K
   | .onb _=>False
  | _=>False
 | _=>False
def GY (P:Program):List Ins→AS→(AS→Prop)→Prop
 | [],s,K=>K s
 | i :: l,s,K=>match i.kd.isCall with
  | false=>match i.guard with
   | none=>i.kd.goT P (i.dst.getD 0) s i.tag fun v s'=>GY P l (s'.put i.dst v) K
   | some (g,want)=>match s.env g with
    | .one (.st (.bool b))=>(b=want→i.kd.goT P (i.dst.getD 0) s i.tag fun v s'=>GY P l (s'.put i.dst v) K)∧(¬ b=want→GY P l (s.put i.dst (.tup [])) K)
    | .tup []=>GY P l (s.put i.dst (.tup [])) K
    | _=>False
  | true=>match i.guard with
   | none=>i.kd.goC P i.dst s i.tag l K
   | some (g,want)=>match s.env g with
    | .one (.st (.bool b))=>(b=want→i.kd.goC P i.dst s i.tag l K)∧(¬ b=want→GY P l (s.put i.dst (.tup [])) K)
    | .tup []=>GY P l (s.put i.dst (.tup [])) K
    | _=>False
section
variable {P:Program}
theorem Tu {kd:Kd} {d:Option Nat} {s:AS} {t:Tag} {l:List Ins} {K:AS→Prop} (h:kd.goC P d s t l K):kd.goT P (d.getD 0) s t fun v s'=>Run P l (s'.put d v) K:=by
 cases kd <;> simp only [Kd.goC] at h
 case call f xs =>
  cases t <;> simp only at h
  split at h
  ·rename_i vs e
   obtain ⟨r,h1,h2⟩:=h
   simp only [Kd.goT,Kd.go,e]
   exact ⟨r,h1,trivial,h2⟩
  ·exact h.elim
 case callN f xs =>
  cases t <;> simp only at h
  ·split at h
   ·rename_i vs e
    obtain ⟨mu,ty,w,ys,h1,h2,_,h3⟩:=h
    simp only [Kd.goT,Kd.go,e]
    exact ⟨mu,ty,w,ys,h1,h2,trivial,h3⟩
   ·exact h.elim
  ·split at h
   ·rename_i vs e
    obtain ⟨mu,ty,w,ys,h1,h2,h4,h3⟩:=h
    simp only [Kd.goT,Kd.go,e]
    exact ⟨mu,ty,w,ys,h1,h2,h4,h3⟩
   ·exact h.elim
 case callW f xs =>
  cases t <;> simp only at h
  ·obtain ⟨r,rows,h0,h1,_,h2⟩:=h
   simp only [Kd.goT,Kd.go]
   exact ⟨r,rows,h0,h1,trivial,h2⟩
  ·obtain ⟨r,rows,h0,h1,hk,h2⟩:=h
   simp only [Kd.goT,Kd.go]
   exact ⟨r,rows,h0,h1,hk,h2⟩
 case callX f xs =>
  cases t <;> simp only at h
  obtain ⟨T,Post,h1,h2,h3,h4,h5⟩:=h
  exact ⟨T,Post,h1,h2,h3,h4,fun r S' k1 k2=>⟨trivial,h5 r S' k1 k2⟩⟩
 case callY f xs =>
  cases t <;> simp only at h
  obtain ⟨T,Post,h1,h2,h3,h4,h5⟩:=h
  exact ⟨T,Post,h1,h2,h3,h4,fun r S' k1 k2=>⟨trivial,h5 r S' k1 k2⟩⟩
 case callR f xs =>
  cases t <;> simp only at h
  obtain ⟨r,rows,h0,h1,h2⟩:=h
  simp only [Kd.goT,Kd.go]
  exact ⟨r,rows,h0,h1,trivial,h2⟩
 case callS f xs =>
  cases t <;> simp only at h
  ·obtain ⟨r,S',h1,h2,h3⟩:=h
   exact ⟨r,S',h1,trivial,h3⟩
  ·obtain ⟨r,S',h1,h2,h3⟩:=h
   exact ⟨r,S',h1,h2,h3⟩
 case callV f xs =>
  split at h
  ·rename_i g caps e
   obtain ⟨hp,h⟩:=h
   cases t <;> simp only at h
   ·obtain ⟨r,S',h1,h2,h3⟩:=h
    simp only [Kd.goT,Kd.go,e]
    exact ⟨hp,r,S',h1,trivial,h3⟩
   ·obtain ⟨r,S',h1,h2,h3⟩:=h
    simp only [Kd.goT,Kd.go,e]
    exact ⟨hp,r,S',h1,h2,h3⟩
  ·exact h.elim
theorem CP:∀ {l:List Ins} {s:AS} {K:AS→Prop},GY P l s K→Run P l s K
 | [],s,K,h=>h
 | i :: l,s,K,h=>by
  unfold GY at h
  unfold Run
  split at h
  ·split at h
   ·rename_i e
    simp only [e]
    exact C4 h fun v s' _ h'=>CP h'
   ·rename_i g want e
    simp only [e]
    split at h
    ·rename_i b e2
     simp only [e2]
     exact ⟨fun hb=>C4 (h.1 hb) fun v s' _ h'=>CP h',fun hb=>CP (h.2 hb)⟩
    ·rename_i e2
     simp only [e2]
     exact CP h
    ·exact h.elim
  ·split at h
   ·rename_i e
    simp only [e]
    exact Tu h
   ·rename_i g want e
    simp only [e]
    split at h
    ·rename_i b e2
     simp only [e2]
     exact ⟨fun hb=>Tu (h.1 hb),fun hb=>CP (h.2 hb)⟩
    ·rename_i e2
     simp only [e2]
     exact CP h
    ·exact h.elim
theorem JY {l:List Ins} {s:AS} {K:AS→Prop} {A:Prop} (h:A∧GY P l s K):A∧Run P l s K:=⟨h.1,CP h.2⟩
theorem IWP.ops2 {C:Ctx} {mu:List Nat} {Q:AX→AS→Prop} {s:AS} {l:List Ins} (h:∀ K:AS→Prop,(∀ s,Q .normal s→K s)→GY P l s K):IWP P C mu (.ops l) Q s:=IWP.opsK fun K hK=>CP (h K hK)
end
attribute [go_sem] Y1 WA X3 OR Ins.i Ins.m Ins.L Ins.l Ins.f Ins.s Opd.n J4 E1 GY Kd.isCall Kd.goC Kd.goT Tag.ok Kd.ptrOpd HG List.forall_mem_cons List.not_mem_nil Kd.go AS.ev AS.evs AS.put AS.set AG AV.cells Iw EO Gr stP Xj stC stCs outC outCs outV outVs KB C2 Cp DK XM FF U5 Vk optI PB splice AK.len AS.start AS.startS noS List.getElem?_cons_zero List.getElem?_cons_succ List.getElem?_nil List.getElem?_map Option.isSome_none Option.isSome_some Option.map_some Option.map_none Option.getD_some Option.getD_none List.length_map List.length_cons List.length_nil List.length_append List.map_cons List.map_nil List.take_succ_cons List.take_zero List.take_nil List.drop_succ_cons List.drop_zero List.drop_nil List.nil_append List.cons_append List.append_nil Nat.zero_add Nat.add_zero Nat.le_refl Nat.zero_le if_true if_false Bool.false_eq_true true_and and_true Option.some.injEq Int.toNat_natCast Int.natCast_nonneg Int.ofNat_eq_natCast ite_self decide_true decide_false not_true_eq_false not_false_eq_true true_implies false_implies implies_true Bool.true_eq_false eq_self Bool.not_true Bool.not_false beq_self_eq_true Tm.args_mk Tm.name_mk AV.rens AV.ren AC.ren AC.rens AK.ren At Gi I1 Jr
theorem Ov (T:AA) (i:Nat) (b:AK):upS (AG T i (some b))=AG (upS T) (up1 i) (some (b.ren up1)):=by
 funext k
 show (if k < 1000 then none else (AG T i (some b) (k - 1000)).map (AK.ren up1))=_
 by_cases e:k=up1 i
 ·subst e
  rw [AE,if_neg (by have:=Ap i;omega),show up1 i - 1000=i from Gi i,AE]
  rfl
 ·rw [AF _ e]
  by_cases hk:k < 1000
  ·rw [if_pos hk]
   show none=if k < 1000 then none else _
   rw [if_pos hk]
  ·rw [if_neg hk,AF _ (fun h=>e (by rw [← h];exact (FV (by omega)).symm))]
   show _=if k < 1000 then none else _
   rw [if_neg hk]
abbrev Wa:=@IWP.seq
abbrev Wb:=@HC
abbrev Wc:=@IWP.block
abbrev Wd:=@IWP.skip
abbrev We:=@IWP.exit
abbrev Wg:=@NX
abbrev Wh:=@Qg
abbrev Wi:=@Gs
abbrev Wj:=@JI
abbrev Wk:=@IZ
abbrev Wl:=@Ka
abbrev Wm:=@NN
abbrev Wn:=@RH
abbrev Wo:=@IWP.ops2
abbrev Wp:=@IWP.cond
abbrev Wq:=@CP
abbrev Wr:=@JY
abbrev iC:=@WC
abbrev Cg:=@ZU.mk
abbrev dT:=@decide_eq_true_eq
abbrev dF:=@decide_eq_false_iff_not
abbrev nL:=@Int.ofNat_lt
abbrev eT:=@An
abbrev iR:=@I9
attribute [go_sem ↓] U_ Vt
theorem Ai {a b:Prop} (k:b) (h:a:=by first | omega | exact AAI | (simp [HT] <;> omega)):a∧b:=⟨h,k⟩
theorem Z0 {id id':Nat} {Q:AX→AS→Prop} {s:AS} (h:Q (.exit id') s) (hne:id' ≠ id:=by decide):AX.inBlock id Q (.exit id') s:=IZ hne h
theorem fN {α:Type} (p:α→Prop):∀ x ∈ ([]:List α),p x:=List.forall_mem_nil p
class JB (goal:Prop) (prev:outParam Prop):Prop where
 imp:prev→goal
theorem W {goal prev:Prop} [s:JB goal prev] (h:prev):goal:=s.imp h
section
variable {P:Program} {C:Ctx} {mu:List Nat} {x y:IR} {Q:AX→AS→Prop} {s:AS} {id:Nat} {K:AS→Prop}
instance:JB (IWP P C mu (.seq x y) Q s) (IWP P C mu x (Ox P C mu y Q) s):=⟨IWP.seq⟩
instance:JB (Ox P C mu y Q .normal s) (IWP P C mu y Q s):=⟨HC⟩
instance:JB (IWP P C mu (.block id x) Q s) (IWP P C mu x (AX.inBlock id Q) s):=⟨IWP.block⟩
instance:JB (IWP P C mu .skip Q s) (Q .normal s):=⟨IWP.skip⟩
instance:JB (IWP P C mu (.exit id) Q s) (Q (.exit id) s):=⟨IWP.exit⟩
instance:JB (IWP P C mu .ret Q s) (Q .ret s):=⟨IWP.ret⟩
instance:JB (Ox P C mu y Q (.exit id) s) (Q (.exit id) s):=⟨NX⟩
instance:JB (Ox P C mu y Q .ret s) (Q .ret s):=⟨Qg⟩
instance:JB (AX.inBlock id Q .normal s) (Q .normal s):=⟨Gs⟩
instance:JB (AX.inBlock id Q (.exit id) s) (Q .normal s):=⟨JI⟩
instance:JB (AX.inBlock id Q .ret s) (Q .ret s):=⟨Ka⟩
instance:JB (AX.then K Q (.exit id) s) (Q (.exit id) s):=⟨NN⟩
instance:JB (AX.then K Q .ret s) (Q .ret s):=⟨RH⟩
class WY (goal:Prop) (prev:outParam Prop):Prop where
 imp:prev→goal
class Tp (goal:Prop) (prev:outParam Prop):Prop where
 imp:prev→goal
theorem U {goal prev:Prop} [s:WY goal prev] (h:prev):goal:=s.imp h
theorem V {goal prev:Prop} [s:Tp goal prev] (h:prev):goal:=s.imp h
instance {l:List Ins}:WY (Run P l s K) (GY P l s K):=⟨CP⟩
instance {l:List Ins} {A:Prop}:WY (A∧Run P l s K) (A∧GY P l s K):=⟨JY⟩
instance {l:List Ins}:Tp (Run P l s K) (GY P l s K):=⟨CP⟩
instance {l:List Ins} {A:Prop}:Tp (A∧Run P l s K) (A∧GY P l s K):=⟨JY⟩
instance {c0:Opd}:Tp (IWP P C mu (.cond c0 x y) Q s) (match s.ev c0 with | .one (.st (.bool b))=>(b=true→IWP P C mu x Q s)∧(b=false→IWP P C mu y Q s) | .one .ubool=>IWP P C mu x Q s∧IWP P C mu y Q s | _=>False):=⟨IWP.cond⟩
end
abbrev Y:=@And.intro
theorem IWP.fresh {P:Program} {C:Ctx} {mu:List Nat} {x:IR} {Q:AX→AS→Prop} {s:AS} (h1000:∀ i,1000≤i→s.S i=none) (h:∀ env':Nat→AV,(∀ i v,s.env i=.one (.st v)→env' i=.one (.st v))→IWP P C mu x Q ⟨env',noS⟩):IWP P C mu x Q s:=by
 refine IWP.ghost (Aa.low (s:=s) fun i b hi hb=>by rw [h1000 i hi] at hb;cases hb) ?_
 have e:CD s.S=noS:=by
  funext i
  show (if i < 1000 then none else s.S i)=none
  split
  ·rfl
  ·exact h1000 i (by omega)
 rw [e]
 exact h _ fun i v hv=>by rw [hv];rfl
theorem IWP.mid {P:Program} {C:Ctx} {mu:List Nat} {x y:IR} {Q:AX→AS→Prop} {s:AS} (M:AS→Prop) (h1:IWP P C mu x (fun e s=>e=.normal∧M s) s) (h2:∀ s,M s→IWP P C mu y Q s):IWP P C mu (x.seq y) Q s :=
 IWP.seq (h1.mono fun e s ⟨he,hm⟩=>by subst he;exact HC (h2 s hm))
theorem AAE {R G:Prop} (f:R→G) (h:R):G:=f h



theorem OK:∀ l:List UInt8,Op.bytesLess l l=false
 | []=>by simp [Op.bytesLess]
 | x :: xs=>by simp [Op.bytesLess,OK xs]
theorem QW:∀ (a b c:List UInt8),Op.bytesLess a b=true→Op.bytesLess b c=true→Op.bytesLess a c=true
 | _,[],_,h,_=>by simp [Op.bytesLess] at h
 | _,_ :: _,[],_,k=>by simp [Op.bytesLess] at k
 | [],_ :: _,_ :: _,_,_=>by simp [Op.bytesLess]
 | x :: xs,y :: ys,z :: zs,h,k=>by
  simp only [Op.bytesLess,Bool.or_eq_true,Bool.and_eq_true,decide_eq_true_eq,beq_iff_eq] at h k ⊢
  rcases h with h | ⟨rfl,h⟩
  ·rcases k with k | ⟨rfl,k⟩
   ·exact .inl (UInt8.lt_trans h k)
   ·exact .inl h
  ·rcases k with k | ⟨rfl,k⟩
   ·exact .inl k
   ·exact .inr ⟨rfl,QW xs ys zs h k⟩
theorem Qd:∀ (a b:List UInt8),Op.bytesLess a b=true ∨ a=b ∨ Op.bytesLess b a=true
 | [],[]=>.inr (.inl rfl)
 | [],_ :: _=>.inl (by simp [Op.bytesLess])
 | _ :: _,[]=>.inr (.inr (by simp [Op.bytesLess]))
 | x :: xs,y :: ys=>by
  simp only [Op.bytesLess,Bool.or_eq_true,Bool.and_eq_true,decide_eq_true_eq,beq_iff_eq,List.cons.injEq]
  rcases Nat.lt_trichotomy x.toNat y.toNat with h | h | h
  ·exact .inl (.inl h)
  ·have e:x=y:=UInt8.toNat_inj.1 h
   subst e
   rcases Qd xs ys with h | h | h
   ·exact .inl (.inr ⟨rfl,h⟩)
   ·exact .inr (.inl ⟨rfl,h⟩)
   ·exact .inr (.inr (.inr ⟨rfl,h⟩))
  ·exact .inr (.inr (.inl h))
theorem V3 {a b:ByteArray} (h:a.toList=b.toList):a=b:=by
 rw [ByteArray.toList_eq,ByteArray.toList_eq] at h
 cases a;cases b
 simp only at h
 congr 1
 exact Array.toList_inj.1 h
theorem DE (a:ByteArray):sLt a a=false:=OK _
theorem FX {a b c:ByteArray} (h:sLt a b=true) (k:sLt b c=true):sLt a c=true:=QW _ _ _ h k
theorem Jg (a b:ByteArray):sLt a b=true ∨ a=b ∨ sLt b a=true:=by
 rcases Qd a.toList b.toList with h | h | h
 ·exact .inl h
 ·exact .inr (.inl (V3 h))
 ·exact .inr (.inr h)
def D_ (a b:ByteArray):Int:=if sLt a b=true then -1 else if a=b then 0 else 1
abbrev Bd:=ByteArray × Tm
def Cx (b:Bd):List SV:=[.str b.1,.str b.2.name,.list (b.2.args.map Ao)]
abbrev Ru (l:List Bd):AV:=.one (.st (.list (l.map Cx)))
abbrev aBd (b:Bd):AV:=.agg [.st (.str b.1),.st (.str b.2.name),.st (.list (b.2.args.map Ao))]
instance:YT Cx 3:=⟨fun _=>rfl⟩
theorem Vm {ts:List Bd}:∀ x ∈ ts.map Cx,x.length=3:=by
 intro x hx
 obtain ⟨a,_,rfl⟩:=List.mem_map.1 hx
 rfl
theorem BQ {α:Type} {xs:List α} {k:Nat} {a:α} (h:xs[k]?=some a):xs.drop k=a :: xs.drop (k + 1):=by
 have hk:=Cf h
 rw [List.getElem?_eq_getElem hk] at h
 rw [List.drop_eq_getElem_cons hk]
 simp at h
 rw [h]
def BN (l:List Bd):Prop:=l.Pairwise fun a b=>sLt a.1 b.1=true
def lookup (l:List Bd) (n:ByteArray):Option Tm:=(l.find? fun b=>decide (b.1=n)).map (·.2)
theorem FA {l:List Bd} {n:ByteArray} (h:∀ b ∈ l,b.1 ≠ n):lookup l n=none:=by
 unfold lookup
 rw [List.find?_eq_none.2 (fun b hb=>by simpa using h b hb)]
 rfl
theorem RS {l:List Bd} {n:ByteArray} {k:Nat} {b:Bd} (hk:l[k]?=some b) (hb:b.1=n) (h:∀ c ∈ l.take k,c.1 ≠ n):lookup l n=some b.2:=by
 unfold lookup
 rw [← List.take_append_drop k l,List.find?_append,List.find?_eq_none.2 (fun c hc=>by simpa using h c hc),BQ hk]
 simp [hb]
theorem DM {l:List Bd} {n:ByteArray} {x:Tm} (h:lookup l n=some x):∃ b ∈ l,b.1=n∧b.2=x:=by
 unfold lookup at h
 rw [Option.map_eq_some_iff] at h
 obtain ⟨b,h1,h2⟩:=h
 exact ⟨b,List.mem_of_find?_eq_some h1,by simpa using List.find?_some h1,h2⟩
theorem Qj {l:List Bd} (h:BN l) {i j:Nat} {a b:Bd} (hi:l[i]?=some a) (hj:l[j]?=some b) (hij:i < j):sLt a.1 b.1=true:=by
 have h1:=List.pairwise_iff_getElem.1 h
 obtain ⟨hi1,hi2⟩:=List.getElem?_eq_some_iff.1 hi
 obtain ⟨hj1,hj2⟩:=List.getElem?_eq_some_iff.1 hj
 have:=h1 i j hi1 hj1 hij
 rw [hi2,hj2] at this
 exact this
mutual
def Tm.on (s:List Bd):Tm→Tm
 | .mk n xs=>match (if xs.isEmpty then lookup s n else none) with
  | some x=>x
  | none=>.mk n (Tm.onL s xs)
def Tm.onL (s:List Bd):List Tm→List Tm
 | []=>[]
 | t :: ts=>t.on s :: Tm.onL s ts
end
theorem Tm.onL_eq (s:List Bd):∀ ts:List Tm,Tm.onL s ts=ts.map (Tm.on s)
 | []=>rfl
 | t :: ts=>by rw [Tm.onL,Tm.onL_eq s ts];rfl
theorem Tm.on_leaf {s:List Bd} {t x:Tm} (h:lookup s t.name=some x) (h0:t.args=[]):t.on s=x:=by
 cases t with
 | mk n xs =>
  simp only [Tm.name_mk,Tm.args_mk] at h h0
  subst h0
  simp [Tm.on,h]
theorem Tm.on_knot {s:List Bd} {t:Tm} (h:lookup s t.name=none ∨ t.args ≠ []):t.on s=.mk t.name (t.args.map (Tm.on s)):=by
 cases t with
 | mk n xs =>
  simp only [Tm.name_mk,Tm.args_mk] at h ⊢
  rw [← Tm.onL_eq]
  rcases h with h | h
  ·simp [Tm.on,h]
  ·cases xs with
   | nil=>exact absurd rfl h
   | cons y ys=>simp [Tm.on]
theorem Tm.chk_args {t:Tm} (h:t.chk=0):(AP t.name=true→t.args=[])∧∀ a ∈ t.args,a.chk=0:=by
 have hc:=Tm.chk_eq t
 rw [h] at hc
 by_cases h1:Cj t=0
 ·rw [if_pos h1] at hc
  have key:∀ {xs:List Tm},Tm.chkL xs=0→∀ a ∈ xs,a.chk=0:=by
   intro xs
   induction xs with
   | nil=>simp
   | cons x xs ih =>
    intro hx a ha
    simp only [Tm.chkL] at hx
    split at hx
    ·rename_i h2
     rcases List.mem_cons.1 ha with rfl | ha
     ·exact h2
     ·exact ih hx a ha
    ·rename_i h2
     exact absurd hx h2
  refine ⟨fun hv=>?_,key hc.symm⟩
  unfold Cj at h1
  split at h1
  ·split at h1
   ·cases h1
   ·rename_i h2
    simp only [hv,true_and,Nat.not_lt,Nat.le_zero] at h2
    exact List.eq_nil_of_length_eq_zero h2
  ·cases h1
 ·rw [if_neg h1] at hc
  exact absurd hc.symm h1
theorem Tm.may_chk {t:Tm} (h:t.may=0):t.chk=0∧t.size≤200:=by
 unfold Tm.may at h
 split at h
 ·cases h
 ·exact ⟨h,by omega⟩

def Oo (b:Bd):List Bd→List Bd
 | []=>[b]
 | c :: l=>if sLt b.1 c.1=true then b :: c :: l else c :: Oo b l
def Bb (l:List Bd):List Bd:=l.foldl (fun acc b=>Oo b acc) []
def Bp (l:List Bd):Prop:=(l.map (·.1)).Nodup
theorem HY (b:Bd):∀ l:List Bd,(Oo b l).Perm (b :: l)
 | []=>List.Perm.refl _
 | c :: l=>by
  unfold Oo
  split
  ·exact List.Perm.refl _
  ·exact ((HY b l).cons c).trans (List.Perm.swap b c l)
theorem JH {b:Bd}:∀ {l:List Bd},BN l→(∀ c ∈ l,c.1 ≠ b.1)→BN (Oo b l)
 | [],_,_=>List.pairwise_cons.2 ⟨by simp,List.Pairwise.nil⟩
 | c :: l,ho,hn=>by
  obtain ⟨o1,o2⟩:=List.pairwise_cons.1 ho
  unfold Oo
  split
  ·rename_i h
   exact List.pairwise_cons.2 ⟨fun x hx=>by
    rcases List.mem_cons.1 hx with rfl | hx
    ·exact h
    ·exact FX h (o1 x hx),ho⟩
  ·rename_i h
   refine List.pairwise_cons.2 ⟨fun x hx=>?_,JH o2 fun x hx=>hn x (by simp [hx])⟩
   rcases List.mem_cons.1 ((HY b l).mem_iff.1 hx) with rfl | hx
   ·rcases Jg c.1 x.1 with k | k | k
    ·exact k
    ·exact absurd k (hn c (by simp))
    ·exact absurd k h
   ·exact o1 x hx
theorem Gt:∀ (l acc:List Bd),(l.foldl (fun acc b=>Oo b acc) acc).Perm (l ++ acc)
 | [],acc=>List.Perm.refl _
 | b :: l,acc=>by
  rw [List.foldl_cons]
  refine (Gt l _).trans ?_
  refine ((HY b acc).append_left l).trans ?_
  exact List.perm_middle
theorem Cr (l:List Bd):(Bb l).Perm l:=by
 have:=Gt l []
 rw [List.append_nil] at this
 exact this
theorem E8:∀ (l acc:List Bd),BN acc→Bp (acc ++ l)→BN (l.foldl (fun acc b=>Oo b acc) acc)
 | [],acc,ho,_=>ho
 | b :: l,acc,ho,hn=>by
  rw [List.foldl_cons]
  have hp:(acc ++ b :: l).Perm (Oo b acc ++ l):=(List.perm_middle).trans (by rw [← List.cons_append];exact ((HY b acc).symm.append_right l))
  refine E8 l _ (JH ho fun c hc e=>?_) ((hp.map _).nodup_iff.1 hn)
  unfold Bp at hn
  rw [List.map_append,List.nodup_append] at hn
  exact hn.2.2 _ (List.mem_map.2 ⟨c,hc,rfl⟩) _ (by simp) e
theorem Bz {l:List Bd} (hn:Bp l):BN (Bb l):=E8 l [] List.Pairwise.nil (by simpa using hn)
theorem C8 {l:List Bd} (ho:BN l):Bp l:=by
 unfold Bp
 rw [List.nodup_iff_pairwise_ne,List.pairwise_map]
 exact ho.imp fun {a b} h e=>by rw [e,DE] at h;cases h
theorem Eg:∀ {l m:List Bd},BN l→BN m→l.Perm m→l=m
 | [],m,_,_,h=>(List.nil_perm.1 h).symm
 | a :: l,[],_,_,h=>absurd h.length_eq (by simp)
 | a :: l,c :: m,hl,hm,h=>by
  obtain ⟨l1,l2⟩:=List.pairwise_cons.1 hl
  obtain ⟨m1,m2⟩:=List.pairwise_cons.1 hm
  have e:a=c:=by
   rcases List.mem_cons.1 (h.mem_iff.1 (List.mem_cons_self)) with e | e
   ·exact e
   ·rcases List.mem_cons.1 (h.mem_iff.2 (List.mem_cons_self)) with e2 | e2
    ·exact e2.symm
    ·have:=FX (m1 a e) (l1 c e2)
     rw [DE] at this
     cases this
  subst e
  rw [Eg l2 m2 (List.Perm.cons_inv h)]
theorem B2 {l:List Bd} {b:Bd}:b ∈ Bb l ↔ b ∈ l:=(Cr l).mem_iff
theorem Bc (l:List Bd):(Bb l).length=l.length:=(Cr l).length_eq
theorem Ef {l m:List Bd} (h:l.Perm m) (hn:Bp l):Bp m:=((h.map _).nodup_iff).1 hn

abbrev Pr:=Tm × Tm
def As (p:Pr):List SV:=[.str p.1.name,.list (p.1.args.map Ao),.str p.2.name,.list (p.2.args.map Ao)]
abbrev CI (l:List Pr):AV:=.one (.st (.list (l.map As)))
abbrev aPr (p:Pr):AV:=.agg [.st (.str p.1.name),.st (.list (p.1.args.map Ao)),.st (.str p.2.name),.st (.list (p.2.args.map Ao))]
instance:YT As 4:=⟨fun _=>rfl⟩
theorem HW {ts:List Pr}:∀ x ∈ ts.map As,x.length=4:=by
 intro x hx
 obtain ⟨a,_,rfl⟩:=List.mem_map.1 hx
 rfl

def occ (x:ByteArray) (t:Tm):Bool:=t.knots.any fun k=>decide (k.name=x)
theorem Mg (p:Tm→Bool):∀ xs:List Tm,(Tm.knotsL xs).any p=xs.any fun t=>t.knots.any p
 | []=>rfl
 | t :: ts=>by rw [Tm.knotsL,List.any_append,Mg p ts,List.any_cons]
theorem SD (x:ByteArray) (t:Tm):occ x t=(decide (t.name=x) || t.args.any (occ x)):=by
 unfold occ
 rw [Tm.knots_eq,List.any_cons,Mg]
theorem K7 {x:ByteArray} {t:Tm}:occ x t=true ↔ t.name=x ∨ ∃ a ∈ t.args,occ x a=true:=by
 rw [SD,Bool.or_eq_true,decide_eq_true_eq,List.any_eq_true]
theorem PN {x:ByteArray} {t a:Tm} (ha:a ∈ t.args) (h:occ x a=true):occ x t=true:=K7.2 (.inr ⟨a,ha,h⟩)
theorem Pg {x:ByteArray} {t:Tm} (h:occ x t=false):t.name ≠ x∧∀ a ∈ t.args,occ x a=false:=by
 rw [SD,Bool.or_eq_false_iff,decide_eq_false_iff_not,List.any_eq_false] at h
 exact ⟨h.1,fun a ha=>by simpa using h.2 a ha⟩
def Ln (s:List Bd) (t:Tm):Prop:=∀ b ∈ s,occ b.1 t=false
theorem ZM {s:List Bd} {t:Tm} (h:Ln s t):t.on s=t:=by
 induction hN:SizeOf.sizeOf t using Nat.strongRecOn generalizing t with
 | _ N ih =>
 subst hN
 have hl:lookup s t.name=none:=FA fun b hb e=>(Pg (h b hb)).1 e.symm
 rw [Tm.on_knot (.inl hl)]
 have hm:t.args.map (Tm.on s)=t.args:=by
  conv=>rhs;rw [← List.map_id t.args]
  exact List.map_congr_left fun a ha=>ih _ (Tm.lt_of_arg ha) (fun b hb=>(Pg (h b hb)).2 a ha) rfl
 rw [hm]
 cases t;rfl
theorem Su {s:List Bd} {n:ByteArray} (h:lookup s n=none):∀ b ∈ s,b.1 ≠ n:=by
 unfold lookup at h
 rw [Option.map_eq_none_iff,List.find?_eq_none] at h
 exact fun b hb e=>h b hb (by simpa using e)
theorem Rl {s:List Bd} (hv:∀ b ∈ s,AP b.1=true) {t:Tm} (hc:t.chk=0) {y:ByteArray} (h:occ y (t.on s)=true):(occ y t=true∧∀ b ∈ s,b.1 ≠ y) ∨ ∃ b ∈ s,occ y b.2=true:=by
 induction hN:SizeOf.sizeOf t using Nat.strongRecOn generalizing t with
 | _ N ih =>
 subst hN
 obtain ⟨c1,c2⟩:=Tm.chk_args hc
 cases hl:lookup s t.name with
 | some x =>
  obtain ⟨b,hb,hbn,hbx⟩:=DM hl
  rw [Tm.on_leaf hl (c1 (by rw [← hbn];exact hv b hb)),← hbx] at h
  exact .inr ⟨b,hb,h⟩
 | none =>
  rw [Tm.on_knot (.inl hl),K7] at h
  rcases h with h | ⟨a,ha,h⟩
  ·simp only [Tm.name_mk] at h
   refine .inl ⟨K7.2 (.inl h),fun b hb=>?_⟩
   rw [← h]
   exact Su hl b hb
  ·simp only [Tm.args_mk,List.mem_map] at ha
   obtain ⟨c,hc',rfl⟩:=ha
   rcases ih _ (Tm.lt_of_arg hc') (c2 c hc') h rfl with h | h
   ·exact .inl ⟨PN hc' h.1,h.2⟩
   ·exact .inr h
theorem Zg {t:Tm} (h:Cj t=0) (ha:∀ a ∈ t.args,a.chk=0):t.chk=0:=by
 rw [Tm.chk_eq,if_pos h]
 have key:∀ {xs:List Tm},(∀ a ∈ xs,a.chk=0)→Tm.chkL xs=0:=by
  intro xs
  induction xs with
  | nil=>intro _;rfl
  | cons x xs ih=>intro hx;simp only [Tm.chkL];rw [if_pos (hx x (by simp))];exact ih fun a ha=>hx a (by simp [ha])
 exact key ha
theorem Y3 {t:Tm} (h:t.chk=0):Cj t=0:=by
 rw [Tm.chk_eq] at h
 by_cases h1:Cj t=0
 ·exact h1
 ·rw [if_neg h1] at h;exact h
theorem Lt {s:List Bd} (hs:∀ b ∈ s,b.2.chk=0) {t:Tm} (hc:t.chk=0):(t.on s).chk=0:=by
 induction hN:SizeOf.sizeOf t using Nat.strongRecOn generalizing t with
 | _ N ih =>
 subst hN
 obtain ⟨c1,c2⟩:=Tm.chk_args hc
 by_cases hleaf:(∃ x,lookup s t.name=some x)∧t.args=[]
 ·obtain ⟨⟨x,hx⟩,h0⟩:=hleaf
  rw [Tm.on_leaf hx h0]
  obtain ⟨b,hb,_,rfl⟩:=DM hx
  exact hs b hb
 ·have hon:t.on s=.mk t.name (t.args.map (Tm.on s)):=Tm.on_knot (by
   cases hl:lookup s t.name with
   | none=>exact .inl rfl
   | some x=>exact .inr fun h0=>hleaf ⟨⟨x,hl⟩,h0⟩)
  rw [hon]
  refine Zg ?_ fun a ha=>?_
  ·have:=Y3 hc
   unfold Cj at this ⊢
   simpa only [Tm.name_mk,Tm.args_mk,List.length_map] using this
  ·simp only [Tm.args_mk,List.mem_map] at ha
   obtain ⟨c,hc',rfl⟩:=ha
   exact ih _ (Tm.lt_of_arg hc') (c2 c hc') rfl
inductive AAA where
 | err (e:Int)
 | go (s:List Bd) (ps:List Pr)
def EQ (s:List Bd) (x:ByteArray) (t:Tm):AAA :=
 if occ x t=true then .err 6 else if (s.all fun b=>decide ((b.2.on [(x,t)]).size≤2000))=true then .go (Bb (s.map (fun b=>(b.1,b.2.on [(x,t)])) ++ [(x,t)])) [] else .err 8
def CU (s:List Bd) (p:Pr):AAA :=
 if 2000 < (p.1.on s).size ∨ 2000 < (p.2.on s).size then .err 8
 else if AP (p.1.on s).name=true∧(p.1.on s).name=(p.2.on s).name then .go s []
 else if AP (p.1.on s).name=true then EQ s (p.1.on s).name (p.2.on s)
 else if AP (p.2.on s).name=true then EQ s (p.2.on s).name (p.1.on s)
 else if (p.1.on s).name=(p.2.on s).name∧(p.1.on s).args.length=(p.2.on s).args.length then .go s ((p.1.on s).args.zip (p.2.on s).args)
 else .err 5
inductive C3:Nat→List Bd→List Pr→List Bd × Int→Prop
 | nil {s}:C3 0 s [] (s,0)
 | err {s p l e}:CU s p=.err e→C3 1 s (p :: l) ([],e)
 | go {s p l s' ps n r}:CU s p=.go s' ps→C3 n s' (ps ++ l) r→C3 (n + 1) s (p :: l) r
def Ju (C v:Nat) (s:List Bd):List Pr→Prop
 | []=>True
 | p :: l=>l.length + 2000 * min (p.1.on s).size 2000 + 4000000 * v≤C∧Ju C v s l
theorem Ju.less {C v v':Nat} {s s':List Bd} (hv:v' + 1≤v):∀ {l:List Pr},Ju C v s l→Ju C v' s' l
 | [],_=>trivial
 | p :: l,h=>⟨by have:=h.1;have:=Nat.min_le_right (p.1.on s').size 2000;omega,Ju.less hv h.2⟩
theorem Ju.more {C v m:Nat} {s:List Bd} {l:List Pr} (hm:m + 1≤2000) (hC:l.length + 2000 * (m + 1) + 4000000 * v≤C) (hl:Ju C v s l):∀ {ps:List Pr},ps.length≤2000→(∀ c ∈ ps,(c.1.on s).size≤m)→Ju C v s (ps ++ l)
 | [],_,_=>hl
 | c :: ps,h1,h2=>by
  refine ⟨?_,Ju.more hm hC hl (by simp at h1;omega) fun c hc=>h2 c (by simp [hc])⟩
  have h3:=h2 c (by simp)
  have h4:=Nat.min_le_left (c.1.on s).size 2000
  simp only [List.length_cons] at h1
  have e:(ps ++ l).length=ps.length + l.length:=List.length_append
  show (ps ++ l).length + _ + _≤C
  omega
structure Co (U:List ByteArray) (C:Nat) (s:List Bd) (l:List Pr):Prop where
 ord:BN s
 var:∀ b ∈ s,AP b.1=true
 inU:∀ b ∈ s,b.1 ∈ U
 chk:∀ b ∈ s,b.2.chk=0
 siz:∀ b ∈ s,b.2.size≤2000
 idem:∀ b ∈ s,Ln s b.2
 ranU:∀ b ∈ s,∀ y,occ y b.2=true→y ∈ U
 lchk:∀ p ∈ l,p.1.chk=0∧p.2.chk=0
 lU:∀ p ∈ l,∀ y,(occ y p.1=true→y ∈ U)∧(occ y p.2=true→y ∈ U)
 lsiz:∀ p ∈ l,p.1.size≤2000∧p.2.size≤2000
 fits:Ju C (U.length - s.length) s l
theorem KI {x:ByteArray}:∀ {m:List ByteArray},x ∈ m→(m.filter fun y=>!decide (y=x)).length + 1≤m.length
 | y :: m,h=>by
  have hle:=List.length_filter_le (fun y=>!decide (y=x)) m
  by_cases e:y=x
  ·rw [List.filter_cons_of_neg (by simp [e]),List.length_cons]
   omega
  ·rw [List.filter_cons_of_pos (by simp [e]),List.length_cons,List.length_cons]
   have:=KI (x:=x) (m:=m) ((List.mem_cons.1 h).resolve_left fun h=>e h.symm)
   omega
theorem Jm:∀ {l m:List ByteArray},l.Nodup→(∀ x ∈ l,x ∈ m)→l.length≤m.length
 | [],m,_,_=>Nat.zero_le _
 | x :: l,m,hn,hs=>by
  obtain ⟨n1,n2⟩:=List.nodup_cons.1 hn
  have h1:=Jm (m:=m.filter fun y=>!decide (y=x)) n2 fun y hy=>List.mem_filter.2 ⟨hs y (by simp [hy]),by
   have:y ≠ x:=fun e=>n1 (by rw [← e];exact hy)
   simp [this]⟩
  have:=KI (hs x (by simp))
  rw [List.length_cons]
  omega
theorem Co.len {U:List ByteArray} {C:Nat} {s:List Bd} {l:List Pr} (h:Co U C s l):s.length≤U.length:=by
 have:=Jm (l:=s.map (fun b:Bd=>b.1)) (m:=U) (C8 h.ord) fun x hx=>by
  obtain ⟨b,hb,rfl⟩:=List.mem_map.1 hx
  exact h.inU b hb
 simpa using this
theorem Co.stack {U:List ByteArray} {C:Nat} {s:List Bd} {l:List Pr} (h:Co U C s l):l.length≤C + 1:=by
 cases l with
 | nil=>simp
 | cons p l=>have:=h.fits.1;simp;omega
def Gn (s:List Bd):List Pr→Nat
 | []=>0
 | p :: l=>(p.1.on s).size + Gn s l
theorem KA (s:List Bd):∀ (ps l:List Pr),Gn s (ps ++ l)=Gn s ps + Gn s l
 | [],l=>by simp [Gn]
 | p :: ps,l=>by rw [List.cons_append,Gn,KA s ps l,Gn];omega
theorem FB {α β:Type} {xs:List α} {ys:List β} {c:α × β} (h:c ∈ xs.zip ys):c.1 ∈ xs∧c.2 ∈ ys:=by
 obtain ⟨a,b⟩:=c
 exact ⟨(List.of_mem_zip h).1,(List.of_mem_zip h).2⟩
theorem Co.tail {U:List ByteArray} {C:Nat} {s:List Bd} {p:Pr} {l:List Pr} (h:Co U C s (p :: l)):Co U C s l :=
 { h with lchk:=fun q hq=>h.lchk q (by simp [hq]),lU:=fun q hq=>h.lU q (by simp [hq]),lsiz:=fun q hq=>h.lsiz q (by simp [hq]),fits:=h.fits.2 }
theorem onU {U:List ByteArray} {C:Nat} {s:List Bd} {l:List Pr} (h:Co U C s l) {t:Tm} (hc:t.chk=0) (hU:∀ y,occ y t=true→y ∈ U):(t.on s).chk=0∧Ln s (t.on s)∧∀ y,occ y (t.on s)=true→y ∈ U:=by
 refine ⟨Lt h.chk hc,fun b hb=>?_,fun y hy=>?_⟩
 ·cases ho:occ b.1 (t.on s) with
  | false=>rfl
  | true =>
   rcases Rl h.var hc ho with ⟨_,k⟩ | ⟨c,hc',k⟩
   ·exact absurd rfl (k b hb)
   ·rw [h.idem c hc' b hb] at k;cases k
 ·rcases Rl h.var hc hy with ⟨k,_⟩ | ⟨c,hc',k⟩
  ·exact hU y k
  ·exact h.ranU c hc' y k
theorem Lc {U:List ByteArray} {C:Nat} {s:List Bd} {l:List Pr} (h:Co U C s l) {x:ByteArray} {t:Tm} (hx:AP x=true) (hxU:x ∈ U) (hxs:∀ b ∈ s,b.1 ≠ x) (htc:t.chk=0) (hts:t.size≤2000) (htn:Ln s t) (htU:∀ y,occ y t=true→y ∈ U) {s':List Bd} {ps:List Pr} (hb:EQ s x t=.go s' ps) :
  ps=[]∧Co U C s' l∧s.length < s'.length:=by
 unfold EQ at hb
 split at hb
 ·cases hb
 rename_i ho
 have ho:occ x t=false:=by simpa using ho
 split at hb
 ·rename_i hall
  cases hb
  have hone:∀ b ∈ [(x,t)],AP b.1=true:=by simp [hx]
  have honec:∀ b ∈ ([(x,t)]:List Bd),b.2.chk=0:=by simp [htc]
  have hmem:∀ b,b ∈ s.map (fun b=>(b.1,b.2.on [(x,t)])) ++ [(x,t)] ↔ (∃ c ∈ s,b=(c.1,c.2.on [(x,t)])) ∨ b=(x,t):=fun b=>by
   simp only [List.mem_append,List.mem_map,List.mem_singleton]
   constructor
   ·rintro (⟨c,hc,rfl⟩ | h)
    ·exact .inl ⟨c,hc,rfl⟩
    ·exact .inr h
   ·rintro (⟨c,hc,rfl⟩ | h)
    ·exact .inl ⟨c,hc,rfl⟩
    ·exact .inr h
  have hnamed:Bp (s.map (fun b=>(b.1,b.2.on [(x,t)])) ++ [(x,t)]):=by
   have:=C8 h.ord
   unfold Bp at this ⊢
   rw [List.map_append,List.map_map,List.nodup_append]
   refine ⟨this,by simp,fun a ha b hb e=>?_⟩
   obtain ⟨c,hc,rfl⟩:=List.mem_map.1 ha
   simp only [List.map_cons,List.map_nil,List.mem_singleton] at hb
   exact hxs c hc (e.trans hb)
  have hoccr:∀ c ∈ s,∀ y,occ y (c.2.on [(x,t)])=true→(occ y c.2=true∧x ≠ y) ∨ occ y t=true:=fun c hc y hy=>by
   rcases Rl hone (h.chk c hc) hy with ⟨k1,k2⟩ | ⟨b,hb,k⟩
   ·exact .inl ⟨k1,k2 (x,t) (by simp)⟩
   ·rw [List.mem_singleton] at hb
    subst hb
    exact .inr k
  have hfree:∀ b ∈ s.map (fun b=>(b.1,b.2.on [(x,t)])) ++ [(x,t)],∀ c ∈ s.map (fun b=>(b.1,b.2.on [(x,t)])) ++ [(x,t)],occ c.1 b.2=false:=fun b hb c hc=>by
   cases hoc:occ c.1 b.2 with
   | false=>rfl
   | true =>
    exfalso
    rcases (hmem b).1 hb with ⟨b',hb',rfl⟩ | rfl
    ·rcases hoccr b' hb' _ hoc with ⟨k1,k2⟩ | k
     ·rcases (hmem c).1 hc with ⟨c',hc',rfl⟩ | rfl
      ·have:=h.idem b' hb' c' hc'
       rw [k1] at this
       cases this
      ·exact k2 rfl
     ·rcases (hmem c).1 hc with ⟨c',hc',rfl⟩ | rfl
      ·have:=htn c' hc'
       rw [k] at this
       cases this
      ·rw [k] at ho;cases ho
    ·rcases (hmem c).1 hc with ⟨c',hc',rfl⟩ | rfl
     ·have:=htn c' hc'
      rw [hoc] at this
      cases this
     ·rw [hoc] at ho;cases ho
  have hlen:(Bb (s.map (fun b=>(b.1,b.2.on [(x,t)])) ++ [(x,t)])).length=s.length + 1:=by rw [Bc];simp
  have hinU:∀ b ∈ Bb (s.map (fun b=>(b.1,b.2.on [(x,t)])) ++ [(x,t)]),b.1 ∈ U:=fun b hb=>by
   rcases (hmem b).1 (B2.1 hb) with ⟨c,hc,rfl⟩ | rfl
   ·exact h.inU c hc
   ·exact hxU
  have hle:s.length + 1≤U.length:=by
   have:=Jm (l:=(Bb (s.map (fun b=>(b.1,b.2.on [(x,t)])) ++ [(x,t)])).map (fun b:Bd=>b.1)) (m:=U) (C8 (Bz hnamed)) fun y hy=>by
    obtain ⟨b,hb,rfl⟩:=List.mem_map.1 hy
    exact hinU b hb
   rw [List.length_map,hlen] at this
   exact this
  refine ⟨rfl,⟨Bz hnamed,fun b hb=>?_,hinU,fun b hb=>?_,fun b hb=>?_,fun b hb c hc=>hfree b (B2.1 hb) c (B2.1 hc),fun b hb y hy=>?_,h.lchk,h.lU,h.lsiz,Ju.less (by rw [hlen];omega) h.fits⟩,by rw [hlen];omega⟩
  ·rcases (hmem b).1 (B2.1 hb) with ⟨c,hc,rfl⟩ | rfl
   ·exact h.var c hc
   ·exact hx
  ·rcases (hmem b).1 (B2.1 hb) with ⟨c,hc,rfl⟩ | rfl
   ·exact Lt honec (h.chk c hc)
   ·exact htc
  ·rcases (hmem b).1 (B2.1 hb) with ⟨c,hc,rfl⟩ | rfl
   ·have:=List.all_eq_true.1 hall c hc
    simpa using this
   ·exact hts
  ·rcases (hmem b).1 (B2.1 hb) with ⟨c,hc,rfl⟩ | rfl
   ·rcases hoccr c hc y hy with k | k
    ·exact h.ranU c hc y k.1
    ·exact htU y k
   ·exact htU y hy
 ·cases hb
theorem HU {U:List ByteArray} {C:Nat} {s:List Bd} {p:Pr} {l:List Pr} (h:Co U C s (p :: l)) {s':List Bd} {ps:List Pr} (hs:CU s p=.go s' ps) :
  Co U C s' (ps ++ l)∧(s.length < s'.length ∨ (s'=s∧Gn s (ps ++ l) < Gn s (p :: l))):=by
 obtain ⟨hc1,hc2⟩:=h.lchk p (by simp)
 have hU:=h.lU p (by simp)
 obtain ⟨a1,a2,a3⟩:=onU h hc1 fun y=>(hU y).1
 obtain ⟨b1,b2,b3⟩:=onU h hc2 fun y=>(hU y).2
 have hpos:=Tm.size_pos (p.1.on s)
 have nameNo:∀ {t:Tm},Ln s t→∀ b ∈ s,b.1 ≠ t.name:=fun {t} hn b hb e=>(Pg (hn b hb)).1 e.symm
 have nameU:∀ {t:Tm},(∀ y,occ y t=true→y ∈ U)→t.name ∈ U:=fun {t} ht=>ht _ (K7.2 (.inl rfl))
 unfold CU at hs
 split at hs
 ·cases hs
 rename_i hz
 rw [not_or] at hz
 split at hs
 ·cases hs
  exact ⟨h.tail,.inr ⟨rfl,by simp only [List.nil_append,Gn];omega⟩⟩
 split at hs
 ·rename_i hv
  obtain ⟨rfl,k1,k2⟩:=Lc h.tail hv (nameU a3) (nameNo a2) b1 (by omega) b2 b3 hs
  exact ⟨k1,.inl k2⟩
 split at hs
 ·rename_i hv
  obtain ⟨rfl,k1,k2⟩:=Lc h.tail hv (nameU b3) (nameNo b2) a1 (by omega) a2 a3 hs
  exact ⟨k1,.inl k2⟩
 split at hs
 ·rename_i heq
  cases hs
  have hsz:=Tm.size_eq (p.1.on s)
  have hlen:=Tm.length_le (p.1.on s).args
  have hid:∀ a ∈ (p.1.on s).args,a.on s=a:=fun a ha=>ZM fun b hb=>(Pg (a2 b hb)).2 a ha
  have hsum:∀ (xs ys:List Tm),(∀ a ∈ xs,a.on s=a)→Gn s (xs.zip ys)≤Tm.sizes xs:=by
   intro xs
   induction xs with
   | nil=>intro ys _;simp [Gn]
   | cons x xs ih =>
    intro ys hx
    cases ys with
    | nil=>simp [Gn]
    | cons y ys =>
     have:=ih ys fun a ha=>hx a (by simp [ha])
     simp only [List.zip_cons_cons,Gn,Tm.sizes]
     rw [hx x (by simp)]
     omega
  have hzl:((p.1.on s).args.zip (p.2.on s).args).length≤(p.1.on s).args.length:=by rw [List.length_zip];exact Nat.min_le_left _ _
  have hmin:min (p.1.on s).size 2000=(p.1.on s).size:=Nat.min_eq_left (by omega)
  have hf:=h.fits.1
  rw [hmin] at hf
  have hszb:=Tm.size_eq (p.2.on s)
  refine ⟨⟨h.ord,h.var,h.inU,h.chk,h.siz,h.idem,h.ranU,fun q hq=>?_,fun q hq=>?_,fun q hq=>?_,Ju.more (m:=(p.1.on s).size - 1) (by omega) (by omega) h.fits.2 (by omega) fun c hc=>?_⟩,.inr ⟨rfl,?_⟩⟩
  ·rcases List.mem_append.1 hq with hq | hq
   ·exact ⟨(Tm.chk_args a1).2 _ (FB hq).1,(Tm.chk_args b1).2 _ (FB hq).2⟩
   ·exact h.tail.lchk q hq
  ·rcases List.mem_append.1 hq with hq | hq
   ·exact fun y=>⟨fun hy=>a3 y (PN (FB hq).1 hy),fun hy=>b3 y (PN (FB hq).2 hy)⟩
   ·exact h.tail.lU q hq
  ·rcases List.mem_append.1 hq with hq | hq
   ·have h1:=Tm.size_mem (FB hq).1
    have h2:=Tm.size_mem (FB hq).2
    omega
   ·exact h.tail.lsiz q hq
  ·rw [hid _ (FB hc).1]
   have h1:=Tm.size_mem (FB hc).1
   omega
  ·rw [KA]
   have h1:=hsum _ (p.2.on s).args hid
   simp only [Gn]
   omega
 ·cases hs
theorem N5 {U:List ByteArray} {C:Nat}:∀ (v m:Nat) (s:List Bd) (l:List Pr),Co U C s l→U.length - s.length=v→Gn s l=m→∃ n r,C3 n s l r:=by
 intro v
 induction v using Nat.strongRecOn with
 | _ v ihv =>
 intro m
 induction m using Nat.strongRecOn with
 | _ m ihm =>
 intro s l h hv hm
 cases l with
 | nil=>exact ⟨0,_,.nil⟩
 | cons p l =>
  cases hs:CU s p with
  | err e=>exact ⟨1,_,.err hs⟩
  | go s' ps =>
   obtain ⟨h',hd⟩:=HU h hs
   have hlen:=h'.len
   rcases hd with hd | ⟨rfl,hd⟩
   ·obtain ⟨n,r,hr⟩:=ihv (U.length - s'.length) (by omega) _ s' _ h' rfl rfl
    exact ⟨n + 1,r,.go hs hr⟩
   ·obtain ⟨n,r,hr⟩:=ihm (Gn s' (ps ++ l)) (by omega) s' _ h' hv rfl
    exact ⟨n + 1,r,.go hs hr⟩


theorem LJ (y:ByteArray):lookup [] y=none:=rfl
theorem KD (b:Bd) (l:List Bd) (y:ByteArray):lookup (b :: l) y=if b.1=y then some b.2 else lookup l y:=by
 unfold lookup
 by_cases h:b.1=y
 ·rw [List.find?_cons_of_pos (by simpa using h),if_pos h];rfl
 ·rw [List.find?_cons_of_neg (by simpa using h),if_neg h]
theorem SA {l:List Bd} (hn:Bp l) {y:ByteArray} {x:Tm}:lookup l y=some x ↔ (y,x) ∈ l:=by
 induction l with
 | nil=>simp [LJ]
 | cons b l ih =>
  obtain ⟨n1,n2⟩:=List.nodup_cons.1 (show ((b :: l).map fun c:Bd=>c.1).Nodup from hn)
  rw [KD,List.mem_cons]
  by_cases h:b.1=y
  ·rw [if_pos h]
   constructor
   ·intro e
    cases e
    exact .inl (by rw [← h])
   ·rintro (e | e)
    ·rw [← e]
    ·exact absurd (List.mem_map.2 ⟨(y,x),e,rfl⟩) (by subst h;exact n1)
  ·rw [if_neg h,ih n2]
   constructor
   ·exact .inr
   ·rintro (e | e)
    ·exact absurd (by rw [← e]) h
    ·exact e
def Vx (y:ByteArray):Tm:=.mk y []
structure OkB (s:List Bd):Prop where
 ord:BN s
 var:∀ b ∈ s,AP b.1=true
 nam:∀ b ∈ s,A_ b.1=true
 chk:∀ b ∈ s,b.2.chk=0
theorem OU {t:Tm} (h:t.chk=0):Cj t=0:=by
 rw [Tm.chk_eq] at h
 by_cases h1:Cj t=0
 ·exact h1
 ·rw [if_neg h1] at h;exact h
theorem QG {n:ByteArray} {xs ys:List Tm} (h:(Tm.mk n xs).chk=0) (hl:ys.length=xs.length) (hy:∀ y ∈ ys,y.chk=0):(Tm.mk n ys).chk=0:=by
 have h1:Cj (Tm.mk n ys)=0:=by
  have:=OU h
  unfold Cj at this ⊢
  rw [Tm.name_mk,Tm.args_mk] at this ⊢
  rw [hl];exact this
 rw [Tm.chk_eq,if_pos h1,Tm.args_mk]
 clear h h1 hl
 induction ys with
 | nil=>rfl
 | cons x ys ih =>
  simp only [Tm.chkL]
  rw [if_pos (hy x (by simp))]
  exact ih fun y h=>hy y (by simp [h])
theorem Yj {s:List Bd} (hs:∀ b ∈ s,b.2.chk=0) {t:Tm} (hc:t.chk=0):(t.on s).chk=0:=by
 induction hN:SizeOf.sizeOf t using Nat.strongRecOn generalizing t with
 | _ N ih =>
 subst hN
 obtain ⟨c1,c2⟩:=Tm.chk_args hc
 by_cases hleaf:(∃ x,lookup s t.name=some x)∧t.args=[]
 ·obtain ⟨⟨x,hx⟩,h0⟩:=hleaf
  rw [Tm.on_leaf hx h0]
  obtain ⟨b,hb,_,rfl⟩:=DM hx
  exact hs b hb
 ·have hon:t.on s=.mk t.name (t.args.map (Tm.on s)):=Tm.on_knot (by
   cases hl:lookup s t.name with
   | none=>exact .inl rfl
   | some x=>exact .inr fun h0=>hleaf ⟨⟨x,hl⟩,h0⟩)
  rw [hon]
  refine QG (xs:=t.args) (by cases t;exact hc) (by simp) fun y hy=>?_
  obtain ⟨c,hc',rfl⟩:=List.mem_map.1 hy
  exact ih _ (Tm.lt_of_arg hc') (c2 c hc') rfl
theorem Q0 {y:ByteArray} (h:A_ y=true):(Vx y).chk=0:=by
 have h0:Cj (Vx y)=0:=by
  unfold Cj Vx
  rw [Tm.name_mk,if_pos h,if_neg (by simp [Tm.args_mk])]
 rw [Tm.chk_eq,if_pos h0]
 rfl

set_option maxRecDepth 100000
def Gf:IR :=
 (.seq (.ops [.i 2 (.mov (.c (.one (.st (.bool false)))))]) (.seq (.ops [.m 3 0,.i 4 (.bin .geq (.t 3) (.c (.one (.st (.int .u8 97))))),.m 5 4,.mk (some 6) (some (5,true)) (.mov (.t 0)) .no,.mk (some 7) (some (5,true)) (.bin .leq (.t 6) (.c (.one (.st (.int .u8 122))))) .no,.i 8 (.pick (.t 5) (.t 7) (.c (.one (.st (.bool false))))),.m 9 8,.mk (some 10) (some (9,false)) (.mov (.t 0)) .no,.mk (some 11) (some (9,false)) (.bin .geq (.t 10) (.c (.one (.st (.int .u8 65))))) .no,.mk (some 12) (some (9,false)) (.mov (.t 11)) .no,.mk (some 13) (some (12,true)) (.mov (.t 0)) .no,.mk (some 14) (some (12,true)) (.bin .leq (.t 13) (.c (.one (.st (.int .u8 90))))) .no,.mk (some 15) (some (9,false)) (.pick (.t 12) (.t 14) (.c (.one (.st (.bool false))))) .no,.i 16 (.pick (.t 9) (.c (.one (.st (.bool true)))) (.t 15)),.m 17 16,.mk (some 18) (some (17,false)) (.mov (.t 0)) .no,.mk (some 19) (some (17,false)) (.bin .geq (.t 18) (.c (.one (.st (.int .u8 48))))) .no,.mk (some 20) (some (17,false)) (.mov (.t 19)) .no,.mk (some 21) (some (20,true)) (.mov (.t 0)) .no,.mk (some 22) (some (20,true)) (.bin .leq (.t 21) (.c (.one (.st (.int .u8 57))))) .no,.mk (some 23) (some (17,false)) (.pick (.t 20) (.t 22) (.c (.one (.st (.bool false))))) .no,.i 24 (.pick (.t 17) (.c (.one (.st (.bool true)))) (.t 23)),.m 2 24]) .ret))
theorem MZ:OkF Tryz.prog 97 25 [] Gf [.t 2]:=.of Tryz.func97 rfl rfl (by kernel_rfl) rfl
def Hp:IR :=
 (.seq (.ops [.i 2 (.mov (.c (.one (.st (.bool false)))))]) (.seq (.ops [.m 3 0,.i 4 (.bin .geq (.t 3) (.c (.one (.st (.int .u8 97))))),.m 5 4,.mk (some 6) (some (5,true)) (.mov (.t 0)) .no,.mk (some 7) (some (5,true)) (.bin .leq (.t 6) (.c (.one (.st (.int .u8 122))))) .no,.i 8 (.pick (.t 5) (.t 7) (.c (.one (.st (.bool false))))),.m 9 8,.mk (some 10) (some (9,false)) (.mov (.t 0)) .no,.mk (some 11) (some (9,false)) (.bin .geq (.t 10) (.c (.one (.st (.int .u8 65))))) .no,.mk (some 12) (some (9,false)) (.mov (.t 11)) .no,.mk (some 13) (some (12,true)) (.mov (.t 0)) .no,.mk (some 14) (some (12,true)) (.bin .leq (.t 13) (.c (.one (.st (.int .u8 90))))) .no,.mk (some 15) (some (9,false)) (.pick (.t 12) (.t 14) (.c (.one (.st (.bool false))))) .no,.i 16 (.pick (.t 9) (.c (.one (.st (.bool true)))) (.t 15)),.m 17 16,.mk (some 18) (some (17,false)) (.mov (.t 0)) .no,.mk (some 19) (some (17,false)) (.bin .geq (.t 18) (.c (.one (.st (.int .u8 48))))) .no,.mk (some 20) (some (17,false)) (.mov (.t 19)) .no,.mk (some 21) (some (20,true)) (.mov (.t 0)) .no,.mk (some 22) (some (20,true)) (.bin .leq (.t 21) (.c (.one (.st (.int .u8 57))))) .no,.mk (some 23) (some (17,false)) (.pick (.t 20) (.t 22) (.c (.one (.st (.bool false))))) .no,.i 24 (.pick (.t 17) (.c (.one (.st (.bool true)))) (.t 23)),.m 2 24]) .ret))
theorem M1:OkF Tryz.prog 87 25 [] Hp [.t 2]:=.of Tryz.func87 rfl rfl (by kernel_rfl) rfl
def DY:IR :=
 (.seq (.ops [.i 2 (.mov (.c (.one (.st (.bool false)))))]) (.seq (.seq (.ops [.m 4 0,.i 5 (.len true (.t 4)),.i 6 (.bin .lss (.t 5) (.n 1)),.m 7 6,.mk (some 8) (some (7,false)) (.mov (.t 0)) .no,.mk (some 9) (some (7,false)) (.len true (.t 8)) .no,.mk (some 10) (some (7,false)) (.bin .gtr (.t 9) (.n 8)) .no,.i 11 (.pick (.t 7) (.c (.one (.st (.bool true)))) (.t 10)),.m 12 11,.mk (some 13) (some (12,false)) (.mov (.t 0)) .no,.mk (some 14) (some (12,false)) (.indexStr (.t 13) (.n 0)) .no,.mk (some 15) (some (12,false)) (.bin .geq (.t 14) (.c (.one (.st (.int .u8 48))))) .no,.mk (some 16) (some (12,false)) (.mov (.t 15)) .no,.mk (some 17) (some (16,true)) (.mov (.t 0)) .no,.mk (some 18) (some (16,true)) (.indexStr (.t 17) (.n 0)) .no,.mk (some 19) (some (16,true)) (.bin .leq (.t 18) (.c (.one (.st (.int .u8 57))))) .no,.mk (some 20) (some (12,false)) (.pick (.t 16) (.t 19) (.c (.one (.st (.bool false))))) .no,.i 21 (.pick (.t 12) (.c (.one (.st (.bool true)))) (.t 20))]) (.cond (.t 21) (.seq (.ops [.i 2 (.mov (.c (.one (.st (.bool false)))))]) .ret) .skip)) (.seq (.seq (.ops [.m 22 0,.i 23 (.len true (.t 22)),.i 24 (.mov (.n 0))]) (.block 0 (.loop (.seq (.ops [.i 25 (.bin .lss (.t 24) (.t 23))]) (.seq (.cond (.t 25) .skip (.exit 0)) (.seq (.block 1 (.seq (.ops [.m 26 24,.m 3 26]) (.seq (.ops [.m 27 0,.m 28 3,.i 29 (.indexStr (.t 27) (.t 28)),.i 30 (.call 97 [.t 29]),.i 31 (.un .not (.t 30))]) (.cond (.t 31) (.seq (.ops [.i 2 (.mov (.c (.one (.st (.bool false)))))]) .ret) .skip)))) (.ops [.i 32 (.bin .add (.t 24) (.n 1)),.m 24 32]))))))) (.seq (.ops [.i 2 (.mov (.c (.one (.st (.bool true)))))]) .ret))))
theorem EU:OkF Tryz.prog 66 33 [] DY [.t 2]:=.of Tryz.func66 rfl rfl (by kernel_rfl) rfl
def D7:IR :=
 (.seq (.ops [.i 2 (.mov (.c (.one (.st (.bool false)))))]) (.seq (.seq (.ops [.m 4 0,.i 5 (.bin .eql (.t 4) (.c (.one (.st (.str (ByteArray.mk (#[]))))))),.m 6 5,.mk (some 7) (some (6,false)) (.mov (.t 0)) .no,.mk (some 8) (some (6,false)) (.len true (.t 7)) .no,.mk (some 9) (some (6,false)) (.bin .gtr (.t 8) (.n 8)) .no,.i 10 (.pick (.t 6) (.c (.one (.st (.bool true)))) (.t 9)),.m 11 10,.mk (some 12) (some (11,false)) (.mov (.t 0)) .no,.mk (some 13) (some (11,false)) (.indexStr (.t 12) (.n 0)) .no,.mk (some 14) (some (11,false)) (.bin .geq (.t 13) (.c (.one (.st (.int .u8 48))))) .no,.mk (some 15) (some (11,false)) (.mov (.t 14)) .no,.mk (some 16) (some (15,true)) (.mov (.t 0)) .no,.mk (some 17) (some (15,true)) (.indexStr (.t 16) (.n 0)) .no,.mk (some 18) (some (15,true)) (.bin .leq (.t 17) (.c (.one (.st (.int .u8 57))))) .no,.mk (some 19) (some (11,false)) (.pick (.t 15) (.t 18) (.c (.one (.st (.bool false))))) .no,.i 20 (.pick (.t 11) (.c (.one (.st (.bool true)))) (.t 19))]) (.cond (.t 20) (.seq (.ops [.i 2 (.mov (.c (.one (.st (.bool false)))))]) .ret) .skip)) (.seq (.seq (.ops [.i 3 (.mov (.n 0))]) (.block 0 (.loop (.seq (.seq (.ops [.m 21 3,.m 22 0,.i 23 (.len true (.t 22)),.i 24 (.bin .lss (.t 21) (.t 23))]) (.cond (.t 24) .skip (.exit 0))) (.seq (.block 1 (.seq (.ops [.m 27 0,.m 28 3,.i 29 (.indexStr (.t 27) (.t 28)),.i 30 (.call 87 [.t 29]),.i 31 (.un .not (.t 30))]) (.cond (.t 31) (.seq (.ops [.i 2 (.mov (.c (.one (.st (.bool false)))))]) .ret) .skip))) (.ops [.m 25 3,.i 26 (.bin .add (.t 25) (.n 1)),.m 3 26])))))) (.seq (.ops [.i 2 (.mov (.c (.one (.st (.bool true)))))]) .ret))))
theorem E9:OkF Tryz.prog 49 32 [] D7 [.t 2]:=.of Tryz.func49 rfl rfl (by kernel_rfl) rfl
def Dx:IR :=
 (.seq (.ops [.i 2 (.mov (.c (.one (.st (.bool false)))))]) (.seq (.ops [.m 3 0,.i 4 (.bin .neq (.t 3) (.c (.one (.st (.str (ByteArray.mk (#[]))))))),.m 5 4,.mk (some 6) (some (5,true)) (.mov (.t 0)) .no,.mk (some 7) (some (5,true)) (.indexStr (.t 6) (.n 0)) .no,.mk (some 8) (some (5,true)) (.bin .geq (.t 7) (.c (.one (.st (.int .u8 65))))) .no,.i 9 (.pick (.t 5) (.t 8) (.c (.one (.st (.bool false))))),.m 10 9,.mk (some 11) (some (10,true)) (.mov (.t 0)) .no,.mk (some 12) (some (10,true)) (.indexStr (.t 11) (.n 0)) .no,.mk (some 13) (some (10,true)) (.bin .leq (.t 12) (.c (.one (.st (.int .u8 90))))) .no,.i 14 (.pick (.t 10) (.t 13) (.c (.one (.st (.bool false))))),.m 2 14]) .ret))
theorem FP:OkF Tryz.prog 67 15 [] Dx [.t 2]:=.of Tryz.func67 rfl rfl (by kernel_rfl) rfl
def IJ:IR :=
 (.seq (.ops [.i 2 (.mov (.c (.one (.st (.bool false)))))]) (.seq (.ops [.m 3 0,.i 4 (.bin .neq (.t 3) (.c (.one (.st (.str (ByteArray.mk (#[]))))))),.m 5 4,.mk (some 6) (some (5,true)) (.mov (.t 0)) .no,.mk (some 7) (some (5,true)) (.indexStr (.t 6) (.n 0)) .no,.mk (some 8) (some (5,true)) (.bin .geq (.t 7) (.c (.one (.st (.int .u8 65))))) .no,.i 9 (.pick (.t 5) (.t 8) (.c (.one (.st (.bool false))))),.m 10 9,.mk (some 11) (some (10,true)) (.mov (.t 0)) .no,.mk (some 12) (some (10,true)) (.indexStr (.t 11) (.n 0)) .no,.mk (some 13) (some (10,true)) (.bin .leq (.t 12) (.c (.one (.st (.int .u8 90))))) .no,.i 14 (.pick (.t 10) (.t 13) (.c (.one (.st (.bool false))))),.m 2 14]) .ret))
theorem Mb:OkF Tryz.prog 50 15 [] IJ [.t 2]:=.of Tryz.func50 rfl rfl (by kernel_rfl) rfl
def Gd:IR :=
 (.seq (.ops [.i 2 (.box 37 (.t 0)),.i 4 (.mov (.n 0))]) (.seq (.ops [.m 7 1,.i 8 (.bin .sub (.t 7) (.n 1)),.m 1 8]) (.seq (.seq (.ops [.f 9 1 2,.l 10 9,.i 11 (.len false (.t 10)),.i 12 (.mov (.n 0))]) (.block 0 (.loop (.seq (.ops [.i 13 (.bin .lss (.t 12) (.t 11))]) (.seq (.cond (.t 13) .skip (.exit 0)) (.seq (.block 1 (.seq (.ops [.i 14 (.indexAddr 2 (.t 10) (.t 12)),.L 15 2 14,.i 6 (.alloc 37 [.st (.str (ByteArray.mk (#[]))),.full []]),.s 2 6 15]) (.seq (.seq (.ops [.m 16 1,.i 17 (.bin .lss (.t 16) (.n 0))]) (.cond (.t 17) (.exit 0) .skip)) (.ops [.L 18 2 6,.m 19 1,.i 20 (.call 82 [.t 18,.t 19]),.m 1 20])))) (.ops [.i 21 (.bin .add (.t 12) (.n 1)),.m 12 21]))))))) (.seq (.ops [.m 22 1,.m 4 22]) .ret))))
theorem MP:OkF Tryz.prog 82 23 [] Gd [.t 4]:=.of Tryz.func82 rfl rfl (by kernel_rfl) rfl
def H3:IR :=
 (.seq (.ops [.i 1 (.box 37 (.t 0)),.i 2 (.mov (.n 0))]) (.seq (.seq (.ops [.f 6 0 1,.l 7 6,.i 8 (.call 66 [.t 7]),.i 9 (.un .not (.t 8))]) (.cond (.t 9) (.seq (.ops [.i 2 (.mov (.n 1))]) .ret) .skip)) (.seq (.seq (.ops [.f 10 0 1,.l 11 10,.i 12 (.call 67 [.t 11]),.m 13 12,.mk (some 14) (some (13,true)) (.fieldAddr 1 (.t 1)) .no,.mk (some 15) (some (13,true)) (.load false 1 (.t 14)) .no,.mk (some 16) (some (13,true)) (.len false (.t 15)) .no,.mk (some 17) (some (13,true)) (.bin .gtr (.t 16) (.n 0)) .no,.i 18 (.pick (.t 13) (.t 17) (.c (.one (.st (.bool false)))))]) (.cond (.t 18) (.seq (.ops [.i 2 (.mov (.n 2))]) .ret) .skip)) (.seq (.seq (.ops [.f 19 1 1,.l 20 19,.i 21 (.len false (.t 20)),.i 22 (.mov (.n 0))]) (.block 0 (.loop (.seq (.ops [.i 23 (.bin .lss (.t 22) (.t 21))]) (.seq (.cond (.t 23) .skip (.exit 0)) (.seq (.block 1 (.seq (.ops [.i 24 (.indexAddr 2 (.t 20) (.t 22)),.L 25 2 24,.i 4 (.alloc 37 [.st (.str (ByteArray.mk (#[]))),.full []]),.s 2 4 25]) (.seq (.ops [.L 26 2 4,.i 27 (.call 83 [.t 26]),.m 5 27]) (.seq (.ops [.m 28 5,.i 29 (.bin .neq (.t 28) (.n 0))]) (.cond (.t 29) (.seq (.ops [.m 30 5,.m 2 30]) .ret) .skip))))) (.ops [.i 31 (.bin .add (.t 22) (.n 1)),.m 22 31]))))))) (.seq (.ops [.i 2 (.mov (.n 0))]) .ret)))))
theorem Mu:OkF Tryz.prog 83 32 [] H3 [.t 2]:=.of Tryz.func83 rfl rfl (by kernel_rfl) rfl
def Hq:IR :=
 (.seq (.ops [.i 1 (.box 37 (.t 0)),.i 2 (.mov (.n 0))]) (.seq (.seq (.ops [.L 3 2 1,.i 4 (.call 82 [.t 3,.n 200]),.i 5 (.bin .lss (.t 4) (.n 0))]) (.cond (.t 5) (.seq (.ops [.i 2 (.mov (.n 3))]) .ret) .skip)) (.seq (.ops [.L 6 2 1,.i 7 (.call 83 [.t 6]),.m 2 7]) .ret)))
theorem Mt:OkF Tryz.prog 46 8 [] Hq [.t 2]:=.of Tryz.func46 rfl rfl (by kernel_rfl) rfl
def JK:IR :=
 (.seq (.ops [.i 1 (.box 37 (.t 0)),.i 2 (.alloc 37 [.st (.str (ByteArray.mk (#[]))),.full []])]) (.seq (.ops [.f 6 0 1,.l 7 6,.i 8 (.build [.st (.str (ByteArray.mk (#[]))),.full []] [(0,1,.t 7)]),.i 3 (.alloc 37 [.st (.str (ByteArray.mk (#[]))),.full []]),.s 2 3 8]) (.seq (.seq (.ops [.f 9 1 1,.l 10 9,.i 11 (.len false (.t 10)),.i 12 (.mov (.n 0))]) (.block 0 (.loop (.seq (.ops [.i 13 (.bin .lss (.t 12) (.t 11))]) (.seq (.cond (.t 13) .skip (.exit 0)) (.seq (.block 1 (.seq (.ops [.i 14 (.indexAddr 2 (.t 10) (.t 12)),.L 15 2 14,.i 5 (.alloc 37 [.st (.str (ByteArray.mk (#[]))),.full []]),.s 2 5 15]) (.ops [.f 16 1 3,.l 17 16,.L 18 2 5,.i 19 (.call 42 [.t 18]),.i 20 (.buildSlice false 37 2 [.t 19]),.i 21 (.append false 37 2 40 (.t 17) (.t 20)),.f 22 1 3,.s 1 22 21]))) (.ops [.i 23 (.bin .add (.t 12) (.n 1)),.m 12 23]))))))) (.seq (.ops [.L 24 2 3,.s 2 2 24]) .ret))))
theorem Ph:OkF Tryz.prog 42 25 [] JK [.cell 2 true 2]:=.of Tryz.func42 rfl rfl (by kernel_rfl) rfl
def Bk:IR :=
 (.seq (.ops [.i 4 (.mov (.n 0))]) (.seq (.seq (.ops [.m 6 0,.i 7 (.len false (.t 6)),.i 8 (.mov (.n 0))]) (.block 0 (.loop (.seq (.ops [.i 9 (.bin .lss (.t 8) (.t 7))]) (.seq (.cond (.t 9) .skip (.exit 0)) (.seq (.block 1 (.seq (.ops [.m 10 8,.m 5 10]) (.seq (.ops [.m 11 1,.m 12 0,.m 13 5,.i 14 (.indexAddr 1 (.t 12) (.t 13)),.l 15 14,.i 16 (.bin .eql (.t 11) (.t 15))]) (.cond (.t 16) (.seq (.ops [.m 17 5,.m 4 17]) .ret) .skip)))) (.ops [.i 18 (.bin .add (.t 8) (.n 1)),.m 8 18]))))))) (.seq (.ops [.i 4 (.mov (.c (.one (.st (.int .i64 (-1))))))]) .ret)))
theorem CS:OkF Tryz.prog 98 19 [] Bk [.t 4]:=.of Tryz.func98 rfl rfl (by kernel_rfl) rfl
def CE:IR :=
 (.seq (.ops [.i 4 (.mov (.c (.one (.st (.bool false)))))]) (.seq (.ops [.m 5 0,.m 6 1,.i 7 (.call 98 [.t 5,.t 6]),.i 8 (.bin .geq (.t 7) (.n 0)),.m 4 8]) .ret))
theorem Dc:OkF Tryz.prog 68 9 [] CE [.t 4]:=.of Tryz.func68 rfl rfl (by kernel_rfl) rfl
def F8:IR :=
 (.seq (.ops [.i 2 (.box 37 (.t 0)),.i 4 (.mov (.c (.one (.full []))))]) (.seq (.seq (.ops [.f 7 0 2,.l 8 7,.i 9 (.call 67 [.t 8]),.m 10 9,.mk (some 11) (some (10,true)) (.mov (.t 1)) .no,.mk (some 12) (some (10,true)) (.fieldAddr 0 (.t 2)) .no,.mk (some 13) (some (10,true)) (.load false 1 (.t 12)) .no,.mk (some 14) (some (10,true)) (.call 68 [.t 11,.t 13]) .no,.mk (some 15) (some (10,true)) (.un .not (.t 14)) .no,.i 16 (.pick (.t 10) (.t 15) (.c (.one (.st (.bool false)))))]) (.cond (.t 16) (.ops [.m 17 1,.f 18 0 2,.l 19 18,.i 20 (.buildFlat [.t 19]),.i 21 (.append false 9 1 16 (.t 17) (.t 20)),.m 1 21]) .skip)) (.seq (.seq (.ops [.f 22 1 2,.l 23 22,.i 24 (.len false (.t 23)),.i 25 (.mov (.n 0))]) (.block 0 (.loop (.seq (.ops [.i 26 (.bin .lss (.t 25) (.t 24))]) (.seq (.cond (.t 26) .skip (.exit 0)) (.seq (.block 1 (.seq (.ops [.i 27 (.indexAddr 2 (.t 23) (.t 25)),.L 28 2 27,.i 6 (.alloc 37 [.st (.str (ByteArray.mk (#[]))),.full []]),.s 2 6 28]) (.ops [.L 29 2 6,.m 30 1,.i 31 (.callS 124 [.t 29,.t 30]),.m 1 31]))) (.ops [.i 32 (.bin .add (.t 25) (.n 1)),.m 25 32]))))))) (.seq (.ops [.m 33 1,.m 4 33]) .ret))))
theorem Iz:OkF Tryz.prog 124 34 [31] F8 [.t 4]:=.of Tryz.func124 rfl rfl (by kernel_rfl) rfl
def Ih:IR :=
 (.seq (.ops [.i 1 (.box 37 (.t 0)),.i 2 (.mov (.c (.one (.full []))))]) (.seq (.ops [.L 3 2 1,.i 4 (.callS 124 [.t 3,.c (.one (.full []))]),.m 2 4]) .ret))
theorem Oi:OkF Tryz.prog 104 5 [4] Ih [.t 2]:=.of Tryz.func104 rfl rfl (by kernel_rfl) rfl

end Go.Proofs.YtbhnmjkmieiadaaGreatDoor
