/-
  Part 6 of the texts. Conditions: none.
-/
import Derived.Test.YtbhnmjkmieiadaaGreatDoord15
namespace Go.Proofs.YtbhnmjkmieiadaaGreatDoor
open Go Go.RowKit
set_option linter.unusedVariables false
set_option linter.unusedSimpArgs false
set_option maxHeartbeats 400000
mutual
def AC.clear (ds:List Nat):AC→Bool
 | .row id _=>!ds.contains id
 | .part id _ _=>!ds.contains id
 | .rest id _ _=>!ds.contains id
 | .ptr id _ _ _=>!ds.contains id
 | .mptr id=>!ds.contains id
 | .yld id=>!ds.contains id
 | .ubool=>true
 | .fn _ caps=>AC.clears ds caps
 | .st _=>true
 | .full _=>true
 | .eptr _=>true
 | .any=>true
def AC.clears (ds:List Nat):List AC→Bool
 | []=>true
 | c :: cs=>c.clear ds && AC.clears ds cs
end
theorem MY {ds:List Nat}:∀ {l:List AC},AC.clears ds l=true→∀ a ∈ l,a.clear ds=true
 | [],_,a,ha=>by simp at ha
 | x :: xs,hx,a,ha=>by
  rw [AC.clears,Bool.and_eq_true] at hx
  rcases List.mem_cons.1 ha with rfl | ha
  ·exact hx.1
  ·exact MY hx.2 a ha
def AC.purge (ds:List Nat):AC→AC
 | .row id n=>if ds.contains id then .any else .row id n
 | .part id k n=>if ds.contains id then .any else .part id k n
 | .rest id k n=>if ds.contains id then .any else .rest id k n
 | .ptr id n k off=>if ds.contains id then .any else .ptr id n k off
 | .mptr id=>if ds.contains id then .any else .mptr id
 | .yld id=>if ds.contains id then .any else .yld id
 | .fn f caps=>if AC.clears ds caps then .fn f caps else .any
 | c=>c
mutual
def AV.purge (ds:List Nat):AV→AV
 | .one c=>.one (c.purge ds)
 | .agg cs=>.agg (cs.map (AC.purge ds))
 | .tup vs=>.tup (AV.purges ds vs)
 | .any=>.any
def AV.purges (ds:List Nat):List AV→List AV
 | []=>[]
 | v :: vs=>v.purge ds :: AV.purges ds vs
end
def AL.purge (ds:List Nat):AL→AL
 | .box e cs=>.box e (cs.map (AC.purge ds))
 | .crow e cs=>.crow e (cs.map (AC.purge ds))
 | .iter x n seen=>.iter (x.purge ds) n seen
 | .loop env r=>.loop (AV.purges ds env) r
 | b=>b
def Ao (ds:List Nat) (S:AA):AA:=fun id=>if ds.contains id then none else (S id).map (AL.purge ds)
def AS.drop (ds:List Nat) (s:AS):AS:=⟨fun i=>(s.env i).purge ds,Ao ds s.S⟩
theorem DK {ds:List Nat} (hds:∀ d ∈ ds,d < 1000) {id:Nat} (h:1000≤id):ds.contains id=false:=by
 cases hc:ds.contains id with
 | false=>rfl
 | true =>
  have:=hds id (List.contains_iff_mem.1 hc)
  omega
mutual
theorem AC.clear_high {ds:List Nat} (hds:∀ d ∈ ds,d < 1000):∀ {c:AC},c.high=true→c.clear ds=true
 | .st _,_=>rfl
 | .full _,_=>rfl
 | .row id n,h=>by
  rw [AC.high] at h
  rw [AC.clear,DK hds (of_decide_eq_true h)]
  rfl
 | .part id k n,h=>by
  rw [AC.high] at h
  rw [AC.clear,DK hds (of_decide_eq_true h)]
  rfl
 | .rest id k n,h=>by
  rw [AC.high] at h
  rw [AC.clear,DK hds (of_decide_eq_true h)]
  rfl
 | .ptr id n k off,h=>by
  rw [AC.high] at h
  rw [AC.clear,DK hds (of_decide_eq_true h)]
  rfl
 | .mptr id,h=>by
  rw [AC.high] at h
  rw [AC.clear,DK hds (of_decide_eq_true h)]
  rfl
 | .yld id,h=>by
  rw [AC.high] at h
  rw [AC.clear,DK hds (of_decide_eq_true h)]
  rfl
 | .ubool,_=>rfl
 | .eptr _,_=>rfl
 | .fn f caps,h=>by
  rw [AC.high] at h
  rw [AC.clear]
  exact AC.clears_highs hds h
 | .any,_=>rfl
theorem AC.clears_highs {ds:List Nat} (hds:∀ d ∈ ds,d < 1000):∀ {cs:List AC},AC.highs cs=true→AC.clears ds cs=true
 | [],_=>rfl
 | c :: cs,h=>by
  rw [AC.highs,Bool.and_eq_true] at h
  rw [AC.clears,AC.clear_high hds h.1,AC.clears_highs hds h.2]
  rfl
end
theorem AC.purge_high {ds:List Nat} (hds:∀ d ∈ ds,d < 1000):∀ {c:AC},c.high=true→c.purge ds=c
 | .st _,_=>rfl
 | .full _,_=>rfl
 | .row id n,h=>by
  rw [AC.high] at h
  simp only [AC.purge,DK hds (of_decide_eq_true h),Bool.false_eq_true,if_false]
 | .part id k n,h=>by
  rw [AC.high] at h
  simp only [AC.purge,DK hds (of_decide_eq_true h),Bool.false_eq_true,if_false]
 | .rest id k n,h=>by
  rw [AC.high] at h
  simp only [AC.purge,DK hds (of_decide_eq_true h),Bool.false_eq_true,if_false]
 | .ptr id n k off,h=>by
  rw [AC.high] at h
  simp only [AC.purge,DK hds (of_decide_eq_true h),Bool.false_eq_true,if_false]
 | .mptr id,h=>by
  rw [AC.high] at h
  simp only [AC.purge,DK hds (of_decide_eq_true h),Bool.false_eq_true,if_false]
 | .yld id,h=>by
  rw [AC.high] at h
  simp only [AC.purge,DK hds (of_decide_eq_true h),Bool.false_eq_true,if_false]
 | .ubool,_=>rfl
 | .eptr _,_=>rfl
 | .fn f caps,h=>by
  rw [AC.high] at h
  simp only [AC.purge,AC.clears_highs hds h,if_true]
 | .any,_=>rfl
mutual
theorem AV.purge_high {ds:List Nat} (hds:∀ d ∈ ds,d < 1000):∀ {c:AV},c.high=true→c.purge ds=c
 | .one c,h=>by rw [AV.high] at h;rw [AV.purge,AC.purge_high hds h]
 | .agg cs,h=>by
  rw [AV.high] at h
  rw [AV.purge]
  congr 1
  exact (List.map_congr_left fun a ha=>AC.purge_high hds (CD h a ha)).trans (List.map_id _)
 | .tup vs,h=>by rw [AV.high] at h;rw [AV.purge,AV.purges_high hds h]
 | .any,_=>rfl
theorem AV.purges_high {ds:List Nat} (hds:∀ d ∈ ds,d < 1000):∀ {c:List AV},AV.highs c=true→AV.purges ds c=c
 | [],_=>rfl
 | c :: cs,h=>by
  rw [AV.highs,Bool.and_eq_true] at h
  rw [AV.purges,AV.purge_high hds h.1,AV.purges_high hds h.2]
end
theorem AL.purge_high {ds:List Nat} (hds:∀ d ∈ ds,d < 1000) {b:AL} (h:b.high=true):b.purge ds=b:=by
 cases b with
 | box e cs =>
  rw [AL.high] at h
  simp only [AL.purge]
  congr 1
  exact (List.map_congr_left fun a ha=>AC.purge_high hds (CD h a ha)).trans (List.map_id _)
 | crow e cs =>
  rw [AL.high] at h
  simp only [AL.purge]
  congr 1
  exact (List.map_congr_left fun a ha=>AC.purge_high hds (CD h a ha)).trans (List.map_id _)
 | arow=>rfl
 | mrow=>rfl
 | map=>rfl
 | memo=>rfl
 | iter x =>
  rw [AL.high] at h
  simp only [AL.purge,AC.purge_high hds h]
 | loop env r =>
  rw [AL.high] at h
  simp only [AL.purge,AV.purges_high hds h]
 | dead=>rfl
theorem Rj {ds:List Nat} (hds:∀ d ∈ ds,d < 1000) {S:AA} (h:Ax S):Ao ds S=S:=by
 funext id
 unfold Ao
 cases hb:S id with
 | none=>split <;> rfl
 | some b =>
  obtain ⟨h1,h2⟩:=h id b hb
  rw [DK hds h1,if_neg (by simp),Option.map_some,AL.purge_high hds h2]
theorem Q7 {ds:List Nat} {S:AA} {i:Nat} {b:Option AL} (h:ds.contains i=true):Ao ds (AG S i b)=Ao ds S:=by
 funext k
 unfold Ao
 by_cases e:k=i
 ·subst e
  rw [if_pos h,if_pos h]
 ·rw [AH _ e]
theorem KR {ds:List Nat} {S:AA} {i:Nat} {b:AL} (h:ds.contains i=false):Ao ds (AG S i (some b))=AG (Ao ds S) i (some (b.purge ds)):=by
 funext k
 unfold Ao
 by_cases e:k=i
 ·subst e
  rw [AE,AE,if_neg (by rw [h];simp)]
  rfl
 ·rw [AH _ e,AH _ e]
section
variable {C:Ctx} {σ:Sto} {ι:Az} {s:AS} {a:Act} {w:World} {ds:List Nat}
theorem BV (b:AL):(b.purge ds).len=b.len:=by cases b <;> first | rfl | simp [AL.purge,AL.len]
theorem Ha (b:AL):(b.purge ds).wid=b.wid:=by cases b <;> rfl
theorem An.keepClear {ds:List Nat} {S S2:AA} (hS:∀ id b,ds.contains id=false→S id=some b→∃ b',S2 id=some b'∧b'.len=b.len∧b'.wid=b.wid) {v:Value} {c:AC} (h:An σ S ι v c) (hc:c.clear ds=true):An σ S2 ι v c:=by
 induction h with
 | st h=>exact .st h
 | full h=>exact .full h
 | row h1 h2 h3 h4 =>
  rw [AC.clear] at hc
  obtain ⟨b',q1,q2,q3⟩:=hS _ _ (by simpa using hc) h1
  exact .row q1 (by rw [q2];exact h2) h3 (by rw [q2];exact h4)
 | part h1 h2 h3 h4 =>
  rw [AC.clear] at hc
  obtain ⟨b',q1,q2,q3⟩:=hS _ _ (by simpa using hc) h1
  exact .part q1 (by rw [q2];exact h2) h3 (by rw [q2];exact h4)
 | rest h1 h2 h3 h4 =>
  rw [AC.clear] at hc
  obtain ⟨b',q1,q2,q3⟩:=hS _ _ (by simpa using hc) h1
  exact .rest q1 (by rw [q2];exact h2) h3 (by rw [q2,q3];exact h4)
 | ptr h1 h2 h3 h4 =>
  rw [AC.clear] at hc
  obtain ⟨b',q1,q2,q3⟩:=hS _ _ (by simpa using hc) h1
  exact .ptr q1 (by rw [q2];exact h2) h3 (by rw [q2,q3];exact h4)
 | mptr h1 h2 h3 h4 =>
  rw [AC.clear] at hc
  obtain ⟨b',q1,q2,q3⟩:=hS _ _ (by simpa using hc) h1
  exact .mptr q1 (by rw [q2];exact h2) h3 (by rw [q2];exact h4)
 | yld h1 h2 h3 h4 =>
  rw [AC.clear] at hc
  obtain ⟨b',q1,q2,q3⟩:=hS _ _ (by simpa using hc) h1
  exact .yld q1 (by rw [q2];exact h2) h3 (by rw [q2];exact h4)
 | ubool=>exact .ubool
 | eptr c h1 h2 hh=>exact .eptr c h1 h2 hh
 | fn c h1 h2 h3 ih =>
  rw [AC.clear] at hc
  exact .fn c h1 h2 (fun j a ha=>ih j a ha (MY hc a (List.mem_of_getElem? ha)))
 | any h=>exact .any h
theorem An.purge (hds:∀ d ∈ ds,d < 1000) {v:Value} {c:AC} (h:An σ s.S ι v c):An σ (s.drop ds).S ι v (c.purge ds):=by
 have h0:=h
 cases h with
 | st h=>exact .st h
 | full h=>exact .full h
 | @row _ id n b h1 h2 h3 h4 =>
  simp only [AC.purge]
  split
  ·exact .any h3
  ·rename_i hn
   exact .row (b:=b.purge ds) (by simp only [AS.drop,Ao,hn];rw [h1];rfl) (by rw [BV];exact h2) h3 (by rw [BV];exact h4)
 | @part _ id k n b h1 h2 h3 h4 =>
  simp only [AC.purge]
  split
  ·exact .any h3
  ·rename_i hn
   exact .part (b:=b.purge ds) (by simp only [AS.drop,Ao,hn];rw [h1];rfl) (by rw [BV];exact h2) h3 (by rw [BV];exact h4)
 | @rest _ id k n b h1 h2 h3 h4 =>
  simp only [AC.purge]
  split
  ·exact .any h3
  ·rename_i hn
   exact .rest (b:=b.purge ds) (by simp only [AS.drop,Ao,hn];rw [h1];rfl) (by rw [BV];exact h2) h3 (by rw [BV,Ha];exact h4)
 | @ptr _ id n k off b h1 h2 h3 h4 =>
  simp only [AC.purge]
  split
  ·exact .any h3
  ·rename_i hn
   exact .ptr (b:=b.purge ds) (by simp only [AS.drop,Ao,hn];rw [h1];rfl) (by rw [BV];exact h2) h3 (by rw [BV,Ha];exact h4)
 | @mptr _ id b h1 h2 h3 h4 =>
  simp only [AC.purge]
  split
  ·exact .any h3
  ·rename_i hn
   exact .mptr (b:=b.purge ds) (by simp only [AS.drop,Ao,hn];rw [h1];rfl) (by rw [BV];exact h2) h3 (by rw [BV];exact h4)
 | @yld _ id b h1 h2 h3 h4 =>
  simp only [AC.purge]
  split
  ·exact .any h3
  ·rename_i hn
   exact .yld (b:=b.purge ds) (by simp only [AS.drop,Ao,hn];rw [h1];rfl) (by rw [BV];exact h2) h3 (by rw [BV];exact h4)
 | ubool=>exact .ubool
 | eptr c h1 h2 hh=>exact .eptr c h1 h2 hh
 | @fn f vs caps c h1 h2 h3 =>
  simp only [AC.purge]
  split
  ·rename_i hh
   exact h0.keepClear (ds:=ds) (fun id b hid hb=>⟨b.purge ds,by
    show Ao ds s.S id=_
    unfold Ao
    rw [hid,hb]
    rfl,BV b,Ha b⟩) (by rw [AC.clear];exact hh)
  ·exact .any rfl
 | any h=>exact .any h
mutual
theorem AT.purge (hds:∀ d ∈ ds,d < 1000):∀ {v:Value} {c:AV},AT σ s.S ι v c→AT σ (s.drop ds).S ι v (c.purge ds)
 | v,.one c,h=>by cases h with | one h=>exact .one (h.purge hds)
 | v,.agg cs,h=>by cases h with | agg h=>exact .agg ((h.mono fun _ _ x=>x.purge hds).map_right)
 | v,.tup vs,h=>by
  cases h with
  | tup c h1 h2 h3 =>
   obtain ⟨k1,k2⟩:=AT.purges hds (c:=c) h3
   exact .tup c (by rw [h1,k1]) (fun j b hb=>by
    rcases Nat.lt_or_ge j vs.length with hj | hj
    ·exact h2 j _ (List.getElem?_eq_getElem hj)
    ·rw [List.getElem?_eq_none (by omega)] at hb;cases hb) k2
 | v,.any,h=>.any
theorem AT.purges (hds:∀ d ∈ ds,d < 1000):∀ {vs:List AV} {c:Nat→Value},(∀ j b,vs[j]?=some b→AT σ s.S ι (c j) b)→vs.length=(AV.purges ds vs).length∧∀ j b,(AV.purges ds vs)[j]?=some b→AT σ (s.drop ds).S ι (c j) b
 | [],c,h=>by simp [AV.purges]
 | x :: xs,c,h=>by
  obtain ⟨m1,m2⟩:=AT.purges hds (vs:=xs) (c:=fun j=>c (j + 1)) (fun j b hb=>h (j + 1) b (by simpa using hb))
  refine ⟨by simp [AV.purges,← m1],fun j b hb=>?_⟩
  cases j with
  | zero =>
   simp [AV.purges] at hb
   subst hb
   exact AT.purge hds (h 0 x rfl)
  | succ j=>exact m2 j b (by simpa [AV.purges] using hb)
end
theorem B7.purge (hds:∀ d ∈ ds,d < 1000) {h:Hnd} {b:AL} (hr:B7 σ s.S ι w h b):B7 σ (s.drop ds).S ι w h (b.purge ds):=by
 cases hr with
 | box h1 h2 h3 h4 h5=>exact .box h1 h2 h3 ((h4.mono fun _ _ x=>x.purge hds).map_right) h5
 | crow h1 h2 h3 hc hm h4 h5=>exact .crow h1 h2 h3 (by simpa using hc) hm (by rw [List.length_map];exact (h4.mono fun _ _ x=>x.purge hds).map_right) h5
 | afull h1 h2 h3 h4=>exact .afull h1 h2 h3 h4
 | arow h1 h2 h3 h4 h5 h6 h7 h8 h9 hh=>exact .arow h1 h2 h3 h4 h5 h6 h7 h8 h9 hh
 | mnil h1 h2=>exact .mnil h1 h2
 | mrow h1 h2 h3 h4 h5 h6 h7 h8 h9=>exact .mrow h1 h2 h3 h4 h5 h6 h7 h8 h9
 | map h1 h2 h3 h4=>exact .map h1 h2 h3 h4
 | memo h1 h2 h3 h4=>exact .memo h1 h2 h3 h4
 | iter h1 h2 h3 h4=>exact .iter h1 h2 (h3.purge hds) h4
 | loop h1 h2 h3 h4 h5 =>
  obtain ⟨k1,k2⟩:=AT.purges hds h4
  exact .loop h1 h2 (by rw [← k1];exact h3) k2 h5
 | dead h1=>exact .dead h1
theorem Hc {id:Nat} {b:AL} (h:(s.drop ds).S id=some b):∃ b',s.S id=some b'∧b=b'.purge ds:=by
 simp only [AS.drop,Ao] at h
 split at h
 ·cases h
 ·rw [Option.map_eq_some_iff] at h
  obtain ⟨b',h1,h2⟩:=h
  exact ⟨b',h1,h2.symm⟩
theorem Ac.drop (ds:List Nat) (s:AS) (hds:∀ d ∈ ds,d < 1000):Ac C s (s.drop ds):=fun a w ⟨σ,ι,R⟩=>by
 refine ⟨σ,ι,R.size,fun i hi=>(R.env i hi).purge hds,R.nod,R.fit,fun id b h=>?_,fun id id' b b' g h1 h2 g1 g2=>?_,fun id b g h hg=>?_,R.ext,R.old,R.os,R.grown,R.same,fun id b hb=>?_⟩
 ·obtain ⟨b',h1,rfl⟩:=Hc h
  exact (R.blk id b' h1).purge hds
 ·obtain ⟨c1,k1,_⟩:=Hc h1
  obtain ⟨c2,k2,_⟩:=Hc h2
  exact R.inj _ _ _ _ _ k1 k2 g1 g2
 ·obtain ⟨c1,k1,_⟩:=Hc h
  exact R.base _ _ _ k1 hg
 ·obtain ⟨b',h1,h2,h3⟩:=R.upd id b hb
  have hid:=(C.clean id b hb).1
  have hnc:ds.contains id=false:=by
   cases hc:ds.contains id with
   | false=>rfl
   | true =>
    have:=hds id (List.contains_iff_mem.1 hc)
    omega
  refine ⟨b'.purge ds,by simp only [AS.drop,Ao,hnc];rw [h1];rfl,by rw [BV];exact h2,fun hl=>?_⟩
  rw [BV] at hl
  rw [Ha]
  exact h3 hl
theorem Ac.share {id:Nat} {e:TypeId} {wd:Nat} {xs:List (List SV)} (hS:s.S id=some (.mrow e wd xs)):Ac C s (s.set id (.arow e wd xs)):=fun a w ⟨σ,ι,R⟩=>by
 have hb:=R.blk _ _ hS
 have hι:AG ι id (ι id)=ι:=by
  funext k
  unfold AG
  split
  ·rename_i h;rw [h]
  ·rfl
 cases hb with
 | mnil h1 h2 =>
  obtain ⟨hu,R'⟩:=R.turn (w':=w) hS (.arow e wd []) (ι id) (σ':=σ) (fun _ _ h=>h) (fun _ _ _=>rfl) R.fit (Nat.le_refl _) (fun _=>⟨rfl,rfl⟩) ⟨rfl,rfl,rfl⟩ (Nat.le_refl _) (fun _ _ _=>rfl) (fun g h=>.inl h) (fun hu=>.afull h1 (by simpa using h2) (by simp) (.list (b:=0) (o:=0) (w:=0) (fun _ _=>undef) rfl (by simp) (by rw [h2];simp [maxLen]) (fun _=>h2) (by simp) (by simp) (fun _ h _=>absurd h (by omega)) (by simp) (by simp)))
  exact ⟨σ,_,R'⟩
 | @mrow _ _ _ g vs h1 h2 h3 h4 h5 h6 h7 h8 h9 =>
  have hl:BG σ vs.toList wd xs:=⟨h7,fun k x j y hx hy=>by simpa using h8 k x j y hx hy⟩
  have hkeep:=Fi (σ:=σ) (w':=w) (g:=g) (k:=xs.length * wd) (fun p x e hx=>by rw [h9 _ e] at hx;cases hx)
  obtain ⟨hu,R'⟩:=R.turn (w':=w) hS (.arow e wd xs) (ι id) (σ':=Eg σ w g (xs.length * wd)) hkeep (fun p hp _=>Fb (fun e=>hp (by rw [e];exact h1))) (Ee R.fit) (Nat.le_refl _) (fun _=>⟨rfl,rfl⟩) ⟨rfl,rfl,rfl⟩ (Nat.le_refl _) (fun _ _ _=>rfl) (fun g h=>.inl h)
   (fun hu=>by
    have:=KT (S':=(s.set id (.arow e wd xs)).S) (ι':=AG ι id (ι id)) (w':=w) (p:=(ι id).p) h2 h3 h4 h5 h6 hl hkeep (fun p hp hne=>absurd (h9 p hp) hne)
    rw [← h1] at this
    exact this)
  exact ⟨_,_,R'⟩
theorem Ac.own (t id:Nat) (e:TypeId) (wd:Nat) {xs:List (List SV)} (ht:s.env t=.one (.full xs)) (hid:s.S id=none) (hw:∀ x ∈ xs,x.length=wd) (hn:t < C.n):Ac C s ⟨AG s.env t (.one (.row id xs.length)),AG s.S id (some (.arow e wd xs))⟩:=fun a w ⟨σ,ι,R⟩=>by
 have rt:=R.env t hn
 rw [ht] at rt
 generalize hv:a.tmps.getD t undef=v at rt
 cases AY rt with
 | @full p len xs hs =>
  have hl:len=xs.length:=by
   obtain ⟨p',cap',e1,_⟩:=CM hs
   cases e1
   rfl
  subst hl
  obtain ⟨hu,R'⟩:=R.fresh (w':=w) hid (.arow e wd xs) ⟨p,xs.length,none⟩ (Ext.refl _ _) R.fit (Below.refl _ _) (by simp) (fun S' ι' hu=>.afull rfl rfl hw hs)
  refine ⟨σ,_,R'.size,fun i hi=>?_,R'.nod,R'.fit,R'.blk,R'.inj,R'.base,R'.ext,R'.old,R'.os,R'.grown,R'.same,R'.upd⟩
  show AT σ (s.set id (.arow e wd xs)).S _ _ (AG s.env t _ i)
  unfold AG
  split
  ·rename_i e1
   subst e1
   rw [hv]
   exact .one (.row (b:=.arow e wd xs) (by simp [AS.set,AE]) (Nat.le_refl _) rfl fun _=>by simp [AG])
  ·exact R'.env i hi
theorem Ac.ownM (t id:Nat) (e:TypeId) (wd:Nat) (ht:s.env t=.one (.full [])) (hid:s.S id=none) (hn:t < C.n):Ac C s ⟨AG s.env t (.one (.row id 0)),AG s.S id (some (.mrow e wd []))⟩:=fun a w ⟨σ,ι,R⟩=>by
 have rt:=R.env t hn
 rw [ht] at rt
 generalize hv:a.tmps.getD t undef=v at rt
 cases AY rt with
 | @full p len xs hs =>
  have hl:len=0:=by
   obtain ⟨p',cap',e1,_⟩:=CM hs
   cases e1
   rfl
  subst hl
  obtain ⟨hu,R'⟩:=R.fresh (w':=w) hid (.mrow e wd []) ⟨p,0,none⟩ (Ext.refl _ _) R.fit (Below.refl _ _) (by simp) (fun S' ι' hu=>.mnil rfl rfl)
  refine ⟨σ,_,R'.size,fun i hi=>?_,R'.nod,R'.fit,R'.blk,R'.inj,R'.base,R'.ext,R'.old,R'.os,R'.grown,R'.same,R'.upd⟩
  show AT σ (s.set id (.mrow e wd [])).S _ _ (AG s.env t _ i)
  unfold AG
  split
  ·rename_i e1
   subst e1
   rw [hv]
   exact .one (.row (b:=.mrow e wd []) (by simp [AS.set,AE]) (Nat.le_refl _) rfl fun _=>by simp [AG])
  ·exact R'.env i hi
theorem Ac.toPart (t id n:Nat) (ht:s.env t=.one (.row id n)) (hn:t < C.n):Ac C s ⟨AG s.env t (.one (.part id n n)),s.S⟩:=fun a w ⟨σ,ι,R⟩=>by
 have rt:=R.env t hn
 rw [ht] at rt
 refine ⟨σ,ι,R.size,fun i hi=>?_,R.nod,R.fit,R.blk,R.inj,R.base,R.ext,R.old,R.os,R.grown,R.same,R.upd⟩
 show AT σ s.S ι _ (AG s.env t _ i)
 unfold AG
 split
 ·rename_i e1
  subst e1
  obtain ⟨b,h1,h2,h3⟩:=Ck (AY rt)
  exact .one (.part h1 h2 (AY rt).one fun hl=>⟨Nat.le_refl _,h3 hl⟩)
 ·exact R.env i hi
theorem Ac.keep (t id k n:Nat) {e:TypeId} {wd:Nat} {xs:List (List SV)} (ht:s.env t=.one (.part id k n)) (hS:s.S id=some (.arow e wd xs)) (hl:n=xs.length) (hn:t < C.n):Ac C s ⟨AG s.env t (.one (.st (.list (xs.take k)))),s.S⟩:=fun a w ⟨σ,ι,R⟩=>by
 have rt:=R.env t hn
 rw [ht] at rt
 refine ⟨σ,ι,R.size,fun i hi=>?_,R.nod,R.fit,R.blk,R.inj,R.base,R.ext,R.old,R.os,R.grown,R.same,R.upd⟩
 show AT σ s.S ι _ (AG s.env t _ i)
 unfold AG
 split
 ·rename_i e1
  subst e1
  obtain ⟨b,h1,h2,h3⟩:=Fa (AY rt)
  rw [hS] at h1
  cases h1
  obtain ⟨h4,h5⟩:=h3 hl
  rw [h5]
  have hb:=R.blk _ _ hS
  have hr:=hb.srep
  have hmem:∀ {kk x},(xs.take k)[kk]?=some x→xs[kk]?=some x:=fun hx=>by
   rw [List.getElem?_take] at hx
   split at hx
   ·exact hx
   ·cases hx
  cases hr with
  | @list p len cap b o w' _ c q1 q2 q3 q4 q5 q6 qh q7 q8 =>
   exact .one (.st (.list (b:=b) (o:=o) (w:=w') c (by rw [List.length_take];omega) (by omega) q3 q4 (fun hne=>q5 (by omega)) (fun x hx=>q6 x (List.mem_of_mem_take hx)) (fun e1 e2 e3=>qh e1 e2 (fun e4=>e3 (by rw [e4];exact List.take_nil))) (fun kk x j a hx ha=>q7 kk x j a (hmem hx) ha) (fun kk x j a hx ha=>q8 kk x j a (hmem hx) ha)))
 ·exact R.env i hi
theorem Ac.ownC (id j nid:Nat) (e:TypeId) (wd:Nat) {xs:List (List SV)} {ty:TypeId} {cs:List AC} (hb:s.S id=some (.box ty cs)) (hc:cs[j]?=some (.full xs)) (hn:s.S nid=none) (hw:∀ x ∈ xs,x.length=wd) :
  Ac C s ((s.set nid (.arow e wd xs)).set id (.box ty (cs.set j (.row nid xs.length)))):=fun a w ⟨σ,ι,R⟩=>by
 have hbk:=R.blk id _ hb
 have hne:id ≠ nid:=fun e=>by subst e;rw [hb] at hn;cases hn
 cases hbk with
 | @box _ _ g vs h1 h2 h3 h4 h5 =>
  obtain ⟨v,hv,hr⟩:=h4.get hc
  cases hr with
  | @full p len xs hs =>
   have hl:len=xs.length:=by
    obtain ⟨p',cap',e1,_⟩:=CM hs
    cases e1
    rfl
   subst hl
   obtain ⟨hu,R'⟩:=R.fresh (w':=w) hn (.arow e wd xs) ⟨p,xs.length,none⟩ (Ext.refl _ _) R.fit (Below.refl _ _) (by simp) (fun S' ι' hu=>.afull rfl rfl hw hs)
   have hb':(s.set nid (.arow e wd xs)).S id=some (.box ty cs):=by simp [AS.set,AH _ hne,hb]
   have hι:AG ι nid ⟨p,xs.length,none⟩ id=ι id:=AH _ hne _
   obtain ⟨hu2,R2⟩:=R'.turn (w':=w) hb' (.box ty (cs.set j (.row nid xs.length))) (AG ι nid ⟨p,xs.length,none⟩ id) (σ':=σ) (fun _ _ h=>h) (fun _ _ _=>rfl) R.fit (Nat.le_refl _) (fun _=>⟨by simp [AL.wid],rfl⟩) ⟨rfl,rfl,rfl⟩ (Nat.le_refl _) (fun _ _ _=>rfl) (fun g h=>.inl h) (fun hu2=>by
    refine .box (by rw [hι];exact h1) (by rw [hι];exact h2) h3 (Ad.of_get (by rw [List.length_set];exact h4.len) fun k u c hu' hck=>?_) h5
    by_cases hk:k=j
    ·subst hk
     rw [hv] at hu'
     cases hu'
     have hlt:k < cs.length:=(List.getElem?_eq_some_iff.1 hc).1
     rw [List.getElem?_set_self hlt] at hck
     cases hck
     exact .row (b:=.arow e wd xs) (by simp [AS.set,AG,hne.symm]) (Nat.le_refl _) rfl fun _=>by simp [AG,hne.symm]
    ·rw [List.getElem?_set_ne (fun e=>hk e.symm)] at hck
     obtain ⟨u',q1,q2⟩:=h4.get hck
     rw [hu'] at q1
     cases q1
     exact (q2.mono (fun _ _ h=>h) hu).mono (fun _ _ h=>h) hu2)
   exact ⟨_,_,R2⟩
theorem O5 {v:Value} {c:AV} (h:AT σ noS noH v c):AT σ s.S ι v c:=h.mono (fun _ _ h=>h) (JS _ _)
theorem Ac.settle (t:Nat) {v:AV} (h:outV s.S (s.env t)=some v):Ac C s ⟨AG s.env t v,s.S⟩:=fun a w ⟨σ,ι,R⟩=>by
 refine ⟨σ,ι,R.size,fun i hi=>?_,R.nod,R.fit,R.blk,R.inj,R.base,R.ext,R.old,R.os,R.grown,R.same,R.upd⟩
 show AT σ s.S ι _ (AG s.env t v i)
 unfold AG
 split
 ·rename_i e
  subst e
  exact O5 (R.outV (R.env i hi) h)
 ·exact R.env i hi
def AV.low (v:AV):AV:=if v.high then v else .any
theorem AR.low (R:AR C σ ι s a w) (hb:∀ i b,1000≤i→s.S i=some b→b.high=true):AR C σ ι ⟨fun i=>(s.env i).low,B6 s.S⟩ a w:=by
 have hS:∀ i b,1000≤i→s.S i=some b→B6 s.S i=some b:=fun i b hi h=>by
  show (if i < 1000 then none else s.S i)=some b
  rw [if_neg (by omega),h]
 have hinv:∀ i b,B6 s.S i=some b→1000≤i∧s.S i=some b:=fun i b h=>by
  have h':(if i < 1000 then none else s.S i)=some b:=h
  split at h'
  ·cases h'
  ·exact ⟨by omega,h'⟩
 refine ⟨R.size,fun i hi=>?_,R.nod,R.fit,fun id b h=>?_,fun id id' b b' g h1 h2 g1 g2=>R.inj _ _ _ _ g (hinv _ _ h1).2 (hinv _ _ h2).2 g1 g2,fun id b g h hg=>R.base _ _ g (hinv _ _ h).2 hg,R.ext,R.old,R.os,R.grown,R.same,fun id b h=>?_⟩
 ·show AT σ (B6 s.S) ι _ ((s.env i).low)
  unfold AV.low
  split
  ·rename_i hh
   exact (R.env i hi).low hS hh
  ·exact .any
 ·obtain ⟨h1,h2⟩:=hinv _ _ h
  have hh:=hb id b h1 h2
  cases R.blk id b h2 with
  | box k1 k2 k3 k4 k5=>exact .box k1 k2 k3 (Lz hS k4 hh) k5
  | crow k1 k2 k3 kc km k4 k5=>exact .crow k1 k2 k3 kc km (Lz hS k4 hh) k5
  | afull k1 k2 k3 k4=>exact .afull k1 k2 k3 k4
  | arow k1 k2 k3 k4 k5 k6 k7 k8 k9 kh=>exact .arow k1 k2 k3 k4 k5 k6 k7 k8 k9 kh
  | mnil k1 k2=>exact .mnil k1 k2
  | mrow k1 k2 k3 k4 k5 k6 k7 k8 k9=>exact .mrow k1 k2 k3 k4 k5 k6 k7 k8 k9
  | map k1 k2 k3 k4=>exact .map k1 k2 k3 k4
  | memo k1 k2 k3 k4=>exact .memo k1 k2 k3 k4
  | iter k1 k2 k3 k4=>exact .iter k1 k2 (k3.low hS hh) k4
  | loop k1 k2 k3 k4 k5=>exact .loop k1 k2 k3 (AT.lows hS k4 hh) k5
  | dead k1=>exact .dead k1
 ·obtain ⟨b',h1,h2⟩:=R.upd id b h
  exact ⟨b',hS _ _ (C.clean id b h).1 h1,h2⟩
theorem Ac.low (hb:∀ i b,1000≤i→s.S i=some b→b.high=true):Ac C s ⟨fun i=>(s.env i).low,B6 s.S⟩:=fun a w ⟨σ,ι,R⟩=>⟨σ,ι,R.low hb⟩
def BZ (id a:Nat) (i:Nat):Nat:=if i=id then a else i
def AV.hand (id a:Nat) (v:AV):AV:=if (v.ren (BZ id a)).high then v.ren (BZ id a) else .any
section
variable {S S2:AA} {ι2:Az} {id a0:Nat}
theorem An.hand (hS:∀ i b,1000≤BZ id a0 i→S i=some b→S2 (BZ id a0 i)=some b∧ι2 (BZ id a0 i)=ι i) {v:Value} {c:AC} (h:An σ S ι v c) (hc:(c.ren (BZ id a0)).high=true):An σ S2 ι2 v (c.ren (BZ id a0)):=by
 induction h with
 | st h=>exact .st h
 | full h=>exact .full h
 | row h1 h2 h3 h4 =>
  rw [AC.ren,AC.high] at hc
  obtain ⟨q1,q2⟩:=hS _ _ (of_decide_eq_true hc) h1
  rw [AC.ren]
  exact .row q1 h2 h3 (fun hn=>by rw [q2];exact h4 hn)
 | part h1 h2 h3 h4 =>
  rw [AC.ren,AC.high] at hc
  obtain ⟨q1,q2⟩:=hS _ _ (of_decide_eq_true hc) h1
  rw [AC.ren]
  exact .part q1 h2 h3 (fun hn=>by rw [q2];exact h4 hn)
 | rest h1 h2 h3 h4 =>
  rw [AC.ren,AC.high] at hc
  obtain ⟨q1,q2⟩:=hS _ _ (of_decide_eq_true hc) h1
  rw [AC.ren]
  exact .rest q1 h2 h3 (fun hn=>by rw [q2];exact h4 hn)
 | ptr h1 h2 h3 h4 =>
  rw [AC.ren,AC.high] at hc
  obtain ⟨q1,q2⟩:=hS _ _ (of_decide_eq_true hc) h1
  rw [AC.ren]
  exact .ptr q1 h2 h3 (fun hn=>by rw [q2];exact h4 hn)
 | mptr h1 h2 h3 h4 =>
  rw [AC.ren,AC.high] at hc
  obtain ⟨q1,q2⟩:=hS _ _ (of_decide_eq_true hc) h1
  rw [AC.ren]
  exact .mptr q1 h2 h3 (fun hn=>by rw [q2];exact h4 hn)
 | yld h1 h2 h3 h4 =>
  rw [AC.ren,AC.high] at hc
  obtain ⟨q1,q2⟩:=hS _ _ (of_decide_eq_true hc) h1
  rw [AC.ren]
  exact .yld q1 h2 h3 (fun hn=>by rw [q2];exact h4 hn)
 | ubool=>exact .ubool
 | eptr c h1 h2 hh=>exact .eptr c h1 h2 hh
 | @fn f vs caps c h1 h2 h3 ih =>
  rw [AC.ren,AC.high] at hc
  rw [AC.ren]
  have key:∀ (j:Nat) (b:AC),(AC.rens (BZ id a0) caps)[j]?=some b→∃ a,caps[j]?=some a∧b=a.ren (BZ id a0):=fun j b hb=>by
   rw [AC.rens_eq,List.getElem?_map,Option.map_eq_some_iff] at hb
   obtain ⟨a,ha,rfl⟩:=hb
   exact ⟨a,ha,rfl⟩
  refine .fn c (by rw [AC.rens_eq];simpa using h1) (fun j b hb=>?_) (fun j b hb=>?_)
  ·obtain ⟨a,ha,rfl⟩:=key j b hb
   exact h2 j a ha
  ·have hm:=CD hc b (List.mem_of_getElem? hb)
   obtain ⟨a,ha,rfl⟩:=key j b hb
   exact ih j a ha hm
 | any h=>exact .any h
mutual
theorem AT.hand (hS:∀ i b,1000≤BZ id a0 i→S i=some b→S2 (BZ id a0 i)=some b∧ι2 (BZ id a0 i)=ι i):∀ {v:Value} {c:AV},AT σ S ι v c→(c.ren (BZ id a0)).high=true→AT σ S2 ι2 v (c.ren (BZ id a0))
 | v,.one c,h,hc=>by
  rw [AV.ren] at hc ⊢
  rw [AV.high] at hc
  cases h with | one h=>exact .one (h.hand hS hc)
 | v,.agg cs,h,hc=>by
  rw [AV.ren] at hc ⊢
  rw [AV.high] at hc
  cases h with
  | agg h =>
   refine .agg (Ad.of_get (by rw [AC.rens_eq];simpa using h.len) fun j x c hx hcj=>?_)
   have hm:=CD hc c (List.mem_of_getElem? hcj)
   rw [AC.rens_eq,List.getElem?_map,Option.map_eq_some_iff] at hcj
   obtain ⟨c',hc',rfl⟩:=hcj
   obtain ⟨x',h1,h2⟩:=h.get hc'
   rw [hx] at h1
   cases h1
   exact h2.hand hS hm
 | v,.tup vs,h,hc=>by
  rw [AV.ren] at hc ⊢
  rw [AV.high] at hc
  cases h with
  | tup c h1 h2 h3 =>
   obtain ⟨k1,k2⟩:=AT.hands hS h3 hc
   exact .tup c (by rw [h1,k1]) (fun j b hb=>by
    rcases Nat.lt_or_ge j vs.length with hj | hj
    ·exact h2 j _ (List.getElem?_eq_getElem hj)
    ·rw [List.getElem?_eq_none (by omega)] at hb;cases hb) k2
 | v,.any,h,_=>.any
theorem AT.hands (hS:∀ i b,1000≤BZ id a0 i→S i=some b→S2 (BZ id a0 i)=some b∧ι2 (BZ id a0 i)=ι i):∀ {vs:List AV} {c:Nat→Value},(∀ j b,vs[j]?=some b→AT σ S ι (c j) b)→AV.highs (AV.rens (BZ id a0) vs)=true→vs.length=(AV.rens (BZ id a0) vs).length∧∀ j b,(AV.rens (BZ id a0) vs)[j]?=some b→AT σ S2 ι2 (c j) b
 | [],c,h,_=>by simp [AV.rens]
 | x :: xs,c,h,hc=>by
  rw [AV.rens,AV.highs,Bool.and_eq_true] at hc
  obtain ⟨m1,m2⟩:=AT.hands hS (vs:=xs) (c:=fun j=>c (j + 1)) (fun j b hb=>h (j + 1) b (by simpa using hb)) hc.2
  refine ⟨by simp [AV.rens,← m1],fun j b hb=>?_⟩
  cases j with
  | zero =>
   simp [AV.rens] at hb
   subst hb
   exact AT.hand hS (h 0 x rfl) hc.1
  | succ j=>exact m2 j b (by simpa [AV.rens] using hb)
end
end
theorem An.stay {S S2:AA} {ι2:Az} (hS:∀ i b,1000≤i→S i=some b→S2 i=some b∧ι2 i=ι i) {v:Value} {c:AC} (h:An σ S ι v c) (hc:c.high=true):An σ S2 ι2 v c:=by
 induction h with
 | st h=>exact .st h
 | full h=>exact .full h
 | row h1 h2 h3 h4 =>
  rw [AC.high] at hc
  obtain ⟨q1,q2⟩:=hS _ _ (of_decide_eq_true hc) h1
  exact .row q1 h2 h3 (fun hn=>by rw [q2];exact h4 hn)
 | part h1 h2 h3 h4 =>
  rw [AC.high] at hc
  obtain ⟨q1,q2⟩:=hS _ _ (of_decide_eq_true hc) h1
  exact .part q1 h2 h3 (fun hn=>by rw [q2];exact h4 hn)
 | rest h1 h2 h3 h4 =>
  rw [AC.high] at hc
  obtain ⟨q1,q2⟩:=hS _ _ (of_decide_eq_true hc) h1
  exact .rest q1 h2 h3 (fun hn=>by rw [q2];exact h4 hn)
 | ptr h1 h2 h3 h4 =>
  rw [AC.high] at hc
  obtain ⟨q1,q2⟩:=hS _ _ (of_decide_eq_true hc) h1
  exact .ptr q1 h2 h3 (fun hn=>by rw [q2];exact h4 hn)
 | mptr h1 h2 h3 h4 =>
  rw [AC.high] at hc
  obtain ⟨q1,q2⟩:=hS _ _ (of_decide_eq_true hc) h1
  exact .mptr q1 h2 h3 (fun hn=>by rw [q2];exact h4 hn)
 | yld h1 h2 h3 h4 =>
  rw [AC.high] at hc
  obtain ⟨q1,q2⟩:=hS _ _ (of_decide_eq_true hc) h1
  exact .yld q1 h2 h3 (fun hn=>by rw [q2];exact h4 hn)
 | ubool=>exact .ubool
 | eptr c h1 h2 hh=>exact .eptr c h1 h2 hh
 | fn c h1 h2 h3 ih =>
  rw [AC.high] at hc
  exact .fn c h1 h2 (fun j a ha=>ih j a ha (CD hc a (List.mem_of_getElem? ha)))
 | any h=>exact .any h
theorem AR.hand (R:AR C σ ι s a w) (id a0:Nat) {b0:AL} (hid:id < 1000) (ha:1000≤a0) (hSa:s.S a0=none) (hb0:s.S id=some b0) (hbh:b0.high=true) (hb:∀ i b,1000≤i→s.S i=some b→b.high=true) :
  AR C σ (AG ι a0 (ι id)) ⟨fun i=>(s.env i).hand id a0,AG (B6 s.S) a0 (some b0)⟩ a w∧∀ i b,1000≤BZ id a0 i→s.S i=some b→AG (B6 s.S) a0 (some b0) (BZ id a0 i)=some b∧AG ι a0 (ι id) (BZ id a0 i)=ι i:=by
 have hlow:∀ i,1000≤i→B6 s.S i=s.S i:=fun i hi=>by
  show (if i < 1000 then none else s.S i)=_
  rw [if_neg (by omega)]
 have hS:∀ i b,1000≤BZ id a0 i→s.S i=some b→AG (B6 s.S) a0 (some b0) (BZ id a0 i)=some b∧AG ι a0 (ι id) (BZ id a0 i)=ι i:=fun i b hi h=>by
  unfold BZ at hi ⊢
  by_cases e:i=id
  ·subst e
   rw [if_pos rfl,AE,AE,← hb0,h]
   exact ⟨rfl,rfl⟩
  ·rw [if_neg e] at hi ⊢
   have hne:i ≠ a0:=fun e=>by subst e;rw [hSa] at h;cases h
   rw [AH _ hne,AH _ hne,hlow i hi]
   exact ⟨h,rfl⟩
 have hS':∀ i b,1000≤i→s.S i=some b→AG (B6 s.S) a0 (some b0) i=some b∧AG ι a0 (ι id) i=ι i:=fun i b hi h=>by
  have hne:i ≠ a0:=fun e=>by subst e;rw [hSa] at h;cases h
  rw [AH _ hne,AH _ hne,hlow i hi]
  exact ⟨h,rfl⟩
 have hinv:∀ i b,AG (B6 s.S) a0 (some b0) i=some b→(i=a0∧b=b0) ∨ (i ≠ a0∧1000≤i∧s.S i=some b):=fun i b h=>by
  by_cases e:i=a0
  ·subst e
   rw [AE] at h
   cases h
   exact .inl ⟨rfl,rfl⟩
  ·rw [AH _ e] at h
   have h':(if i < 1000 then none else s.S i)=some b:=h
   split at h'
   ·cases h'
   ·exact .inr ⟨e,by omega,h'⟩
 refine ⟨⟨R.size,fun i hi=>?_,R.nod,R.fit,fun i b h=>?_,fun i j b c g h1 h2 g1 g2=>?_,fun i b g h hg=>?_,R.ext,R.old,R.os,R.grown,R.same,fun i b h=>?_⟩,hS⟩
 ·show AT σ (AG (B6 s.S) a0 (some b0)) _ _ ((s.env i).hand id a0)
  unfold AV.hand
  split
  ·rename_i hh
   exact (R.env i hi).hand hS hh
  ·exact .any
 ·rcases hinv i b h with ⟨rfl,rfl⟩ | ⟨hne,h1,h2⟩
  ·rw [AE]
   exact (R.blk id _ hb0).samecells (fun v c hv hc=>hv.stay hS' hc) hbh
  ·rw [AH _ hne]
   exact (R.blk i b h2).samecells (fun v c hv hc=>hv.stay hS' hc) (hb i b h1 h2)
 ·rcases hinv i b h1 with ⟨rfl,rfl⟩ | ⟨hne,k1,k2⟩ <;> rcases hinv j c h2 with ⟨rfl,rfl⟩ | ⟨hne',k1',k2'⟩
  ·rfl
  ·rw [AE] at g1
   rw [AH _ hne'] at g2
   have:=R.inj _ _ _ _ g hb0 k2' g1 g2
   omega
  ·rw [AE] at g2
   rw [AH _ hne] at g1
   have:=R.inj _ _ _ _ g k2 hb0 g1 g2
   omega
  ·rw [AH _ hne] at g1
   rw [AH _ hne'] at g2
   exact R.inj _ _ _ _ g k2 k2' g1 g2
 ·rcases hinv i b h with ⟨rfl,rfl⟩ | ⟨hne,k1,k2⟩
  ·rw [AE] at hg
   exact R.base _ _ g hb0 hg
  ·rw [AH _ hne] at hg
   exact R.base _ _ g k2 hg
 ·obtain ⟨b',h1,h2,h3⟩:=R.upd i b h
  obtain ⟨q1,q2⟩:=hS' i b' (C.clean i b h).1 h1
  exact ⟨b',q1,h2,fun hl=>⟨(h3 hl).1,by rw [q2];exact (h3 hl).2⟩⟩
theorem Ac.hand (id a0:Nat) {b0:AL} (hid:id < 1000) (ha:1000≤a0) (hSa:s.S a0=none) (hb0:s.S id=some b0) (hbh:b0.high=true) (hb:∀ i b,1000≤i→s.S i=some b→b.high=true):Ac C s ⟨fun i=>(s.env i).hand id a0,AG (B6 s.S) a0 (some b0)⟩:=fun a w ⟨σ,ι,R⟩ =>
 ⟨σ,_,(R.hand id a0 hid ha hSa hb0 hbh hb).1⟩
theorem N3 {C:Ctx} {rs:List RV} {S':AA} {e:AX} {s:AS} (he:match e with | .normal=>True | .ret=>True | _=>False) (id a0:Nat) (r0:AV) {b0:AL} (hid:id < 1000) (ha:1000≤a0) (hSa:s.S a0=none) (hb0:s.S id=some b0) (hbh:b0.high=true) (hb:∀ i b,1000≤i→s.S i=some b→b.high=true)
  (h1:(AB s rs).map AK=some r0) (hh:(r0.ren (BZ id a0)).high=true) (h3:AG (B6 s.S) a0 (some b0)=S') (hc:Ax S'):Jt C rs (r0.ren (BZ id a0)) S' e s :=
 ⟨he,s,⟨fun i=>(s.env i).hand id a0,AG (B6 s.S) a0 (some b0)⟩,r0,Ac.refl _ _,h1,fun σ ι a w R=>⟨σ,_,(R.hand id a0 hid ha hSa hb0 hbh hb).1,fun v hv=>hv.hand (R.hand id a0 hid ha hSa hb0 hbh hb).2 hh⟩,h3,hc⟩
theorem A0 (S:AA) (i:Nat):upS S (up1 i)=(S i).map (AL.ren up1):=by
 show (if i + 1000 < 1000 then none else (S (i + 1000 - 1000)).map (AL.ren up1))=_
 rw [if_neg (by omega),Nat.add_sub_cancel]
theorem PH (S:AA) (i:Nat) (b:AL):dnS (AG S (up1 i) (some b))=AG (dnS S) i (some (b.ren dn1)):=by
 funext k
 show (AG S (up1 i) (some b) (up1 k)).map _=AG (dnS S) i _ k
 by_cases h:k=i
 ·subst h
  rw [AE,AE]
  rfl
 ·have hne:up1 k ≠ up1 i:=fun e=>h (by have:=congrArg dn1 e;rw [Lk,Lk] at this;exact this)
  rw [AH _ hne,AH _ h]
  rfl
theorem I7 (S:AA) {i:Nat} (h:i < 1000) (b:Option AL):B6 (AG S i b)=B6 S:=by
 funext k
 show (if k < 1000 then none else AG S i b k)=(if k < 1000 then none else S k)
 split
 ·rfl
 ·exact AH _ (by omega) _
theorem UZ (S:AA) {i:Nat} (h:1000≤i) (b:Option AL):B6 (AG S i b)=AG (B6 S) i b:=by
 funext k
 show (if k < 1000 then none else AG S i b k)=AG (B6 S) i b k
 by_cases e:k=i
 ·subst e
  rw [if_neg (by omega),AE,AE]
 ·rw [AH _ e,AH _ e]
  rfl
theorem B0 {S:AA} (h:Ax S) {i:Nat} (hi:1000≤i) {b:AL} (hb:b.high=true):Ax (AG S i (some b)):=fun k c hk=>by
 by_cases e:k=i
 ·subst e
  rw [AE] at hk
  cases hk
  exact ⟨hi,hb⟩
 ·rw [AH _ e] at hk
  exact h k c hk
theorem Wu {S:AA} {i:Nat} {b:AL} (h:∀ k c,1000≤k→S k=some c→c.high=true) (hb:b.high=true):∀ k c,1000≤k→AG S i (some b) k=some c→c.high=true:=fun k c hk hc=>by
 by_cases e:k=i
 ·subst e
  rw [AE] at hc
  cases hc
  exact hb
 ·rw [AH _ e] at hc
  exact h k c hk hc
theorem J3 {S:AA} {i:Nat} (hi:i < 1000) {b:Option AL} (h:∀ k c,1000≤k→S k=some c→c.high=true):∀ k c,1000≤k→AG S i b k=some c→c.high=true:=fun k c hk hc=>by
 rw [AH _ (by omega)] at hc
 exact h k c hk hc
end
theorem IWP.loopD {P:Program} {C:Ctx} {mu:List Nat} {Q:AX→AS→Prop} {s:AS} {x:IR} (ds:List Nat) (Inv:Nat→AS→Prop) (m0:Nat) (h0:Inv m0 s) (h:∀ m s,Inv m s→IWP P C mu x (AX.then (fun s'=>∃ m',m' < m∧Inv m' (s'.drop ds)) Q) s) (hds:∀ d ∈ ds,d < 1000:=by decide):IWP P C mu (.loop x) Q s:=by
 refine IWP.loop (fun m s=>∃ s1,Ac C s s1∧Inv m s1) m0 ⟨s,Ac.refl _ _,h0⟩ fun m s ⟨s1,hg,hi⟩=>?_
 refine (IWP.ghost hg (h m s1 hi)).mono fun e s2 he=>?_
 cases e with
 | normal =>
  obtain ⟨m',h1,h2⟩:=he
  exact ⟨m',h1,_,Ac.drop ds s2 hds,h2⟩
 | _=>exact he
theorem An.out {σ:Sto} {S:AA} {ι:Az} {v:Value} {c:AC} (h:An σ S ι v c) (hc:outC noS c=some c):An σ noS noH v c:=by
 cases h with
 | st h=>exact .st h
 | full h=>simp [outC,stC] at hc
 | row h1 h2 h3 h4=>simp [outC,stC,noS] at hc
 | part h1 h2 h3 h4=>simp [outC,stC,noS] at hc
 | rest h1 h2 h3 h4=>simp [outC,stC,noS] at hc
 | ptr h1 h2 h3 h4=>simp [outC,stC] at hc
 | mptr h1 h2 h3 h4=>simp [outC,stC] at hc
 | yld h1 h2 h3 h4=>simp [outC,stC] at hc
 | ubool=>exact .ubool
 | eptr c h1 h2 hh=>exact .eptr c h1 h2 hh
 | @fn f vs caps c h1 h2 h3 =>
  cases caps with
  | nil=>exact .fn c h1 h2 (by simp)
  | cons x xs =>
   have hall:(x :: xs).all AC.stay=true:=by
    unfold outC at hc
    by_cases e:(x :: xs).all AC.stay=true
    ·exact e
    ·simp only [e,if_false] at hc
     cases hc
   exact .fn c h1 h2 fun j a ha=>(h3 j a ha).staying (List.all_eq_true.1 hall a (List.mem_of_getElem? ha))
 | any h=>simp [outC,stC] at hc
theorem MW:∀ {cs:List AC},outCs noS cs=some cs→∀ c ∈ cs,outC noS c=some c
 | [],_,c,hc=>by simp at hc
 | x :: xs,h,c,hc=>by
  simp only [outCs] at h
  split at h
  ·rename_i y ys h1 h2
   simp only [Option.some.injEq,List.cons.injEq] at h
   obtain ⟨rfl,rfl⟩:=h
   rcases List.mem_cons.1 hc with rfl | hc
   ·exact h1
   ·exact MW h2 c hc
  ·cases h
mutual
theorem AT.out {σ:Sto} {S:AA} {ι:Az}:∀ {v:Value} {c:AV},AT σ S ι v c→outV noS c=some c→AT σ noS noH v c
 | v,.one c,h,hc=>by
  rw [outV,Option.map_eq_some_iff] at hc
  obtain ⟨a,h1,h2⟩:=hc
  cases h2
  cases h with | one h=>exact .one (h.out h1)
 | v,.agg cs,h,hc=>by
  rw [outV,Option.map_eq_some_iff] at hc
  obtain ⟨a,h1,h2⟩:=hc
  cases h2
  cases h with
  | agg h=>exact .agg (Ad.of_get h.len fun j x c hx hcj=>by
    obtain ⟨x',q1,q2⟩:=h.get hcj
    rw [hx] at q1
    cases q1
    exact q2.out (MW h1 c (List.mem_of_getElem? hcj)))
 | v,.tup vs,h,hc=>by
  rw [outV,Option.map_eq_some_iff] at hc
  obtain ⟨a,h1,h2⟩:=hc
  cases h2
  cases h with
  | tup c k1 k2 k3=>exact .tup c k1 k2 (AT.outs k3 h1)
 | v,.any,h,_=>.any
theorem AT.outs {σ:Sto} {S:AA} {ι:Az}:∀ {vs:List AV} {c:Nat→Value},(∀ j b,vs[j]?=some b→AT σ S ι (c j) b)→outVs noS vs=some vs→∀ j b,vs[j]?=some b→AT σ noS noH (c j) b
 | [],c,h,_,j,b,hb=>by simp at hb
 | x :: xs,c,h,hc,j,b,hb=>by
  rw [outVs] at hc
  split at hc
  ·rename_i y ys h1 h2
   simp only [Option.some.injEq,List.cons.injEq] at hc
   obtain ⟨rfl,rfl⟩:=hc
   cases j with
   | zero =>
    simp at hb
    subst hb
    exact AT.out (h 0 _ rfl) h1
   | succ j=>exact AT.outs (c:=fun j=>c (j + 1)) (fun j b hb=>h (j + 1) b (by simpa using hb)) h2 j b (by simpa using hb)
  ·cases hc
end
theorem AU.toS {P:Program} {f:FuncId} {xs:List AV} {S:AA} {r:AV} (h:AU P f xs r) (hx:outVs noS xs=some xs):As P f xs S r S:=by
 intro hclean σ w vs ι hglob hfit hown hvs
 have hvs':Ad (AT σ noS noH) vs xs:=Ad.of_get hvs.len fun j v x hv hxj=>by
  have:=AT.outs (c:=fun j=>(vs[j]?).getD undef) (σ:=σ) (S:=S) (ι:=ι) (vs:=xs) (fun j b hb=>by
   obtain ⟨v',h1,h2⟩:=hvs.get hb
   rw [h1]
   exact h2) hx j x hxj
  rw [hv] at this
  exact this
 refine (h σ w vs hglob hfit hvs').mono fun e w' he=>?_
 obtain ⟨v,σ',he1,he2,hf,hext,hb⟩:=he
 have hlt:∀ id b g,S id=some b→(ι id).g=some g→g < w.heap.size:=fun id b g h1 h2=>(hown.1 id b h1).gsome h2
 refine ⟨v,σ',ι,he1,hclean,Upd.refl _ _,⟨fun id b hid=>(hown.1 id b hid).mono hext.keep (Upd.refl _ _) (fun g hg=>hb.block g (hlt id b g hid hg)) (fun g hg p hp=>hext.old p (by have:=hlt id b g hid hg;omega)),hown.2⟩,
  O5 (s:=⟨fun _=>.any,S⟩) he2,hf,hext.keep,fun p hp _=>hext.old p hp,⟨hb.os,hb.tape,hb.output⟩,hb.size,fun g hg _=>hb.block g hg,fun id b g h1 h2=>.inr fun hn=>hn id b h1 h2⟩
theorem Rr {C:Ctx} {rs:List RV} {r:AV} {S':AA} {e:AX} {s:AS} (he:match e with | .normal=>True | .ret=>True | _=>False) (r0:AV) (h1:(AB s rs).map AK=some r0) (h2:outV s.S r0=some r) (hb:∀ i b,1000≤i→s.S i=some b→b.high=true) (h3:B6 s.S=S') (hc:Ax S'):Jt C rs r S' e s:=by
 refine ⟨he,s,⟨fun i=>(s.env i).low,B6 s.S⟩,r0,Ac.refl _ _,h1,fun σ ι a w R=>?_,h3,hc⟩
 exact ⟨σ,ι,R.low hb,fun v hv=>O5 (s:=⟨fun i=>(s.env i).low,B6 s.S⟩) (R.outV hv h2)⟩
theorem Va {C:Ctx} {rs:List RV} {r:AV} {S':AA} {e:AX} {s:AS} (he:match e with | .normal=>True | .ret=>True | _=>False) (h1:(AB s rs).map AK=some r) (hh:r.high=true) (hb:∀ i b,1000≤i→s.S i=some b→b.high=true) (h3:B6 s.S=S') (hc:Ax S'):Jt C rs r S' e s :=
 ⟨he,s,⟨fun i=>(s.env i).low,B6 s.S⟩,r,Ac.refl _ _,h1,fun σ ι a w R=>⟨σ,ι,R.low hb,fun v hv=>hv.low (fun i b hi hS=>by
  show B6 s.S i=some b
  unfold B6
  rw [if_neg (by omega)]
  exact hS) hh⟩,h3,hc⟩
theorem Av {C:Ctx} {rs:List RV} {r:AV} {e:AX} {s:AS} {S:AA} (r0:AV) (hS:Ax S) (he:match e with | .normal=>True | .ret=>True | _=>False)
  (h1:(AB s rs).map AK=some r0) (h2:outV s.S r0=some r) (h4:∀ i,1000≤i→s.S i=S i):Jt C rs r S e s :=
 Rr he r0 h1 h2 (fun i b hi hb=>(hS i b (by rw [← h4 i hi];exact hb)).2) (by
  funext i
  unfold B6
  split
  ·exact (AP hS (by omega)).symm
  ·exact h4 i (by omega)) hS
theorem AAf {C:Ctx} {rs:List RV} {e:AX} {s:AS} {ty:TypeId} {w n:Nat} {ys:List (List SV)} {mu:Bool} (he:match e with | .normal=>True | .ret=>True | _=>False) (id:Nat) (hid:id < 1000) (hb0:s.S id=some (Kv mu ty w ys)) (hlow:∀ i,1000≤i→s.S i=none)
  (h1:(AB s rs).map AK=some (.one (.row id n))):Jt C rs (.one (.row 1000 n)) (fun i=>if i=1000 then some (Kv mu ty w ys) else noS i) e s:=by
 have e1:(AV.one (.row id n)).ren (BZ id 1000)=.one (.row 1000 n):=by simp [AV.ren,AC.ren,BZ]
 rw [← e1]
 refine N3 he id 1000 _ hid (by decide) (hlow 1000 (by decide)) hb0 (by cases mu <;> rfl) (fun i b hi hb=>by rw [hlow i hi] at hb;cases hb) h1 (by rw [e1];rfl) ?_ ?_
 ·funext i
  unfold AG B6 noS
  by_cases h2:i=1000
  ·rw [if_pos h2,if_pos h2]
  ·rw [if_neg h2,if_neg h2]
   split
   ·rfl
   ·exact hlow i (by omega)
 ·intro i b hb
  have hb:(if i=1000 then some (Kv mu ty w ys) else noS i)=some b:=hb
  split at hb
  ·rename_i h2
   cases hb
   exact ⟨by omega,by cases mu <;> rfl⟩
  ·cases hb

theorem Um (c P Q:Prop) [Decidable c]:((c→P)∧(¬ c→Q))=if c then P else Q:=by
 by_cases h:c <;> simp [h]
theorem Xu {c A B:Prop} [Decidable c] (h:(c→A)∧(¬ c→B)):if c then A else B:=by
 by_cases hc:c
 ·rw [if_pos hc];exact h.1 hc
 ·rw [if_neg hc];exact h.2 hc
theorem YV (b:Bool) (P Q:Prop):((b=true→P)∧(b=false→Q))=if b=true then P else Q:=by
 cases b <;> simp
attribute [congr] QQ.congr KO.congr
mutual
def Ap:Tm→List SV
 | .mk n xs=>[.str n,.list (TX xs)]
def TX:List Tm→List (List SV)
 | []=>[]
 | t :: ts=>Ap t :: TX ts
end
theorem QE:∀ xs:List Tm,TX xs=xs.map Ap
 | []=>rfl
 | t :: ts=>by rw [TX,QE ts];rfl
theorem Af (t:Tm):Ap t=[.str t.name,.list (t.args.map Ap)]:=by
 cases t
 rw [Ap,QE]
 rfl
theorem Qz (t:Tm):(Ap t).length=2:=by rw [Af];rfl
class Yu {α:Type} (f:α→List SV) (n:outParam Nat):Prop where
 ok:∀ a,(f a).length=n
theorem AAj {α:Type} {f:α→List SV} {n:Nat} [h:Yu f n] {ts:List α}:∀ x ∈ ts.map f,x.length=n:=fun x hx=>by
 obtain ⟨a,_,rfl⟩:=List.mem_map.1 hx
 exact h.ok a
instance:Yu Ap 2:=⟨fun t=>by rw [Af];rfl⟩
theorem EP {ts:List Tm}:∀ x ∈ ts.map Ap,x.length=2:=by
 intro x hx
 obtain ⟨a,_,rfl⟩:=List.mem_map.1 hx
 exact Qz a
theorem Tm.args_mk (n:ByteArray) (xs:List Tm):(Tm.mk n xs).args=xs:=rfl
theorem Tm.name_mk (n:ByteArray) (xs:List Tm):(Tm.mk n xs).name=n:=rfl
abbrev AO (n:Int):AV:=.one (.st (.int .i64 n))
abbrev Aa (b:Bool):AV:=.one (.st (.bool b))
abbrev Bt (s:ByteArray):AV:=.one (.st (.str s))
abbrev aTm (t:Tm):AV:=.agg [.st (.str t.name),.st (.list (t.args.map Ap))]
abbrev Pm (n:Int):List SV:=[.int .i64 n]
abbrev EC (s:ByteArray):List SV:=[.str s]
abbrev UJ (p:List Int):List SV:=[.list (p.map Pm)]
abbrev Z4 (l:List (List Int)):AV:=.one (.st (.list (l.map UJ)))
abbrev Hx (l:List Int):AV:=.one (.st (.list (l.map Pm)))
abbrev CR (l:List ByteArray):AV:=.one (.st (.list (l.map EC)))
abbrev Gh (l:List Tm):AV:=.one (.st (.list (l.map Ap)))
theorem Ag {α:Type} {xs:List α} {k:Nat} (h:k < xs.length):∃ a,xs[k]?=some a:=⟨xs[k],List.getElem?_eq_getElem h⟩
theorem Dt (n:Int):inR .i64 n ↔ -9223372036854775808≤n∧n≤9223372036854775807:=by
 simp [inR,IntKind.min,IntKind.max,IntKind.signed,IntKind.bits]
theorem SA {l:List Int} (h:(SV.list (l.map Pm)).known):l.length≤maxLen∧∀ n ∈ l,inR .i64 n:=by
 obtain ⟨h1,h2⟩:=h
 refine ⟨by simpa using h1,fun n hn=>?_⟩
 have:=Ia.1 (G6.1 h2 (Pm n) (List.mem_map.2 ⟨n,hn,rfl⟩)) (.int .i64 n) (by simp)
 exact this
theorem Fr:maxLen=9223372036854775807:=by simp [maxLen]
theorem Fe {S:AA} {xs:List (List SV)} (h:(AV.one (.st (.list xs))).known S):xs.length≤9223372036854775807:=by
 simp only [AV.known,AC.known,SV.known] at h
 rw [Fr] at h
 exact h.1
theorem G_ {S:AA} {t:Tm} (h:(aTm t).known S):t.name.size≤9223372036854775807∧t.args.length≤9223372036854775807:=by
 have h1:t.name.size≤maxLen:=by
  have:=h (.st (.str t.name)) (by simp)
  simpa [AC.known,SV.known] using this
 have h2:t.args.length≤maxLen:=by
  have:=h (.st (.list (t.args.map Ap))) (by simp)
  simp only [AC.known,SV.known,List.length_map] at this
  exact this.1
 rw [Fr] at h1 h2
 exact ⟨h1,h2⟩

def Kd.isCall:Kd→Bool
 | .call _ _=>true
 | .callS _ _=>true
 | .callV _ _=>true
 | .callN _ _=>true
 | .callR _ _=>true
 | .callW _ _=>true
 | .callX _ _=>true
 | .callY _ _=>true
 | .buildFlat _=>false
 | .cutP _ _ _=>false
 | .indexP _ _ _=>false
 | .appP _ _ _ _ _=>false
 | .restP _ _ _=>false
 | .appS _ _ _=>false
 | .loadL _ _ _=>false
 | .indexL _ _ _=>false
 | .buildL _ _=>false
 | .fieldL _ _=>false
 | .lenL _ _=>false
 | .appF _ _ _ _ _ _=>false
 | .clearP _ _ _ _=>false
 | .copyP _ _=>false
 | .mov _=>false
 | .pick _ _ _=>false
 | .alloc _ _=>false
 | .box _ _=>false
 | .build _ _=>false
 | .buildSlice _ _ _ _=>false
 | .load _ _ _=>false
 | .store _ _ _=>false
 | .fieldAddr _ _=>false
 | .field _ _ _ _=>false
 | .indexAddr _ _ _=>false
 | .indexArr _ _ _ _=>false
 | .indexStr _ _=>false
 | .bin _ _ _=>false
 | .eqB _ _ _=>false
 | .eqN _ _=>false
 | .eqE _ _=>false
 | .eqP _ _=>false
 | .bits _ _ _=>false
 | .never=>false
 | .pan _=>false
 | .iface _ _=>false
 | .strOf _ _=>false
 | .un _ _=>false
 | .sliceS _ _ _=>false
 | .sliceL _ _ _ _=>false
 | .sliceM _ _ _ _=>false
 | .extract _ _=>false
 | .len _ _=>false
 | .append _ _ _ _ _ _=>false
 | .conv _ _=>false
 | .nilCheck _=>false
 | .mm _ _ _=>false
 | .makeSlice _ _ _ _ _ _=>false
 | .makeFunc _ _=>false
 | .makeMap _=>false
 | .lookup _ _ _ _ _=>false
 | .mapSet _ _ _ _=>false
 | .mapEntry _ _ _ _=>false
 | .entrySet _ _ _=>false
 | .rangeM _=>false
 | .next _=>false
 | .entry _=>false
 | .lenM _=>false
 | .buildArr _=>false
 | .makeMemo=>false
 | .memoGet _ _ _ _=>false
 | .memoSet _ _ _=>false
inductive Zh (P:Program) (f:FuncId) (vs:List AV) (d:Option Nat) (l:List Ins) (s:AS) (K:AS→Prop):Prop
 | mk (r:AV) (h1:AU P f vs r) (h2:Run P l (s.put d r) K)
inductive PE (P:Program) (f:FuncId) (vs:List AV) (S:AA) (ks:List Nat) (d:Option Nat) (l:List Ins) (env:Nat→AV) (K:AS→Prop):Prop
 | mk (r:AV) (S':AA) (h1:As P f vs (upS S) r S') (h2:(∀ k ∈ ks,dnS S' k=S k)∧Run P l ((⟨env,dnS S'⟩:AS).put d (r.ren dn1)) K)
inductive Xw (P:Program) (f:FuncId) (vs:List AV) (ks:List Nat) (d:Option Nat) (l:List Ins) (s:AS) (K:AS→Prop):Prop
 | mk (mu:Bool) (e:TypeId) (w:Nat) (ys:List (List SV)) (h1:GA P f vs e w ys mu) (h2:s.S (d.getD 0)=none∧(∀ k ∈ ks,(s.set (d.getD 0) (Kv mu e w ys)).S k=s.S k)∧Run P l ((s.set (d.getD 0) (Kv mu e w ys)).put d (.one (.row (d.getD 0) ys.length))) K)
inductive Zs (P:Program) (f:FuncId) (vs:List AV) (d:Option Nat) (l:List Ins) (s:AS) (K:AS→Prop):Prop
 | mk (r:AV) (rows:List (Nat × AL)) (h0:∀ q ∈ rows,s.S q.1=some q.2) (h1:∀ T:AA,(∀ q ∈ rows,T q.1=some q.2)→As P f vs (upS T) r (upS T)) (h2:Run P l (s.put d (r.ren dn1)) K)
inductive YN (P:Program) (f:FuncId) (vs:List AV) (ks:List Nat) (d:Option Nat) (l:List Ins) (s:AS) (K:AS→Prop):Prop
 | mk (r:AV) (rows:List (Nat × AL × AL)) (h0:Td s.S rows) (h1:∀ T:AA,Td T rows→As P f vs (upS T) r (upS (GO T rows))) (h2:(∀ k ∈ ks,GO s.S rows k=s.S k)∧Run P l ((⟨s.env,GO s.S rows⟩:AS).put d (r.ren dn1)) K)
inductive L_ (P:Program) (S:AA) (hs:Bool) (G:AA→(AV→AA→Prop)→Prop) (d:Option Nat) (l:List Ins) (env:Nat→AV) (K:AS→Prop):Prop
 | mk (T:AA) (Post:AV→AA→Prop) (h1:Ax T) (h2:∀ i,1000≤i→S i=T i) (h3:hs=true) (h4:G T Post) (h5:∀ r S',Ax S'→Post r S'→Run P l ((⟨env,Ek S S'⟩:AS).put d r) K)
theorem DX {S:AA} {i:Nat} {b:AL} (h:S i=some b):∀ q ∈ [(i,b)],S q.1=some q.2:=fun q hq=>by rw [List.mem_singleton.1 hq];exact h
def Kd.goC (P:Program) (d:Option Nat) (s:AS) (t:Tag) (l:List Ins) (K:AS→Prop):Kd→Prop
 | .call f xs=>match t with
  | .no=>match outVs s.S (s.evs xs) with
   | some vs=>Zh P f vs d l s K
   | none=>False
  | _=>False
 | .callR f xs=>match t with
  | .no=>Zs P f (AV.rens up1 (s.evs xs)) d l s K
  | _=>False
 | .callW f xs=>match t with
  | .no=>YN P f (AV.rens up1 (s.evs xs)) [] d l s K
  | .keeps ks=>YN P f (AV.rens up1 (s.evs xs)) ks d l s K
  | .onb _=>False
 | .callX f xs=>match t with
  | .no=>L_ P s.S (AV.highs ((s.evs xs).map (J4 s.S))) (HX P f ((s.evs xs).map (J4 s.S))) d l s.env K
  | _=>False
 | .callY f xs=>match t with
  | .no=>L_ P s.S ((s.ev f).high && AV.highs ((s.evs xs).map (J4 s.S))) (JT P (s.ev f) ((s.evs xs).map (J4 s.S))) d l s.env K
  | _=>False
 | .callN f xs=>match t with
  | .no=>match outVs s.S (s.evs xs) with
   | some vs=>Xw P f vs [] d l s K
   | none=>False
  | .keeps ks=>match outVs s.S (s.evs xs) with
   | some vs=>Xw P f vs ks d l s K
   | none=>False
  | .onb _=>False
 | .callS f xs=>match t with
  | .no=>PE P f (AV.rens up1 (s.evs xs)) s.S [] d l s.env K
  | .keeps ks=>PE P f (AV.rens up1 (s.evs xs)) s.S ks d l s.env K
  | .onb _=>False
 | .callV f xs=>match (s.ev f).fnOf with
  | some (g,caps)=>CC P g=true∧match t with
   | .no=>PE P g (AV.rens up1 (s.evs xs ++ caps.map .one)) s.S [] d l s.env K
   | .keeps ks=>PE P g (AV.rens up1 (s.evs xs ++ caps.map .one)) s.S ks d l s.env K
   | .onb _=>False
  | _=>False
 | _=>False
def IV (P:Program):List Ins→AS→(AS→Prop)→Prop
 | [],s,K=>K s
 | i :: l,s,K=>match i.kd.isCall with
  | false=>match i.guard with
   | none=>i.kd.goT P (i.dst.getD 0) s i.tag fun v s'=>IV P l (s'.put i.dst v) K
   | some (g,want)=>match s.env g with
    | .one (.st (.bool b))=>(b=want→i.kd.goT P (i.dst.getD 0) s i.tag fun v s'=>IV P l (s'.put i.dst v) K)∧(¬ b=want→IV P l (s.put i.dst (.tup [])) K)
    | .tup []=>IV P l (s.put i.dst (.tup [])) K
    | _=>False
  | true=>match i.guard with
   | none=>i.kd.goC P i.dst s i.tag l K
   | some (g,want)=>match s.env g with
    | .one (.st (.bool b))=>(b=want→i.kd.goC P i.dst s i.tag l K)∧(¬ b=want→IV P l (s.put i.dst (.tup [])) K)
    | .tup []=>IV P l (s.put i.dst (.tup [])) K
    | _=>False
section
variable {P:Program}
theorem TT {kd:Kd} {d:Option Nat} {s:AS} {t:Tag} {l:List Ins} {K:AS→Prop} (h:kd.goC P d s t l K):kd.goT P (d.getD 0) s t fun v s'=>Run P l (s'.put d v) K:=by
 cases kd <;> simp only [Kd.goC] at h
 case call f xs =>
  cases t <;> simp only at h
  split at h
  ·rename_i vs e
   obtain ⟨r,h1,h2⟩:=h
   simp only [Kd.goT,Kd.go,e]
   exact ⟨r,h1,trivial,h2⟩
  ·exact h.elim
 case callN f xs =>
  cases t <;> simp only at h
  ·split at h
   ·rename_i vs e
    obtain ⟨mu,ty,w,ys,h1,h2,_,h3⟩:=h
    simp only [Kd.goT,Kd.go,e]
    exact ⟨mu,ty,w,ys,h1,h2,trivial,h3⟩
   ·exact h.elim
  ·split at h
   ·rename_i vs e
    obtain ⟨mu,ty,w,ys,h1,h2,h4,h3⟩:=h
    simp only [Kd.goT,Kd.go,e]
    exact ⟨mu,ty,w,ys,h1,h2,h4,h3⟩
   ·exact h.elim
 case callW f xs =>
  cases t <;> simp only at h
  ·obtain ⟨r,rows,h0,h1,_,h2⟩:=h
   simp only [Kd.goT,Kd.go]
   exact ⟨r,rows,h0,h1,trivial,h2⟩
  ·obtain ⟨r,rows,h0,h1,hk,h2⟩:=h
   simp only [Kd.goT,Kd.go]
   exact ⟨r,rows,h0,h1,hk,h2⟩
 case callX f xs =>
  cases t <;> simp only at h
  obtain ⟨T,Post,h1,h2,h3,h4,h5⟩:=h
  exact ⟨T,Post,h1,h2,h3,h4,fun r S' k1 k2=>⟨trivial,h5 r S' k1 k2⟩⟩
 case callY f xs =>
  cases t <;> simp only at h
  obtain ⟨T,Post,h1,h2,h3,h4,h5⟩:=h
  exact ⟨T,Post,h1,h2,h3,h4,fun r S' k1 k2=>⟨trivial,h5 r S' k1 k2⟩⟩
 case callR f xs =>
  cases t <;> simp only at h
  obtain ⟨r,rows,h0,h1,h2⟩:=h
  simp only [Kd.goT,Kd.go]
  exact ⟨r,rows,h0,h1,trivial,h2⟩
 case callS f xs =>
  cases t <;> simp only at h
  ·obtain ⟨r,S',h1,h2,h3⟩:=h
   exact ⟨r,S',h1,trivial,h3⟩
  ·obtain ⟨r,S',h1,h2,h3⟩:=h
   exact ⟨r,S',h1,h2,h3⟩
 case callV f xs =>
  split at h
  ·rename_i g caps e
   obtain ⟨hp,h⟩:=h
   cases t <;> simp only at h
   ·obtain ⟨r,S',h1,h2,h3⟩:=h
    simp only [Kd.goT,Kd.go,e]
    exact ⟨hp,r,S',h1,trivial,h3⟩
   ·obtain ⟨r,S',h1,h2,h3⟩:=h
    simp only [Kd.goT,Kd.go,e]
    exact ⟨hp,r,S',h1,h2,h3⟩
  ·exact h.elim
theorem Ci:∀ {l:List Ins} {s:AS} {K:AS→Prop},IV P l s K→Run P l s K
 | [],s,K,h=>h
 | i :: l,s,K,h=>by
  unfold IV at h
  unfold Run
  split at h
  ·split at h
   ·rename_i e
    simp only [e]
    exact FG h fun v s' _ h'=>Ci h'
   ·rename_i g want e
    simp only [e]
    split at h
    ·rename_i b e2
     simp only [e2]
     exact ⟨fun hb=>FG (h.1 hb) fun v s' _ h'=>Ci h',fun hb=>Ci (h.2 hb)⟩
    ·rename_i e2
     simp only [e2]
     exact Ci h
    ·exact h.elim
  ·split at h
   ·rename_i e
    simp only [e]
    exact TT h
   ·rename_i g want e
    simp only [e]
    split at h
    ·rename_i b e2
     simp only [e2]
     exact ⟨fun hb=>TT (h.1 hb),fun hb=>Ci (h.2 hb)⟩
    ·rename_i e2
     simp only [e2]
     exact Ci h
    ·exact h.elim
theorem Jk {l:List Ins} {s:AS} {K:AS→Prop} {A:Prop} (h:A∧IV P l s K):A∧Run P l s K:=⟨h.1,Ci h.2⟩
theorem IWP.ops2 {C:Ctx} {mu:List Nat} {Q:AX→AS→Prop} {s:AS} {l:List Ins} (h:∀ K:AS→Prop,(∀ s,Q .normal s→K s)→IV P l s K):IWP P C mu (.ops l) Q s:=IWP.opsK fun K hK=>Ci (h K hK)
end
attribute [go_sem] Zg XE XL OV Ins.i Ins.m Ins.L Ins.l Ins.f Ins.s Opd.n Kv GO IV Kd.isCall Kd.goC Kd.goT Tag.ok Kd.ptrOpd Gw List.forall_mem_cons List.not_mem_nil Kd.go AS.ev AS.evs AS.put AS.set AG AV.cells JL D1 G9 stP WY stC stCs outC outCs outV outVs Kk C2 Cl C_ YM E9 V3 Up optI PO splice AL.len AS.start AS.startS noS List.getElem?_cons_zero List.getElem?_cons_succ List.getElem?_nil List.getElem?_map Option.isSome_none Option.isSome_some Option.map_some Option.map_none Option.getD_some Option.getD_none List.length_map List.length_cons List.length_nil List.length_append List.map_cons List.map_nil List.take_succ_cons List.take_zero List.take_nil List.drop_succ_cons List.drop_zero List.drop_nil List.nil_append List.cons_append List.append_nil Nat.zero_add Nat.add_zero Nat.le_refl Nat.zero_le if_true if_false Bool.false_eq_true true_and and_true Option.some.injEq Int.toNat_natCast Int.natCast_nonneg Int.ofNat_eq_natCast ite_self decide_true decide_false not_true_eq_false not_false_eq_true true_implies false_implies implies_true Bool.true_eq_false eq_self Bool.not_true Bool.not_false beq_self_eq_true Tm.args_mk Tm.name_mk AV.rens AV.ren AC.ren AC.rens AL.ren A0 Lk PH Pv
theorem Yi (T:AA) (i:Nat) (b:AL):upS (AG T i (some b))=AG (upS T) (up1 i) (some (b.ren up1)):=by
 funext k
 show (if k < 1000 then none else (AG T i (some b) (k - 1000)).map (AL.ren up1))=_
 by_cases e:k=up1 i
 ·subst e
  rw [AE,if_neg (by have:=At i;omega),show up1 i - 1000=i from Lk i,AE]
  rfl
 ·rw [AH _ e]
  by_cases hk:k < 1000
  ·rw [if_pos hk]
   show none=if k < 1000 then none else _
   rw [if_pos hk]
  ·rw [if_neg hk,AH _ (fun h=>e (by rw [← h];exact (L9 (by omega)).symm))]
   show _=if k < 1000 then none else _
   rw [if_neg hk]
abbrev Wa:=@IWP.seq
abbrev Wb:=@Gp
abbrev Wc:=@IWP.block
abbrev Wd:=@IWP.skip
abbrev We:=@IWP.exit
abbrev Wg:=@Nm
abbrev Wh:=@QD
abbrev Wi:=@G5
abbrev Wj:=@JU
abbrev Wk:=@JI
abbrev Wl:=@Kt
abbrev Wm:=@Ox
abbrev Wn:=@RE
abbrev Wo:=@IWP.ops2
abbrev Wp:=@IWP.cond
abbrev Wq:=@Ci
abbrev Wr:=@Jk
abbrev iC:=@Xu
abbrev Cg:=@Zh.mk
abbrev dT:=@decide_eq_true_eq
abbrev dF:=@decide_eq_false_iff_not
abbrev nL:=@Int.ofNat_lt
abbrev eT:=@Af
abbrev iR:=@Dt
attribute [go_sem ↓] Um YV
theorem Ai {a b:Prop} (k:b) (h:a:=by first | omega | exact AAj | (simp [Fr] <;> omega)):a∧b:=⟨h,k⟩
theorem Z0 {id id':Nat} {Q:AX→AS→Prop} {s:AS} (h:Q (.exit id') s) (hne:id' ≠ id:=by decide):AX.inBlock id Q (.exit id') s:=JI hne h
theorem fN {α:Type} (p:α→Prop):∀ x ∈ ([]:List α),p x:=List.forall_mem_nil p
class JZ (goal:Prop) (prev:outParam Prop):Prop where
 imp:prev→goal
theorem W {goal prev:Prop} [s:JZ goal prev] (h:prev):goal:=s.imp h
section
variable {P:Program} {C:Ctx} {mu:List Nat} {x y:IR} {Q:AX→AS→Prop} {s:AS} {id:Nat} {K:AS→Prop}
instance:JZ (IWP P C mu (.seq x y) Q s) (IWP P C mu x (RX P C mu y Q) s):=⟨IWP.seq⟩
instance:JZ (RX P C mu y Q .normal s) (IWP P C mu y Q s):=⟨Gp⟩
instance:JZ (IWP P C mu (.block id x) Q s) (IWP P C mu x (AX.inBlock id Q) s):=⟨IWP.block⟩
instance:JZ (IWP P C mu .skip Q s) (Q .normal s):=⟨IWP.skip⟩
instance:JZ (IWP P C mu (.exit id) Q s) (Q (.exit id) s):=⟨IWP.exit⟩
instance:JZ (IWP P C mu .ret Q s) (Q .ret s):=⟨IWP.ret⟩
instance:JZ (RX P C mu y Q (.exit id) s) (Q (.exit id) s):=⟨Nm⟩
instance:JZ (RX P C mu y Q .ret s) (Q .ret s):=⟨QD⟩
instance:JZ (AX.inBlock id Q .normal s) (Q .normal s):=⟨G5⟩
instance:JZ (AX.inBlock id Q (.exit id) s) (Q .normal s):=⟨JU⟩
instance:JZ (AX.inBlock id Q .ret s) (Q .ret s):=⟨Kt⟩
instance:JZ (AX.then K Q (.exit id) s) (Q (.exit id) s):=⟨Ox⟩
instance:JZ (AX.then K Q .ret s) (Q .ret s):=⟨RE⟩
class WJ (goal:Prop) (prev:outParam Prop):Prop where
 imp:prev→goal
class T6 (goal:Prop) (prev:outParam Prop):Prop where
 imp:prev→goal
theorem U {goal prev:Prop} [s:WJ goal prev] (h:prev):goal:=s.imp h
theorem V {goal prev:Prop} [s:T6 goal prev] (h:prev):goal:=s.imp h
instance {l:List Ins}:WJ (Run P l s K) (IV P l s K):=⟨Ci⟩
instance {l:List Ins} {A:Prop}:WJ (A∧Run P l s K) (A∧IV P l s K):=⟨Jk⟩
instance {l:List Ins}:T6 (Run P l s K) (IV P l s K):=⟨Ci⟩
instance {l:List Ins} {A:Prop}:T6 (A∧Run P l s K) (A∧IV P l s K):=⟨Jk⟩
instance {c0:Opd}:T6 (IWP P C mu (.cond c0 x y) Q s) (match s.ev c0 with | .one (.st (.bool b))=>(b=true→IWP P C mu x Q s)∧(b=false→IWP P C mu y Q s) | .one .ubool=>IWP P C mu x Q s∧IWP P C mu y Q s | _=>False):=⟨IWP.cond⟩
end
abbrev Y:=@And.intro
theorem IWP.fresh {P:Program} {C:Ctx} {mu:List Nat} {x:IR} {Q:AX→AS→Prop} {s:AS} (h1000:∀ i,1000≤i→s.S i=none) (h:∀ env':Nat→AV,(∀ i v,s.env i=.one (.st v)→env' i=.one (.st v))→IWP P C mu x Q ⟨env',noS⟩):IWP P C mu x Q s:=by
 refine IWP.ghost (Ac.low (s:=s) fun i b hi hb=>by rw [h1000 i hi] at hb;cases hb) ?_
 have e:B6 s.S=noS:=by
  funext i
  show (if i < 1000 then none else s.S i)=none
  split
  ·rfl
  ·exact h1000 i (by omega)
 rw [e]
 exact h _ fun i v hv=>by rw [hv];rfl
theorem IWP.mid {P:Program} {C:Ctx} {mu:List Nat} {x y:IR} {Q:AX→AS→Prop} {s:AS} (M:AS→Prop) (h1:IWP P C mu x (fun e s=>e=.normal∧M s) s) (h2:∀ s,M s→IWP P C mu y Q s):IWP P C mu (x.seq y) Q s :=
 IWP.seq (h1.mono fun e s ⟨he,hm⟩=>by subst he;exact Gp (h2 s hm))
theorem AAh {R G:Prop} (f:R→G) (h:R):G:=f h



theorem Ni:∀ l:List UInt8,Op.bytesLess l l=false
 | []=>by simp [Op.bytesLess]
 | x :: xs=>by simp [Op.bytesLess,Ni xs]
theorem Rw:∀ (a b c:List UInt8),Op.bytesLess a b=true→Op.bytesLess b c=true→Op.bytesLess a c=true
 | _,[],_,h,_=>by simp [Op.bytesLess] at h
 | _,_ :: _,[],_,k=>by simp [Op.bytesLess] at k
 | [],_ :: _,_ :: _,_,_=>by simp [Op.bytesLess]
 | x :: xs,y :: ys,z :: zs,h,k=>by
  simp only [Op.bytesLess,Bool.or_eq_true,Bool.and_eq_true,decide_eq_true_eq,beq_iff_eq] at h k ⊢
  rcases h with h | ⟨rfl,h⟩
  ·rcases k with k | ⟨rfl,k⟩
   ·exact .inl (UInt8.lt_trans h k)
   ·exact .inl h
  ·rcases k with k | ⟨rfl,k⟩
   ·exact .inl k
   ·exact .inr ⟨rfl,Rw xs ys zs h k⟩
theorem RT:∀ (a b:List UInt8),Op.bytesLess a b=true ∨ a=b ∨ Op.bytesLess b a=true
 | [],[]=>.inr (.inl rfl)
 | [],_ :: _=>.inl (by simp [Op.bytesLess])
 | _ :: _,[]=>.inr (.inr (by simp [Op.bytesLess]))
 | x :: xs,y :: ys=>by
  simp only [Op.bytesLess,Bool.or_eq_true,Bool.and_eq_true,decide_eq_true_eq,beq_iff_eq,List.cons.injEq]
  rcases Nat.lt_trichotomy x.toNat y.toNat with h | h | h
  ·exact .inl (.inl h)
  ·have e:x=y:=UInt8.toNat_inj.1 h
   subst e
   rcases RT xs ys with h | h | h
   ·exact .inl (.inr ⟨rfl,h⟩)
   ·exact .inr (.inl ⟨rfl,h⟩)
   ·exact .inr (.inr (.inr ⟨rfl,h⟩))
  ·exact .inr (.inr (.inl h))
theorem XZ {a b:ByteArray} (h:a.toList=b.toList):a=b:=by
 rw [ByteArray.toList_eq,ByteArray.toList_eq] at h
 cases a;cases b
 simp only at h
 congr 1
 exact Array.toList_inj.1 h
theorem Br (a:ByteArray):sLt a a=false:=Ni _
theorem Dh {a b c:ByteArray} (h:sLt a b=true) (k:sLt b c=true):sLt a c=true:=Rw _ _ _ h k
theorem Fg (a b:ByteArray):sLt a b=true ∨ a=b ∨ sLt b a=true:=by
 rcases RT a.toList b.toList with h | h | h
 ·exact .inl h
 ·exact .inr (.inl (XZ h))
 ·exact .inr (.inr h)
theorem OL {a b:ByteArray} (h:sLt a b=true):sLt b a=false:=by
 cases k:sLt b a with
 | false=>rfl
 | true=>have:=Dh h k;rw [Br] at this;cases this
def DG (a b:ByteArray):Int:=if sLt a b=true then -1 else if a=b then 0 else 1
abbrev Bd:=ByteArray × Tm
def C3 (b:Bd):List SV:=[.str b.1,.str b.2.name,.list (b.2.args.map Ap)]
abbrev Uk (l:List Bd):AV:=.one (.st (.list (l.map C3)))
abbrev aBd (b:Bd):AV:=.agg [.st (.str b.1),.st (.str b.2.name),.st (.list (b.2.args.map Ap))]
instance:Yu C3 3:=⟨fun _=>rfl⟩
theorem V1 {ts:List Bd}:∀ x ∈ ts.map C3,x.length=3:=by
 intro x hx
 obtain ⟨a,_,rfl⟩:=List.mem_map.1 hx
 rfl
theorem Bi {α:Type} {xs:List α} {k:Nat} {a:α} (h:xs[k]?=some a):xs.drop k=a :: xs.drop (k + 1):=by
 have hk:=CW h
 rw [List.getElem?_eq_getElem hk] at h
 rw [List.drop_eq_getElem_cons hk]
 simp at h
 rw [h]
def BH (l:List Bd):Prop:=l.Pairwise fun a b=>sLt a.1 b.1=true
def lookup (l:List Bd) (n:ByteArray):Option Tm:=(l.find? fun b=>decide (b.1=n)).map (·.2)
theorem Ch {l:List Bd} {n:ByteArray} (h:∀ b ∈ l,b.1 ≠ n):lookup l n=none:=by
 unfold lookup
 rw [List.find?_eq_none.2 (fun b hb=>by simpa using h b hb)]
 rfl
theorem RK {l:List Bd} {n:ByteArray} {k:Nat} {b:Bd} (hk:l[k]?=some b) (hb:b.1=n) (h:∀ c ∈ l.take k,c.1 ≠ n):lookup l n=some b.2:=by
 unfold lookup
 rw [← List.take_append_drop k l,List.find?_append,List.find?_eq_none.2 (fun c hc=>by simpa using h c hc),Bi hk]
 simp [hb]
theorem Cm {l:List Bd} {n:ByteArray} {x:Tm} (h:lookup l n=some x):∃ b ∈ l,b.1=n∧b.2=x:=by
 unfold lookup at h
 rw [Option.map_eq_some_iff] at h
 obtain ⟨b,h1,h2⟩:=h
 exact ⟨b,List.mem_of_find?_eq_some h1,by simpa using List.find?_some h1,h2⟩
theorem RF {l:List Bd} (h:BH l) {i j:Nat} {a b:Bd} (hi:l[i]?=some a) (hj:l[j]?=some b) (hij:i < j):sLt a.1 b.1=true:=by
 have h1:=List.pairwise_iff_getElem.1 h
 obtain ⟨hi1,hi2⟩:=List.getElem?_eq_some_iff.1 hi
 obtain ⟨hj1,hj2⟩:=List.getElem?_eq_some_iff.1 hj
 have:=h1 i j hi1 hj1 hij
 rw [hi2,hj2] at this
 exact this
mutual
def Tm.on (s:List Bd):Tm→Tm
 | .mk n xs=>match (if xs.isEmpty then lookup s n else none) with
  | some x=>x
  | none=>.mk n (Tm.onL s xs)
def Tm.onL (s:List Bd):List Tm→List Tm
 | []=>[]
 | t :: ts=>t.on s :: Tm.onL s ts
end
theorem Tm.onL_eq (s:List Bd):∀ ts:List Tm,Tm.onL s ts=ts.map (Tm.on s)
 | []=>rfl
 | t :: ts=>by rw [Tm.onL,Tm.onL_eq s ts];rfl
theorem Tm.on_leaf {s:List Bd} {t x:Tm} (h:lookup s t.name=some x) (h0:t.args=[]):t.on s=x:=by
 cases t with
 | mk n xs =>
  simp only [Tm.name_mk,Tm.args_mk] at h h0
  subst h0
  simp [Tm.on,h]
theorem Tm.on_knot {s:List Bd} {t:Tm} (h:lookup s t.name=none ∨ t.args ≠ []):t.on s=.mk t.name (t.args.map (Tm.on s)):=by
 cases t with
 | mk n xs =>
  simp only [Tm.name_mk,Tm.args_mk] at h ⊢
  rw [← Tm.onL_eq]
  rcases h with h | h
  ·simp [Tm.on,h]
  ·cases xs with
   | nil=>exact absurd rfl h
   | cons y ys=>simp [Tm.on]
theorem Tm.chk_args {t:Tm} (h:t.chk=0):(AJ t.name=true→t.args=[])∧∀ a ∈ t.args,a.chk=0:=by
 have hc:=Tm.chk_eq t
 rw [h] at hc
 by_cases h1:Bl t=0
 ·rw [if_pos h1] at hc
  have key:∀ {xs:List Tm},Tm.chkL xs=0→∀ a ∈ xs,a.chk=0:=by
   intro xs
   induction xs with
   | nil=>simp
   | cons x xs ih =>
    intro hx a ha
    simp only [Tm.chkL] at hx
    split at hx
    ·rename_i h2
     rcases List.mem_cons.1 ha with rfl | ha
     ·exact h2
     ·exact ih hx a ha
    ·rename_i h2
     exact absurd hx h2
  refine ⟨fun hv=>?_,key hc.symm⟩
  unfold Bl at h1
  split at h1
  ·split at h1
   ·cases h1
   ·rename_i h2
    simp only [hv,true_and,Nat.not_lt,Nat.le_zero] at h2
    exact List.eq_nil_of_length_eq_zero h2
  ·cases h1
 ·rw [if_neg h1] at hc
  exact absurd hc.symm h1
theorem Tm.may_chk {t:Tm} (h:t.may=0):t.chk=0∧t.size≤200:=by
 unfold Tm.may at h
 split at h
 ·cases h
 ·exact ⟨h,by omega⟩

def Ph (b:Bd):List Bd→List Bd
 | []=>[b]
 | c :: l=>if sLt b.1 c.1=true then b :: c :: l else c :: Ph b l
def BS (l:List Bd):List Bd:=l.foldl (fun acc b=>Ph b acc) []
def Bc (l:List Bd):Prop:=(l.map (·.1)).Nodup
theorem HW (b:Bd):∀ l:List Bd,(Ph b l).Perm (b :: l)
 | []=>List.Perm.refl _
 | c :: l=>by
  unfold Ph
  split
  ·exact List.Perm.refl _
  ·exact ((HW b l).cons c).trans (List.Perm.swap b c l)
theorem JH {b:Bd}:∀ {l:List Bd},BH l→(∀ c ∈ l,c.1 ≠ b.1)→BH (Ph b l)
 | [],_,_=>List.pairwise_cons.2 ⟨by simp,List.Pairwise.nil⟩
 | c :: l,ho,hn=>by
  obtain ⟨o1,o2⟩:=List.pairwise_cons.1 ho
  unfold Ph
  split
  ·rename_i h
   exact List.pairwise_cons.2 ⟨fun x hx=>by
    rcases List.mem_cons.1 hx with rfl | hx
    ·exact h
    ·exact Dh h (o1 x hx),ho⟩
  ·rename_i h
   refine List.pairwise_cons.2 ⟨fun x hx=>?_,JH o2 fun x hx=>hn x (by simp [hx])⟩
   rcases List.mem_cons.1 ((HW b l).mem_iff.1 hx) with rfl | hx
   ·rcases Fg c.1 x.1 with k | k | k
    ·exact k
    ·exact absurd k (hn c (by simp))
    ·exact absurd k h
   ·exact o1 x hx
theorem Gx:∀ (l acc:List Bd),(l.foldl (fun acc b=>Ph b acc) acc).Perm (l ++ acc)
 | [],acc=>List.Perm.refl _
 | b :: l,acc=>by
  rw [List.foldl_cons]
  refine (Gx l _).trans ?_
  refine ((HW b acc).append_left l).trans ?_
  exact List.perm_middle
theorem CL (l:List Bd):(BS l).Perm l:=by
 have:=Gx l []
 rw [List.append_nil] at this
 exact this
theorem Ew:∀ (l acc:List Bd),BH acc→Bc (acc ++ l)→BH (l.foldl (fun acc b=>Ph b acc) acc)
 | [],acc,ho,_=>ho
 | b :: l,acc,ho,hn=>by
  rw [List.foldl_cons]
  have hp:(acc ++ b :: l).Perm (Ph b acc ++ l):=(List.perm_middle).trans (by rw [← List.cons_append];exact ((HW b acc).symm.append_right l))
  refine Ew l _ (JH ho fun c hc e=>?_) ((hp.map _).nodup_iff.1 hn)
  unfold Bc at hn
  rw [List.map_append,List.nodup_append] at hn
  exact hn.2.2 _ (List.mem_map.2 ⟨c,hc,rfl⟩) _ (by simp) e
theorem Bo {l:List Bd} (hn:Bc l):BH (BS l):=Ew l [] List.Pairwise.nil (by simpa using hn)
theorem C4 {l:List Bd} (ho:BH l):Bc l:=by
 unfold Bc
 rw [List.nodup_iff_pairwise_ne,List.pairwise_map]
 exact ho.imp fun {a b} h e=>by rw [e,Br] at h;cases h
theorem El:∀ {l m:List Bd},BH l→BH m→l.Perm m→l=m
 | [],m,_,_,h=>(List.nil_perm.1 h).symm
 | a :: l,[],_,_,h=>absurd h.length_eq (by simp)
 | a :: l,c :: m,hl,hm,h=>by
  obtain ⟨l1,l2⟩:=List.pairwise_cons.1 hl
  obtain ⟨m1,m2⟩:=List.pairwise_cons.1 hm
  have e:a=c:=by
   rcases List.mem_cons.1 (h.mem_iff.1 (List.mem_cons_self)) with e | e
   ·exact e
   ·rcases List.mem_cons.1 (h.mem_iff.2 (List.mem_cons_self)) with e2 | e2
    ·exact e2.symm
    ·have:=Dh (m1 a e) (l1 c e2)
     rw [Br] at this
     cases this
  subst e
  rw [El l2 m2 (List.Perm.cons_inv h)]
theorem BT {l:List Bd} {b:Bd}:b ∈ BS l ↔ b ∈ l:=(CL l).mem_iff
theorem BY (l:List Bd):(BS l).length=l.length:=(CL l).length_eq
theorem Dk {l m:List Bd} (h:l.Perm m) (hn:Bc l):Bc m:=((h.map _).nodup_iff).1 hn

def Tz (r:List Bd) (l:List Bd):List Bd:=l.map fun b=>(b.1,b.2.on r)
def TW (s:List Bd) (l:List Bd):List Bd:=l.filter fun b=>!(lookup s b.1).isSome
def KG (s r:List Bd):List Bd:=Tz r s ++ TW s r

theorem Em (y:ByteArray):lookup [] y=none:=rfl
theorem A5 (b:Bd) (l:List Bd) (y:ByteArray):lookup (b :: l) y=if b.1=y then some b.2 else lookup l y:=by
 unfold lookup
 by_cases h:b.1=y
 ·rw [List.find?_cons_of_pos (by simpa using h),if_pos h];rfl
 ·rw [List.find?_cons_of_neg (by simpa using h),if_neg h]
theorem IN {l:List Bd} (hn:Bc l) {y:ByteArray} {x:Tm}:lookup l y=some x ↔ (y,x) ∈ l:=by
 induction l with
 | nil=>simp [Em]
 | cons b l ih =>
  obtain ⟨n1,n2⟩:=List.nodup_cons.1 (show ((b :: l).map fun c:Bd=>c.1).Nodup from hn)
  rw [A5,List.mem_cons]
  by_cases h:b.1=y
  ·rw [if_pos h]
   constructor
   ·intro e
    cases e
    exact .inl (by rw [← h])
   ·rintro (e | e)
    ·rw [← e]
    ·exact absurd (List.mem_map.2 ⟨(y,x),e,rfl⟩) (by subst h;exact n1)
  ·rw [if_neg h,ih n2]
   constructor
   ·exact .inr
   ·rintro (e | e)
    ·exact absurd (by rw [← e]) h
    ·exact e
theorem JR (r:List Bd) (y:ByteArray):∀ l:List Bd,lookup (Tz r l) y=(lookup l y).map (Tm.on r)
 | []=>rfl
 | b :: l=>by
  have e:Tz r (b :: l)=(b.1,b.2.on r) :: Tz r l:=rfl
  rw [e,A5,A5,JR r y l]
  by_cases h:b.1=y
  ·rw [if_pos h,if_pos h];rfl
  ·rw [if_neg h,if_neg h]
theorem C1 (y:ByteArray) (m:List Bd):∀ l:List Bd,lookup (l ++ m) y=match lookup l y with | some x=>some x | none=>lookup m y
 | []=>rfl
 | b :: l=>by
  rw [List.cons_append,A5,A5,C1 y m l]
  by_cases h:b.1=y
  ·rw [if_pos h,if_pos h]
  ·rw [if_neg h,if_neg h]
theorem Iq (s:List Bd) (y:ByteArray) (h:lookup s y=none):∀ r:List Bd,lookup (TW s r) y=lookup r y
 | []=>rfl
 | b :: r=>by
  unfold TW
  by_cases e:b.1=y
  ·rw [List.filter_cons_of_pos (by rw [e,h];rfl),A5,A5,if_pos e,if_pos e]
  ·have ih:=Iq s y h r
   unfold TW at ih
   rw [List.filter_cons]
   split
   ·rw [A5,A5,if_neg e,if_neg e,ih]
   ·rw [A5,if_neg e,ih]
theorem H0 (s r:List Bd) (y:ByteArray):lookup (KG s r) y=match lookup s y with | some x=>some (x.on r) | none=>lookup r y:=by
 unfold KG
 rw [C1,JR]
 cases h:lookup s y with
 | none=>rw [Option.map_none];exact Iq s y h r
 | some x=>rfl
def Tf (y:ByteArray):Tm:=.mk y []
structure OkB (s:List Bd):Prop where
 ord:BH s
 var:∀ b ∈ s,AJ b.1=true
 nam:∀ b ∈ s,Ay b.1=true
 chk:∀ b ∈ s,b.2.chk=0
theorem OY {t:Tm} (h:t.chk=0):Bl t=0:=by
 rw [Tm.chk_eq] at h
 by_cases h1:Bl t=0
 ·exact h1
 ·rw [if_neg h1] at h;exact h
theorem P8 {n:ByteArray} {xs ys:List Tm} (h:(Tm.mk n xs).chk=0) (hl:ys.length=xs.length) (hy:∀ y ∈ ys,y.chk=0):(Tm.mk n ys).chk=0:=by
 have h1:Bl (Tm.mk n ys)=0:=by
  have:=OY h
  unfold Bl at this ⊢
  rw [Tm.name_mk,Tm.args_mk] at this ⊢
  rw [hl];exact this
 rw [Tm.chk_eq,if_pos h1,Tm.args_mk]
 clear h h1 hl
 induction ys with
 | nil=>rfl
 | cons x ys ih =>
  simp only [Tm.chkL]
  rw [if_pos (hy x (by simp))]
  exact ih fun y h=>hy y (by simp [h])
theorem O8 {s:List Bd} (hs:∀ b ∈ s,b.2.chk=0) {t:Tm} (hc:t.chk=0):(t.on s).chk=0:=by
 induction hN:SizeOf.sizeOf t using Nat.strongRecOn generalizing t with
 | _ N ih =>
 subst hN
 obtain ⟨c1,c2⟩:=Tm.chk_args hc
 by_cases hleaf:(∃ x,lookup s t.name=some x)∧t.args=[]
 ·obtain ⟨⟨x,hx⟩,h0⟩:=hleaf
  rw [Tm.on_leaf hx h0]
  obtain ⟨b,hb,_,rfl⟩:=Cm hx
  exact hs b hb
 ·have hon:t.on s=.mk t.name (t.args.map (Tm.on s)):=Tm.on_knot (by
   cases hl:lookup s t.name with
   | none=>exact .inl rfl
   | some x=>exact .inr fun h0=>hleaf ⟨⟨x,hl⟩,h0⟩)
  rw [hon]
  refine P8 (xs:=t.args) (by cases t;exact hc) (by simp) fun y hy=>?_
  obtain ⟨c,hc',rfl⟩:=List.mem_map.1 hy
  exact ih _ (Tm.lt_of_arg hc') (c2 c hc') rfl
theorem XI {s:List Bd} {M:Nat} (hM:1≤M) (hs:∀ b ∈ s,b.2.size≤M) (t:Tm):(t.on s).size≤t.size * M:=by
 induction hN:SizeOf.sizeOf t using Nat.strongRecOn generalizing t with
 | _ N ih =>
 subst hN
 have hsz:=Tm.size_eq t
 by_cases hleaf:(∃ x,lookup s t.name=some x)∧t.args=[]
 ·obtain ⟨⟨x,hx⟩,h0⟩:=hleaf
  rw [Tm.on_leaf hx h0]
  obtain ⟨b,hb,_,rfl⟩:=Cm hx
  have:=hs b hb
  have h1:=Nat.mul_le_mul_right M (Tm.size_pos t)
  omega
 ·have hon:t.on s=.mk t.name (t.args.map (Tm.on s)):=Tm.on_knot (by
   cases hl:lookup s t.name with
   | none=>exact .inl rfl
   | some x=>exact .inr fun h0=>hleaf ⟨⟨x,hl⟩,h0⟩)
  have key:∀ xs:List Tm,(∀ x ∈ xs,(x.on s).size≤x.size * M)→Tm.sizes (xs.map (Tm.on s))≤Tm.sizes xs * M:=by
   intro xs
   induction xs with
   | nil=>intro _;simp [Tm.sizes]
   | cons x xs ih2 =>
    intro h
    have h1:=h x (by simp)
    have h2:=ih2 fun y hy=>h y (by simp [hy])
    simp only [List.map_cons,Tm.sizes]
    rw [Nat.add_mul]
    omega
  have hk:=key t.args fun x hx=>ih _ (Tm.lt_of_arg hx) x rfl
  rw [hon]
  have e:(Tm.mk t.name (t.args.map (Tm.on s))).size=1 + Tm.sizes (t.args.map (Tm.on s)):=rfl
  rw [e,hsz,Nat.add_mul]
  omega
theorem Sm {s r:List Bd} {b:Bd} (h:b ∈ KG s r):(∃ c ∈ s,b=(c.1,c.2.on r)) ∨ b ∈ r:=by
 unfold KG at h
 rcases List.mem_append.1 h with h | h
 ·obtain ⟨c,hc,rfl⟩:=List.mem_map.1 h
  exact .inl ⟨c,hc,rfl⟩
 ·exact .inr (List.mem_filter.1 h).1
theorem ZV {s:List Bd} (hs:OkB s) {y:ByteArray} (h:AJ y=false):lookup s y=none:=Ch fun b hb e=>by
 have:=hs.var b hb
 rw [e,h] at this
 cases this
theorem Q2 {y:ByteArray} (h:Ay y=true):(Tf y).chk=0:=by
 have h0:Bl (Tf y)=0:=by
  unfold Bl Tf
  rw [Tm.name_mk,if_pos h,if_neg (by simp [Tm.args_mk])]
 rw [Tm.chk_eq,if_pos h0]
 rfl
theorem YF {n:ByteArray} {xs:List Tm} {m:List Bd} (hn:AJ n=false) (hm:∀ b ∈ m,AJ b.1=true):(Tm.mk n xs).on m=.mk n (xs.map (Tm.on m)) :=
 Tm.on_knot (t:=.mk n xs) (.inl (Ch fun b hb e=>by rw [Tm.name_mk] at e;have:=hm b hb;rw [e,hn] at this;cases this))

set_option maxRecDepth 100000
def G0:IR :=
 (.seq (.ops [.i 2 (.mov (.c (.one (.st (.bool false)))))]) (.seq (.ops [.m 3 0,.i 4 (.bin .geq (.t 3) (.c (.one (.st (.int .u8 97))))),.m 5 4,.mk (some 6) (some (5,true)) (.mov (.t 0)) .no,.mk (some 7) (some (5,true)) (.bin .leq (.t 6) (.c (.one (.st (.int .u8 122))))) .no,.i 8 (.pick (.t 5) (.t 7) (.c (.one (.st (.bool false))))),.m 9 8,.mk (some 10) (some (9,false)) (.mov (.t 0)) .no,.mk (some 11) (some (9,false)) (.bin .geq (.t 10) (.c (.one (.st (.int .u8 65))))) .no,.mk (some 12) (some (9,false)) (.mov (.t 11)) .no,.mk (some 13) (some (12,true)) (.mov (.t 0)) .no,.mk (some 14) (some (12,true)) (.bin .leq (.t 13) (.c (.one (.st (.int .u8 90))))) .no,.mk (some 15) (some (9,false)) (.pick (.t 12) (.t 14) (.c (.one (.st (.bool false))))) .no,.i 16 (.pick (.t 9) (.c (.one (.st (.bool true)))) (.t 15)),.m 17 16,.mk (some 18) (some (17,false)) (.mov (.t 0)) .no,.mk (some 19) (some (17,false)) (.bin .geq (.t 18) (.c (.one (.st (.int .u8 48))))) .no,.mk (some 20) (some (17,false)) (.mov (.t 19)) .no,.mk (some 21) (some (20,true)) (.mov (.t 0)) .no,.mk (some 22) (some (20,true)) (.bin .leq (.t 21) (.c (.one (.st (.int .u8 57))))) .no,.mk (some 23) (some (17,false)) (.pick (.t 20) (.t 22) (.c (.one (.st (.bool false))))) .no,.i 24 (.pick (.t 17) (.c (.one (.st (.bool true)))) (.t 23)),.m 2 24]) .ret))
theorem Ml:OkF Tryz.prog 97 25 [] G0 [.t 2]:=.of Tryz.func97 rfl rfl (by kernel_rfl) rfl
def Ht:IR :=
 (.seq (.ops [.i 2 (.mov (.c (.one (.st (.bool false)))))]) (.seq (.ops [.m 3 0,.i 4 (.bin .geq (.t 3) (.c (.one (.st (.int .u8 97))))),.m 5 4,.mk (some 6) (some (5,true)) (.mov (.t 0)) .no,.mk (some 7) (some (5,true)) (.bin .leq (.t 6) (.c (.one (.st (.int .u8 122))))) .no,.i 8 (.pick (.t 5) (.t 7) (.c (.one (.st (.bool false))))),.m 9 8,.mk (some 10) (some (9,false)) (.mov (.t 0)) .no,.mk (some 11) (some (9,false)) (.bin .geq (.t 10) (.c (.one (.st (.int .u8 65))))) .no,.mk (some 12) (some (9,false)) (.mov (.t 11)) .no,.mk (some 13) (some (12,true)) (.mov (.t 0)) .no,.mk (some 14) (some (12,true)) (.bin .leq (.t 13) (.c (.one (.st (.int .u8 90))))) .no,.mk (some 15) (some (9,false)) (.pick (.t 12) (.t 14) (.c (.one (.st (.bool false))))) .no,.i 16 (.pick (.t 9) (.c (.one (.st (.bool true)))) (.t 15)),.m 17 16,.mk (some 18) (some (17,false)) (.mov (.t 0)) .no,.mk (some 19) (some (17,false)) (.bin .geq (.t 18) (.c (.one (.st (.int .u8 48))))) .no,.mk (some 20) (some (17,false)) (.mov (.t 19)) .no,.mk (some 21) (some (20,true)) (.mov (.t 0)) .no,.mk (some 22) (some (20,true)) (.bin .leq (.t 21) (.c (.one (.st (.int .u8 57))))) .no,.mk (some 23) (some (17,false)) (.pick (.t 20) (.t 22) (.c (.one (.st (.bool false))))) .no,.i 24 (.pick (.t 17) (.c (.one (.st (.bool true)))) (.t 23)),.m 2 24]) .ret))
theorem M7:OkF Tryz.prog 87 25 [] Ht [.t 2]:=.of Tryz.func87 rfl rfl (by kernel_rfl) rfl
def DP:IR :=
 (.seq (.ops [.i 2 (.mov (.c (.one (.st (.bool false)))))]) (.seq (.seq (.ops [.m 4 0,.i 5 (.len true (.t 4)),.i 6 (.bin .lss (.t 5) (.n 1)),.m 7 6,.mk (some 8) (some (7,false)) (.mov (.t 0)) .no,.mk (some 9) (some (7,false)) (.len true (.t 8)) .no,.mk (some 10) (some (7,false)) (.bin .gtr (.t 9) (.n 8)) .no,.i 11 (.pick (.t 7) (.c (.one (.st (.bool true)))) (.t 10)),.m 12 11,.mk (some 13) (some (12,false)) (.mov (.t 0)) .no,.mk (some 14) (some (12,false)) (.indexStr (.t 13) (.n 0)) .no,.mk (some 15) (some (12,false)) (.bin .geq (.t 14) (.c (.one (.st (.int .u8 48))))) .no,.mk (some 16) (some (12,false)) (.mov (.t 15)) .no,.mk (some 17) (some (16,true)) (.mov (.t 0)) .no,.mk (some 18) (some (16,true)) (.indexStr (.t 17) (.n 0)) .no,.mk (some 19) (some (16,true)) (.bin .leq (.t 18) (.c (.one (.st (.int .u8 57))))) .no,.mk (some 20) (some (12,false)) (.pick (.t 16) (.t 19) (.c (.one (.st (.bool false))))) .no,.i 21 (.pick (.t 12) (.c (.one (.st (.bool true)))) (.t 20))]) (.cond (.t 21) (.seq (.ops [.i 2 (.mov (.c (.one (.st (.bool false)))))]) .ret) .skip)) (.seq (.seq (.ops [.m 22 0,.i 23 (.len true (.t 22)),.i 24 (.mov (.n 0))]) (.block 0 (.loop (.seq (.ops [.i 25 (.bin .lss (.t 24) (.t 23))]) (.seq (.cond (.t 25) .skip (.exit 0)) (.seq (.block 1 (.seq (.ops [.m 26 24,.m 3 26]) (.seq (.ops [.m 27 0,.m 28 3,.i 29 (.indexStr (.t 27) (.t 28)),.i 30 (.call 97 [.t 29]),.i 31 (.un .not (.t 30))]) (.cond (.t 31) (.seq (.ops [.i 2 (.mov (.c (.one (.st (.bool false)))))]) .ret) .skip)))) (.ops [.i 32 (.bin .add (.t 24) (.n 1)),.m 24 32]))))))) (.seq (.ops [.i 2 (.mov (.c (.one (.st (.bool true)))))]) .ret))))
theorem EJ:OkF Tryz.prog 66 33 [] DP [.t 2]:=.of Tryz.func66 rfl rfl (by kernel_rfl) rfl
def D7:IR :=
 (.seq (.ops [.i 2 (.mov (.c (.one (.st (.bool false)))))]) (.seq (.seq (.ops [.m 4 0,.i 5 (.bin .eql (.t 4) (.c (.one (.st (.str (ByteArray.mk (#[]))))))),.m 6 5,.mk (some 7) (some (6,false)) (.mov (.t 0)) .no,.mk (some 8) (some (6,false)) (.len true (.t 7)) .no,.mk (some 9) (some (6,false)) (.bin .gtr (.t 8) (.n 8)) .no,.i 10 (.pick (.t 6) (.c (.one (.st (.bool true)))) (.t 9)),.m 11 10,.mk (some 12) (some (11,false)) (.mov (.t 0)) .no,.mk (some 13) (some (11,false)) (.indexStr (.t 12) (.n 0)) .no,.mk (some 14) (some (11,false)) (.bin .geq (.t 13) (.c (.one (.st (.int .u8 48))))) .no,.mk (some 15) (some (11,false)) (.mov (.t 14)) .no,.mk (some 16) (some (15,true)) (.mov (.t 0)) .no,.mk (some 17) (some (15,true)) (.indexStr (.t 16) (.n 0)) .no,.mk (some 18) (some (15,true)) (.bin .leq (.t 17) (.c (.one (.st (.int .u8 57))))) .no,.mk (some 19) (some (11,false)) (.pick (.t 15) (.t 18) (.c (.one (.st (.bool false))))) .no,.i 20 (.pick (.t 11) (.c (.one (.st (.bool true)))) (.t 19))]) (.cond (.t 20) (.seq (.ops [.i 2 (.mov (.c (.one (.st (.bool false)))))]) .ret) .skip)) (.seq (.seq (.ops [.i 3 (.mov (.n 0))]) (.block 0 (.loop (.seq (.seq (.ops [.m 21 3,.m 22 0,.i 23 (.len true (.t 22)),.i 24 (.bin .lss (.t 21) (.t 23))]) (.cond (.t 24) .skip (.exit 0))) (.seq (.block 1 (.seq (.ops [.m 27 0,.m 28 3,.i 29 (.indexStr (.t 27) (.t 28)),.i 30 (.call 87 [.t 29]),.i 31 (.un .not (.t 30))]) (.cond (.t 31) (.seq (.ops [.i 2 (.mov (.c (.one (.st (.bool false)))))]) .ret) .skip))) (.ops [.m 25 3,.i 26 (.bin .add (.t 25) (.n 1)),.m 3 26])))))) (.seq (.ops [.i 2 (.mov (.c (.one (.st (.bool true)))))]) .ret))))
theorem Er:OkF Tryz.prog 49 32 [] D7 [.t 2]:=.of Tryz.func49 rfl rfl (by kernel_rfl) rfl
def Dg:IR :=
 (.seq (.ops [.i 2 (.mov (.c (.one (.st (.bool false)))))]) (.seq (.ops [.m 3 0,.i 4 (.bin .neq (.t 3) (.c (.one (.st (.str (ByteArray.mk (#[]))))))),.m 5 4,.mk (some 6) (some (5,true)) (.mov (.t 0)) .no,.mk (some 7) (some (5,true)) (.indexStr (.t 6) (.n 0)) .no,.mk (some 8) (some (5,true)) (.bin .geq (.t 7) (.c (.one (.st (.int .u8 65))))) .no,.i 9 (.pick (.t 5) (.t 8) (.c (.one (.st (.bool false))))),.m 10 9,.mk (some 11) (some (10,true)) (.mov (.t 0)) .no,.mk (some 12) (some (10,true)) (.indexStr (.t 11) (.n 0)) .no,.mk (some 13) (some (10,true)) (.bin .leq (.t 12) (.c (.one (.st (.int .u8 90))))) .no,.i 14 (.pick (.t 10) (.t 13) (.c (.one (.st (.bool false))))),.m 2 14]) .ret))
theorem FY:OkF Tryz.prog 67 15 [] Dg [.t 2]:=.of Tryz.func67 rfl rfl (by kernel_rfl) rfl
def If:IR :=
 (.seq (.ops [.i 2 (.mov (.c (.one (.st (.bool false)))))]) (.seq (.ops [.m 3 0,.i 4 (.bin .neq (.t 3) (.c (.one (.st (.str (ByteArray.mk (#[]))))))),.m 5 4,.mk (some 6) (some (5,true)) (.mov (.t 0)) .no,.mk (some 7) (some (5,true)) (.indexStr (.t 6) (.n 0)) .no,.mk (some 8) (some (5,true)) (.bin .geq (.t 7) (.c (.one (.st (.int .u8 65))))) .no,.i 9 (.pick (.t 5) (.t 8) (.c (.one (.st (.bool false))))),.m 10 9,.mk (some 11) (some (10,true)) (.mov (.t 0)) .no,.mk (some 12) (some (10,true)) (.indexStr (.t 11) (.n 0)) .no,.mk (some 13) (some (10,true)) (.bin .leq (.t 12) (.c (.one (.st (.int .u8 90))))) .no,.i 14 (.pick (.t 10) (.t 13) (.c (.one (.st (.bool false))))),.m 2 14]) .ret))
theorem ME:OkF Tryz.prog 50 15 [] If [.t 2]:=.of Tryz.func50 rfl rfl (by kernel_rfl) rfl
def HC:IR :=
 (.seq (.ops [.i 2 (.box 37 (.t 0)),.i 4 (.mov (.n 0))]) (.seq (.ops [.m 7 1,.i 8 (.bin .sub (.t 7) (.n 1)),.m 1 8]) (.seq (.seq (.ops [.f 9 1 2,.l 10 9,.i 11 (.len false (.t 10)),.i 12 (.mov (.n 0))]) (.block 0 (.loop (.seq (.ops [.i 13 (.bin .lss (.t 12) (.t 11))]) (.seq (.cond (.t 13) .skip (.exit 0)) (.seq (.block 1 (.seq (.ops [.i 14 (.indexAddr 2 (.t 10) (.t 12)),.L 15 2 14,.i 6 (.alloc 37 [.st (.str (ByteArray.mk (#[]))),.full []]),.s 2 6 15]) (.seq (.seq (.ops [.m 16 1,.i 17 (.bin .lss (.t 16) (.n 0))]) (.cond (.t 17) (.exit 0) .skip)) (.ops [.L 18 2 6,.m 19 1,.i 20 (.call 82 [.t 18,.t 19]),.m 1 20])))) (.ops [.i 21 (.bin .add (.t 12) (.n 1)),.m 12 21]))))))) (.seq (.ops [.m 22 1,.m 4 22]) .ret))))
theorem LV:OkF Tryz.prog 82 23 [] HC [.t 4]:=.of Tryz.func82 rfl rfl (by kernel_rfl) rfl
def Na:IR :=
 (.seq (.ops [.i 2 (.box 37 (.t 0)),.i 4 (.mov (.n 0))]) (.seq (.ops [.i 5 (.mov (.n 1))]) (.seq (.seq (.ops [.i 6 (.mov (.n 0))]) (.block 0 (.loop (.seq (.seq (.ops [.m 7 6,.f 8 1 2,.l 9 8,.i 10 (.len false (.t 9)),.i 11 (.bin .lss (.t 7) (.t 10)),.m 12 11,.mk (some 13) (some (12,true)) (.mov (.t 5)) .no,.mk (some 14) (some (12,true)) (.mov (.t 1)) .no,.mk (some 15) (some (12,true)) (.bin .leq (.t 13) (.t 14)) .no,.i 16 (.pick (.t 12) (.t 15) (.c (.one (.st (.bool false)))))]) (.cond (.t 16) .skip (.exit 0))) (.seq (.block 1 (.ops [.m 19 5,.f 20 1 2,.l 21 20,.m 22 6,.i 23 (.indexAddr 2 (.t 21) (.t 22)),.L 24 2 23,.m 25 1,.m 26 5,.i 27 (.bin .sub (.t 25) (.t 26)),.i 28 (.call 21 [.t 24,.t 27]),.i 29 (.bin .add (.t 19) (.t 28)),.m 5 29])) (.ops [.m 17 6,.i 18 (.bin .add (.t 17) (.n 1)),.m 6 18])))))) (.seq (.seq (.ops [.m 30 5,.m 31 1,.i 32 (.bin .gtr (.t 30) (.t 31))]) (.cond (.t 32) (.seq (.ops [.m 33 1,.i 34 (.bin .add (.t 33) (.n 1)),.m 4 34]) .ret) .skip)) (.seq (.ops [.m 35 5,.m 4 35]) .ret)))))
theorem Vm:OkF Tryz.prog 21 36 [] Na [.t 4]:=.of Tryz.func21 rfl rfl (by kernel_rfl) rfl
def H7:IR :=
 (.seq (.ops [.i 1 (.box 37 (.t 0)),.i 2 (.mov (.n 0))]) (.seq (.seq (.ops [.f 6 0 1,.l 7 6,.i 8 (.call 66 [.t 7]),.i 9 (.un .not (.t 8))]) (.cond (.t 9) (.seq (.ops [.i 2 (.mov (.n 1))]) .ret) .skip)) (.seq (.seq (.ops [.f 10 0 1,.l 11 10,.i 12 (.call 67 [.t 11]),.m 13 12,.mk (some 14) (some (13,true)) (.fieldAddr 1 (.t 1)) .no,.mk (some 15) (some (13,true)) (.load false 1 (.t 14)) .no,.mk (some 16) (some (13,true)) (.len false (.t 15)) .no,.mk (some 17) (some (13,true)) (.bin .gtr (.t 16) (.n 0)) .no,.i 18 (.pick (.t 13) (.t 17) (.c (.one (.st (.bool false)))))]) (.cond (.t 18) (.seq (.ops [.i 2 (.mov (.n 2))]) .ret) .skip)) (.seq (.seq (.ops [.f 19 1 1,.l 20 19,.i 21 (.len false (.t 20)),.i 22 (.mov (.n 0))]) (.block 0 (.loop (.seq (.ops [.i 23 (.bin .lss (.t 22) (.t 21))]) (.seq (.cond (.t 23) .skip (.exit 0)) (.seq (.block 1 (.seq (.ops [.i 24 (.indexAddr 2 (.t 20) (.t 22)),.L 25 2 24,.i 4 (.alloc 37 [.st (.str (ByteArray.mk (#[]))),.full []]),.s 2 4 25]) (.seq (.ops [.L 26 2 4,.i 27 (.call 83 [.t 26]),.m 5 27]) (.seq (.ops [.m 28 5,.i 29 (.bin .neq (.t 28) (.n 0))]) (.cond (.t 29) (.seq (.ops [.m 30 5,.m 2 30]) .ret) .skip))))) (.ops [.i 31 (.bin .add (.t 22) (.n 1)),.m 22 31]))))))) (.seq (.ops [.i 2 (.mov (.n 0))]) .ret)))))
theorem NL:OkF Tryz.prog 83 32 [] H7 [.t 2]:=.of Tryz.func83 rfl rfl (by kernel_rfl) rfl
def Hp:IR :=
 (.seq (.ops [.i 1 (.box 37 (.t 0)),.i 2 (.mov (.n 0))]) (.seq (.seq (.ops [.L 3 2 1,.i 4 (.call 82 [.t 3,.n 200]),.i 5 (.bin .lss (.t 4) (.n 0))]) (.cond (.t 5) (.seq (.ops [.i 2 (.mov (.n 3))]) .ret) .skip)) (.seq (.ops [.L 6 2 1,.i 7 (.call 83 [.t 6]),.m 2 7]) .ret)))
theorem M5:OkF Tryz.prog 46 8 [] Hp [.t 2]:=.of Tryz.func46 rfl rfl (by kernel_rfl) rfl
def Ol:IR :=
 (.seq (.ops [.i 2 (.box 37 (.t 0)),.i 3 (.box 37 (.t 1)),.i 4 (.mov (.c (.one (.st (.bool false)))))]) (.seq (.seq (.ops [.f 6 0 2,.l 7 6,.f 8 0 3,.l 9 8,.i 10 (.bin .neq (.t 7) (.t 9)),.m 11 10,.mk (some 12) (some (11,false)) (.fieldAddr 1 (.t 2)) .no,.mk (some 13) (some (11,false)) (.load false 1 (.t 12)) .no,.mk (some 14) (some (11,false)) (.len false (.t 13)) .no,.mk (some 15) (some (11,false)) (.fieldAddr 1 (.t 3)) .no,.mk (some 16) (some (11,false)) (.load false 1 (.t 15)) .no,.mk (some 17) (some (11,false)) (.len false (.t 16)) .no,.mk (some 18) (some (11,false)) (.bin .neq (.t 14) (.t 17)) .no,.i 19 (.pick (.t 11) (.c (.one (.st (.bool true)))) (.t 18))]) (.cond (.t 19) (.seq (.ops [.i 4 (.mov (.c (.one (.st (.bool false)))))]) .ret) .skip)) (.seq (.seq (.ops [.i 5 (.mov (.n 0))]) (.block 0 (.loop (.seq (.seq (.ops [.m 20 5,.f 21 1 2,.l 22 21,.i 23 (.len false (.t 22)),.i 24 (.bin .lss (.t 20) (.t 23))]) (.cond (.t 24) .skip (.exit 0))) (.seq (.block 1 (.seq (.ops [.f 27 1 2,.l 28 27,.m 29 5,.i 30 (.indexAddr 2 (.t 28) (.t 29)),.L 31 2 30,.f 32 1 3,.l 33 32,.m 34 5,.i 35 (.indexAddr 2 (.t 33) (.t 34)),.L 36 2 35,.i 37 (.call 19 [.t 31,.t 36]),.i 38 (.un .not (.t 37))]) (.cond (.t 38) (.seq (.ops [.i 4 (.mov (.c (.one (.st (.bool false)))))]) .ret) .skip))) (.ops [.m 25 5,.i 26 (.bin .add (.t 25) (.n 1)),.m 5 26])))))) (.seq (.ops [.i 4 (.mov (.c (.one (.st (.bool true)))))]) .ret))))
theorem Vx:OkF Tryz.prog 19 39 [] Ol [.t 4]:=.of Tryz.func19 rfl rfl (by kernel_rfl) rfl
def I1:IR :=
 (.seq (.ops [.i 1 (.box 37 (.t 0)),.i 2 (.alloc 37 [.st (.str (ByteArray.mk (#[]))),.full []])]) (.seq (.ops [.f 6 0 1,.l 7 6,.i 8 (.build [.st (.str (ByteArray.mk (#[]))),.full []] [(0,1,.t 7)]),.i 3 (.alloc 37 [.st (.str (ByteArray.mk (#[]))),.full []]),.s 2 3 8]) (.seq (.seq (.ops [.f 9 1 1,.l 10 9,.i 11 (.len false (.t 10)),.i 12 (.mov (.n 0))]) (.block 0 (.loop (.seq (.ops [.i 13 (.bin .lss (.t 12) (.t 11))]) (.seq (.cond (.t 13) .skip (.exit 0)) (.seq (.block 1 (.seq (.ops [.i 14 (.indexAddr 2 (.t 10) (.t 12)),.L 15 2 14,.i 5 (.alloc 37 [.st (.str (ByteArray.mk (#[]))),.full []]),.s 2 5 15]) (.ops [.f 16 1 3,.l 17 16,.L 18 2 5,.i 19 (.call 42 [.t 18]),.i 20 (.buildSlice false 37 2 [.t 19]),.i 21 (.append false 37 2 40 (.t 17) (.t 20)),.f 22 1 3,.s 1 22 21]))) (.ops [.i 23 (.bin .add (.t 12) (.n 1)),.m 12 23]))))))) (.seq (.ops [.L 24 2 3,.s 2 2 24]) .ret))))
theorem PR:OkF Tryz.prog 42 25 [] I1 [.cell 2 true 2]:=.of Tryz.func42 rfl rfl (by kernel_rfl) rfl
def Ba:IR :=
 (.seq (.ops [.i 4 (.mov (.n 0))]) (.seq (.seq (.ops [.m 6 0,.i 7 (.len false (.t 6)),.i 8 (.mov (.n 0))]) (.block 0 (.loop (.seq (.ops [.i 9 (.bin .lss (.t 8) (.t 7))]) (.seq (.cond (.t 9) .skip (.exit 0)) (.seq (.block 1 (.seq (.ops [.m 10 8,.m 5 10]) (.seq (.ops [.m 11 1,.m 12 0,.m 13 5,.i 14 (.indexAddr 1 (.t 12) (.t 13)),.l 15 14,.i 16 (.bin .eql (.t 11) (.t 15))]) (.cond (.t 16) (.seq (.ops [.m 17 5,.m 4 17]) .ret) .skip)))) (.ops [.i 18 (.bin .add (.t 8) (.n 1)),.m 8 18]))))))) (.seq (.ops [.i 4 (.mov (.c (.one (.st (.int .i64 (-1))))))]) .ret)))
theorem CI:OkF Tryz.prog 98 19 [] Ba [.t 4]:=.of Tryz.func98 rfl rfl (by kernel_rfl) rfl
def B2:IR :=
 (.seq (.ops [.i 4 (.mov (.c (.one (.st (.bool false)))))]) (.seq (.ops [.m 5 0,.m 6 1,.i 7 (.call 98 [.t 5,.t 6]),.i 8 (.bin .geq (.t 7) (.n 0)),.m 4 8]) .ret))
theorem DU:OkF Tryz.prog 68 9 [] B2 [.t 4]:=.of Tryz.func68 rfl rfl (by kernel_rfl) rfl
def GM:IR :=
 (.seq (.ops [.i 2 (.box 37 (.t 0)),.i 4 (.mov (.c (.one (.full []))))]) (.seq (.seq (.ops [.f 7 0 2,.l 8 7,.i 9 (.call 67 [.t 8]),.m 10 9,.mk (some 11) (some (10,true)) (.mov (.t 1)) .no,.mk (some 12) (some (10,true)) (.fieldAddr 0 (.t 2)) .no,.mk (some 13) (some (10,true)) (.load false 1 (.t 12)) .no,.mk (some 14) (some (10,true)) (.call 68 [.t 11,.t 13]) .no,.mk (some 15) (some (10,true)) (.un .not (.t 14)) .no,.i 16 (.pick (.t 10) (.t 15) (.c (.one (.st (.bool false)))))]) (.cond (.t 16) (.ops [.m 17 1,.f 18 0 2,.l 19 18,.i 20 (.buildFlat [.t 19]),.i 21 (.append false 9 1 16 (.t 17) (.t 20)),.m 1 21]) .skip)) (.seq (.seq (.ops [.f 22 1 2,.l 23 22,.i 24 (.len false (.t 23)),.i 25 (.mov (.n 0))]) (.block 0 (.loop (.seq (.ops [.i 26 (.bin .lss (.t 25) (.t 24))]) (.seq (.cond (.t 26) .skip (.exit 0)) (.seq (.block 1 (.seq (.ops [.i 27 (.indexAddr 2 (.t 23) (.t 25)),.L 28 2 27,.i 6 (.alloc 37 [.st (.str (ByteArray.mk (#[]))),.full []]),.s 2 6 28]) (.ops [.L 29 2 6,.m 30 1,.i 31 (.callS 124 [.t 29,.t 30]),.m 1 31]))) (.ops [.i 32 (.bin .add (.t 25) (.n 1)),.m 25 32]))))))) (.seq (.ops [.m 33 1,.m 4 33]) .ret))))
theorem Jd:OkF Tryz.prog 124 34 [31] GM [.t 4]:=.of Tryz.func124 rfl rfl (by kernel_rfl) rfl
def JE:IR :=
 (.seq (.ops [.i 1 (.box 37 (.t 0)),.i 2 (.mov (.c (.one (.full []))))]) (.seq (.ops [.L 3 2 1,.i 4 (.callS 124 [.t 3,.c (.one (.full []))]),.m 2 4]) .ret))
theorem O9:OkF Tryz.prog 104 5 [4] JE [.t 2]:=.of Tryz.func104 rfl rfl (by kernel_rfl) rfl

end Go.Proofs.YtbhnmjkmieiadaaGreatDoor
