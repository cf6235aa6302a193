/-
  Part 9 of the texts. Conditions: none.
-/
import Derived.Test.YtkegjgodjigjfaaAuM8
import Derived.Shelf.SlSortCmp.WholeK
import Derived.Shelf.SlSortCmp.NoneTotal
import Derived.Test.YtkegjgodjigjfaaProg
namespace Go.Proofs.Ytkegjgodjigjfaa
open Go
set_option linter.unusedVariables false
set_option linter.unusedSimpArgs false
def BF (l:List Bool):ByteArray:=⟨(l.map fun b=>if b then (49:UInt8) else 48).toArray⟩
theorem Ge {l m:List Bool} (h:BF l=BF m):l=m:=by
 have h1:l.map (fun b=>if b then (49:UInt8) else 48)=m.map (fun b=>if b then (49:UInt8) else 48):=by
  have h2:=congrArg (fun b:ByteArray=>b.data.toList) h
  simpa [BF] using h2
 have hlen:l.length=m.length:=by simpa using congrArg List.length h1
 refine List.ext_getElem hlen fun i p q=>?_
 have h3:=congrArg (fun k:List UInt8=>k[i]?) h1
 simp only [List.getElem?_map,List.getElem?_eq_getElem p,List.getElem?_eq_getElem q,Option.map_some,Option.some.injEq] at h3
 cases hx:l[i] <;> cases hy:m[i] <;> rw [hx,hy] at h3 <;> simp at h3 ⊢
theorem N8 (l m:List Bool):BF l ++ BF m=BF (l ++ m):=by
 apply ByteArray.ext
 simp [BF]
theorem HH (l:List Bool):(BF l).size=l.length:=by
 show (l.map _).toArray.size=_
 simp
def bar:ByteArray:=⟨#[124]⟩
def FU (a b:Au) (t:Tm):J:=(a.ends t,b.ends t)
def Et (a b:Au) (t:Tm):ByteArray:=BF (a.ends t) ++ bar ++ BF (b.ends t)
theorem Vo {a b:Au} {t u:Tm}:Et a b t=Et a b u ↔ FU a b t=FU a b u:=by
 constructor
 ·intro h
  have h2:=congrArg (fun x:ByteArray=>x.data.toList) h
  simp only [Et,ByteArray.data_append,Array.toList_append] at h2
  have l1:(BF (a.ends t)).data.toList.length=(BF (a.ends u)).data.toList.length:=by simp [BF,Au.ends_length]
  rw [List.append_assoc,List.append_assoc] at h2
  obtain ⟨h3,h4⟩:=List.append_inj h2 l1
  have h5:=List.append_cancel_left h4
  have e1:BF (a.ends t)=BF (a.ends u):=ByteArray.ext (Array.ext' h3)
  have e2:BF (b.ends t)=BF (b.ends u):=ByteArray.ext (Array.ext' h5)
  exact Prod.ext (Ge e1) (Ge e2)
 ·intro h
  unfold FU at h
  simp only [Prod.mk.injEq] at h
  unfold Et
  rw [h.1,h.2]
inductive DE:Tm→Prop
 | mk {n:ByteArray} {ts:List Tm}:ts.length≤1000000→(∀ t ∈ ts,DE t)→DE (.mk n ts)
def tmZ:Tm:=.mk .empty []
def Df (out:List Tm) (n k c:Nat):List Tm:=(List.range k).map fun j=>if j=0 then out.getD (c % n) tmZ else out.getD (c / n) tmZ
def tG (m:Mv) (out:List Tm) (n c:Nat):Tm:=.mk m.name (Df out n m.frm.length c)
open Classical in
noncomputable def Qe (a b:Au) (out:List Tm) (t:Tm):List Tm:=if FU a b t ∈ out.map (FU a b) then out else out ++ [t]
noncomputable def Cu (a b:Au) (m:Mv) (n:Nat) (out:List Tm) (c:Nat):List Tm:=Qe a b out (tG m out n c)
def LM (m:Mv) (out:List Tm):Bool:=decide (2 < m.frm.length) || (decide (0 < m.frm.length) && decide (out.length=0))
noncomputable def CG (a b:Au) (out:List Tm) (m:Mv):List Tm:=if LM m out=true then out else (List.range (out.length ^ m.frm.length)).foldl (Cu a b m out.length) out
noncomputable def Lm (a b:Au) (ms:List Mv) (out:List Tm):List Tm:=ms.foldl (CG a b) out
noncomputable def itG (a b:Au) (ms:List Mv):Nat→List Tm
 | 0=>[]
 | k + 1=>Lm a b ms (itG a b ms k)
theorem VF {a b:Au} (out:List Tm) (t:Tm):out <+: Qe a b out t:=by
 unfold Qe
 split
 ·exact List.prefix_refl _
 ·exact List.prefix_append _ _
theorem D6 {α:Type} {f:List Tm→α→List Tm} (h:∀ out x,out <+: f out x):∀ (l:List α) (out:List Tm),out <+: l.foldl f out
 | [],out=>List.prefix_refl _
 | x :: l,out=>(h out x).trans (D6 h l (f out x))
theorem Gf {a b:Au} {m:Mv} {n:Nat} (out:List Tm) (c:Nat):out <+: Cu a b m n out c:=VF _ _
theorem JV {a b:Au} (out:List Tm) (m:Mv):out <+: CG a b out m:=by
 unfold CG
 split
 ·exact List.prefix_refl _
 ·exact D6 (fun out c=>Gf out c) _ _
theorem Mp {a b:Au} {ms:List Mv} (out:List Tm):out <+: Lm a b ms out:=D6 (fun out m=>JV out m) _ _
structure OkG (a b:Au) (syms:List Sym) (out:List Tm):Prop where
 nod:(out.map (FU a b)).Nodup
 ok:∀ t ∈ out,Vv syms t∧DE t
section
variable {a b:Au} {syms:List Sym}
theorem OkG.toJ {out:List Tm} (h:OkG a b syms out):OkJ a b syms (out.map (FU a b)):=⟨h.nod,fun j hj=>by
 obtain ⟨t,ht,rfl⟩:=List.mem_map.1 hj
 exact Xf (h.ok t ht).1⟩
theorem OkG.len {out:List Tm} (h:OkG a b syms out) (ha:a.states≤3) (hb:b.states≤3):out.length≤64:=by
 have:=h.toJ.len ha hb
 simpa using this
theorem OkG.add {out:List Tm} {t:Tm} (h:OkG a b syms out) (ht:Vv syms t) (hn:DE t):OkG a b syms (Qe a b out t):=by
 unfold Qe
 split
 ·exact h
 ·rename_i hm
  refine ⟨?_,fun x hx=>?_⟩
  ·rw [List.map_append,List.nodup_append]
   exact ⟨h.nod,by simp,fun x hx y hy e=>hm (by rw [List.map_singleton,List.mem_singleton] at hy;rw [← hy,← e];exact hx)⟩
  ·rcases List.mem_append.1 hx with hx | hx
   ·exact h.ok x hx
   ·rw [List.mem_singleton.1 hx];exact ⟨ht,hn⟩
theorem FG (out:List Tm) (n k c:Nat):(Df out n k c).length=k:=by simp [Df]
theorem M8 {out:List Tm} {n k c:Nat} (hn:n≤out.length) (hk:k≤2) (hc:c < n ^ k):∀ x ∈ Df out n k c,x ∈ out:=fun x hx=>by
 unfold Df at hx
 obtain ⟨j,hj,rfl⟩:=List.mem_map.1 hx
 have hj:=List.mem_range.1 hj
 have key:∀ i,i < out.length→out.getD i tmZ ∈ out:=fun i hi=>by
  rw [List.getD_eq_getElem?_getD,List.getElem?_eq_getElem hi]
  exact List.getElem_mem hi
 have hn0:0 < n:=by
  rcases Nat.eq_zero_or_pos n with h | h
  ·subst h
   rw [Nat.zero_pow (by omega)] at hc
   omega
  ·exact h
 split
 ·exact key _ (Nat.lt_of_lt_of_le (Nat.mod_lt _ hn0) hn)
 ·refine key _ (Nat.lt_of_lt_of_le ?_ hn)
  have hk2:k=2:=by omega
  subst hk2
  rw [Nat.pow_two] at hc
  exact Nat.div_lt_of_lt_mul hc
theorem XZ {o1 o2:List Tm} {m:Mv} {n c:Nat} (h:o1 <+: o2) (hn:n≤o1.length) (hk:m.frm.length≤2) (hc:c < n ^ m.frm.length):tG m o2 n c=tG m o1 n c:=by
 obtain ⟨r,rfl⟩:=h
 unfold tG Df
 congr 1
 refine List.map_congr_left fun j hj=>?_
 have hj:=List.mem_range.1 hj
 have hn0:0 < n:=by
  rcases Nat.eq_zero_or_pos n with h | h
  ·subst h
   rw [Nat.zero_pow (by omega)] at hc
   omega
  ·exact h
 have key:∀ i,i < o1.length→(o1 ++ r).getD i tmZ=o1.getD i tmZ:=fun i hi=>by
  rw [List.getD_eq_getElem?_getD,List.getD_eq_getElem?_getD,List.getElem?_append_left hi]
 split
 ·exact key _ (Nat.lt_of_lt_of_le (Nat.mod_lt _ hn0) hn)
 ·rename_i hj0
  refine key _ (Nat.lt_of_lt_of_le ?_ hn)
  have hk2:m.frm.length=2:=by omega
  rw [hk2,Nat.pow_two] at hc
  exact Nat.div_lt_of_lt_mul hc
theorem OkG.step {out:List Tm} {m:Mv} {n c:Nat} (h:OkG a b syms out) (hm:m.sym ∈ syms) (hn:n≤out.length) (hk:m.frm.length≤2) (hc:c < n ^ m.frm.length):OkG a b syms (Cu a b m n out c):=by
 have hmem:=M8 hn hk hc
 refine h.add (.mk ?_ fun x hx=>(h.ok x (hmem x hx)).1) (.mk (by rw [FG];omega) fun x hx=>(h.ok x (hmem x hx)).2)
 rw [FG]
 exact hm
theorem OkG.steps {m:Mv} (hm:m.sym ∈ syms) {n:Nat} (hk:m.frm.length≤2):∀ {cs:List Nat} {out:List Tm},OkG a b syms out→n≤out.length→(∀ c ∈ cs,c < n ^ m.frm.length)→OkG a b syms (cs.foldl (Cu a b m n) out)
 | [],out,h,_,_=>h
 | c :: cs,out,h,hn,hc=>by
  show OkG a b syms (cs.foldl (Cu a b m n) (Cu a b m n out c))
  exact OkG.steps hm hk (h.step hm hn hk (hc c (by simp))) (Nat.le_trans hn (Gf out c).length_le) fun x hx=>hc x (by simp [hx])
theorem OkG.move {out:List Tm} {m:Mv} (h:OkG a b syms out) (hm:m.sym ∈ syms) (hk:m.frm.length≤2):OkG a b syms (CG a b out m):=by
 unfold CG
 split
 ·exact h
 ·exact OkG.steps hm hk h (Nat.le_refl _) fun c hc=>List.mem_range.1 hc
theorem OkG.moves:∀ {ms:List Mv} {out:List Tm},(∀ m ∈ ms,m.sym ∈ syms∧m.frm.length≤2)→OkG a b syms out→OkG a b syms (ms.foldl (CG a b) out)
 | [],out,_,h=>h
 | m :: ms,out,hm,h=>by
  show OkG a b syms (ms.foldl (CG a b) (CG a b out m))
  exact OkG.moves (fun x hx=>hm x (by simp [hx])) (h.move (hm m (by simp)).1 (hm m (by simp)).2)
variable {ms:List Mv}
theorem Nq (hm:∀ m ∈ ms,m.sym ∈ syms∧m.frm.length≤2):∀ k,OkG a b syms (itG a b ms k)
 | 0=>⟨List.nodup_nil,by simp [itG]⟩
 | k + 1=>OkG.moves hm (Nq hm k)
theorem HU (hm:∀ m ∈ ms,m.sym ∈ syms∧m.frm.length≤2) (ha:a.states≤3) (hb:b.states≤3):∃ k,k≤64∧itG a b ms (k + 1)=itG a b ms k:=by
 by_cases h:∃ k,k≤64∧itG a b ms (k + 1)=itG a b ms k
 ·exact h
 ·exfalso
  have hgrow:∀ k,k≤65→k≤(itG a b ms k).length:=fun k=>by
   induction k with
   | zero=>intro _;omega
   | succ k ih =>
    intro hk
    have h1:=ih (by omega)
    have hp:=Mp (a:=a) (b:=b) (ms:=ms) (itG a b ms k)
    have hne:¬ itG a b ms (k + 1)=itG a b ms k:=fun e=>h ⟨k,by omega,e⟩
    have hl:=hp.length_le
    have:(itG a b ms k).length ≠ (Lm a b ms (itG a b ms k)).length:=fun e=>hne (hp.eq_of_length e).symm
    show k + 1≤(Lm a b ms (itG a b ms k)).length
    omega
  have h1:=hgrow 65 (Nat.le_refl _)
  have h2:=(Nq (a:=a) (b:=b) hm 65).len ha hb
  omega
theorem Ii {k:Nat} (h:itG a b ms (k + 1)=itG a b ms k):∀ d,itG a b ms (k + d)=itG a b ms k
 | 0=>rfl
 | d + 1=>by
  show Lm a b ms (itG a b ms (k + d))=_
  rw [Ii h d]
  exact h
noncomputable def Bw (a b:Au) (ms:List Mv):List Tm:=itG a b ms 64
theorem K3 {k:Nat} (hm:∀ m ∈ ms,m.sym ∈ syms∧m.frm.length≤2) (ha:a.states≤3) (hb:b.states≤3) (h:itG a b ms (k + 1)=itG a b ms k):itG a b ms k=Bw a b ms:=by
 obtain ⟨k0,h0,hs⟩:=HU (a:=a) (b:=b) hm ha hb
 have e1:=Ii hs (64 - k0)
 rw [show k0 + (64 - k0)=64 by omega] at e1
 unfold Bw
 rw [e1]
 rcases Nat.le_total k k0 with hk | hk
 ·have:=Ii h (k0 - k)
  rw [show k + (k0 - k)=k0 by omega] at this
  exact this.symm
 ·have:=Ii hs (k - k0)
  rw [show k0 + (k - k0)=k by omega] at this
  exact this
theorem FW (hm:∀ m ∈ ms,m.sym ∈ syms∧m.frm.length≤2):OkG a b syms (Bw a b ms):=Nq hm 64
theorem Pz (hm:∀ m ∈ ms,m.sym ∈ syms∧m.frm.length≤2) (ha:a.states≤3) (hb:b.states≤3):Lm a b ms (Bw a b ms)=Bw a b ms:=by
 obtain ⟨k0,h0,hs⟩:=HU (a:=a) (b:=b) hm ha hb
 rw [← K3 hm ha hb hs]
 exact hs
theorem I2 {α:Type} {f:List Tm→α→List Tm} (hp:∀ out x,out <+: f out x):∀ {l:List α} {out:List Tm},l.foldl f out=out→∀ x ∈ l,f out x=out
 | [],out,h,x,hx=>by cases hx
 | y :: l,out,h,x,hx=>by
  have h1:f out y=out:=by
   have p1:=hp out y
   have p2:=D6 hp l (f out y)
   have hl:(l.foldl f (f out y)).length=out.length:=congrArg List.length h
   exact (p1.eq_of_length (by have:=p1.length_le;have:=p2.length_le;omega)).symm
  rcases List.mem_cons.1 hx with rfl | hx
  ·exact h1
  ·refine I2 hp (l:=l) ?_ x hx
   have h:l.foldl f (f out y)=out:=h
   rw [h1] at h
   exact h
theorem Wv (n:ByteArray) (ts:List Tm):FU a b (.mk n ts)=nxt a b n (ts.map (FU a b)):=by
 unfold FU nxt
 rw [Au.ends_eq,Au.ends_eq,Au.endsL_eq,Au.endsL_eq,List.map_map,List.map_map]
 rfl
theorem LI (hm:∀ m ∈ ms,m.sym ∈ syms∧m.frm.length≤2) (ha:a.states≤3) (hb:b.states≤3) {m:Mv} (hmm:m ∈ ms) {l:List J} (hl:l.length=m.frm.length) (hin:∀ x ∈ l,x ∈ (Bw a b ms).map (FU a b)):nxt a b m.name l ∈ (Bw a b ms).map (FU a b):=by
 have h1:=I2 (fun out m=>JV out m) (Pz (a:=a) (b:=b) hm ha hb) m hmm
 have hk:=(hm m hmm).2
 obtain ⟨out,hout⟩:∃ out,Bw a b ms=out:=⟨_,rfl⟩
 rw [hout] at h1 hin ⊢
 have hne:LM m out=false:=by
  unfold LM
  rw [decide_eq_false (by omega),Bool.false_or]
  by_cases h0:0 < m.frm.length
  ·cases l with
   | nil=>simp at hl;omega
   | cons x l =>
    have:=List.length_pos_of_mem (hin x (by simp))
    rw [List.length_map] at this
    rw [decide_eq_false (p:=out.length=0) (by omega),Bool.and_false]
  ·rw [decide_eq_false h0,Bool.false_and]
 unfold CG at h1
 rw [hne] at h1
 simp only [Bool.false_eq_true,if_false] at h1
 have hidx:∀ x ∈ l,∃ i,i < out.length∧FU a b (out.getD i tmZ)=x:=fun x hx=>by
  obtain ⟨t,ht,rfl⟩:=List.mem_map.1 (hin x hx)
  obtain ⟨i,hi⟩:=List.getElem?_of_mem ht
  exact ⟨i,(List.getElem?_eq_some_iff.1 hi).1,by rw [List.getD_eq_getElem?_getD,hi];rfl⟩
 obtain ⟨c,hc,hce⟩:∃ c,c < out.length ^ m.frm.length∧(Df out out.length m.frm.length c).map (FU a b)=l:=by
  match hlm:m.frm.length,l,hl,hidx with
  | 0,[],_,_=>exact ⟨0,by simp,rfl⟩
  | 1,[x],_,hidx =>
   obtain ⟨i,hi,hx⟩:=hidx x (by simp)
   refine ⟨i,by simpa using hi,?_⟩
   rw [List.getD_eq_getElem?_getD] at hx
   simp [Df,Nat.mod_eq_of_lt hi,hx]
  | 2,[x,y],_,hidx =>
   obtain ⟨i,hi,hx⟩:=hidx x (by simp)
   obtain ⟨j,hj,hy⟩:=hidx y (by simp)
   have hn:0 < out.length:=by omega
   refine ⟨out.length * j + i,?_,?_⟩
   ·rw [Nat.pow_two]
    calc out.length * j + i < out.length * j + out.length:=by omega
     _=out.length * (j + 1):=by rw [Nat.mul_add,Nat.mul_one]
     _≤out.length * out.length:=Nat.mul_le_mul_left _ hj
   ·have e1:(out.length * j + i) % out.length=i:=by rw [Nat.mul_add_mod,Nat.mod_eq_of_lt hi]
    have e2:(out.length * j + i) / out.length=j:=by rw [Nat.mul_add_div hn,Nat.div_eq_of_lt hi,Nat.add_zero]
    rw [List.getD_eq_getElem?_getD] at hx hy
    simp [Df,List.range_succ,e1,e2,hx,hy]
  | n + 3,_,_,_=>omega
 have h2:=I2 (fun out c=>Gf out c) h1 c (List.mem_range.2 hc)
 unfold Cu at h2
 have h3:FU a b (tG m out out.length c)=nxt a b m.name l:=by unfold tG;rw [Wv,hce]
 unfold Qe at h2
 split at h2
 ·rename_i h4
  rw [h3] at h4
  exact h4
 ·exact absurd (congrArg List.length h2) (by simp)
theorem Si (hm:∀ m ∈ ms,m.sym ∈ syms∧m.frm.length≤2) (hs:∀ s ∈ syms,∃ m ∈ ms,s=m.sym) (ha:a.states≤3) (hb:b.states≤3) {j:J}:j ∈ (Bw a b ms).map (FU a b) ↔ Gen a b syms j:=by
 refine ⟨(FW hm).toJ.gen j,fun h=>?_⟩
 induction h with
 | @mk s l h1 hl _ ih =>
  obtain ⟨m,hmm,rfl⟩:=hs s h1
  exact LI hm ha hb hmm hl ih
end
def C6 (a b:Au):List Mv:=a.moves ++ b.moves
theorem Dh {a b:Au} (ha:Ar a=true) (hb:Ar b=true):(∀ m ∈ C6 a b,m.sym ∈ Ao [a,b]∧m.frm.length≤2)∧∀ s ∈ Ao [a,b],∃ m ∈ C6 a b,s=m.sym:=by
 unfold Ar at ha hb
 simp only [Bool.and_eq_true,List.all_eq_true,decide_eq_true_eq] at ha hb
 refine ⟨fun m hm=>?_,fun s hs=>?_⟩
 ·unfold C6 at hm
  rcases List.mem_append.1 hm with hm | hm
  ·exact ⟨DF.2 ⟨a,by simp,m,hm,rfl⟩,ha.2 m hm⟩
  ·exact ⟨DF.2 ⟨b,by simp,m,hm,rfl⟩,hb.2 m hm⟩
 ·obtain ⟨c,hc,m,hm,rfl⟩:=DF.1 hs
  simp only [List.mem_cons,List.not_mem_nil,or_false] at hc
  rcases hc with rfl | rfl
  ·exact ⟨m,List.mem_append.2 (.inl hm),rfl⟩
  ·exact ⟨m,List.mem_append.2 (.inr hm),rfl⟩
theorem KS {a b:Au} (ha:Ar a=true) (hb:Ar b=true):((Bw a b (C6 a b)).all fun t=>!(a.acc t && !b.acc t))=IM a b:=by
 obtain ⟨h1,h2⟩:=Dh ha hb
 have hs2:=K5 ha hb
 have key:=fun j=>Si (a:=a) (b:=b) h1 h2 (Al ha) (Al hb) (j:=j)
 unfold IM
 rw [Bool.eq_iff_iff,List.all_eq_true,List.all_eq_true]
 constructor
 ·intro h j hj
  obtain ⟨t,ht,rfl⟩:=List.mem_map.1 ((key j).2 ((Hk hs2 (Al ha) (Al hb)).1 hj))
  exact h t ht
 ·intro h t ht
  exact h _ ((Hk hs2 (Al ha) (Al hb)).2 ((key _).1 (List.mem_map.2 ⟨t,ht,rfl⟩)))

open Go.RowKit
set_option maxRecDepth 100000
def DX:IR :=
 (.seq (.ops [.i 1 (.box 25 (.t 0)),.i 2 (.mov (.n 0)),.i 3 (.mov (.n 0))]) (.seq (.ops [.L 28 3 1,.i 29 (.call 34 [.t 28]),.m 4 29]) (.seq (.seq (.ops [.m 30 4,.i 31 (.bin .eql (.t 30) (.n 0))]) (.cond (.t 31) (.ops [.L 32 3 1,.i 33 (.buildSlice false 25 3 [.t 32]),.i 34 (.call 30 [.t 33]),.m 4 34]) .skip)) (.seq (.seq (.ops [.m 35 4,.i 36 (.bin .neq (.t 35) (.n 0))]) (.cond (.t 36) (.seq (.ops [.m 37 4,.i 2 (.mov (.n 0)),.m 3 37]) .ret) .skip)) (.seq (.ops [.L 38 3 1,.i 39 (.buildSlice false 25 3 [.t 38]),.i 40 (.call 32 [.t 39]),.m 5 40]) (.seq (.ops [.L 41 3 1,.i 42 (.build [.st (.int .i64 0),.full [],.full []] []),.m 43 5,.i 44 (.call 31 [.t 41,.t 42,.t 43]),.i 6 (.alloc 61 [.full []]),.s 1 6 44]) (.seq (.ops [.i 45 (.makeMap (some (Go.Proofs.Ytkegjgodjigjfaa.KK.int .u64))),.i 7 (.alloc 70 [.st (.lit (.map none))]),.s 1 7 45]) (.seq (.seq (.ops [.l 46 6,.i 47 (.len false (.t 46)),.i 48 (.mov (.n 0))]) (.block 0 (.loop (.seq (.ops [.i 49 (.bin .lss (.t 48) (.t 47))]) (.seq (.cond (.t 49) .skip (.exit 0)) (.seq (.block 1 (.seq (.ops [.m 50 48,.i 51 (.indexAddr 2 (.t 46) (.t 48)),.L 52 2 51,.i 9 (.alloc 67 [.st (.int .u64 0),.st (.int .u64 0)]),.m 8 50,.s 2 9 52]) (.ops [.l 53 7,.f 54 0 9,.l 55 54,.m 56 8,.mk none none (.mapSet (some (Go.Proofs.Ytkegjgodjigjfaa.KK.int .u64)) (.t 53) (.t 55) (.t 56)) .no]))) (.ops [.i 57 (.bin .add (.t 48) (.n 1)),.m 48 57]))))))) (.seq (.ops [.l 58 6,.i 59 (.len false (.t 58)),.i 60 (.makeSlice 3 1 8 [.int .i64 0] (.t 59) (.t 59)),.i 10 (.alloc 23 [.full []]),.s 1 10 60]) (.seq (.seq (.ops [.l 61 6,.i 62 (.len false (.t 61)),.i 63 (.mov (.n 0))]) (.block 2 (.loop (.seq (.ops [.i 64 (.bin .lss (.t 63) (.t 62))]) (.seq (.cond (.t 64) .skip (.exit 2)) (.seq (.block 3 (.seq (.ops [.m 65 63,.i 66 (.indexAddr 2 (.t 61) (.t 63)),.L 67 2 66,.i 12 (.alloc 67 [.st (.int .u64 0),.st (.int .u64 0)]),.m 11 65,.s 2 12 67]) (.seq (.ops [.f 68 0 12,.l 69 68,.L 70 3 1,.i 71 (.call 33 [.t 70]),.i 72 (.bits .and (.t 69) (.t 71)),.i 73 (.bin .neq (.t 72) (.c (.one (.st (.int .u64 0)))))]) (.cond (.t 73) (.ops [.l 74 10,.m 75 11,.i 76 (.indexAddr 1 (.t 74) (.t 75)),.mk none none (.store 1 (.t 76) (.n 1)) .no]) .skip)))) (.ops [.i 77 (.bin .add (.t 63) (.n 1)),.m 63 77]))))))) (.seq (.ops [.i 13 (.mov (.n 0))]) (.block 4 (.loop (.block 5 (.seq (.ops [.i 78 (.makeMap none),.m 14 78]) (.seq (.ops [.l 79 6,.i 80 (.len false (.t 79)),.i 81 (.makeSlice 3 1 8 [.int .i64 0] (.t 80) (.t 80)),.m 15 81]) (.seq (.seq (.ops [.l 82 6,.i 83 (.len false (.t 82)),.i 84 (.mov (.n 0))]) (.block 6 (.loop (.seq (.ops [.i 85 (.bin .lss (.t 84) (.t 83))]) (.seq (.cond (.t 85) .skip (.exit 6)) (.seq (.block 7 (.seq (.ops [.m 86 84,.i 16 (.alloc 3 [.st (.int .i64 0)]),.s 1 16 86]) (.seq (.ops [.l 87 10,.l 88 16,.i 89 (.indexAddr 1 (.t 87) (.t 88)),.l 90 89,.i 91 (.bin .add (.t 90) (.n 1)),.i 92 (.conv .i32 (.t 91)),.i 93 (.strOf true (.t 92)),.i 17 (.alloc 9 [.st (.str (ByteArray.mk (#[])))]),.s 1 17 93]) (.seq (.seq (.ops [.m 94 5,.i 95 (.len false (.t 94)),.i 96 (.mov (.n 0))]) (.block 8 (.loop (.seq (.ops [.i 97 (.bin .lss (.t 96) (.t 95))]) (.seq (.cond (.t 97) .skip (.exit 8)) (.seq (.block 9 (.seq (.ops [.i 98 (.indexAddr 2 (.t 94) (.t 96)),.L 99 2 98,.i 19 (.alloc 72 [.st (.str (ByteArray.mk (#[]))),.st (.int .i64 0)]),.s 2 19 99]) (.seq (.ops [.l 100 6,.i 101 (.len false (.t 100)),.f 102 1 19,.l 103 102,.i 104 (.call 35 [.t 101,.t 103])]) (.block 10 (.rangeF (.t 104) [105] (.ops [.m 20 105]) (.block 11 (.seq (.ops [.m 106 20,.i 107 (.len false (.t 106)),.i 108 (.mov (.n 0))]) (.block 12 (.loop (.seq (.ops [.i 109 (.bin .lss (.t 108) (.t 107))]) (.seq (.cond (.t 109) .skip (.exit 12)) (.seq (.block 13 (.seq (.ops [.m 110 108,.m 21 110]) (.seq (.ops [.m 111 20,.m 112 21,.i 113 (.indexAddr 1 (.t 111) (.t 112)),.l 114 113,.m 22 114]) (.seq (.ops [.m 115 20,.m 116 21,.l 117 16,.i 118 (.indexAddr 1 (.t 115) (.t 116)),.s 1 118 117]) (.seq (.ops [.i 23 (.mov (.c (.one (.full []))))]) (.seq (.seq (.ops [.m 119 20,.i 120 (.len false (.t 119)),.i 121 (.mov (.n 0))]) (.block 14 (.loop (.seq (.ops [.i 122 (.bin .lss (.t 121) (.t 120))]) (.seq (.cond (.t 122) .skip (.exit 14)) (.seq (.block 15 (.seq (.ops [.i 123 (.indexAddr 1 (.t 119) (.t 121)),.l 124 123,.m 25 124]) (.ops [.m 125 23,.l 126 6,.m 127 25,.i 128 (.indexAddr 2 (.t 126) (.t 127)),.f 129 0 128,.l 130 129,.i 131 (.buildFlat [.t 130]),.i 132 (.append false 65 1 8 (.t 125) (.t 131)),.m 23 132]))) (.ops [.i 133 (.bin .add (.t 121) (.n 1)),.m 121 133]))))))) (.seq (.ops [.l 134 17,.l 135 10,.l 136 7,.L 137 3 1,.f 138 0 19,.l 139 138,.m 140 23,.i 141 (.call 36 [.t 137,.t 139,.t 140]),.i 142 (.lookup (some (Go.Proofs.Ytkegjgodjigjfaa.KK.int .u64)) false (.one (.st (.int .i64 0))) (.t 136) (.t 141)),.i 143 (.indexAddr 1 (.t 135) (.t 142)),.l 144 143,.i 145 (.bin .add (.t 144) (.n 1)),.i 146 (.conv .i32 (.t 145)),.i 147 (.strOf true (.t 146)),.i 148 (.bin .add (.t 134) (.t 147)),.s 1 17 148]) (.ops [.m 149 20,.m 150 21,.m 151 22,.i 152 (.indexAddr 1 (.t 149) (.t 150)),.s 1 152 151])))))))) (.ops [.i 153 (.bin .add (.t 108) (.n 1)),.m 108 153]))))))))))))) (.ops [.i 154 (.bin .add (.t 96) (.n 1)),.m 96 154]))))))) (.seq (.seq (.ops [.m 156 14,.l 157 17,.i 158 (.lookup none true (.one (.st (.int .i64 0))) (.t 156) (.t 157)),.m 155 158,.i 159 (.extract 0 (.t 155)),.i 160 (.extract 1 (.t 155)),.m 26 159,.m 27 160]) (.seq (.ops [.m 161 27,.i 162 (.un .not (.t 161))]) (.cond (.t 162) (.ops [.m 163 14,.l 164 17,.m 165 14,.i 166 (.lenM (.t 165)),.mk none none (.mapSet none (.t 163) (.t 164) (.t 166)) .no]) .skip))) (.ops [.m 167 15,.l 168 16,.m 169 14,.l 170 17,.i 171 (.lookup none false (.one (.st (.int .i64 0))) (.t 169) (.t 170)),.i 172 (.indexAddr 1 (.t 167) (.t 168)),.s 1 172 171])))))) (.ops [.i 173 (.bin .add (.t 84) (.n 1)),.m 84 173]))))))) (.seq (.seq (.ops [.m 174 14,.i 175 (.lenM (.t 174)),.m 176 13,.i 177 (.bin .eql (.t 175) (.t 176))]) (.cond (.t 177) (.seq (.ops [.m 178 13,.m 2 178,.i 3 (.mov (.n 0))]) .ret) .skip)) (.ops [.m 179 14,.i 180 (.lenM (.t 179)),.m 181 15,.m 13 180,.s 1 10 181])))))))))))))))))))
theorem Es:OkF Try.prog 13 182 [] DX [.t 2,.t 3]:=.of Try.func13 rfl rfl (by kernel_rfl) rfl

def Gs:IR :=
 (.seq (.ops [.i 3 (.box 25 (.t 0)),.i 4 (.box 25 (.t 1)),.i 6 (.mov (.c (.one (.full []))))]) (.seq (.ops [.i 7 (.alloc 61 [.full []])]) (.seq (.ops [.i 18 (.makeMap (some (Go.Proofs.Ytkegjgodjigjfaa.KK.two (some .u64) (some .u64)))),.i 8 (.alloc 97 [.st (.lit (.map none))]),.s 1 8 18]) (.seq (.seq (.ops [.i 9 (.alloc 4 [.st (.bool false)]),.mk none none (.store 1 (.t 9) (.c (.one (.st (.bool true))))) .no]) (.block 0 (.loop (.seq (.seq (.ops [.l 19 9]) (.cond (.t 19) .skip (.exit 0))) (.seq (.block 1 (.seq (.ops [.mk none none (.store 1 (.t 9) (.c (.one (.st (.bool false))))) .no]) (.seq (.ops [.m 20 2,.i 21 (.len false (.t 20)),.i 22 (.mov (.n 0))]) (.block 2 (.loop (.seq (.ops [.i 23 (.bin .lss (.t 22) (.t 21))]) (.seq (.cond (.t 23) .skip (.exit 2)) (.seq (.block 3 (.seq (.ops [.i 24 (.indexAddr 2 (.t 20) (.t 22)),.L 25 2 24,.i 11 (.alloc 72 [.st (.str (ByteArray.mk (#[]))),.st (.int .i64 0)]),.s 2 11 25]) (.seq (.ops [.l 26 7,.i 27 (.len false (.t 26)),.f 28 1 11,.l 29 28,.i 30 (.call 35 [.t 27,.t 29])]) (.block 4 (.rangeF (.t 30) [31] (.ops [.m 12 31]) (.block 5 (.seq (.ops [.i 13 (.mov (.c (.one (.full [])))),.i 14 (.mov (.c (.one (.full []))))]) (.seq (.seq (.ops [.m 32 12,.i 33 (.len false (.t 32)),.i 34 (.mov (.n 0))]) (.block 6 (.loop (.seq (.ops [.i 35 (.bin .lss (.t 34) (.t 33))]) (.seq (.cond (.t 35) .skip (.exit 6)) (.seq (.block 7 (.seq (.ops [.i 36 (.indexAddr 1 (.t 32) (.t 34)),.l 37 36,.m 16 37]) (.ops [.m 38 13,.l 39 7,.m 40 16,.i 41 (.indexAddr 2 (.t 39) (.t 40)),.f 42 0 41,.l 43 42,.i 44 (.buildFlat [.t 43]),.mk (some 45) none (.append false 65 1 8 (.t 38) (.t 44)) (.keeps [1007,1500]),.m 46 14,.mk (some 47) none (.load false 1 (.t 7)) (.onb 1007),.m 48 16,.mk (some 49) none (.indexAddr 2 (.t 47) (.t 48)) (.onb 1500),.i 50 (.fieldL 1 (.t 49)),.i 51 (.loadL false 1 (.t 50)),.i 52 (.buildFlat [.t 51]),.i 53 (.append false 65 1 8 (.t 46) (.t 52)),.m 13 45,.m 14 53]))) (.ops [.i 54 (.bin .add (.t 34) (.n 1)),.m 34 54]))))))) (.seq (.ops [.L 55 3 3,.f 56 0 11,.l 57 56,.m 58 13,.i 59 (.call 36 [.t 55,.t 57,.t 58]),.L 60 3 4,.f 61 0 11,.l 62 61,.m 63 14,.i 64 (.call 36 [.t 60,.t 62,.t 63]),.i 65 (.build [.st (.int .u64 0),.st (.int .u64 0)] [(0,1,.t 59),(1,1,.t 64)]),.i 17 (.alloc 67 [.st (.int .u64 0),.st (.int .u64 0)]),.s 2 17 65]) (.seq (.ops [.l 66 8,.L 67 2 17,.i 68 (.lookup (some (Go.Proofs.Ytkegjgodjigjfaa.KK.two (some .u64) (some .u64))) false (.one (.st (.bool false))) (.t 66) (.t 67)),.i 69 (.un .not (.t 68))]) (.cond (.t 69) (.seq (.ops [.l 70 8,.L 71 2 17,.mk none none (.mapSet (some (Go.Proofs.Ytkegjgodjigjfaa.KK.two (some .u64) (some .u64))) (.t 70) (.t 71) (.c (.one (.st (.bool true))))) .no]) (.seq (.ops [.l 72 7,.L 73 2 17,.i 74 (.buildSlice false 67 2 [.t 73]),.i 75 (.append false 67 2 16 (.t 72) (.t 74)),.s 1 7 75]) (.ops [.mk none none (.store 1 (.t 9) (.c (.one (.st (.bool true))))) .no]))) .skip))))))))))) (.ops [.i 76 (.bin .add (.t 22) (.n 1)),.m 22 76]))))))))) (.seq (.ops [.l 77 9]) (.ops [.i 9 (.alloc 4 [.st (.bool false)]),.s 1 9 77]))))))) (.seq (.ops [.l 78 7,.m 6 78]) .ret)))))
theorem MB:OkF Try.prog 31 79 [10071007,10471500,60000050,60000051] Gs [.t 6]:=.of Try.func31 rfl rfl (by kernel_rfl) rfl
def HD:IR :=
 (.seq (.ops [.i 2 (.mov (.n 0))]) (.seq (.seq (.ops [.m 7 0,.i 8 (.len false (.t 7)),.i 9 (.mov (.n 0))]) (.block 0 (.loop (.seq (.ops [.i 10 (.bin .lss (.t 9) (.t 8))]) (.seq (.cond (.t 10) .skip (.exit 0)) (.seq (.block 1 (.seq (.ops [.i 11 (.indexAddr 3 (.t 7) (.t 9)),.L 12 3 11,.i 4 (.alloc 25 [.st (.int .i64 0),.full [],.full []]),.s 3 4 12]) (.seq (.seq (.ops [.f 13 0 4,.l 14 13,.i 15 (.bin .gtr (.t 14) (.n 3))]) (.cond (.t 15) (.seq (.ops [.i 2 (.mov (.n 3))]) .ret) .skip)) (.seq (.ops [.f 16 1 4,.l 17 16,.i 18 (.len false (.t 17)),.i 19 (.mov (.n 0))]) (.block 2 (.loop (.seq (.ops [.i 20 (.bin .lss (.t 19) (.t 18))]) (.seq (.cond (.t 20) .skip (.exit 2)) (.seq (.block 3 (.seq (.ops [.i 21 (.indexAddr 3 (.t 17) (.t 19)),.L 22 3 21,.i 6 (.alloc 46 [.st (.str (ByteArray.mk (#[]))),.full [],.st (.int .i64 0)]),.s 3 6 22]) (.seq (.ops [.f 23 1 6,.l 24 23,.i 25 (.len false (.t 24)),.i 26 (.bin .gtr (.t 25) (.n 2))]) (.cond (.t 26) (.seq (.ops [.i 2 (.mov (.n 3))]) .ret) .skip)))) (.ops [.i 27 (.bin .add (.t 19) (.n 1)),.m 19 27])))))))))) (.ops [.i 28 (.bin .add (.t 9) (.n 1)),.m 9 28]))))))) (.seq (.ops [.i 2 (.mov (.n 0))]) .ret)))
theorem L3:OkF Try.prog 30 29 [] HD [.t 2]:=.of Try.func30 rfl rfl (by kernel_rfl) rfl
def DA:IR :=
 (.seq (.ops [.i 2 (.box 25 (.t 0)),.i 3 (.box 25 (.t 1)),.i 4 (.mov (.c (.one (.st (.bool false))))),.i 5 (.mov (.n 0))]) (.seq (.seq (.ops [.L 10 3 2,.L 11 3 3,.i 12 (.call 29 [.t 10,.t 11]),.m 6 12]) (.seq (.ops [.m 13 6,.i 14 (.bin .neq (.t 13) (.n 0))]) (.cond (.t 14) (.seq (.ops [.m 15 6,.i 4 (.mov (.c (.one (.st (.bool false))))),.m 5 15]) .ret) .skip))) (.seq (.seq (.ops [.L 16 3 2,.L 17 3 3,.i 18 (.buildSlice false 25 3 [.t 16,.t 17]),.i 19 (.call 30 [.t 18]),.m 7 19]) (.seq (.ops [.m 20 7,.i 21 (.bin .neq (.t 20) (.n 0))]) (.cond (.t 21) (.seq (.ops [.m 22 7,.i 4 (.mov (.c (.one (.st (.bool false))))),.m 5 22]) .ret) .skip))) (.seq (.seq (.ops [.L 23 3 2,.L 24 3 3,.L 25 3 2,.L 26 3 3,.i 27 (.buildSlice false 25 3 [.t 25,.t 26]),.i 28 (.call 32 [.t 27]),.i 29 (.call 31 [.t 23,.t 24,.t 28]),.i 30 (.len false (.t 29)),.i 31 (.mov (.n 0))]) (.block 0 (.loop (.seq (.ops [.i 32 (.bin .lss (.t 31) (.t 30))]) (.seq (.cond (.t 32) .skip (.exit 0)) (.seq (.block 1 (.seq (.ops [.i 33 (.indexAddr 2 (.t 29) (.t 31)),.L 34 2 33,.i 9 (.alloc 67 [.st (.int .u64 0),.st (.int .u64 0)]),.s 2 9 34]) (.seq (.ops [.f 35 0 9,.l 36 35,.L 37 3 2,.i 38 (.call 33 [.t 37]),.i 39 (.bits .and (.t 36) (.t 38)),.i 40 (.bin .neq (.t 39) (.c (.one (.st (.int .u64 0))))),.m 41 40,.mk (some 42) (some (41,true)) (.fieldAddr 1 (.t 9)) .no,.mk (some 43) (some (41,true)) (.load false 1 (.t 42)) .no,.mk (some 44) (some (41,true)) (.load true 3 (.t 3)) .no,.mk (some 45) (some (41,true)) (.call 33 [.t 44]) .no,.mk (some 46) (some (41,true)) (.bits .and (.t 43) (.t 45)) .no,.mk (some 47) (some (41,true)) (.bin .eql (.t 46) (.c (.one (.st (.int .u64 0))))) .no,.i 48 (.pick (.t 41) (.t 47) (.c (.one (.st (.bool false)))))]) (.cond (.t 48) (.seq (.ops [.i 4 (.mov (.c (.one (.st (.bool false))))),.i 5 (.mov (.n 0))]) .ret) .skip)))) (.ops [.i 49 (.bin .add (.t 31) (.n 1)),.m 31 49]))))))) (.seq (.ops [.i 4 (.mov (.c (.one (.st (.bool true))))),.i 5 (.mov (.n 0))]) .ret)))))
theorem EO:OkF Try.prog 12 50 [] DA [.t 4,.t 5]:=.of Try.func12 rfl rfl (by kernel_rfl) rfl

set_option maxHeartbeats 400000
section
variable {P:Program} {C:Ctx} {a:Act} {w:World} {σ:Sto} {ι:As} {s:AS} {Q:Exit→Act→World→Prop} {o:Oper}
end
section
variable {P:Program} {C:Ctx} {mu:List Nat} {Q:AX→AS→Prop} {s:AS}
end

def Xh (P:Program) (f:FuncId) (caps:List AV) (Need:AB→Prop) {α:Type} (encs:α→List AV) (all:List α):Prop :=
 ∀ (y:Nat) (Inv:List α→AB→Prop) (Jx:AB→Prop) (T:AB),1000≤y→(∀ pre T,Inv pre T→Need T) →
  (∀ pre v,(pre ++ [v]) <+: all→∀ T,Inv pre T→Dw P (.one (.yld y)) (encs v) T fun r T'=>(r=.one (.st (.bool true))∧Inv (pre ++ [v]) T') ∨ (r=.one (.st (.bool false))∧Jx T')) →
  Inv [] T→GZ P f (.one (.yld y) :: caps) T fun _ T'=>Inv all T' ∨ Jx T'
def Jl (env:Nat→AV):List Nat→List AV→Nat→AV
 | p :: ps,v :: vs=>Jl (AD env p v) ps vs
 | _,_=>env
section
variable {σ:Sto} {S:AB} {ι:As}
theorem M9 {n:Nat}:∀ {ps:List Nat} {vs:List Value} {xs:List AV} {tmps:Array Value} {env:Nat→AV},Af (AT σ S ι) vs xs→n≤tmps.size→(∀ i,i < n→AT σ S ι (tmps.getD i undef) (env i)) →
  n≤((ps.zip vs).foldl (fun t (p,v)=>t.setIfInBounds p v) tmps).size∧∀ i,i < n→AT σ S ι (((ps.zip vs).foldl (fun t (p,v)=>t.setIfInBounds p v) tmps).getD i undef) (Jl env ps xs i)
 | [],vs,xs,tmps,env,h,hs,he=>⟨hs,he⟩
 | p :: ps,[],[],tmps,env,h,hs,he=>⟨hs,he⟩
 | p :: ps,v :: vs,x :: xs,tmps,env,h,hs,he=>by
  cases h with
  | cons h1 h2 =>
   refine M9 (ps:=ps) h2 (by simpa using hs) fun i hi=>?_
   unfold AD
   by_cases e:i=p
   ·subst e
    rw [if_pos rfl,Array.getD_eq_getD_getElem?,Array.getElem?_setIfInBounds_self_of_lt (by omega)]
    exact h1
   ·rw [if_neg e,Array.getD_eq_getD_getElem?,Array.getElem?_setIfInBounds_ne (fun h=>e h.symm),← Array.getD_eq_getD_getElem?]
    exact he i hi
end
section
variable {P:Program} {C:Ctx} {mu:List Nat} {Q:AX→AS→Prop} {s:AS} {x y:IR} {σ:Sto} {ι:As} {a:Act} {w:World}
theorem AR.upped (R:AR C σ ι s a w):∃ ι1:As,(∀ i,ι1 (up1 i)=ι i)∧FL σ (upS s.S) ι1 w∧(∀ v c,AT σ s.S ι v c→AT σ (upS s.S) ι1 v (c.ren up1)) ∧
  ∀ {Post:AV→AB→Prop} {e:Ending} {w':World},Ny σ (upS s.S) ι1 w Post e w'→∃ v r S' σ' ι2,e=.returned v∧Post r S'∧Am S'∧Upd s.S ι (dnS S') ι2∧AR C σ' ι2 ⟨s.env,dnS S'⟩ a w':=by
 have hup:∀ i,dn1 (up1 i)=i:=Jo
 have hS:∀ i b,s.S i=some b→upS s.S (up1 i)=some (b.ren up1):=fun i b hb=>Bk hb
 obtain ⟨ι1,hι1⟩:∃ ι1:As,∀ i,ι1 i=ι (dn1 i):=⟨fun i=>ι (dn1 i),fun _=>rfl⟩
 have hι:∀ i b,s.S i=some b→ι1 (up1 i)=ι i:=fun i b _=>by rw [hι1,hup]
 have hown:FL σ (upS s.S) ι1 w:=by
  refine ⟨fun id b hb=>?_,fun id id' b b' g h1 h2 g1 g2=>?_⟩
  ·obtain ⟨hle,b',h1,rfl⟩:=Ed hb
   have:=Bn.ren (S2:=upS s.S) (ι2:=ι1) (ρ:=up1) hS hι (R.blk _ _ h1)
   rw [hι1]
   exact this
  ·obtain ⟨l1,c1,k1,_⟩:=Ed h1
   obtain ⟨l2,c2,k2,_⟩:=Ed h2
   rw [hι1] at g1 g2
   have:=R.inj _ _ _ _ g k1 k2 g1 g2
   rw [← Lv l1,← Lv l2,this]
 refine ⟨ι1,fun i=>by rw [hι1,hup],hown,fun v c hv=>AT.ren (S2:=upS s.S) (ι2:=ι1) (ρ:=up1) hS hι hv,fun {Post e w'} he=>?_⟩
 obtain ⟨v,r,S',σ',ι',rfl,hP,hclean,hupd,hown',hv,hf',hkeep,hold,hos,hsz,hsame,hbase⟩:=he
 have hSd:∀ i b,S' i=some b→dnS S' (dn1 i)=some (b.ren dn1):=fun i b hb=>Hl (hclean i b hb).1 hb
 obtain ⟨ι2,hι2⟩:∃ ι2:As,∀ i,ι2 i=ι' (up1 i):=⟨fun i=>ι' (up1 i),fun _=>rfl⟩
 have hιd:∀ i b,S' i=some b→ι2 (dn1 i)=ι' i:=fun i b hb=>by
  rw [hι2,Lv (hclean i b hb).1]
 have hu:Upd s.S ι (dnS S') ι2:=fun id b hb=>by
  obtain ⟨b',h1,h2,h3⟩:=hupd _ _ (hS id b hb)
  have h4:=hSd _ _ h1
  rw [hup] at h4
  refine ⟨_,h4,by rw [Bm] at h2 ⊢;exact h2,fun hl=>?_⟩
  rw [Bm] at hl
  obtain ⟨q1,q2⟩:=h3 (by rw [Bm];exact hl)
  refine ⟨by rw [KJ] at q1 ⊢;exact q1,?_⟩
  rw [hι2,q2,hι1,hup]
 have hnot:∀ g,g < C.N→¬ C.G g→CE (upS s.S) ι1 g:=fun g h1 h2 id b hb hg=>by
  obtain ⟨_,b',k1,_⟩:=Ed hb
  rw [hι1] at hg
  rcases R.base _ _ g k1 hg with h | h
  ·omega
  ·exact h2 h
 refine ⟨v,r,S',σ',ι2,rfl,hP,hclean,hu,?_⟩
 refine ⟨R.size,fun i hi=>(R.env i hi).mono hkeep hu,R.nod.mono (fun D h=>(hsame D (Array.getElem?_eq_some_iff.1 h).1 (FR hown.1 h)).trans h),hf',fun id b hb=>?_,fun id id' b b' g h1 h2 g1 g2=>?_,fun id b g hb hg=>?_,fun p x hx=>hkeep _ _ (R.ext p x hx),fun p h1 h2=>?_,⟨hos.1.trans R.os.1,hos.2.1.trans R.os.2.1,hos.2.2.trans R.os.2.2⟩,⟨Nat.le_trans R.grown.1 hsz,Nat.le_trans R.grown.2 hsz⟩,fun g h1 h2=>?_,R.upd.trans hu⟩
 ·obtain ⟨b',h1,rfl⟩:=EW hb
  have:=Bn.ren (S2:=dnS S') (ι2:=ι2) (ρ:=dn1) hSd hιd (hown'.1 _ _ h1)
  rw [hι2]
  exact this
 ·obtain ⟨c1,k1,_⟩:=EW h1
  obtain ⟨c2,k2,_⟩:=EW h2
  rw [hι2] at g1 g2
  have:=congrArg dn1 (hown'.2 _ _ _ _ g k1 k2 g1 g2)
  rw [hup,hup] at this
  exact this
 ·obtain ⟨b',h1,_⟩:=EW hb
  rw [hι2] at hg
  rcases hbase _ _ g h1 hg with h2 | h2
  ·exact .inl (by have:=R.grown.1;omega)
  ·by_cases hN:g < C.N
   ·by_cases hG:C.G g
    ·exact .inr hG
    ·exact absurd (hnot g hN hG) h2
   ·exact .inl (by omega)
 ·exact (hold p (by have:=R.grown.1;omega) (hnot _ h1 h2)).trans (R.old p h1 h2)
 ·exact (hsame g (by have:=R.grown.1;omega) (hnot g h1 h2)).trans (R.same g h1 h2)
theorem AR.setLoop (R:AR C σ ι s a w) {id l:Nat} {env:List AV} {r:Loop} (r':Loop) (hS:s.S id=some (.loop env r)) (hl:(ι id).g=some l) (hr:r'.tmps=r.tmps):w.heap[l]?=some (.loop r)∧∃ ι',AR C σ ι' (s.set id (.loop env r')) a (w.putObj l (.loop r'))∧Upd s.S ι (s.set id (.loop env r')).S ι':=by
 have hb:=R.blk id _ hS
 cases hb with
 | loop h1 h2 h3 h4 h5 =>
  rw [hl] at h1
  cases h1
  exact ⟨h2,R.setBlk (o':=.loop r') hS hl h2 h5 rfl rfl fun S' ι' hu=>.loop hl (C8 h2).1 (by rw [hr];exact h3) (fun j a ha=>by rw [hr];exact (h4 j a ha).mono (fun _ _ h=>h) hu) h5⟩
def OQ (C:Ctx) (y:Nat) (b:AL) (N:AB→Prop) (Jx:AX→AB→Prop) (e:AX) (s:AS):Prop:=∃ s2 U,Ad C s s2∧s2.S=AD U y (some b)∧Am s2.S∧U y=none∧match e with
 | .normal=>N U
 | .ret=>Jx .ret U
 | .exit i=>Jx (.exit i) U
 | .pan _=>False
theorem FP {C:Ctx} {σ0:Sto} {T:AB} {ι0:As} {w0:World} (hC:C.N=w0.heap.size) (hw:C.w0=w0) (hσ:C.σ0=σ0) (hG:∀ g,C.G g ↔ ¬ CE T ι0 g) (hS0:C.S0=T) (hι0:C.ι0=ι0) (R:AR C σ ι s a w) (hc:Am s.S) {Post:AV→AB→Prop} {b:Bool} (hP:Post (.one (.st (.bool b))) s.S):Ny σ0 T ι0 w0 Post (.returned (.bool b)) w:=by
 have hupd:=R.upd
 rw [hS0,hι0] at hupd
 subst hσ hw
 exact ⟨.bool b,_,s.S,σ,ι,rfl,hP,hc,hupd,⟨R.blk,R.inj⟩,.one (.st .bool),R.fit,R.ext,fun p h1 h2=>R.old p (by rw [hC];exact h1) (fun h=>(hG _).1 h h2),R.os,R.grown.2,fun g h1 h2=>R.same g (by rw [hC];exact h1) (fun h=>(hG _).1 h h2),fun id b g h1 h2=>(R.base id b g h1 h2).imp (fun h=>by rw [← hC];exact h) fun h=>(hG _).1 h⟩
theorem Iw {S:AB} {i:Nat} {b c:Option AL}:AD (AD S i b) i c=AD S i c:=by
 funext j
 unfold AD
 split <;> rfl
inductive Vk:Code→AX→Prop
 | ret:Vk .ret .ret
 | exit (i:Nat):Vk (.exit i) (.exit i)
theorem OY {fn:FuncId} {ps:Array Tmp} {ca cb:Code} {D:Nat} {n:Nat} {env:List AV} {tmps:Array Value} (hx:BE P n mu ca=some x) (hy:BE P n mu cb=some y) (hn:env.length=n) {yb:Nat} (hyb:1000≤yb) {rec:LoopState→Option Code→Loop} (hrec:rec=fun st pe=>{ state:=st,pending:=pe,fn,tmps,params:=ps,assign:=ca,body:=cb,defers:=D }) {vs:List AV} (hps:vs.length=ps.size)
  {U:AB} (hU:U yb=none) {N:AB→Prop} {Jx:AX→AB→Prop}
  (h:Am (AD U yb (some (.loop env (rec .ready none))))→∀ C':Ctx,C'.n=n→IWP P C' mu x (AX.then (fun s1=>s1.S yb=some (.loop env (rec .ready none))∧IWP P C' mu y (OQ C' yb (.loop env (rec .busy none)) N Jx) (s1.set yb (.loop env (rec .busy none)))) fun _ _=>False) ⟨Jl (fun i=>(env[i]?).getD .any) ps.toList vs,AD U yb (some (.loop env (rec .ready none)))⟩) :
  Dw P (.one (.yld yb)) vs (AD U yb (some (.loop env (rec .ready none)))) fun r T'=>(r=.one (.st (.bool true))∧∃ U',T'=AD U' yb (some (.loop env (rec .ready none)))∧U' yb=none∧N U') ∨
   (r=.one (.st (.bool false))∧∃ U' c e,T'=AD U' yb (some (.loop env (rec .done (some c))))∧U' yb=none∧Vk c e∧Jx e U'):=by
 intro hclean σ w vy xs ι hglob hfit hown hvy hxs
 obtain ⟨T,hT⟩:∃ T,AD U yb (some (.loop env (rec .ready none)))=T:=⟨_,rfl⟩
 have hTy:T yb=some (.loop env (rec .ready none)):=by rw [← hT];exact AG _ _ _
 rw [hT] at hclean hown hvy hxs h ⊢
 have hhigh:=(hclean _ _ hTy).2
 have hb:=hown.1 _ _ hTy
 obtain ⟨l,hl,rfl⟩:∃ l,(ι yb).g=some l∧vy=.func (.yield l) #[] #[]:=by
  cases hvy with
  | one hv =>
   cases hv with
   | yld k1 k2 k3 k4 =>
    rw [hTy] at k1
    cases k1
    exact k4 rfl
 have hlen:=hxs.len
 cases hb with
 | loop k1 k2 k3 k4 k5 =>
 rw [hl] at k1
 cases k1
 have htm:(rec .ready none).tmps=tmps:=by rw [hrec]
 refine ⟨l,rfl,fun ro=>⟨fn,_,ca,cb,by
  have:=run_yield (P:=P) (args:=xs.toArray) k2 (by rw [hrec];simp;omega)
  rw [hrec] at this
  exact this,?_⟩⟩
 let C':Ctx:=⟨n,w.heap.size,fun g=>¬ CE T ι g,σ,w,T,ι,hclean,hglob,[],some l,false⟩
 have hset:=M9 (σ:=σ) (S:=T) (ι:=ι) (n:=n) (ps:=ps.toList) (env:=fun i=>(env[i]?).getD .any) (tmps:=tmps) hxs (by rw [htm] at k3;omega) fun i hi=>by
  have hi':i < env.length:=by omega
  have:=k4 i _ (List.getElem?_eq_getElem hi')
  rw [htm] at this
  simpa [hi'] using this
 have hfold:(ps.zip xs.toArray).foldl (fun t (p,v)=>t.setIfInBounds p v) tmps=(ps.toList.zip xs).foldl (fun t (p,v)=>t.setIfInBounds p v) tmps:=by
  rw [← Array.foldl_toList,Array.toList_zip]
 have R0:AR C' σ ι ⟨Jl (fun i=>(env[i]?).getD .any) ps.toList vs,T⟩ { tmps:=(ps.zip xs.toArray).foldl (fun t (p,v)=>t.setIfInBounds p v) tmps,defers:=[] } w:=by
  refine ⟨?_,fun i hi=>?_,E8,hfit,hown.1,hown.2,fun id b g h hg=>.inr (fun hno=>hno id b h hg),fun _ _ h=>h,fun _ _ _=>rfl,⟨rfl,rfl,rfl⟩,⟨Nat.le_refl _,Nat.le_refl _⟩,fun _ _ _=>rfl,Upd.refl _ _⟩
  ·dsimp only
   rw [hfold]
   exact hset.1
  ·dsimp only
   rw [hfold]
   exact hset.2 i hi
 refine roundIn_of_wpIn (F:=fen ro) (n:=0) trivial (wpIn_mono (h hclean C' rfl ca hx _ w ⟨σ,ι,R0⟩) fun e a1 w1 he=>?_)
 have same:∀ {σ1:Sto} {ι1:As} {s1:AS} {a1:Act} {w1:World} {b:AL},AR C' σ1 ι1 s1 a1 w1→s1.S yb=some b→b.len=1→(ι1 yb).g=some l:=fun R1 hs hl1=>by
  obtain ⟨b',h1,h2,h3⟩:=R1.upd yb _ hTy
  rw [hs] at h1
  cases h1
  rw [(h3 hl1).2]
  exact hl
 cases e with
 | normal =>
  obtain ⟨s1,⟨h1,h2⟩,σ1,ι1,R1⟩:=he
  obtain ⟨q1,ι2,R2,_⟩:=R1.setLoop (rec .busy none) h1 (same R1 h1 rfl) (by rw [hrec])
  refine ⟨_,by
   have:=run_beginRound (P:=P) q1 (by rw [hrec])
   rw [hrec] at this
   exact this,?_⟩
  have e1:(w1.putObj l (.loop (rec .busy none)))=w1.putObj l (.loop { state:=.busy,pending:=none,fn,tmps,params:=ps,assign:=ca,body:=cb,defers:=D }):=by rw [hrec]
  rw [← e1]
  refine wpIn_mono (h2 cb hy _ _ ⟨σ1,ι2,R2⟩) fun e3 a3 w3 he3=>?_
  have fin:∀ (jump:Option Code) (s3 s4:AS) (U2:AB),Ad C' s3 s4→s4.S=AD U2 yb (some (.loop env (rec .busy none)))→Am s4.S→BD C' s3 a3 w3 →
    ∃ σ5 ι5 s5,(Instr.endRound l jump).run P w3=.ok (.bool jump.isNone) (w3.putObj l (.loop (rec (if jump.isNone then .ready else .done) jump)))∧s5.S=AD U2 yb (some (.loop env (rec (if jump.isNone then .ready else .done) jump)))∧Am s5.S∧AR C' σ5 ι5 s5 a3 (w3.putObj l (.loop (rec (if jump.isNone then .ready else .done) jump))):=fun jump s3 s4 U2 hg hS hc hH=>by
   obtain ⟨σ4,ι4,R4⟩:=hg _ _ hH
   have h4:s4.S yb=some (.loop env (rec .busy none)):=by rw [hS];exact AG _ _ _
   obtain ⟨q2,ι5,R5,_⟩:=R4.setLoop (rec (if jump.isNone then .ready else .done) jump) h4 (same R4 h4 rfl) (by rw [hrec])
   refine ⟨σ4,ι5,_,?_,?_,?_,R5⟩
   ·have:=run_endRound (P:=P) jump q2
    rw [hrec] at this ⊢
    exact this
   ·show AD s4.S yb _=_
    rw [hS,Iw]
   ·exact Aq hc hyb hhigh
  cases e3 with
  | normal =>
   obtain ⟨s3,⟨s4,U2,g1,g2,g3,g4,g5⟩,hH⟩:=he3
   obtain ⟨σ5,ι5,s5,f1,f2,f3,R5⟩:=fin none s3 s4 U2 g1 g2 g3 hH
   exact ⟨_,_,f1,FP (C:=C') rfl rfl rfl (fun g=>Iff.rfl) rfl rfl R5 f3 (.inl ⟨rfl,U2,f2,g4,g5⟩)⟩
  | ret =>
   obtain ⟨s3,⟨s4,U2,g1,g2,g3,g4,g5⟩,hH⟩:=he3
   obtain ⟨σ5,ι5,s5,f1,f2,f3,R5⟩:=fin (some .ret) s3 s4 U2 g1 g2 g3 hH
   exact ⟨_,_,f1,FP (C:=C') rfl rfl rfl (fun g=>Iff.rfl) rfl rfl R5 f3 (.inr ⟨rfl,U2,_,_,f2,g4,.ret,g5⟩)⟩
  | exit i =>
   obtain ⟨s3,⟨s4,U2,g1,g2,g3,g4,g5⟩,hH⟩:=he3
   obtain ⟨σ5,ι5,s5,f1,f2,f3,R5⟩:=fin (some (.exit i)) s3 s4 U2 g1 g2 g3 hH
   exact ⟨_,_,f1,FP (C:=C') rfl rfl rfl (fun g=>Iff.rfl) rfl rfl R5 f3 (.inr ⟨rfl,U2,_,_,f2,g4,.exit i,g5⟩)⟩
  | panic ch=>obtain ⟨s3,v,⟨⟨s4,U2,g1,g2,g3,g4,g5⟩,_⟩,_⟩:=he3;exact g5.elim
  | _=>exact he3.elim
 | panic ch=>obtain ⟨s1,v,h1,h2⟩:=he;exact h1.1.elim
 | ret=>obtain ⟨s1,h1,h2⟩:=he;exact h1.elim
 | exit i=>obtain ⟨s1,h1,h2⟩:=he;exact h1.elim
 | _=>exact he.elim
def BW (n:Nat) (env:Nat→AV):List AV:=(List.range n).map env
theorem Gk {n:Nat} {env:Nat→AV}:(BW n env).length=n:=by simp [BW]
theorem QQ {n i:Nat} {env:Nat→AV} {a:AV} (h:(BW n env)[i]?=some a):i < n∧a=env i:=by
 unfold BW at h
 rw [List.getElem?_map,Option.map_eq_some_iff] at h
 obtain ⟨j,h1,h2⟩:=h
 obtain ⟨h3,h4⟩:=List.getElem?_eq_some_iff.1 h1
 simp at h3 h4
 subst h4
 exact ⟨h3,h2.symm⟩
theorem G9 {n:Nat} {c:Code} {g:Opd} {ps:List Nat} (h:BE P n mu c=some (.rangeF g ps x y)):∃ g' ps' ca cb,c=.rangeFunc g' ps' ca cb∧AO n g'=some g∧ps'.toList=ps∧BE P n mu ca=some x∧BE P n mu cb=some y:=by
 cases c <;> simp only [BE] at h
 case rangeFunc g' ps' ca cb =>
  split at h
  ·rename_i e1 e2 e3
   split at h
   ·cases h
    exact ⟨_,_,_,_,rfl,e1,rfl,e2,e3⟩
   ·cases h
  ·cases h
 all_goals (exfalso;revert h;(repeat' split) <;> simp)
theorem SJ {U:AB} {id:Nat} {b c:Option AL}:AD (dnS (AD U (up1 id) b)) id c=AD (dnS U) id c:=by
 funext j
 unfold AD
 by_cases e:j=id
 ·rw [if_pos e,if_pos e]
 ·rw [if_neg e,if_neg e]
  show (if j + 1000=up1 id then b else U (j + 1000)).map (AL.ren dn1)=(U (j + 1000)).map (AL.ren dn1)
  rw [if_neg (show ¬ j + 1000=up1 id by unfold up1;omega)]
theorem DG {U:AB} {i:Nat} {b:AL} (h:Am (AD U i (some b))) (hU:U i=none):Am U:=fun j c hc=>h j c (by
 rw [AF _ (fun e=>by rw [e,hU] at hc;cases hc)]
 exact hc)
def CI (n:Nat) (env:Nat→AV):Nat→AV:=fun i=>if i < n then (env i).ren up1 else .any
theorem PX {n:Nat} {env:Nat→AV}:(fun i=>((AV.rens up1 (BW n env))[i]?).getD .any)=CI n env:=by
 funext i
 unfold CI BW
 rw [AV.rens_eq,List.map_map,List.getElem?_map]
 by_cases h:i < n
 ·rw [if_pos h,List.getElem?_range h]
  rfl
 ·rw [if_neg h,List.getElem?_eq_none (by simp;omega)]
  rfl
theorem IWP.rangeF {g:Opd} {ps:List Nat} (htop:C.Top) (id:Nat) (hid:id < 1000) (hfree:s.S id=none) {f:Nat} {caps:List AC} (hg:s.ev g=.one (.fn f caps)) (hpl:Cn P f=true) {α:Type} {encs:α→List AV} {all:List α} {Need:AB→Prop} (hit:Xh P f (AV.rens up1 (caps.map .one)) Need encs all)
  (hlen:∀ v,(encs v).length=ps.length) (Inv:List α→AB→Prop) (Jx:AX→AB→Prop) (h0:Inv [] (upS s.S)) (hneed:∀ pre U b,Inv pre U→U (up1 id)=none→Need (AD U (up1 id) (some b)))
  (hbody:∀ (C':Ctx) (b0 b1:AL) (pre:List α) (v:α) (U:AB),C'.n=C.n→(pre ++ [v]) <+: all→Inv pre U→U (up1 id)=none→Am U→b1.high=true →
   IWP P C' mu x (AX.then (fun s1=>s1.S (up1 id)=some b0∧IWP P C' mu y (OQ C' (up1 id) b1 (Inv (pre ++ [v])) Jx) (s1.set (up1 id) b1)) fun _ _=>False) ⟨Jl (CI C.n s.env) ps (encs v),AD U (up1 id) (some b0)⟩)
  (hdone:∀ U,Inv all U→Q .normal ⟨s.env,AD (dnS U) id (some (.dead 1 0))⟩) (hjump:∀ e U,Jx e U→Q e ⟨s.env,AD (dnS U) id (some (.dead 1 0))⟩):IWP P C mu (.rangeF g ps x y) Q s:=fun c hc a w hH=>by
 obtain ⟨g',ps',ca,cb,rfl,hg',rfl,hx,hy⟩:=G9 hc
 obtain ⟨σ,ι,R⟩:=hH
 have rg:=R.ev hg'
 rw [hg] at rg
 replace rg:=AW rg
 generalize hev:a.eval g'=fv at rg
 cases rg with
 | @fn _ vc _ cc g1 g2 g3 =>
 refine wpIn_rangeFunc fun fn hfn=>?_
 obtain ⟨rec,hrec⟩:∃ rec:LoopState→Option Code→Loop,rec=fun st pe=>{ state:=st,pending:=pe,fn,tmps:=a.tmps,params:=ps',assign:=ca,body:=cb,defers:=w.heap.size }:=⟨_,rfl⟩
 obtain ⟨w1,hw1⟩:∃ w1,(w.alloc (.deferred (some []))).alloc (.loop (rec .ready none))=w1:=⟨_,rfl⟩
 have hsz:(w.alloc (.deferred (some []))).heap.size=w.heap.size + 1:=World.size_alloc _ _
 have R1:AR C σ ι s { a with defers:=MM w.heap.size :: a.defers } (w.alloc (.deferred (some []))):=by
  have R':=R.more (w':=w.alloc (.deferred (some []))) (Ext.refl _ _) (R.fit.alloc _) (Du.alloc _ _)
  refine { R' with nod:=?_ }
  obtain ⟨l,h1,h2,h3,_⟩:=R.nod
  refine ⟨w.heap.size :: l,by show _ :: a.defers=_;rw [h1];rfl,List.nodup_cons.2 ⟨fun hm=>?_,h2⟩,fun D hD=>?_,fun hm=>by rw [htop.2] at hm;cases hm⟩
  ·have:=(Array.getElem?_eq_some_iff.1 (h3 _ hm).2).1
   omega
  ·rcases List.mem_cons.1 hD with rfl | hD
   ·exact ⟨R.grown.1,World.alloc_heap_new w _⟩
   ·exact ⟨(h3 D hD).1,(Below.heap_alloc _ _ _ (Array.getElem?_eq_some_iff.1 (h3 D hD).2).1).trans (h3 D hD).2⟩
 have hsize:=R.size
 obtain ⟨hu2,R2⟩:=R1.fresh (w':=w1) hfree (.loop (BW C.n s.env) (rec .ready none)) ⟨none,0,some (w.heap.size + 1)⟩ (Ext.refl _ _) (by rw [← hw1];exact R1.fit.alloc _) (by rw [← hw1];exact Du.alloc _ _) (fun g hg=>by cases hg;omega) (fun S' ι' hu=>.loop (g:=w.heap.size + 1) rfl (by rw [← hw1,← hsz];exact World.alloc_heap_new _ _) (by rw [Gk,hrec];exact hsize) (fun j b hb=>by
   obtain ⟨hj,rfl⟩:=QQ hb
   rw [hrec]
   exact (R.env j hj).mono (fun _ _ h=>h) hu) (fun p hp=>R1.fit.no (by rw [hsz];omega)))
 have hl2:(AD ι id (⟨none,0,some (w.heap.size + 1)⟩:Hnd) id).g=some (w.heap.size + 1):=by rw [AG]
 generalize AD ι id (⟨none,0,some (w.heap.size + 1)⟩:Hnd)=ι2 at R2 hl2 hu2
 obtain ⟨ι3,hι3,hown,hren,hend⟩:=R2.upped
 have hargs:Af (AT σ (upS (s.set id (.loop (BW C.n s.env) (rec .ready none))).S) ι3) (.func (.yield (w.heap.size + 1)) #[] #[] :: vc.toList) (.one (.yld (up1 id)) :: AV.rens up1 (caps.map .one)):=by
  have hS2:(s.set id (.loop (BW C.n s.env) (rec .ready none))).S id=some (.loop (BW C.n s.env) (rec .ready none)):=AG _ _ _
  refine .cons (hren _ _ (.one (.yld hS2 (Nat.le_refl _) rfl fun _=>⟨_,hl2,rfl⟩))) ?_
  rw [AV.rens_eq]
  refine (Af.mono (fun v c h=>hren v c h) ?_).map_right
  refine (Af.of_get (R:=fun v c=>AT σ (s.set id (.loop (BW C.n s.env) (rec .ready none))).S ι2 v (.one c)) (by simpa using g1) fun j v b hv hb=>?_).map_right
  have e:=g2 j b hb
  have e2:vc.toList[j]?=some (cc j):=by simpa using e
  rw [hv] at e2
  cases e2
  exact .one ((g3 j b hb).mono (fun _ _ h=>h) hu2)
 have hcl:=E_ (s.set id (.loop (BW C.n s.env) (rec .ready none))).S
 have hTeq:upS (s.set id (.loop (BW C.n s.env) (rec .ready none))).S=AD (upS s.S) (up1 id) (some (.loop (AV.rens up1 (BW C.n s.env)) (rec .ready none))):=ST _ _ _
 have hcall:=hit (up1 id) (fun pre T=>∃ U,T=AD U (up1 id) (some (.loop (AV.rens up1 (BW C.n s.env)) (rec .ready none)))∧U (up1 id)=none∧Inv pre U)
  (fun T=>∃ U c e,T=AD U (up1 id) (some (.loop (AV.rens up1 (BW C.n s.env)) (rec .done (some c))))∧U (up1 id)=none∧Vk c e∧Jx e U)
  _ (Ba id) (fun pre T hT=>by
   obtain ⟨U,rfl,hU,hI⟩:=hT
   exact hneed pre U _ hI hU) (fun pre v hpre T hT=>by
   obtain ⟨U,rfl,hU,hI⟩:=hT
   exact OY hx hy (by rw [AV.rens_eq,List.length_map,Gk]) (Ba id) hrec (by rw [hlen];simp) hU fun hc C' hC'=>by
    rw [PX]
    exact hbody C' _ (.loop (AV.rens up1 (BW C.n s.env)) (rec .busy none)) pre v U hC' hpre hI hU (DG hc hU) (AV.rens_high _))
  ⟨_,hTeq,by rw [Bl,hfree];rfl,h0⟩ hcl σ w1 _ ι3 (C.glob.mono R.ext) R2.fit hown hargs
 refine ⟨w.heap.size + 1,[MM w.heap.size],w1,{ target:=.fn (.func f) vc,args:=#[.func (.yield (w.heap.size + 1)) #[] #[]] },w1,f,#[.func (.yield (w.heap.size + 1)) #[] #[]] ++ vc,w1,?_,?_,fun _ _=>trivial,?_,fun h=>by simp [fen,Fence.wide] at h,?_⟩
 ·have hr:(fen C.ro).round=none:=htop.1
  rw [hr,← hw1,hrec]
  exact run_enterLoop_outer _ _ _ _ _
 ·simp only [resolve,hev]
  simp [go_sem]
 ·have:=DN (P:=P) (w:=w1) (args:=#[.func (.yield (w.heap.size + 1)) #[] #[]] ++ vc) hpl
  simp [invoke,go_sem,this]
 ·have he0:(Value.func (.yield (w.heap.size + 1)) #[] #[] :: vc.toList).toArray=#[.func (.yield (w.heap.size + 1)) #[] #[]] ++ vc:=by
   apply Array.ext'
   simp
  rw [he0] at hcall
  refine F5 (hcall.mono fun e w2 he=>?_)
  obtain ⟨v,r,S',σ',ι4,rfl,hP,hS',hu4,R4⟩:=hend he
  have hl4:∀ {b:AL},dnS S' id=some b→b.len=1→(ι4 id).g=some (w.heap.size + 1):=fun hb hb1=>by
   obtain ⟨b',h1,h2,h3⟩:=hu4 id _ (show (s.set id (.loop (BW C.n s.env) (rec .ready none))).S id=some _ from AG _ _ _)
   rw [hb] at h1
   cases h1
   rw [(h3 hb1).2]
   exact hl2
  have fin:∀ (U:AB) (env:List AV) (st:LoopState) (pe:Option Code),st ≠ .busy→S'=AD U (up1 id) (some (.loop env (rec st pe)))→∃ w3,(Instr.endLoop (w.heap.size + 1)).run P w2=.ok pe w3∧BD C ⟨s.env,AD (dnS U) id (some (.dead 1 0))⟩ { a with defers:=MM w.heap.size :: a.defers } w3:=fun U env st pe hst hS=>by
   have hb:dnS S' id=some (.loop (AV.rens dn1 env) (rec st pe)):=by
    have:=Hl (Ba id) (show S' (up1 id)=some (.loop env (rec st pe)) by rw [hS];exact AG _ _ _)
    rw [Jo] at this
    exact this
   have hg4:=hl4 hb rfl
   cases hbr:R4.blk id _ hb with
   | loop k1 k2 k3 k4 k5 =>
    rw [hg4] at k1
    cases k1
    obtain ⟨ι5,R5,_⟩:=R4.setBlk (b':=.dead 1 0) (o':=.loop { rec st pe with state:=.exhausted }) hb hg4 k2 k5 rfl rfl fun S'' ι'' hu=>.dead fun g' hg'=>by
     rw [hg4] at hg'
     cases hg'
     exact ⟨_,(C8 k2).1,rfl⟩
    refine ⟨w2.putObj (w.heap.size + 1) (.loop { rec st pe with state:=.exhausted }),?_,σ',ι5,?_⟩
    ·have:=run_endLoop (P:=P) k2 (by rw [hrec];exact hst)
     rw [hrec] at this ⊢
     exact this
    ·have e5:(AS.set ⟨(s.set id (.loop (BW C.n s.env) (rec .ready none))).env,dnS S'⟩ id (.dead 1 0))=⟨s.env,AD (dnS U) id (some (.dead 1 0))⟩:=by
      show AS.mk s.env (AD (dnS S') id _)=_
      rw [hS,SJ]
     rw [← e5]
     exact R5
  rcases hP with ⟨U,h1,h2,h3⟩ | ⟨U,c,e,h1,h2,h3,h4⟩
  ·obtain ⟨w3,f1,f2⟩:=fin U _ .ready none (by simp) h1
   exact ⟨none,w3,f1,_,hdone U h3,f2⟩
  ·obtain ⟨w3,f1,f2⟩:=fin U _ .done (some c) (by simp) h1
   refine ⟨some c,w3,f1,?_⟩
   cases h3 with
   | ret=>exact wpIn_ret ⟨_,hjump _ U h4,f2⟩
   | exit i=>exact wpIn_exit ⟨_,hjump _ U h4,f2⟩
end

theorem AR.move {C:Ctx} {σ:Sto} {ι:As} {s:AS} {a:Act} {w:World} (R:AR C σ ι s a w) {id nid N wd:Nat} {b b':AL} {h':Hnd} (hid:s.S id=some b) (hn:s.S nid=none) (hN:b.len < N) (hg:∀ g,h'.g=some g→(ι id).g=some g) (hb':∀ S' ι',Bn σ S' ι' w h' b') :
  Upd s.S ι (AD (AD s.S id (some (.dead N wd))) nid (some b')) (AD (AD ι id ⟨none,0,none⟩) nid h')∧AR C σ (AD (AD ι id ⟨none,0,none⟩) nid h') ⟨s.env,AD (AD s.S id (some (.dead N wd))) nid (some b')⟩ a w:=by
 have n1:nid ≠ id:=fun e=>by subst e;rw [hid] at hn;cases hn
 obtain ⟨S2,hS2⟩:∃ S2,AD (AD s.S id (some (.dead N wd))) nid (some b')=S2:=⟨_,rfl⟩
 obtain ⟨ι2,hι2⟩:∃ ι2:As,AD (AD ι id ⟨none,0,none⟩) nid h'=ι2:=⟨_,rfl⟩
 rw [hS2,hι2]
 have sn:S2 nid=some b':=by rw [← hS2,AG]
 have si:S2 id=some (.dead N wd):=by rw [← hS2,AF _ n1.symm,AG]
 have so:∀ i,i ≠ nid→i ≠ id→S2 i=s.S i:=fun i h2 h3=>by rw [← hS2,AF _ h2,AF _ h3]
 have ιn:ι2 nid=h':=by rw [← hι2,AG]
 have ιi:ι2 id=⟨none,0,none⟩:=by rw [← hι2,AF _ n1.symm,AG]
 have ιo:∀ i,i ≠ nid→i ≠ id→ι2 i=ι i:=fun i h2 h3=>by rw [← hι2,AF _ h2,AF _ h3]
 have hu:Upd s.S ι S2 ι2:=fun i b h=>by
  by_cases e2:i=id
  ·subst e2
   rw [hid] at h
   cases h
   exact ⟨_,si,Nat.le_of_lt hN,fun hl=>absurd (show N=_ from hl) (by omega)⟩
  ·have e3:i ≠ nid:=fun e3=>by subst e3;rw [hn] at h;cases h
   exact ⟨b,(so i e3 e2).trans h,Nat.le_refl _,fun _=>⟨rfl,ιo i e3 e2⟩⟩
 have old:∀ i b,S2 i=some b→∀ g,(ι2 i).g=some g→∃ i' b',s.S i'=some b'∧(ι i').g=some g∧(i=nid∧i'=id ∨ i'=i∧i ≠ nid∧i ≠ id):=fun i b h g hg1=>by
  by_cases e2:i=id
  ·subst e2
   rw [ιi] at hg1
   cases hg1
  ·by_cases e3:i=nid
   ·subst e3
    rw [ιn] at hg1
    exact ⟨id,_,hid,hg g hg1,.inl ⟨rfl,rfl⟩⟩
   ·rw [ιo i e3 e2] at hg1
    exact ⟨i,b,(so i e3 e2).symm.trans h,hg1,.inr ⟨rfl,e3,e2⟩⟩
 refine ⟨hu,R.size,fun i hi=>(R.env i hi).mono (fun _ _ h=>h) hu,R.nod,R.fit,fun i b h=>?_,fun i i' b b' g h1 h2 g1 g2=>?_,fun i b g h hg1=>?_,R.ext,R.old,R.os,R.grown,R.same,R.upd.trans hu⟩
 ·change S2 i=some b at h
  by_cases e2:i=id
  ·subst e2
   rw [si] at h
   cases h
   rw [ιi]
   exact .dead fun g hg=>by cases hg
  ·by_cases e3:i=nid
   ·subst e3
    rw [sn] at h
    cases h
    rw [ιn]
    exact hb' _ _
   ·rw [ιo i e3 e2]
    exact (R.blk i b ((so i e3 e2).symm.trans h)).mono (fun _ _ h=>h) hu (fun _ _=>rfl) (fun _ _ _ _=>rfl)
 ·obtain ⟨j1,c1,k1,k2,k3⟩:=old i b h1 g g1
  obtain ⟨j2,c2,l1,l2,l3⟩:=old i' b' h2 g g2
  have:=R.inj _ _ _ _ g k1 l1 k2 l2
  rcases k3 with ⟨a1,a2⟩ | ⟨a1,a2,a3⟩ <;> rcases l3 with ⟨b1,b2⟩ | ⟨b1,b2,b3⟩
  ·rw [a1,b1]
  ·exact absurd (by rw [← b1,← this,a2]:i'=id) b3
  ·exact absurd (by rw [← a1,this,b2]:i=id) a3
  ·rw [← a1,← b1,this]
 ·obtain ⟨j1,c1,k1,k2,_⟩:=old i b h g hg1
  exact R.base _ _ g k1 k2
theorem MS {σ:Sto} {S:AB} {ι:As} {v:Value} {id n:Nat} (h:Aj σ S ι v (.row id n)):∃ b,S id=some b∧n≤b.len∧v.oneCell'=true∧(n=b.len→v=.slice (ι id).p n (ι id).cap):=by
 cases h with
 | row h1 h2 h3 h4=>exact ⟨_,h1,h2,h3,h4⟩

def Vh (P:Program) (f:FuncId) (caps:List AV) (Need:AB→Prop) {α:Type} (e:TypeId) (wd:Nat) (enc:α→List (List SV)) (all:List α):Prop :=
 ∀ (y rid:Nat) (Inv:List α→AB→Prop) (Jx:AB→Prop) (T:AB),1000≤y→1000≤rid→(∀ pre T,Inv pre T→Need T)→(∀ pre T,Inv pre T→T rid=none) →
  (∀ pre v,(pre ++ [v]) <+: all→∀ T,Inv pre T→Dw P (.one (.yld y)) [.one (.row rid (enc v).length)] (AD T rid (some (.mrow e wd (enc v)))) fun r T'=>∃ V,T'=AD V rid (some (.mrow e wd (enc v)))∧V rid=none∧((r=.one (.st (.bool true))∧Inv (pre ++ [v]) V) ∨ (r=.one (.st (.bool false))∧Jx V))) →
  Inv [] T→GZ P f (.one (.yld y) :: caps) T fun _ T'=>∃ V b,T'=AD V rid (some b)∧(Inv all V ∨ Jx V)
theorem Dw.mono {P:Program} {y:AV} {xs:List AV} {S:AB} {Post Post':AV→AB→Prop} (h:Dw P y xs S Post) (hp:∀ r T,Post r T→Post' r T):Dw P y xs S Post':=by
 have he:∀ {σ:Sto} {ι:As} {w:World} {e:Ending} {w':World},Ny σ S ι w Post e w'→Ny σ S ι w Post' e w':=fun h=>by
  obtain ⟨v,r,S',σ',ι',h1,h2,h3⟩:=h
  exact ⟨v,r,S',σ',ι',h1,hp r S' h2,h3⟩
 intro hS σ w vy vs ι h1 h2 h3 h4 h5
 obtain ⟨l,hl,hy⟩:=h hS σ w vy vs ι h1 h2 h3 h4 h5
 refine ⟨l,hl,fun ro=>?_⟩
 obtain ⟨fn,tm,ca,cb,h6,h7⟩:=hy ro
 exact ⟨fn,tm,ca,cb,h6,h7.mono fun _ _ h=>he h⟩
theorem Ad.renameM {C:Ctx} {s:AS} (t id nid N:Nat) {e:TypeId} {wd:Nat} {xs:List (List SV)} (hid:s.S id=some (.mrow e wd xs)) (ht:s.env t=.one (.row id xs.length)) (hn:s.S nid=none) (hN:xs.length < N) (htn:t < C.n) :
  Ad C s ⟨AD s.env t (.one (.row nid xs.length)),AD (AD s.S id (some (.dead N wd))) nid (some (.mrow e wd xs))⟩:=fun a w ⟨σ,ι,R⟩=>by
 have hv:=R.env t htn
 rw [ht] at hv
 obtain ⟨b0,q1,q2,q3,q4⟩:=MS (AW hv)
 ·rw [hid] at q1
  cases q1
  have hb:=R.blk _ _ hid
  have hbb:∀ S' ι',Bn σ S' ι' w (ι id) (.mrow e wd xs):=fun S' ι'=>by
   cases hb with
   | mnil h1 h2=>exact .mnil h1 h2
   | mrow h1 h2 h3 h4 h5 h6 h7 h8 h9=>exact .mrow h1 h2 h3 h4 h5 h6 h7 h8 h9
  obtain ⟨hu,R'⟩:=R.move (N:=N) (wd:=wd) hid hn hN (fun g hg=>hg) hbb
  refine ⟨σ,_,{ R' with env:=fun i hi=>?_ }⟩
  show AT σ _ _ _ (AD s.env t _ i)
  by_cases hi':i=t
  ·subst hi'
   rw [AG]
   refine .one (.row (b:=.mrow e wd xs) (AG _ _ _) (Nat.le_refl _) q3 fun _=>?_)
   rw [AG]
   exact q4 rfl
  ·rw [AF _ hi']
   exact R'.env i hi
section
variable {P:Program} {C:Ctx} {mu:List Nat} {Q:AX→AS→Prop} {s:AS} {x y:IR}
theorem UV {U:AB} {r:Nat} {b:AL}:dnS (AD U (up1 r) (some b))=AD (dnS U) r (some (b.ren dn1)):=by
 funext j
 unfold AD
 by_cases e:j=r
 ·rw [if_pos e]
  show (if j + 1000=up1 r then some b else U (j + 1000)).map (AL.ren dn1)=_
  rw [if_pos (show j + 1000=up1 r by unfold up1;omega)]
  rfl
 ·rw [if_neg e]
  show (if j + 1000=up1 r then some b else U (j + 1000)).map (AL.ren dn1)=(U (j + 1000)).map (AL.ren dn1)
  rw [if_neg (show ¬ j + 1000=up1 r by unfold up1;omega)]
theorem IWP.rangeW {g:Opd} {ps:List Nat} (htop:C.Top) (id:Nat) (hid:id < 1000) (hfree:s.S id=none) {f:Nat} {caps:List AC} (hg:s.ev g=.one (.fn f caps)) (hpl:Cn P f=true) (r0:Nat) (hne0:r0 ≠ id) {α:Type} {e:TypeId} {wd:Nat} {enc:α→List (List SV)} {all:List α} {Need:AB→Prop} (hit:Vh P f (AV.rens up1 (caps.map .one)) Need e wd enc all)
  (hlen:ps.length=1) (Inv:List α→AB→Prop) (Jx:AX→AB→Prop) (h0:Inv [] (upS s.S)) (hfr:∀ pre U,Inv pre U→U (up1 r0)=none) (hneed:∀ pre U b,Inv pre U→U (up1 id)=none→Need (AD U (up1 id) (some b)))
  (hbody:∀ (C':Ctx) (b0 b1:AL) (pre:List α) (v:α) (U:AB),C'.n=C.n→(pre ++ [v]) <+: all→Inv pre U→U (up1 id)=none→Am U→b1.high=true →
   IWP P C' mu x (AX.then (fun s1=>s1.S (up1 id)=some b0∧IWP P C' mu y (OQ C' (up1 id) b1 (fun V=>∃ V',V=AD V' (up1 r0) (some (.mrow e wd (enc v)))∧V' (up1 r0)=none∧Inv (pre ++ [v]) V') fun x V=>∃ V',V=AD V' (up1 r0) (some (.mrow e wd (enc v)))∧V' (up1 r0)=none∧Jx x V') (s1.set (up1 id) b1)) fun _ _=>False) ⟨Jl (CI C.n s.env) ps [.one (.row (up1 r0) (enc v).length)],AD (AD U (up1 r0) (some (.mrow e wd (enc v)))) (up1 id) (some b0)⟩)
  (hdone:∀ U b,Inv all U→Q .normal ⟨s.env,AD (AD (dnS U) r0 (some b)) id (some (.dead 1 0))⟩) (hjump:∀ e U b,Jx e U→Q e ⟨s.env,AD (AD (dnS U) r0 (some b)) id (some (.dead 1 0))⟩):IWP P C mu (.rangeF g ps x y) Q s:=fun c hc a w hH=>by
 have hne:up1 r0 ≠ up1 id:=fun h=>hne0 (by unfold up1 at h;omega)
 obtain ⟨g',ps',ca,cb,rfl,hg',rfl,hx,hy⟩:=G9 hc
 obtain ⟨σ,ι,R⟩:=hH
 have rg:=R.ev hg'
 rw [hg] at rg
 replace rg:=AW rg
 generalize hev:a.eval g'=fv at rg
 cases rg with
 | @fn _ vc _ cc g1 g2 g3 =>
 refine wpIn_rangeFunc fun fn hfn=>?_
 obtain ⟨rec,hrec⟩:∃ rec:LoopState→Option Code→Loop,rec=fun st pe=>{ state:=st,pending:=pe,fn,tmps:=a.tmps,params:=ps',assign:=ca,body:=cb,defers:=w.heap.size }:=⟨_,rfl⟩
 obtain ⟨w1,hw1⟩:∃ w1,(w.alloc (.deferred (some []))).alloc (.loop (rec .ready none))=w1:=⟨_,rfl⟩
 have hsz:(w.alloc (.deferred (some []))).heap.size=w.heap.size + 1:=World.size_alloc _ _
 have R1:AR C σ ι s { a with defers:=MM w.heap.size :: a.defers } (w.alloc (.deferred (some []))):=by
  have R':=R.more (w':=w.alloc (.deferred (some []))) (Ext.refl _ _) (R.fit.alloc _) (Du.alloc _ _)
  refine { R' with nod:=?_ }
  obtain ⟨l,h1,h2,h3,_⟩:=R.nod
  refine ⟨w.heap.size :: l,by show _ :: a.defers=_;rw [h1];rfl,List.nodup_cons.2 ⟨fun hm=>?_,h2⟩,fun D hD=>?_,fun hm=>by rw [htop.2] at hm;cases hm⟩
  ·have:=(Array.getElem?_eq_some_iff.1 (h3 _ hm).2).1
   omega
  ·rcases List.mem_cons.1 hD with rfl | hD
   ·exact ⟨R.grown.1,World.alloc_heap_new w _⟩
   ·exact ⟨(h3 D hD).1,(Below.heap_alloc _ _ _ (Array.getElem?_eq_some_iff.1 (h3 D hD).2).1).trans (h3 D hD).2⟩
 have hsize:=R.size
 obtain ⟨hu2,R2⟩:=R1.fresh (w':=w1) hfree (.loop (BW C.n s.env) (rec .ready none)) ⟨none,0,some (w.heap.size + 1)⟩ (Ext.refl _ _) (by rw [← hw1];exact R1.fit.alloc _) (by rw [← hw1];exact Du.alloc _ _) (fun g hg=>by cases hg;omega) (fun S' ι' hu=>.loop (g:=w.heap.size + 1) rfl (by rw [← hw1,← hsz];exact World.alloc_heap_new _ _) (by rw [Gk,hrec];exact hsize) (fun j b hb=>by
   obtain ⟨hj,rfl⟩:=QQ hb
   rw [hrec]
   exact (R.env j hj).mono (fun _ _ h=>h) hu) (fun p hp=>R1.fit.no (by rw [hsz];omega)))
 have hl2:(AD ι id (⟨none,0,some (w.heap.size + 1)⟩:Hnd) id).g=some (w.heap.size + 1):=by rw [AG]
 generalize AD ι id (⟨none,0,some (w.heap.size + 1)⟩:Hnd)=ι2 at R2 hl2 hu2
 obtain ⟨ι3,hι3,hown,hren,hend⟩:=R2.upped
 have hargs:Af (AT σ (upS (s.set id (.loop (BW C.n s.env) (rec .ready none))).S) ι3) (.func (.yield (w.heap.size + 1)) #[] #[] :: vc.toList) (.one (.yld (up1 id)) :: AV.rens up1 (caps.map .one)):=by
  have hS2:(s.set id (.loop (BW C.n s.env) (rec .ready none))).S id=some (.loop (BW C.n s.env) (rec .ready none)):=AG _ _ _
  refine .cons (hren _ _ (.one (.yld hS2 (Nat.le_refl _) rfl fun _=>⟨_,hl2,rfl⟩))) ?_
  rw [AV.rens_eq]
  refine (Af.mono (fun v c h=>hren v c h) ?_).map_right
  refine (Af.of_get (R:=fun v c=>AT σ (s.set id (.loop (BW C.n s.env) (rec .ready none))).S ι2 v (.one c)) (by simpa using g1) fun j v b hv hb=>?_).map_right
  have e:=g2 j b hb
  have e2:vc.toList[j]?=some (cc j):=by simpa using e
  rw [hv] at e2
  cases e2
  exact .one ((g3 j b hb).mono (fun _ _ h=>h) hu2)
 have hcl:=E_ (s.set id (.loop (BW C.n s.env) (rec .ready none))).S
 have hTeq:upS (s.set id (.loop (BW C.n s.env) (rec .ready none))).S=AD (upS s.S) (up1 id) (some (.loop (AV.rens up1 (BW C.n s.env)) (rec .ready none))):=ST _ _ _
 have hcall:=hit (up1 id) (up1 r0) (fun pre T=>∃ U,T=AD U (up1 id) (some (.loop (AV.rens up1 (BW C.n s.env)) (rec .ready none)))∧U (up1 id)=none∧Inv pre U)
  (fun T=>∃ U c e,T=AD U (up1 id) (some (.loop (AV.rens up1 (BW C.n s.env)) (rec .done (some c))))∧U (up1 id)=none∧Vk c e∧Jx e U)
  _ (Ba id) (Ba r0) (fun pre T hT=>by
   obtain ⟨U,rfl,hU,hI⟩:=hT
   exact hneed pre U _ hI hU) (fun pre T hT=>by
   obtain ⟨U,rfl,hU,hI⟩:=hT
   rw [AF _ hne]
   exact hfr pre U hI) (fun pre v hpre T hT=>by
   obtain ⟨U,rfl,hU,hI⟩:=hT
   have hUr:=hfr pre U hI
   have hy0:(AD U (up1 r0) (some (.mrow e wd (enc v)))) (up1 id)=none:=by rw [AF _ hne.symm];exact hU
   rw [A3 (Ne.symm hne)]
   refine Dw.mono (OY hx hy (by rw [AV.rens_eq,List.length_map,Gk]) (Ba id) hrec (by simpa using hlen.symm) hy0 fun hc C' hC'=>by
    rw [PX]
    exact hbody C' _ (.loop (AV.rens up1 (BW C.n s.env)) (rec .busy none)) pre v U hC' hpre hI hU (DG (DG hc hy0) hUr) (AV.rens_high _)) fun r T' hT'=>?_
   rcases hT' with ⟨rfl,U',rfl,h1,V',rfl,h3,h4⟩ | ⟨rfl,U',c,ex,rfl,h1,hj,V',rfl,h3,h4⟩
   ·rw [AF _ hne.symm] at h1
    refine ⟨AD V' (up1 id) (some (.loop (AV.rens up1 (BW C.n s.env)) (rec .ready none))),A3 hne,by rw [AF _ hne];exact h3,.inl ⟨rfl,V',rfl,h1,h4⟩⟩
   ·rw [AF _ hne.symm] at h1
    refine ⟨AD V' (up1 id) (some (.loop (AV.rens up1 (BW C.n s.env)) (rec .done (some c)))),A3 hne,by rw [AF _ hne];exact h3,.inr ⟨rfl,V',c,ex,rfl,h1,hj,h4⟩⟩)
  ⟨_,hTeq,by rw [Bl,hfree];rfl,h0⟩ hcl σ w1 _ ι3 (C.glob.mono R.ext) R2.fit hown hargs
 refine ⟨w.heap.size + 1,[MM w.heap.size],w1,{ target:=.fn (.func f) vc,args:=#[.func (.yield (w.heap.size + 1)) #[] #[]] },w1,f,#[.func (.yield (w.heap.size + 1)) #[] #[]] ++ vc,w1,?_,?_,fun _ _=>trivial,?_,fun h=>by simp [fen,Fence.wide] at h,?_⟩
 ·have hr:(fen C.ro).round=none:=htop.1
  rw [hr,← hw1,hrec]
  exact run_enterLoop_outer _ _ _ _ _
 ·simp only [resolve,hev]
  simp [go_sem]
 ·have:=DN (P:=P) (w:=w1) (args:=#[.func (.yield (w.heap.size + 1)) #[] #[]] ++ vc) hpl
  simp [invoke,go_sem,this]
 ·have he0:(Value.func (.yield (w.heap.size + 1)) #[] #[] :: vc.toList).toArray=#[.func (.yield (w.heap.size + 1)) #[] #[]] ++ vc:=by
   apply Array.ext'
   simp
  rw [he0] at hcall
  refine F5 (hcall.mono fun e w2 he=>?_)
  obtain ⟨v,r,S',σ',ι4,rfl,hP,hS',hu4,R4⟩:=hend he
  have hl4:∀ {b:AL},dnS S' id=some b→b.len=1→(ι4 id).g=some (w.heap.size + 1):=fun hb hb1=>by
   obtain ⟨b',h1,h2,h3⟩:=hu4 id _ (show (s.set id (.loop (BW C.n s.env) (rec .ready none))).S id=some _ from AG _ _ _)
   rw [hb] at h1
   cases h1
   rw [(h3 hb1).2]
   exact hl2
  have fin:∀ (U:AB) (env:List AV) (st:LoopState) (pe:Option Code),st ≠ .busy→S'=AD U (up1 id) (some (.loop env (rec st pe)))→∃ w3,(Instr.endLoop (w.heap.size + 1)).run P w2=.ok pe w3∧BD C ⟨s.env,AD (dnS U) id (some (.dead 1 0))⟩ { a with defers:=MM w.heap.size :: a.defers } w3:=fun U env st pe hst hS=>by
   have hb:dnS S' id=some (.loop (AV.rens dn1 env) (rec st pe)):=by
    have:=Hl (Ba id) (show S' (up1 id)=some (.loop env (rec st pe)) by rw [hS];exact AG _ _ _)
    rw [Jo] at this
    exact this
   have hg4:=hl4 hb rfl
   cases hbr:R4.blk id _ hb with
   | loop k1 k2 k3 k4 k5 =>
    rw [hg4] at k1
    cases k1
    obtain ⟨ι5,R5,_⟩:=R4.setBlk (b':=.dead 1 0) (o':=.loop { rec st pe with state:=.exhausted }) hb hg4 k2 k5 rfl rfl fun S'' ι'' hu=>.dead fun g' hg'=>by
     rw [hg4] at hg'
     cases hg'
     exact ⟨_,(C8 k2).1,rfl⟩
    refine ⟨w2.putObj (w.heap.size + 1) (.loop { rec st pe with state:=.exhausted }),?_,σ',ι5,?_⟩
    ·have:=run_endLoop (P:=P) k2 (by rw [hrec];exact hst)
     rw [hrec] at this ⊢
     exact this
    ·have e5:(AS.set ⟨(s.set id (.loop (BW C.n s.env) (rec .ready none))).env,dnS S'⟩ id (.dead 1 0))=⟨s.env,AD (dnS U) id (some (.dead 1 0))⟩:=by
      show AS.mk s.env (AD (dnS S') id _)=_
      rw [hS,SJ]
     rw [← e5]
     exact R5
  obtain ⟨V,bb,h0,hP⟩:=hP
  rcases hP with ⟨U,rfl,h2,h3⟩ | ⟨U,c,ex,rfl,h2,h3,h4⟩
  ·obtain ⟨w3,f1,f2⟩:=fin (AD U (up1 r0) (some bb)) _ .ready none (by simp) (h0.trans (A3 hne.symm))
   rw [UV] at f2
   exact ⟨none,w3,f1,_,hdone U _ h3,f2⟩
  ·obtain ⟨w3,f1,f2⟩:=fin (AD U (up1 r0) (some bb)) _ .done (some c) (by simp) (h0.trans (A3 hne.symm))
   rw [UV] at f2
   refine ⟨some c,w3,f1,?_⟩
   cases h3 with
   | ret=>exact wpIn_ret ⟨_,hjump _ U _ h4,f2⟩
   | exit i=>exact wpIn_exit ⟨_,hjump _ U _ h4,f2⟩
end

def GH:IR :=
 (.seq (.ops [.i 2 (.box 3 (.t 0)),.i 3 (.box 3 (.t 1)),.i 4 (.mov (.c (.one (.st (.lit .nilFunc)))))]) (.seq (.ops [.i 5 (.makeFunc 57 [.t 3,.t 2]),.m 4 5]) .ret))
theorem Kt:OkF Try.prog 35 6 [] GH [.t 4]:=.of Try.func35 rfl rfl (by kernel_rfl) rfl
def Ez:IR :=
 (.seq (.ops [.l 6 1,.i 7 (.makeSlice 3 1 8 [.int .i64 0] (.t 6) (.t 6)),.m 4 7]) (.block 0 (.loop (.seq (.seq (.ops [.l 8 2,.i 9 (.bin .gtr (.t 8) (.n 0)),.m 10 9,.mk (some 11) (some (10,false)) (.load false 1 (.t 1)) .no,.mk (some 12) (some (10,false)) (.bin .eql (.t 11) (.n 0)) .no,.i 13 (.pick (.t 10) (.c (.one (.st (.bool true)))) (.t 12))]) (.cond (.t 13) .skip (.exit 0))) (.block 1 (.seq (.seq (.ops [.m 14 0,.m 15 4,.i 16 (.callY (.t 14) [.t 15]),.i 17 (.un .not (.t 16))]) (.cond (.t 17) .ret .skip)) (.seq (.ops [.l 18 1,.i 19 (.bin .sub (.t 18) (.n 1)),.m 5 19]) (.seq (.block 2 (.loop (.seq (.seq (.ops [.m 20 5,.i 21 (.bin .geq (.t 20) (.n 0))]) (.cond (.t 21) .skip (.exit 2))) (.seq (.block 3 (.seq (.seq (.ops [.m 24 4,.m 25 5,.i 26 (.indexAddr 1 (.t 24) (.t 25)),.l 27 26,.i 28 (.bin .add (.t 27) (.n 1)),.i 29 (.indexAddr 1 (.t 24) (.t 25)),.s 1 29 28]) (.seq (.ops [.m 30 4,.m 31 5,.i 32 (.indexAddr 1 (.t 30) (.t 31)),.l 33 32,.l 34 2,.i 35 (.bin .lss (.t 33) (.t 34))]) (.cond (.t 35) (.exit 2) .skip))) (.ops [.m 36 4,.m 37 5,.i 38 (.indexAddr 1 (.t 36) (.t 37)),.mk none none (.store 1 (.t 38) (.n 0)) .no]))) (.ops [.m 22 5,.i 23 (.bin .sub (.t 22) (.n 1)),.m 5 23]))))) (.seq (.ops [.m 39 5,.i 40 (.bin .lss (.t 39) (.n 0))]) (.cond (.t 40) .ret .skip))))))))))
theorem JR:OkF Try.prog 57 41 [70000016] Ez []:=.of Try.func57 rfl rfl (by kernel_rfl) rfl

theorem Ad.freeze {C:Ctx} {s:AS} (id:Nat) (ts:List Nat) {ty:TypeId} {xs:List SV} (hS:s.S id=some (.box ty (xs.map .st))) (hl:0 < xs.length) (ht:∀ t ∈ ts,s.env t=.one (.ptr id 1 0 0)) :
  Ad C s ⟨fun t=>if t ∈ ts then .one (.eptr xs) else s.env t,AD s.S id (some (.dead 1 0))⟩:=fun a w ⟨σ,ι,R⟩=>by
 have hb:=R.blk _ _ hS
 cases hb with
 | @box _ _ g vs h1 h2 h3 h4 h5 =>
  have hkeep:=E7 (σ:=σ) (w':=w) (g:=g) (k:=xs.length) (fun p x e hx=>by rw [h5 _ e] at hx;cases hx)
  obtain ⟨hu,R'⟩:=R.turn (w':=w) hS (.dead 1 0) (ι id) (σ':=EQ σ w g xs.length) hkeep (fun p hp _=>Eu (fun e=>hp (by rw [e];exact h1))) (ER R.fit) (Nat.le_refl _) (fun _=>⟨rfl,rfl⟩) ⟨rfl,rfl,rfl⟩ (Nat.le_refl _) (fun _ _ _=>rfl) (fun g h=>.inl h)
   (fun hu=>.dead fun g' hg'=>by rw [h1] at hg';cases hg';exact ⟨_,h3,rfl⟩)
  refine ⟨_,_,R'.size,fun i hi=>?_,R'.nod,R'.fit,R'.blk,R'.inj,R'.base,R'.ext,R'.old,R'.os,R'.grown,R'.same,R'.upd⟩
  show AT _ _ _ _ (if i ∈ ts then .one (.eptr xs) else s.env i)
  split
  ·rename_i hm
   have re:=R.env i hi
   rw [ht i hm] at re
   obtain ⟨b,q1,q2,q3⟩:=E5 (AW re)
   rw [hS] at q1
   cases q1
   obtain ⟨g',e1,e2⟩:=q3 rfl
   rw [h1] at e1
   cases e1
   rw [e2]
   have cell:∀ j x,xs[j]?=some x→∃ v,vs[j]?=some v∧At σ v x:=fun j x hx=>by
    obtain ⟨v,v1,v2⟩:=h4.get (j:=j) (b:=.st x) (by rw [List.getElem?_map,hx];rfl)
    exact ⟨v,by simpa using v1,CB v2⟩
   refine .one (.eptr (fun j=>(vs[j]?).getD undef) (fun j x hx=>?_) (fun j x hx=>?_) (fun _ _=>?_))
   ·obtain ⟨v,v1,v2⟩:=cell j x hx
    have hj:=(List.getElem?_eq_some_iff.1 hx).1
    rw [show (0 * (AL.box ty (xs.map AC.st)).wid + 0 + j)=j by omega,KE hj,cell_of_row w g _ _ _ _ h3,v1]
    rfl
   ·obtain ⟨v,v1,v2⟩:=cell j x hx
    rw [v1]
    exact v2.mono hkeep
   ·rw [GY hl,FD h3]
  ·exact R'.env i hi

def Ak (l:List Nat):List (List SV):=l.map fun (x:Nat)=>BK (x:Int)
theorem Bp (l:List Nat):(Ak l).length=l.length:=by simp [Ak]
theorem CK {l:List Nat} {i x:Nat} (h:l[i]?=some x):(Ak l)[i]?=some (BK (x:Int)):=by simp [Ak,h]
theorem D5 (l:List Nat) (i x:Nat):(Ak l).set i [.int .i64 (x:Int)]=Ak (l.set i x):=by
 unfold Ak
 rw [List.map_set]
theorem Xq (n m:Nat) (hm:m≤2):List.replicate m [SV.int .i64 0]=Ak (Bf n m 0):=by
 match m,hm with
 | 0,_=>rfl
 | 1,_=>rfl
 | 2,_=>simp [Ak,Bf,List.replicate]
theorem PT {n m:Nat} (hm:m≤2):0 < Dq n m ↔ (0 < n ∨ m=0):=by
 match m,hm with
 | 0,_=>simp [Dq]
 | 1,_=>simp [Dq]
 | 2,_ =>
  show 0 < n * n ↔ _
  constructor
  ·intro h
   rcases Nat.eq_zero_or_pos n with h0 | h0
   ·subst h0;omega
   ·exact .inl h0
  ·rintro (h | h)
   ·exact Nat.mul_pos h h
   ·omega
theorem Ij (n m:Nat) (hm:m≤2) (hn:n≤1000000):Vh Try.prog 57 [.one (.eptr [.int .i64 m]),.one (.eptr [.int .i64 n])] (fun _=>True) 3 1 Ak (Cx n m):=by
 intro y rid Inv Jx T0 hy hrid _ hfr hround h0
 refine JR.acR fun hclean C hC htop=>?_
 unfold Ez
 have s7:T0 7=none:=A7 hclean (by omega)
 have hr7:rid ≠ 7:=by omega
 refine W ?_
 refine Wo (fun K hK=>?_)
 (try simp only [go_sem,fN,seval,eT,iR,AS.startS,s7])
 (repeat with_reducible refine Ai ?_)
 refine hK _ ?_
 clear hK K
 refine W ?_
 refine IWP.ghost (Ad.renameM 4 7 rid 5 (e:=3) (wd:=1) (xs:=List.replicate m [SV.int .i64 0]) (by simp [AD]) (by simp [AD]) (by
  show AD T0 7 _ rid=none
  rw [AF _ hr7]
  exact hfr _ _ h0) (by simp;omega) (by rw [hC];decide)) ?_
 repeat' with_reducible first | refine W ?_ | refine Z0 ?_ | ((first | refine Wo fun K hK=>?_ | refine Wq ?_ | refine Wr ?_);(try simp only [go_sem,fN,seval,eT,iR]);(repeat refine Ai ?_);(try (refine hK _ ?_;clear hK K)))
 refine IWP.loop (fun q s=>∃ k T row,(k < Dq n m ∨ (k=0∧Dq n m=0))∧q=Dq n m - k∧s.env 0=.one (.yld y)∧s.env 1=.one (.eptr [.int .i64 m])∧s.env 2=.one (.eptr [.int .i64 n])∧s.env 4=.one (.row rid m)∧s.S rid=some (.mrow 3 1 (Ak row))∧row.length=m∧(k < Dq n m→row=Bf n m k)∧(∀ i,1000≤i→i ≠ rid→s.S i=T i)∧Am T∧T rid=none∧Inv ((List.range k).map (Bf n m)) T) (Dq n m)
  ⟨0,T0,Bf n m 0,by omega,rfl,rfl,rfl,rfl,by simp [AD],by rw [← Xq n m hm];exact AG _ _ _,JE n m 0 hm,fun _=>rfl,fun i hi hne=>by
   show AD (AD (AD T0 7 _) 7 _) rid _ i=_
   rw [AF _ hne,AF _ (by omega),AF _ (by omega)],hclean,hfr _ _ h0,by simpa using h0⟩ ?_
 rintro q ⟨env,S⟩ ⟨k,T,row,hk,rfl,e0,e1,e2,e4,sr,hrl,hrow,hST,hT,hTr,hI⟩
 simp only at e0 e1 e2 e4 sr hST
 have fin0:∀ {e:AX} {env':Nat→AV} {S':AB} {V:AB} {r:List Nat},(match e with | .normal=>True | .ret=>True | _=>False)→Am V→(∀ i,1000≤i→i ≠ rid→S' i=V i)→S' rid=some (.mrow 3 1 (Ak r))→(Inv (Cx n m) V ∨ Jx V)→VX C [] (fun _ T'=>∃ V b,T'=AD V rid (some b)∧(Inv (Cx n m) V ∨ Jx V)) e ⟨env',S'⟩:=fun {e env' S' V r} he hV hs hr hp=>⟨.tup [],AD V rid (some (.mrow 3 1 (Ak r))),⟨V,_,rfl,hp⟩,CU (.tup []) (Aq hV hrid rfl) he rfl rfl fun i hi=>by
  by_cases e:i=rid
  ·subst e
   rw [AG]
   exact hr
  ·rw [AF _ e]
   exact hs i hi e⟩
 by_cases hpos:0 < n ∨ m=0
 case neg =>
  have h1:¬ (0:Int) < n:=by omega
  have h2:¬ (m:Int)=0:=by omega
  have h3:Dq n m=0:=by
   have:=fun h=>hpos ((PT (n:=n) hm).1 h)
   exact Nat.eq_zero_of_not_pos this
  have hk0:k=0:=by omega
  subst hk0
  have hall:Cx n m=[]:=by rw [Cx,h3];rfl
  repeat' with_reducible first | refine W ?_ | refine Z0 ?_ | ((first | refine Wo fun K hK=>?_ | refine Wp ?_ | refine Wq ?_ | refine Wr ?_);(try simp only [go_sem,fN,seval,eT,iR,e0,e1,e2,e4,h1,h2,dT,dF,nL]);(repeat refine Ai ?_);(try (refine hK _ ?_;clear hK K));try refine iC ?_)
  exact fin0 trivial hT hST sr (.inl (by rw [hall];exact hI))
 case pos =>
  have hpn:0 < Dq n m:=(PT hm).2 hpos
  have hkl:k < Dq n m:=by omega
  obtain rfl:=hrow hkl
  have hlen:(Ak (Bf n m k)).length=m:=by rw [Bp,JE n m k hm]
  have hpre:((List.range k).map (Bf n m)) ++ [Bf n m k]=(List.range (k + 1)).map (Bf n m):=by
   rw [List.range_succ,List.map_append]
   rfl
  have hy':=hround ((List.range k).map (Bf n m)) (Bf n m k) (by rw [hpre];exact VP (by omega)) T hI
  rw [hpre,hlen] at hy'
  have harg:HE S (.one (.row rid m))=.one (.row rid m):=by simp [HE,outV,outC,stC,sr]
  have hSx:∀ i,1000≤i→S i=AD T rid (some (.mrow 3 1 (Ak (Bf n m k)))) i:=fun i hi=>by
   by_cases e:i=rid
   ·subst e
    rw [AG]
    exact sr
   ·rw [AF _ e]
    exact hST i hi e
  have hhi:((AV.one (AC.yld y)).high && AV.highs [.one (.row rid m)])=true:=by
   show ((AC.yld y).high && ((AC.row rid m).high && true))=true
   rw [Oc hy,P5 hrid]
   rfl
  by_cases h1:(0:Int) < n
  ·repeat' with_reducible first | refine W ?_ | refine Z0 ?_ | ((first | refine Wo fun K hK=>?_ | refine Wp ?_ | refine Wq ?_ | refine Wr ?_);(try simp only [go_sem,fN,seval,eT,iR,e0,e1,e2,e4,h1,sr,hlen,dT,dF,nL]);(repeat refine Ai ?_);(try (refine hK _ ?_;clear hK K));try refine iC ?_)
   rw [harg]
   refine Nf.mk (AD T rid (some (.mrow 3 1 (Ak (Bf n m k))))) _ (Aq hT hrid rfl) hSx hhi hy' ?_
   rintro r S' hS' ⟨V,rfl,hVr,⟨rfl,hI'⟩ | ⟨rfl,hJ⟩⟩
   ·have hVc:Am V:=DG hS' hVr
    have hj:∀ i,1000≤i→i ≠ rid→DC S (AD V rid (some (.mrow 3 1 (Ak (Bf n m k))))) i=V i:=fun i hi hne=>by rw [BC hi,AF _ hne]
    have hjr:DC S (AD V rid (some (.mrow 3 1 (Ak (Bf n m k))))) rid=some (.mrow 3 1 (Ak (Bf n m k))):=by rw [BC hrid,AG]
    generalize DC S (AD V rid (some (.mrow 3 1 (Ak (Bf n m k)))))=S1 at hj hjr ⊢
    repeat' with_reducible first | refine W ?_ | refine Z0 ?_ | ((first | refine Wo fun K hK=>?_ | refine Wp ?_ | refine Wq ?_ | refine Wr ?_);(try simp only [go_sem,fN,seval,eT,iR,e0,e1,e2,e4,dT,dF,nL]);(repeat refine Ai ?_);(try (refine hK _ ?_;clear hK K));try refine iC ?_)
    refine IWP.loop (fun q s=>∃ (i:Int) (row:List Nat),FT n m k i row∧q=(i + 1).toNat∧s.env 0=.one (.yld y)∧s.env 1=.one (.eptr [.int .i64 m])∧s.env 2=.one (.eptr [.int .i64 n])∧s.env 4=.one (.row rid m)∧s.env 5=AK i∧s.S rid=some (.mrow 3 1 (Ak row))∧∀ i,1000≤i→i ≠ rid→s.S i=V i) _ ⟨(m:Int) - 1,Bf n m k,OB hm,rfl,e0,e1,e2,e4,rfl,hjr,hj⟩ ?_
    clear hj hjr hSx hST sr hI hT e0 e1 e2 e4 harg
    rintro q ⟨env,S⟩ ⟨i,row,htu,rfl,e0,e1,e2,e4,e5,sr,hST⟩
    simp only at e0 e1 e2 e4 e5 sr hST
    have hil:=Sp hm htu
    have hrl:=RD hm htu
    have hel:(Ak row).length=m:=by rw [Bp,hrl]
    by_cases hi0:0≤i
    ·obtain ⟨j,rfl⟩:∃ j:Nat,i=j:=⟨i.toNat,by omega⟩
     obtain ⟨x,hx⟩:=Ab (show j < row.length by omega)
     have hx':=CK hx
     have hjl:j < (Ak row).length:=by omega
     have hset:(Ak row).set j [.int .i64 ((x:Int) + 1)]=Ak (row.set j (x + 1)):=D5 row j (x + 1)
     have hjm:(j:Int) < m:=hil.2
     have hxn:x < n:=Q8 hm hkl htu x (AM hx)
     have hel2:(Ak (row.set j (x + 1))).length=m:=by rw [Bp,List.length_set,hrl]
     have hj2:(row.set j (x + 1))[j]?=some (x + 1):=by
      rw [List.getElem?_set_self (by omega)]
     have hg2:(Ak (row.set j (x + 1)))[j]?=some (BK ((x:Int) + 1)):=CK hj2
     have hset2:(Ak (row.set j (x + 1))).set j [.int .i64 0]=Ak ((row.set j (x + 1)).set j 0):=D5 (row.set j (x + 1)) j 0
     by_cases hfit:(x:Int) + 1 < n
     ·have hff:=Rb hm hkl htu hx (by omega)
      have hj0:¬ (j:Int) < 0:=by omega
      repeat' with_reducible first | refine W ?_ | refine Z0 ?_ | ((first | refine Wo fun K hK=>?_ | refine Wp ?_ | refine Wq ?_ | refine Wr ?_);(try simp only [go_sem,fN,seval,eT,iR,e0,e1,e2,e4,e5,sr,hx',hjl,hel,hset,hi0,hfit,hrl,hel2,hg2,hjm,hj0,dT,dF,nL]);(repeat refine Ai ?_);(try (refine hK _ ?_;clear hK K));try refine iC ?_)
      refine AA ⟨Dq n m - (k + 1),by omega,k + 1,V,row.set j (x + 1),.inl hff.1,rfl,e0,e1,e2,e4,AG _ _ _,by rw [List.length_set,hrl],fun _=>hff.2,fun i hi hne=>(AF _ hne _).trans (hST i hi hne),hVc,hVr,hI'⟩
     ·have hff:=QN hm hkl htu hx (by omega)
      repeat' with_reducible first | refine W ?_ | refine Z0 ?_ | ((first | refine Wo fun K hK=>?_ | refine Wp ?_ | refine Wq ?_ | refine Wr ?_);(try simp only [go_sem,fN,seval,eT,iR,e0,e1,e2,e4,e5,sr,hx',hjl,hel,hset,hi0,hfit,hrl,hel2,hg2,hset2,hjm,dT,dF,nL]);(repeat refine Ai ?_);(try (refine hK _ ?_;clear hK K));try refine iC ?_)
      refine AA ⟨((j:Int) - 1 + 1).toNat,by omega,(j:Int) - 1,(row.set j (x + 1)).set j 0,hff,rfl,e0,e1,e2,e4,rfl,AG _ _ _,fun i hi hne=>(AF _ hne _).trans ((AF _ hne _).trans (hST i hi hne))⟩
    ·have hi1:i=-1:=by omega
     subst hi1
     have hend:=RM hm hkl htu
     have hall:(List.range (k + 1)).map (Bf n m)=Cx n m:=by rw [hend];rfl
     rw [hall] at hI'
     repeat' with_reducible first | refine W ?_ | refine Z0 ?_ | ((first | refine Wo fun K hK=>?_ | refine Wp ?_ | refine Wq ?_ | refine Wr ?_);(try simp only [go_sem,fN,seval,eT,iR,e0,e1,e2,e4,e5,dT,dF,nL]);(repeat refine Ai ?_);(try (refine hK _ ?_;clear hK K));try refine iC ?_)
     exact fin0 trivial hVc hST sr (.inl hI')
   ·have hVc:Am V:=DG hS' hVr
    repeat' with_reducible first | refine W ?_ | refine Z0 ?_ | ((first | refine Wo fun K hK=>?_ | refine Wp ?_ | refine Wq ?_ | refine Wr ?_);(try simp only [go_sem,fN,seval,eT,iR,e0,e1,e2,e4,dT,dF,nL]);(repeat refine Ai ?_);(try (refine hK _ ?_;clear hK K));try refine iC ?_)
    refine fin0 trivial hVc (fun i hi hne=>by rw [BC hi,AF _ hne]) (by rw [BC hrid,AG]) (.inr hJ)
  ·have h2:m=0:=by omega
   subst h2
   have h3:(((0:Nat):Int)=0):=rfl
   have hk0:k=0:=by
    have:k < 1:=hkl
    omega
   subst hk0
   repeat' with_reducible first | refine W ?_ | refine Z0 ?_ | ((first | refine Wo fun K hK=>?_ | refine Wp ?_ | refine Wq ?_ | refine Wr ?_);(try simp only [go_sem,fN,seval,eT,iR,e0,e1,e2,e4,h1,h3,sr,hlen,dT,dF,nL]);(repeat refine Ai ?_);(try (refine hK _ ?_;clear hK K));try refine iC ?_)
   rw [harg]
   refine Nf.mk (AD T rid (some (.mrow 3 1 (Ak (Bf n 0 0))))) _ (Aq hT hrid rfl) hSx hhi hy' ?_
   rintro r S' hS' ⟨V,rfl,hVr,⟨rfl,hI'⟩ | ⟨rfl,hJ⟩⟩
   ·have hVc:Am V:=DG hS' hVr
    repeat' with_reducible first | refine W ?_ | refine Z0 ?_ | ((first | refine Wo fun K hK=>?_ | refine Wp ?_ | refine Wq ?_ | refine Wr ?_);(try simp only [go_sem,fN,seval,eT,iR,e0,e1,e2,e4,h1,h3,dT,dF,nL]);(repeat refine Ai ?_);(try (refine hK _ ?_;clear hK K));try refine iC ?_)
    refine IWP.loop (fun q s=>s.env 5=AK (-1)∧s.S rid=some (.mrow 3 1 (Ak (Bf n 0 0)))∧∀ i,1000≤i→i ≠ rid→s.S i=V i) 0 ⟨rfl,by show DC S _ rid=_;rw [BC hrid,AG],fun i hi hne=>by show DC S _ i=_;rw [BC hi,AF _ hne]⟩ ?_
    rintro q ⟨env,S⟩ ⟨e5,sr,hST⟩
    simp only at e5 sr hST
    repeat' with_reducible first | refine W ?_ | refine Z0 ?_ | ((first | refine Wo fun K hK=>?_ | refine Wp ?_ | refine Wq ?_ | refine Wr ?_);(try simp only [go_sem,fN,seval,eT,iR,e5,dT,dF,nL]);(repeat refine Ai ?_);(try (refine hK _ ?_;clear hK K));try refine iC ?_)
    exact fin0 trivial hVc hST sr (.inl hI')
   ·have hVc:Am V:=DG hS' hVr
    repeat' with_reducible first | refine W ?_ | refine Z0 ?_ | ((first | refine Wo fun K hK=>?_ | refine Wp ?_ | refine Wq ?_ | refine Wr ?_);(try simp only [go_sem,fN,seval,eT,iR,e0,e1,e2,e4,h1,h3,dT,dF,nL]);(repeat refine Ai ?_);(try (refine hK _ ?_;clear hK K));try refine iC ?_)
    refine fin0 trivial hVc (fun i hi hne=>by rw [BC hi,AF _ hne]) (by rw [BC hrid,AG]) (.inr hJ)
theorem P8 (n m:Nat):AU Try.prog 35 [AK n,AK m] (.one (.fn 57 [.eptr [.int .i64 m],.eptr [.int .i64 n]])):=by
 refine Kt.ac fun C hC=>?_
 unfold GH
 refine W ?_
 refine Wo (fun K hK=>?_)
 (try simp only [go_sem,fN,seval,eT,iR,AS.start])
 (repeat with_reducible refine Ai ?_)
 refine hK _ ?_
 clear hK K
 refine W ?_
 refine IWP.ghost (Ad.freeze 2 [2] (xs:=[.int .i64 n]) rfl (by simp) (by simp [AD])) ?_
 refine IWP.ghost (Ad.freeze 3 [3] (xs:=[.int .i64 m]) rfl (by simp) (by simp [AD])) ?_
 repeat' with_reducible first | refine W ?_ | refine Z0 ?_ | ((first | refine Wo fun K hK=>?_ | refine Wq ?_ | refine Wr ?_);(try simp only [go_sem,fN,seval,eT,iR,List.mem_singleton,AS.caps]);(repeat refine Ai ?_);(try (refine hK _ ?_;clear hK K)))
 simp only [go_sem,fN,seval,AP,AS.result,AH,AI,AN,List.all_cons,List.all_nil,AC.stay]
 rfl

open Go.Proofs Go.Shelf
def Try.sortBd_ren:Go.Shelf.Ren:=⟨fun | 6=>54 | 15=>68 | 14=>67 | 28=>84 | 29=>85 | 20=>76 | 21=>77 | 22=>78 | 23=>79 | 24=>80 | 25=>81 | 26=>82 | 27=>83 | 46=>91 | 47=>92 | 48=>93 | 49=>94 | 50=>95 | 57=>98 | n=>n,fun | 22=>63 | 24=>72 | 25=>100 | 3=>3 | 39=>111 | 0=>0 | 53=>124 | 55=>65 | 4=>4 | 46=>118 | 45=>117 | 50=>77 | 5=>5 | 9=>9 | 66=>134 | 70=>138 | 76=>146 | 77=>147 | n=>n,fun | n=>n⟩
theorem Try.sortBd:Go.Proofs.SlLaysF0.n6 Try.prog Try.sortBd_ren:={
 mixed:=by kernel_rfl
 f6:=⟨Try.f54.name,by decide,Try.func54.trans (congrArg some (by kernel_rfl))⟩
 f14:=⟨Try.f67.name,by decide,Try.func67.trans (congrArg some (by kernel_rfl))⟩
 f15:=Try.func68.trans (congrArg some (by kernel_rfl))
 f20:=⟨Try.f76.name,by decide,Try.func76.trans (congrArg some (by kernel_rfl))⟩
 f21:=⟨Try.f77.name,by decide,Try.func77.trans (congrArg some (by kernel_rfl))⟩
 f22:=⟨Try.f78.name,by decide,Try.func78.trans (congrArg some (by kernel_rfl))⟩
 f23:=⟨Try.f79.name,by decide,Try.func79.trans (congrArg some (by kernel_rfl))⟩
 f24:=⟨Try.f80.name,by decide,Try.func80.trans (congrArg some (by kernel_rfl))⟩
 f25:=⟨Try.f81.name,by decide,Try.func81.trans (congrArg some (by kernel_rfl))⟩
 f26:=⟨Try.f82.name,by decide,Try.func82.trans (congrArg some (by kernel_rfl))⟩
 f27:=⟨Try.f83.name,by decide,Try.func83.trans (congrArg some (by kernel_rfl))⟩
 f28:=Try.func84.trans (congrArg some (by kernel_rfl))
 f29:=Try.func85.trans (congrArg some (by kernel_rfl))
 f46:=⟨Try.f91.name,by decide,Try.func91.trans (congrArg some (by kernel_rfl))⟩
 f47:=Try.func92.trans (congrArg some (by kernel_rfl))
 f48:=Try.func93.trans (congrArg some (by kernel_rfl))
 f49:=⟨Try.f94.name,by decide,Try.func94.trans (congrArg some (by kernel_rfl))⟩
 f50:=⟨Try.f95.name,by decide,Try.func95.trans (congrArg some (by kernel_rfl))⟩
 f57:=⟨Try.f98.name,by decide,Try.func98.trans (congrArg some (by kernel_rfl))⟩
 t0:=Try.underlying0
 a0:=Try.isAgg0
 z0:=Try.sizeOf0
 v0:=Try.zeroValue0
 t3:=Try.underlying3
 a3:=Try.isAgg3
 z3:=Try.sizeOf3
 v3:=Try.zeroValue3
 t4:=Try.underlying4
 a4:=Try.isAgg4
 z4:=Try.sizeOf4
 v4:=Try.zeroValue4
 t5:=Try.underlying5
 a5:=Try.isAgg5
 z5:=Try.sizeOf5
 v5:=Try.zeroValue5
 t9:=Try.underlying9
 a9:=Try.isAgg9
 z9:=Try.sizeOf9
 v9:=Try.zeroValue9
 t22:=Try.underlying63
 a22:=Try.isAgg63
 z22:=Try.sizeOf63
 v22:=Try.zeroValue63
 t25:=Try.underlying100
 a25:=Try.isAgg100
 z25:=Try.sizeOf100
 v25:=Try.zeroValue100
 t39:=Try.underlying111
 a39:=Try.isAgg111
 z39:=Try.sizeOf111
 v39:=Try.zeroValue111
 t45:=Try.underlying117
 a45:=Try.isAgg117
 z45:=Try.sizeOf117
 v45:=Try.zeroValue117
 t46:=Try.underlying118
 a46:=Try.isAgg118
 z46:=Try.sizeOf118
 v46:=Try.zeroValue118
 t50:=Try.underlying77
 a50:=Try.isAgg77
 z50:=Try.sizeOf77
 v50:=Try.zeroValue77
 t53:=Try.underlying124
 a53:=Try.isAgg124
 z53:=Try.sizeOf124
 v53:=Try.zeroValue124
 t55:=Try.underlying65
 a55:=Try.isAgg65
 z55:=Try.sizeOf65
 v55:=Try.zeroValue65
 t66:=Try.underlying134
 a66:=Try.isAgg134
 z66:=Try.sizeOf134
 v66:=Try.zeroValue134
 t70:=Try.underlying138
 a70:=Try.isAgg138
 z70:=Try.sizeOf138
 v70:=Try.zeroValue138
 t76:=Try.underlying146
 a76:=Try.isAgg146
 z76:=Try.sizeOf146
 v76:=Try.zeroValue146
 t77:=Try.underlying147
 a77:=Try.isAgg147
 z77:=Try.sizeOf147
 v77:=Try.zeroValue147 }


def Fu:IR :=
 (.seq (.ops [.i 2 (.mov (.c (.one (.full []))))]) (.seq (.ops [.i 10 (.makeMap (some (Go.Proofs.Ytkegjgodjigjfaa.KK.two none (some .i64)))),.m 3 10]) (.seq (.seq (.ops [.m 11 0,.i 12 (.len false (.t 11)),.i 13 (.mov (.n 0))]) (.block 0 (.loop (.seq (.ops [.i 14 (.bin .lss (.t 13) (.t 12))]) (.seq (.cond (.t 14) .skip (.exit 0)) (.seq (.block 1 (.seq (.ops [.i 15 (.indexAddr 3 (.t 11) (.t 13)),.L 16 3 15,.i 5 (.alloc 25 [.st (.int .i64 0),.full [],.full []]),.s 3 5 16]) (.seq (.ops [.f 17 1 5,.l 18 17,.i 19 (.len false (.t 18)),.i 20 (.mov (.n 0))]) (.block 2 (.loop (.seq (.ops [.i 21 (.bin .lss (.t 20) (.t 19))]) (.seq (.cond (.t 21) .skip (.exit 2)) (.seq (.block 3 (.seq (.ops [.i 22 (.indexAddr 3 (.t 18) (.t 20)),.L 23 3 22,.i 7 (.alloc 46 [.st (.str (ByteArray.mk (#[]))),.full [],.st (.int .i64 0)]),.s 3 7 23]) (.ops [.m 24 3,.f 25 0 7,.l 26 25,.f 27 1 7,.l 28 27,.i 29 (.len false (.t 28)),.i 30 (.build [.st (.str (ByteArray.mk (#[]))),.st (.int .i64 0)] [(0,1,.t 26),(1,1,.t 29)]),.mk none none (.mapSet (some (Go.Proofs.Ytkegjgodjigjfaa.KK.two none (some .i64))) (.t 24) (.t 30) (.c (.one (.st (.bool true))))) .no]))) (.ops [.i 31 (.bin .add (.t 20) (.n 1)),.m 20 31]))))))))) (.ops [.i 32 (.bin .add (.t 13) (.n 1)),.m 13 32]))))))) (.seq (.ops [.i 8 (.mov (.c (.one (.full []))))]) (.seq (.seq (.ops [.m 33 3,.i 34 (.rangeM (.t 33))]) (.block 4 (.loop (.seq (.ops [.i 35 (.next (.t 34)),.i 36 (.extract 0 (.t 35))]) (.seq (.cond (.t 36) .skip (.exit 4)) (.block 5 (.seq (.ops [.i 37 (.entry (.t 34)),.i 38 (.extract 0 (.t 37)),.i 9 (.alloc 72 [.st (.str (ByteArray.mk (#[]))),.st (.int .i64 0)]),.s 2 9 38]) (.ops [.m 39 8,.L 40 2 9,.i 41 (.buildSlice false 72 2 [.t 40]),.i 42 (.append true 72 2 24 (.t 39) (.t 41)),.m 8 42])))))))) (.seq (.ops [.m 43 8,.i 44 (.callS 54 [.t 43,.c (.one (.fn 55 []))])]) (.seq (.ops [.m 45 8,.m 2 45]) .ret)))))))
theorem J4:OkF Try.prog 32 46 [42,44] Fu [.t 2]:=.of Try.func32 rfl rfl (by kernel_rfl) rfl

theorem Vj {ds:List Nat} (hds:∀ d ∈ ds,d < 1000) {x:Option AL} (hb:∀ b,x=some b→b.high=true):x.map (AL.purge ds)=x:=by
 cases h:x with
 | none=>rfl
 | some b=>rw [Option.map_some,AL.purge_high hds (hb b h)]
theorem LF {C:Ctx} {rs:List RV} {r:AV} {e:AX} {s:AS} {S:AB} {a0 b0:Nat} {b c:AL} (r0:AV) (hS:Am S) (ha:1000≤a0) (hb0:1000≤b0) (hne:b0 ≠ a0) (hb:b.high=true) (hc:c.high=true) (he:match e with | .normal=>True | .ret=>True | _=>False)
  (h1:(AH s rs).map AN=some r0) (h2:outV s.S r0=some r) (h3:s.S a0=some b) (h3':s.S b0=some c) (h4:∀ i,1000≤i→i ≠ a0→i ≠ b0→s.S i=S i):IG C rs r (AD (AD S a0 (some b)) b0 (some c)) e s :=
 QD he r0 h1 h2 (fun i x hi hx=>by
  by_cases e1:i=a0
  ·subst e1;rw [h3] at hx;cases hx;exact hb
  ·by_cases e2:i=b0
   ·subst e2;rw [h3'] at hx;cases hx;exact hc
   ·rw [h4 i hi e1 e2] at hx;exact (hS i x hx).2) (by
  funext i
  show (if i < 1000 then none else s.S i)=_
  by_cases e2:i=b0
  ·subst e2
   rw [AG,if_neg (by omega),h3']
  ·rw [AF _ e2]
   by_cases e1:i=a0
   ·subst e1
    rw [AG,if_neg (by omega),h3]
   ·rw [AF _ e1]
    by_cases hi:i < 1000
    ·rw [if_pos hi,A7 hS hi]
    ·rw [if_neg hi,h4 i (by omega) e1 e2]) (Aq (Aq hS ha hb) hb0 hc)

open Go.Lib Go.Sort
set_option maxHeartbeats 1000000
abbrev De:=ByteArray × Fin 100
def CO (x:De):List Value:=[.string x.1,.int .i64 (x.2.val:Int)]
def Qn (x y:De):Int:=if x.1=y.1 then (x.2.val:Int) - y.2.val else if sLt x.1 y.1=true then -1 else 1
def De.sym (x:De):Sym:=(x.1,x.2.val)
theorem C5 {x y:De}:Qn x y < 0 ↔ EJ x.sym y.sym=true:=by
 unfold Qn EJ De.sym
 dsimp only
 split
 ·simp only [decide_eq_true_eq];omega
 ·split
  ·rename_i h;simp [h]
  ·rename_i h;simp [h]
theorem WC (x y:De) (W:World):Calls Try.prog 55 #[.agg (CO x).toArray,.agg (CO y).toArray] W fun e w'=>e=.returned (.int .i64 (Qn x y))∧∃ q os',w'=grow (W.drewN q) os':=by
 obtain ⟨x,i⟩:=x
 obtain ⟨y,j⟩:=y
 have hi:=i.isLt
 have hj:=j.isLt
 generalize hr:Qn (x,i) (y,j)=r
 unfold Qn at hr
 dsimp only at hr
 unfold CO
 have hlt:sLt x y=Op.bytesLess x.toList y.toList:=rfl
 have hin:inR .i64 ((i.val:Int) - j.val):=by rw [Cj];omega
 have hw:=Cc hin
 go_enter Try.func55,Try.ntmps55
 go_wp2_with fail
 all_goals go_ret
 all_goals refine ⟨?_,0,_,by rw [alloc_eq_grow,alloc_eq_grow,grow_grow];rfl⟩
 all_goals rw [Ch] at *
 all_goals simp_all
theorem Vp:SWO (ltOf Qn) where
 irrefl x:=by
  simp only [ltOf,decide_eq_false_iff_not]
  intro h
  have:=C5.1 h
  rw [FO] at this
  cases this
 trans x y z h k:=by
  simp only [ltOf,decide_eq_true_eq] at *
  exact C5.2 (EZ (C5.1 h) (C5.1 k))
 ntrans x y z h k:=by
  simp only [ltOf,decide_eq_false_iff_not] at *
  intro e
  have e:=C5.1 e
  rcases GF y.sym z.sym with q | q | q
  ·exact k (C5.2 q)
  ·rw [← q] at e;exact h (C5.2 e)
  ·exact h (C5.2 (EZ e q))
def JI (s:Sym):List SV:=[.str s.1,.int .i64 (s.2:Int)]
abbrev Xl (s:Sym):AV:=.agg [.st (.str s.1),.st (.int .i64 (s.2:Int))]
abbrev DY (l:List Sym):AV:=.one (.st (.list (l.map JI)))
instance lensEncY:O2 JI 2:=⟨fun _=>rfl⟩
def SY (σ:Sto) (x:De) (b:Sym):Prop:=x.sym=b∧Af (At σ) (CO x) (JI b)
theorem Ri {α β:Type} {R:α→β→Prop} {l1 l2:List α} (hp:l1.Perm l2):∀ {m1:List β},Af R l1 m1→∃ m2,Af R l2 m2∧m1.Perm m2:=by
 induction hp with
 | nil=>intro m1 h;exact ⟨m1,h,List.Perm.refl _⟩
 | cons x _ ih =>
  intro m1 h
  cases h with
  | cons h1 h2 =>
   obtain ⟨m2,q1,q2⟩:=ih h2
   exact ⟨_ :: m2,.cons h1 q1,q2.cons _⟩
 | swap x y l =>
  intro m1 h
  cases h with
  | cons h1 h2 =>
   cases h2 with
   | cons h2 h3=>exact ⟨_,.cons h2 (.cons h1 h3),List.Perm.swap _ _ _⟩
 | trans _ _ ih1 ih2 =>
  intro m1 h
  obtain ⟨m2,q1,q2⟩:=ih1 h
  obtain ⟨m3,q3,q4⟩:=ih2 q1
  exact ⟨m3,q3,q2.trans q4⟩
theorem Vw {σ:Sto} {b:Sym} (hb:b.2 < 100) {v1 v2:Value} (h1:At σ v1 (.str b.1)) (h2:At σ v2 (.int .i64 (b.2:Int))):∃ x:De,[v1,v2]=CO x∧SY σ x b:=by
 have e1:=(Ev (S:=noS) (ι:=noH) (.one (.st h1))).1
 have e2:=(A5 (S:=noS) (ι:=noH) (.one (.st h2))).1
 subst e1 e2
 exact ⟨(b.1,⟨b.2,hb⟩),rfl,rfl,.cons h1 (.cons h2 .nil)⟩
theorem Jf {σ:Sto} {vs:Array Value}:∀ (l:List Sym) (base:Nat),(∀ s ∈ l,s.2 < 100)→(∀ k b,l[k]?=some b→∀ j a,(JI b)[j]?=some a→∃ v,vs[base + k * 2 + j]?=some v∧At σ v a) →
  ∃ d:List De,Af (SY σ) d l∧∀ k x j v,d[k]?=some x→(CO x)[j]?=some v→vs[base + k * 2 + j]?=some v
 | [],base,_,_=>⟨[],.nil,by simp⟩
 | b :: l,base,hb,h=>by
  obtain ⟨d,d1,d2⟩:=Jf l (base + 2) (fun s hs=>hb s (by simp [hs])) (fun k c hc j a ha=>by
   obtain ⟨v,v1,v2⟩:=h (k + 1) c (by simpa using hc) j a ha
   exact ⟨v,by rw [← v1];congr 1;omega,v2⟩)
  obtain ⟨u1,p1,q1⟩:=h 0 b rfl 0 _ rfl
  obtain ⟨u2,p2,q2⟩:=h 0 b rfl 1 _ rfl
  obtain ⟨x,x1,x2⟩:=Vw (hb b (by simp)) q1 q2
  refine ⟨x :: d,.cons x2 d1,fun k y j v hy hv=>?_⟩
  cases k with
  | zero =>
   simp only [List.getElem?_cons_zero,Option.some.injEq] at hy
   subst hy
   rw [← x1] at hv
   match j,hv with
   | 0,hv=>cases hv;exact p1
   | 1,hv=>cases hv;exact p2
   | j + 2,hv=>simp at hv
  | succ k =>
   have:=d2 k y j v (by simpa using hy) hv
   rw [← this]
   congr 1
   omega
theorem JT (x:De):(CO x).length=2:=rfl
theorem M6 {d:Array De} {t:Nat} (h:t < d.size * 2):∃ x v,d[t / 2]?=some x∧(CO x)[t % 2]?=some v∧(flatK CO 2 d)[t]! = v:=by
 have hk:t / 2 < d.size:=by omega
 have hj:t % 2 < (CO d[t / 2]).length:=by rw [JT];omega
 refine ⟨d[t / 2],(CO d[t / 2])[t % 2],Array.getElem?_eq_getElem hk,List.getElem?_eq_getElem hj,?_⟩
 rw [get_flatK _ _ _ _ h,getElem!_pos d (t / 2) hk,getElem!_pos (CO d[t / 2]) (t % 2) hj]
theorem RQ (w:World) (g n:Nat) (d:Array De) (os:Array Obj) (vs:Array Value) (e:TypeId) (hg:w.heap[g]?=some (.cells vs e (0,0))) :
  (sortWorldK CO 2 w g 0 n d os).heap[g]?=some (.cells (putCells id 0 (flatK CO 2 d) vs) e (0,0))∧(∀ k,k < w.heap.size→k ≠ g→(sortWorldK CO 2 w g 0 n d os).heap[k]?=w.heap[k]?)∧w.heap.size≤(sortWorldK CO 2 w g 0 n d os).heap.size:=by
 have hlt:=(Array.getElem?_eq_some_iff.1 hg).1
 have hsz:(putRowK CO 2 (Sort.ahead w n) g 0 d).heap.size=w.heap.size:=by simp [putRowK,putRow,mapBlock,Sort.ahead]
 refine ⟨?_,fun k hk hne=>?_,?_⟩
 ·unfold sortWorldK
  rw [heap_grow_old _ _ (by rw [hsz];exact hlt)]
  simp [putRowK,putRow,mapBlock,Sort.ahead,Array.getElem?_modify,hg,onCells]
 ·unfold sortWorldK
  rw [heap_grow_old _ _ (by rw [hsz];exact hk)]
  simp [putRowK,putRow,mapBlock,Sort.ahead,Array.getElem?_modify,Ne.symm hne]
 ·unfold sortWorldK
  rw [Go.Sort.size_grow,hsz]
  omega
theorem Vn {d:Array De} {vs:Array Value} (hs:d.size * 2≤vs.size) {k:Nat} {x:De} {j:Nat} {v:Value} (hx:d[k]?=some x) (hv:(CO x)[j]?=some v):(putCells id 0 (flatK CO 2 d) vs)[k * 2 + j]?=some v:=by
 have hk:=(Array.getElem?_eq_some_iff.1 hx).1
 have hj:j < 2:=by have:=(List.getElem?_eq_some_iff.1 hv).1;rw [JT] at this;exact this
 have hlt:k * 2 + j < d.size * 2:=by omega
 obtain ⟨y,u,h1,h2,h3⟩:=M6 hlt
 have e1:(k * 2 + j) / 2=k:=by omega
 have e2:(k * 2 + j) % 2=j:=by omega
 rw [e1,hx] at h1
 cases h1
 rw [e2,hv] at h2
 cases h2
 unfold putCells
 rw [Array.getElem?_mapIdx,Array.getElem?_eq_getElem (by omega),Option.map_some,if_pos (by rw [size_flatK];omega)]
 simp only [Nat.sub_zero,id,h3]
theorem TJ (d:Array De) (vs:Array Value):(putCells id 0 (flatK CO 2 d) vs).size=vs.size:=by simp [putCells]
theorem UZ {S:AB} {r:Nat} {b:AL} (h:S r=some b):AD S r (some b)=S:=by
 funext k
 unfold AD
 split
 ·rename_i e;rw [e,h]
 ·rfl
theorem Q2 {d:Array De} {vs:Array Value} {t:Nat} (h:d.size * 2≤t):(putCells id 0 (flatK CO 2 d) vs)[t]?=vs[t]?:=by
 unfold putCells
 rw [Array.getElem?_mapIdx]
 cases hv:vs[t]? with
 | none=>rfl
 | some v=>rw [Option.map_some,if_neg (by rw [size_flatK];omega)]
abbrev TF (l:List Sym):AL:=.mrow 72 2 (l.map JI)
abbrev Fo (l:List Sym) (ys:List (List SV)):AL:=.mrow 72 2 (l.map JI ++ ys)
theorem RB (l:List Sym) (ys:List (List SV)) (hys:∀ y ∈ ys,y.length=2) (hn:l.Nodup) (hb:∀ s ∈ l,s.2 < 100) (hl:l.length≤100000) (r:Nat) (hr:1000≤r) (S:AB) (sr:S r=some (Fo l ys)) (hS:Am S) (σ:Sto) (w:World) (ι:As) (hF:Fit σ w) (hO:FL σ S ι w) :
  Calls Try.prog 54 #[.slice (ι r).p l.length (ι r).cap,.func (.func 55) #[] #[]] w fun e w'=>∃ v σ' ι',e=.returned v∧Am (AD S r (some (Fo (Bs l) ys)))∧Upd S ι (AD S r (some (Fo (Bs l) ys))) ι'∧FL σ' (AD S r (some (Fo (Bs l) ys))) ι' w'∧AT σ' (AD S r (some (Fo (Bs l) ys))) ι' v (.tup [])∧Fit σ' w'∧(∀ p x,σ p=some x→σ' p=some x) ∧
   (∀ p:Addr,p.block < w.heap.size→CE S ι p.block→σ' p=σ p)∧(w'.os=w.os∧w'.tape=w.tape∧w'.output=w.output)∧w.heap.size≤w'.heap.size ∧
   (∀ g,g < w.heap.size→CE S ι g→w'.heap[g]?=w.heap[g]?)∧(∀ id b g,AD S r (some (Fo (Bs l) ys)) id=some b→(ι' id).g=some g→w.heap.size≤g ∨ ¬ CE S ι g):=by
 have hS':Am (AD S r (some (Fo (Bs l) ys))):=Aq hS hr rfl
 have hb:Bn σ S ι w (ι r) (.mrow 72 2 (l.map JI ++ ys)):=hO.1 r _ sr
 generalize hxs:l.map JI ++ ys=xs at hb
 have hlen:xs.length=l.length + ys.length:=by rw [← hxs,List.length_append,List.length_map]
 generalize hh:ι r=hd at hb
 cases hb with
 | mnil k1 k2 =>
  obtain ⟨hl0,hy0⟩:l=[]∧ys=[]:=by simpa using hxs
  subst hl0 hy0
  refine (AnyF.slices_SortFunc_none Try.sortBd hd.p hd.cap _ w).mono fun e w' ⟨he,hw⟩=>?_
  subst hw
  have hid:AD S r (some (Fo (Bs []) []))=S:=UZ sr
  rw [hid]
  exact ⟨_,σ,ι,he,hS,Upd.refl _ _,hO,.tup (fun _=>undef) rfl (by simp) (by simp),hF,fun _ _ h=>h,fun _ _ _=>rfl,⟨rfl,rfl,rfl⟩,Nat.le_refl _,fun _ _ _=>rfl,fun id b g h1 h2=>.inr fun hno=>hno id b h1 h2⟩
 | @mrow _ _ _ g cs k1 k2 k3 k4 k5 k6 k7 k8 k9 =>
  subst hxs
  obtain ⟨d,d1,d2⟩:=Jf (σ:=σ) (vs:=cs) l 0 hb (fun k b hb j a ha=>by
   obtain ⟨v,v1,v2⟩:=k8 k (JI b) j a (by rw [List.getElem?_append_left (by rw [List.length_map];exact Cw hb),List.getElem?_map,hb];rfl) ha
   exact ⟨v,by rw [Nat.zero_add];exact v1,v2⟩)
  have dlen:d.length=l.length:=d1.len
  have hcap:l.length≤hd.cap:=by omega
  have hfits:d.toArray.size * 2≤cs.size:=by
   rw [k6]
   simp only [List.size_toArray,dlen]
   exact Nat.mul_le_mul_right 2 hcap
  have hH:HoldsK CO 2 w g 0 d.toArray:=fun j hj=>by
   rw [size_flatK] at hj
   obtain ⟨x,v,q1,q2,q3⟩:=M6 hj
   have q1:d[j / 2]?=some x:=by simpa using q1
   have hc:=d2 _ _ _ _ q1 q2
   have e:0 + j / 2 * 2 + j % 2=j:=by omega
   rw [e] at hc
   refine ⟨?_,?_⟩
   ·rw [cell_of_row w g _ _ _ _ k3,Nat.zero_add,hc,q3]
    rfl
   ·exact Blk.frozen k3 _
  have eg:∀ args w,(callFunc 55 args).run Try.prog w=.ok (.enter 55 args) w:=enters_of Try.func55 (by kernel_rfl) rfl
  have hgl:g < w.heap.size:=(Array.getElem?_eq_some_iff.1 k3).1
  have hcon:=AnyQ.slices_SortFunc Try.sortBd 2 Try.isAgg72 Try.sizeOf72 CO JT (fun x v hv=>by simp [CO] at hv;rcases hv with rfl | rfl <;> rfl) Qn Vp 55 #[] g 0 hd.cap d.toArray w eg (fun _ _ _ _ x y=>WC x y _) hH hgl (by simp [dlen];omega)
  rw [show d.toArray.size=l.length by simp [dlen]] at hcon
  rw [k2,show (l.length)=l.length from rfl]
  refine Calls.mono hcon fun e w' ⟨he,d',n,os,hp,hs,hw⟩=>?_
  obtain ⟨hp1,hp2,hp3⟩:=hp
  have hd'l:d'.size=l.length:=by rw [hp1];simp [dlen]
  have hperm:d.Perm d'.toList:=by
   have e1:d'.extract 0 l.length=d':=by rw [← hd'l];exact Array.extract_size
   have e2:d.toArray.extract 0 l.length=d.toArray:=by
    rw [show l.length=d.toArray.size by simp [dlen]]
    exact Array.extract_size
   rw [e1,e2] at hp3
   exact hp3.symm
  obtain ⟨l',l1,l2⟩:=Ri hperm d1
  have hl'len:l'.length=l.length:=l2.length_eq.symm
  have hord:Fm l':=by
   unfold Fm
   rw [List.pairwise_iff_getElem]
   intro i j hi hj hij
   obtain ⟨x,x1,x2,_⟩:=l1.get (List.getElem?_eq_getElem hi)
   obtain ⟨y,y1,y2,_⟩:=l1.get (List.getElem?_eq_getElem hj)
   have hso:=hs i j (Nat.zero_le _) hij (by omega)
   have e1:d'[i]! = x:=by
    rw [Array.getElem?_toList] at x1
    rw [getElem!_def,x1]
   have e2:d'[j]! = y:=by
    rw [Array.getElem?_toList] at y1
    rw [getElem!_def,y1]
   rw [e1,e2] at hso
   simp only [ltOf,decide_eq_false_iff_not] at hso
   have hno:¬ EJ l'[j] l'[i]=true:=fun h=>hso (C5.2 (by rw [x2,y2];exact h))
   have hdiff:l'[i] ≠ l'[j]:=by
    have hn':=l2.nodup_iff.1 hn
    rw [List.nodup_iff_pairwise_ne,List.pairwise_iff_getElem] at hn'
    exact hn' i j hi hj hij
   rcases GF l'[i] l'[j] with q | q | q
   ·exact q
   ·exact absurd q hdiff
   ·exact absurd q hno
  have hl':l'=Bs l:=IP hord fun x=>l2.mem_iff.symm
  subst hl'
  obtain ⟨w1,w2,w3⟩:=RQ w g n d' os cs _ k3
  rw [← hw] at w1 w2 w3
  have hfits':d'.size * 2≤cs.size:=by rw [hd'l];rw [← dlen];simpa using hfits
  have hupd:Upd S ι (AD S r (some (Fo (Bs l) ys))) ι:=fun id b hb=>by
   by_cases e:id=r
   ·subst e
    rw [sr] at hb
    cases hb
    exact ⟨_,AG _ _ _,by simp [AL.len,CV hn],fun _=>⟨rfl,rfl⟩⟩
   ·exact ⟨b,by rw [AF _ e];exact hb,Nat.le_refl _,fun _=>⟨rfl,rfl⟩⟩
  have hotherg:∀ id b g',id ≠ r→S id=some b→(ι id).g=some g'→g' ≠ g:=fun id b g' hne hb hg' e=>by
   subst e
   exact hne (hO.2 id r b _ g' hb sr hg' (by rw [hh];exact k1))
  have hFit:Fit σ w':=fun p x hp=>by
   have hlt:=hF.lt hp
   by_cases e:p.block=g
   ·rw [k9 p e] at hp;cases hp
   ·exact (Ce (w2 _ hlt e)).trans (hF p x hp)
  refine ⟨_,σ,ι,he,hS',hupd,⟨fun id b hb=>?_,fun id id' b b' g' q1 q2 q3 q4=>?_⟩,.tup (fun _=>undef) rfl (by simp) (by simp),hFit,fun _ _ h=>h,fun _ _ _=>rfl,?_,w3,fun g' q1 q2=>?_,fun id b g' q1 q2=>?_⟩
  ·by_cases e:id=r
   ·subst e
    rw [AG] at hb
    cases hb
    rw [hh]
    have hlen':((Bs l).map JI ++ ys).length=l.length + ys.length:=by rw [List.length_append,List.length_map,CV hn]
    refine .mrow k1 k2 w1 (by rw [hlen',← hlen];exact k4) k5 (by rw [TJ];exact k6) (fun x hx=>?_) (fun k x j a hx ha=>?_) k9
    ·rcases List.mem_append.1 hx with hx | hx
     ·exact Xn (f:=JI) x hx
     ·exact hys x hx
    rcases Nat.lt_or_ge k l.length with hk | hk
    ·rw [List.getElem?_append_left (by rw [List.length_map,CV hn];exact hk),List.getElem?_map,Option.map_eq_some_iff] at hx
     obtain ⟨b,hb,rfl⟩:=hx
     obtain ⟨y,y1,y2,y3⟩:=l1.get hb
     obtain ⟨v,v1,v2⟩:=y3.get ha
     exact ⟨v,Vn hfits' (by simpa using y1) v1,v2⟩
    ·rw [List.getElem?_append_right (by rw [List.length_map,CV hn];exact hk),List.length_map,CV hn] at hx
     obtain ⟨v,v1,v2⟩:=k8 k x j a (by rw [List.getElem?_append_right (by rw [List.length_map];exact hk),List.length_map];exact hx) ha
     exact ⟨v,by rw [Q2 (by rw [hd'l];omega)];exact v1,v2⟩
   ·rw [AF _ e] at hb
    refine (hO.1 id b hb).mono (fun _ _ h=>h) hupd (fun g' hg'=>w2 g' ((hO.1 id b hb).gsome hg') (hotherg id b g' e hb hg')) (fun _ _ _ _=>rfl)
  ·have back:∀ i c,AD S r (some (Fo (Bs l) ys)) i=some c→∃ c',S i=some c':=fun i c hc=>by
    by_cases e:i=r
    ·subst e;exact ⟨_,sr⟩
    ·rw [AF _ e] at hc;exact ⟨c,hc⟩
   obtain ⟨c1,c1'⟩:=back _ _ q1
   obtain ⟨c2,c2'⟩:=back _ _ q2
   exact hO.2 _ _ _ _ _ c1' c2' q3 q4
  ·rw [hw]
   exact ⟨rfl,rfl,rfl⟩
  ·exact w2 g' q1 fun e=>q2 r _ sr (by rw [hh,e];exact k1)
  ·refine .inr fun hno=>?_
   by_cases e:id=r
   ·subst e;exact hno id _ sr q2
   ·rw [AF _ e] at q1;exact hno id _ q1 q2
theorem Pa (l:List Sym) (hn:l.Nodup) (hb:∀ s ∈ l,s.2 < 100) (hl:l.length≤100000) (r:Nat) (hr:1000≤r) (S:AB) (sr:S r=some (TF l)) :
  A2 Try.prog 54 [.one (.row r l.length),.one (.fn 55 [])] S (.tup []) (AD S r (some (TF (Bs l)))):=by
 intro hS σ w vs ι hG hF hO hv
 cases hv with
 | @cons v1 _ _ _ h1 hv =>
 cases hv with
 | @cons v2 _ _ _ h2 hv =>
 cases hv
 obtain ⟨b,b1,b2,b3⟩:=Ca (AW h1)
 rw [sr] at b1
 cases b1
 have hv1:=b3 (by simp [AL.len])
 subst hv1
 have hv2:v2=.func (.func 55) #[] #[]:=by
  cases AW h2 with
  | @fn _ vs _ c q1 q2 q3 =>
   have e:vs=#[]:=Array.eq_empty_of_size_eq_zero (by simpa using q1)
   rw [e]
 subst hv2
 have e:∀ m:List Sym,TF m=Fo m []:=fun m=>by rw [Fo,List.append_nil]
 rw [e] at sr ⊢
 exact RB l [] (by simp) hn hb hl r hr S sr hS σ w ι hF hO

def Qf (a:Au):List SV:=[.int .i64 a.states,.list (a.moves.map Ae),.list (a.last.map BK)]
instance lensEncAu:O2 Qf 3:=⟨fun _=>rfl⟩
instance lensEncMv:O2 Ae 3:=⟨fun _=>rfl⟩
abbrev T7 (l:List Au):AV:=.one (.st (.list (l.map Qf)))
def Tg (s:Sym):KV:=.p (.s s.1) (.i (s.2:Int))
def LB (s:Sym):KV × AV:=(Tg s,Ag true)
abbrev XW (l:List Sym):AL:=.map (some (.two none (some .i64))) (l.map LB)
open Classical in
noncomputable def HQ (l:List Sym) (s:Sym):List Sym:=if s ∈ l then l else l ++ [s]
theorem Vu {a b:Sym}:Tg a=Tg b ↔ a=b:=by
 obtain ⟨a,i⟩:=a
 obtain ⟨b,j⟩:=b
 simp only [Tg,KV.p.injEq,KV.s.injEq,KV.i.injEq,Prod.mk.injEq]
 exact and_congr_right fun _=>by omega
theorem S6 (l:List Sym) (s:Sym):Hi (l.map LB) (Tg s) (Ag true)=(HQ l s).map LB:=by
 induction l with
 | nil=>simp [HQ,Hi,LB]
 | cons x l ih =>
  simp only [List.map_cons,Hi,LB,Vu]
  by_cases e:x=s
  ·subst e
   simp [HQ,LB]
  ·rw [if_neg e]
   unfold HQ at ih ⊢
   have e':¬ s=x:=fun h=>e h.symm
   by_cases hm:s ∈ l
   ·rw [if_pos hm] at ih
    rw [if_pos (by simp [hm]),List.map_cons]
    exact congrArg (LB x :: ·) ih
   ·rw [if_neg hm] at ih
    rw [if_neg (by simp [hm,e']),List.cons_append,List.map_cons]
    exact congrArg (LB x :: ·) ih
theorem Rn {l:List Sym} {s:Sym} (h:l.Nodup):(HQ l s).Nodup:=by
 unfold HQ
 split
 ·exact h
 ·rename_i hm
  rw [List.nodup_append]
  exact ⟨h,by simp,fun a ha b hb e=>hm (by rw [← List.mem_singleton.1 hb,← e];exact ha)⟩
theorem Vi {l:List Sym} {s x:Sym}:x ∈ HQ l s ↔ x ∈ l ∨ x=s:=by
 unfold HQ
 split
 ·rename_i hm
  constructor
  ·exact .inl
  ·rintro (h | rfl)
   ·exact h
   ·exact hm
 ·simp
theorem VK (l:List Sym) (s:Sym):(HQ l s).length≤l.length + 1:=by
 unfold HQ
 split <;> simp
noncomputable def C3 (l:List Sym) (ms:List Mv):List Sym:=ms.foldl (fun l m=>HQ l m.sym) l
theorem Jc:∀ {ms:List Mv} {l:List Sym},l.Nodup→(C3 l ms).Nodup
 | [],l,h=>h
 | m :: ms,l,h=>Jc (ms:=ms) (Rn h)
theorem Mb:∀ {ms:List Mv} {l:List Sym} {x:Sym},x ∈ C3 l ms ↔ x ∈ l ∨ ∃ m ∈ ms,x=m.sym
 | [],l,x=>by simp [C3]
 | m :: ms,l,x=>by
  show x ∈ C3 (HQ l m.sym) ms ↔ _
  rw [Mb,Vi]
  simp only [List.mem_cons,exists_eq_or_imp,or_assoc]
theorem Mr:∀ {ms:List Mv} {l:List Sym},(C3 l ms).length≤l.length + ms.length
 | [],l=>by simp [C3]
 | m :: ms,l=>by
  have:=Mr (ms:=ms) (l:=HQ l m.sym)
  have h2:=VK l m.sym
  show (C3 (HQ l m.sym) ms).length≤_
  simp only [List.length_cons]
  omega
noncomputable def DL (l:List Sym) (aus:List Au):List Sym:=aus.foldl (fun l a=>C3 l a.moves) l
theorem LJ:∀ {aus:List Au} {l:List Sym} {x:Sym},x ∈ DL l aus ↔ x ∈ l ∨ ∃ a ∈ aus,∃ m ∈ a.moves,x=m.sym
 | [],l,x=>by simp [DL]
 | a :: aus,l,x=>by
  show x ∈ DL (C3 l a.moves) aus ↔ _
  rw [LJ,Mb]
  simp only [List.mem_cons,exists_eq_or_imp,or_assoc]
theorem PZ {aus:List Au} {k:Nat} {a:Au} {l:List Sym} (h:aus[k]?=some a):DL l (aus.take (k + 1))=C3 (DL l (aus.take k)) a.moves:=by
 rw [AQ h,DL,List.foldl_append]
 rfl
theorem Rf {ms:List Mv} {k:Nat} {m:Mv} {l:List Sym} (h:ms[k]?=some m):C3 l (ms.take (k + 1))=HQ (C3 l (ms.take k)) m.sym:=by
 rw [AQ h,C3,List.foldl_append]
 rfl
theorem IS:∀ {aus:List Au} {l:List Sym},l.Nodup→(DL l aus).Nodup
 | [],l,h=>h
 | a :: aus,l,h=>IS (aus:=aus) (Jc h)
theorem Ly {n:Nat}:∀ {aus:List Au} {l:List Sym},(∀ a ∈ aus,a.moves.length≤n)→(DL l aus).length≤l.length + aus.length * n
 | [],l,h=>by simp [DL]
 | a :: aus,l,h=>by
  have h1:=Ly (aus:=aus) (l:=C3 l a.moves) (fun b hb=>h b (by simp [hb]))
  have h2:=Mr (ms:=a.moves) (l:=l)
  have h3:=h a (by simp)
  show (DL (C3 l a.moves) aus).length≤_
  rw [List.length_cons,Nat.add_mul,Nat.one_mul]
  omega
theorem My (aus:List Au) (hl:aus.length≤2) (hm:∀ a ∈ aus,a.moves.length≤1000) (hf:∀ a ∈ aus,∀ m ∈ a.moves,m.frm.length < 100):AU Try.prog 32 [T7 aus] (DY (Ao aus)):=by
 refine J4.ac fun C hC=>?_
 unfold Fu
 repeat' with_reducible first | refine W ?_ | refine Z0 ?_ | ((first | refine Wo fun K hK=>?_ | refine Wp ?_ | refine Wq ?_ | refine Wr ?_);(try simp only [go_sem,fN,seval,eT,iR,dT,dF,nL]);(repeat refine Ai ?_);(try (refine hK _ ?_;clear hK K));try refine iC ?_)
 refine IWP.loopD [5] (fun q s=>∃ k,k≤aus.length∧q=aus.length - k∧s.env 3=.one (.mptr 10)∧s.S 10=some (XW (DL [] (aus.take k)))∧s.env 11=T7 aus∧s.env 12=AK aus.length∧s.env 13=AK k∧s.S 5=none∧s.S 7=none∧s.S 34=none∧s.S 9=none∧s.S 502=none) aus.length
  ⟨0,Nat.zero_le _,rfl,rfl,rfl,rfl,by simp only [go_sem,fN,seval,eT,iR],rfl,rfl,rfl,rfl,rfl,rfl⟩ ?_
 rintro q ⟨env,S⟩ ⟨k,hk,rfl,e3,s10,e11,e12,e13,s5,s7,s34,s9,s502⟩
 simp only at e3 s10 e11 e12 e13 s5 s7 s34 s9 s502
 by_cases hlt:(k:Int) < aus.length
 ·obtain ⟨a,hak⟩:=Ab (show k < aus.length by omega)
  have ham:=AM hak
  have h1:=hm a ham
  have hsn:=PZ (l:=[]) hak
  obtain ⟨L0,hL⟩:∃ L0,DL [] (aus.take k)=L0:=⟨_,rfl⟩
  rw [hL] at s10 hsn
  repeat' with_reducible first | refine W ?_ | refine Z0 ?_ | ((first | refine Wo fun K hK=>?_ | refine Wp ?_ | refine Wq ?_ | refine Wr ?_);(try simp only [go_sem,fN,seval,eT,iR,e3,s10,e11,e12,e13,s5,s7,s34,s9,s502,hlt,hak,Qf,dT,dF,nL]);(repeat refine Ai ?_);(try (refine hK _ ?_;clear hK K));try refine iC ?_)
  refine IWP.loopD [7] (fun q s=>∃ i,i≤a.moves.length∧q=a.moves.length - i∧s.env 3=.one (.mptr 10)∧s.S 10=some (XW (C3 L0 (a.moves.take i)))∧s.env 11=T7 aus∧s.env 12=AK aus.length∧s.env 13=AK k∧s.env 18=.one (.st (.list (a.moves.map Ae)))∧s.env 19=AK a.moves.length∧s.env 20=AK i∧s.S 7=none∧s.S 34=none∧s.S 9=none∧s.S 502=none) a.moves.length
   ⟨0,Nat.zero_le _,rfl,by simp only [go_sem,fN,seval,eT,iR,e3],by (simp only [go_sem,fN,seval,eT,iR,s10];rfl),by simp only [go_sem,fN,seval,eT,iR,e11],by simp only [go_sem,fN,seval,eT,iR,e12],by simp only [go_sem,fN,seval,eT,iR,e13],by simp only [go_sem,fN,seval,eT,iR],by simp only [go_sem,fN,seval,eT,iR],by simp only [go_sem,fN,seval,eT,iR],by simp only [go_sem,fN,seval,eT,iR,s7],by simp only [go_sem,fN,seval,eT,iR,s34],by simp only [go_sem,fN,seval,eT,iR,s9],by simp only [go_sem,fN,seval,eT,iR,s502]⟩ ?_
  clear e3 e11 e12 e13 s5 s7 s34 s9 s502 s10
  rintro q ⟨env,S⟩ ⟨i,hi,rfl,e3,s10,e11,e12,e13,e18,e19,e20,s7,s34,s9,s502⟩
  simp only at e3 s10 e11 e12 e13 e18 e19 e20 s7 s34 s9 s502
  by_cases hil:(i:Int) < a.moves.length
  ·obtain ⟨m,hmi⟩:=Ab (show i < a.moves.length by omega)
   have hmm:=AM hmi
   have hfm:=hf a ham m hmm
   have hys:=Rf (l:=L0) hmi
   have hput:Hi ((C3 L0 (a.moves.take i)).map LB) (.p (.s m.name) (.i (m.frm.length:Int))) (Ag true)=(C3 L0 (a.moves.take (i + 1))).map LB:=by
    rw [hys]
    exact S6 _ m.sym
   obtain ⟨L1,hL1⟩:∃ L1,C3 L0 (a.moves.take i)=L1:=⟨_,rfl⟩
   rw [hL1] at s10 hput
   repeat' with_reducible first | refine W ?_ | refine Z0 ?_ | ((first | refine Wo fun K hK=>?_ | refine Wp ?_ | refine Wq ?_ | refine Wr ?_);(try simp only [go_sem,fN,seval,eT,iR,e3,s10,e11,e12,e13,e18,e19,e20,s7,s34,s9,s502,hil,hmi,Ae,Bu,EF,KV.of2,KV.of1,hput,dT,dF,nL]);(repeat refine Ai ?_);(try (refine hK _ ?_;clear hK K));try refine iC ?_)
   refine AA ⟨a.moves.length - (i + 1),by omega,i + 1,by omega,rfl,?_⟩
   simp only [go_sem,fN,seval,AS.drop,AY,AC.clears,AC.clear,AC.highs,AC.high,Bool.not_false,Bool.true_and,Bool.and_self,AV.purge,AV.purges,AC.purge,AL.purge,List.contains_cons,List.contains_nil,Nat.reduceBEq,Bool.or_self,Bool.or_false,Bool.false_or,Bool.or_true,eT,iR,e3,s10,e11,e12,e13,e18,e19,e20,s7,s34,s9,s502]
   rfl
  ·have hie:i=a.moves.length:=by omega
   rw [hie,List.take_length] at s10
   repeat' with_reducible first | refine W ?_ | refine Z0 ?_ | ((first | refine Wo fun K hK=>?_ | refine Wp ?_ | refine Wq ?_ | refine Wr ?_);(try simp only [go_sem,fN,seval,eT,iR,e3,s10,e11,e12,e13,e18,e19,e20,s7,s34,s9,s502,hil,dT,dF,nL]);(repeat refine Ai ?_);(try (refine hK _ ?_;clear hK K));try refine iC ?_)
   refine AA ⟨aus.length - (k + 1),by omega,k + 1,by omega,rfl,?_⟩
   rw [hsn]
   simp only [go_sem,fN,seval,AS.drop,AY,AC.clears,AC.clear,AC.highs,AC.high,Bool.not_false,Bool.true_and,Bool.and_self,AV.purge,AV.purges,AC.purge,AL.purge,List.contains_cons,List.contains_nil,Nat.reduceBEq,Bool.or_self,Bool.or_false,Bool.false_or,Bool.or_true,eT,iR,e3,s10,e11,e12,e13,e18,e19,e20,s7,s34,s9,s502]
   rfl
 ·have hke:k=aus.length:=by omega
  rw [hke,List.take_length] at s10
  have hnod:=IS (aus:=aus) (l:=[]) List.nodup_nil
  have hlen:=Ly (aus:=aus) (l:=[]) hm
  have hmem:=fun x=>LJ (aus:=aus) (l:=[]) (x:=x)
  obtain ⟨L,hL⟩:∃ L,DL [] aus=L:=⟨_,rfl⟩
  rw [hL] at s10 hnod hlen
  simp only [hL] at hmem
  have hsy:Ao aus=Bs L:=KX fun x=>by
   rw [hmem,List.mem_flatMap]
   simp [eq_comm]
  have hlL:L.length≤2000:=by
   have:aus.length * 1000≤2 * 1000:=Nat.mul_le_mul_right _ hl
   simp only [List.length_nil] at hlen
   omega
  have hbL:∀ s ∈ L,s.2 < 100:=fun s hs=>by
   rcases (hmem s).1 hs with h | ⟨a,ha,m,hmm,rfl⟩
   ·cases h
   ·exact hf a ha m hmm
  rw [hsy]
  repeat' with_reducible first | refine W ?_ | refine Z0 ?_ | ((first | refine Wo fun K hK=>?_ | refine Wp ?_ | refine Wq ?_ | refine Wr ?_);(try simp only [go_sem,fN,seval,eT,iR,e3,s10,e11,e12,e13,s5,s7,s34,s9,s502,hlt,Bu,dT,dF,nL]);(repeat refine Ai ?_);(try (refine hK _ ?_;clear hK K));try refine iC ?_)
  refine IWP.ghost (Ad.ownM 8 502 72 2 (by rfl) (by simp only [go_sem,fN,seval,eT,iR,s502]) (by rw [hC];decide)) ?_
  refine IWP.loopD [9] (fun m x=>∃ seen:List Nat,seen.Nodup∧(∀ j ∈ seen,j < L.length)∧m=L.length - seen.length∧x.env 8=.one (.row 502 seen.length)∧x.env 34=.one (.ptr 34 1 0 0)∧x.S 10=some (XW L)∧x.S 34=some (.iter (.mptr 10) L.length seen)∧x.S 502=some (TF (met L seen))∧x.S 9=none) L.length ⟨[],List.nodup_nil,by simp,rfl,rfl,rfl,by simp only [go_sem,fN,seval,eT,iR,s10],by simp only [go_sem,fN,seval,eT,iR],by (simp only [go_sem,fN,seval,eT,iR];rfl),by simp only [go_sem,fN,seval,eT,iR,s9]⟩ ?_
  rintro m ⟨env,S⟩ ⟨seen,hnd,hls,rfl,e8,e34,s10,s34,s502,s9⟩
  simp only at e8 e34 s10 s34 s502 s9
  have hsl:=Kr hnd hls
  have hmt:=SC hls
  repeat' with_reducible first | refine W ?_ | refine Z0 ?_ | ((first | refine Wo fun K hK=>?_ | refine Wp ?_ | refine Wq ?_ | refine Wr ?_);(try simp only [go_sem,fN,seval,eT,iR,e8,e34,s10,s34,Ep,dT,dF,nL]);(repeat refine Ai ?_);(try (refine hK _ ?_;clear hK K));try refine iC ?_)
  refine ⟨fun hall=>?_,fun j x c hx hj hkv=>?_⟩
  ·have hall:∀ j,j < L.length→j ∈ seen:=fun j hj=>hall j (by simpa using hj)
   have hmp:=UX hnd hls hall
   have hl':seen.length=L.length:=by rw [← hmt];exact hmp.length_eq
   refine hK _ ?_
   clear hK K
   refine Wb ?_
   refine Wa ?_
   with_reducible refine Wp ?_
   simp only [go_sem,fN,seval,true_implies,false_implies,implies_true,dT,dF,nL]
   (try with_reducible refine iC ?_)
   repeat' (with_reducible first | refine Wb ?_ | refine Wc ?_ | refine Wd ?_ | refine We ?_ | refine Wg ?_ | refine Wh ?_ | refine Wi ?_ | refine Wj ?_ | refine Wk (by decide) ?_ | refine Wl ?_ | refine Wm ?_ | refine Wn ?_)
   refine IWP.mid (fun x=>x.env 8=.one (.row 502 L.length)∧x.S 502=some (TF (Bs L))) ?_ ?_
   ·have hs:=Pa (met L seen) (hmp.nodup_iff.2 hnod) (fun s hs=>hbL s (hmp.mem_iff.1 hs)) (by omega) (up1 502) (Ba 502) (upS S) (by rw [Bl,s502];rfl)
    have hse:Bs (met L seen)=Bs L:=KX fun x=>hmp.mem_iff
    rw [hmt,hl',hse] at hs
    rw [hl'] at e8
    repeat' with_reducible first | refine W ?_ | refine Z0 ?_ | ((first | refine Wo fun K hK=>?_ | refine Wq ?_ | refine Wr ?_);(try simp only [go_sem,fN,seval,eT,iR,e8]);(repeat refine Ai ?_);(try (refine hK _ ?_;clear hK K)))
    refine ⟨_,_,hs,?_⟩
    repeat' with_reducible first | refine W ?_ | refine Z0 ?_ | ((first | refine Wo fun K hK=>?_ | refine Wq ?_ | refine Wr ?_);(try simp only [go_sem,fN,seval,eT,iR,e8]);(repeat refine Ai ?_);(try (refine hK _ ?_;clear hK K)))
    refine ⟨rfl,e8,?_⟩
    simp only [go_sem,fN,seval,eT,iR]
   rintro ⟨env,S⟩ ⟨e8,s502⟩
   simp only at e8 s502
   have hsl2:=CV hnod
   refine IWP.ghost (Ad.share (id:=502) s502) ?_
   repeat' with_reducible first | refine W ?_ | refine Z0 ?_ | ((first | refine Wo fun K hK=>?_ | refine Wq ?_ | refine Wr ?_);(try simp only [go_sem,fN,seval,eT,iR,e8,hsl2]);(repeat refine Ai ?_);(try (refine hK _ ?_;clear hK K)))
   simp only [go_sem,fN,seval,AP,AS.result,AH,AI,AN,hsl2]
  ·rw [Option.map_eq_some_iff] at hx
   obtain ⟨b,hb,rfl⟩:=hx
   have hjl:j < L.length:=(List.getElem?_eq_some_iff.1 hb).1
   have hcv:c=Xl b:=by
    have:some (Xl b)=some c:=hkv
    cases this
    rfl
   subst hcv
   have hnd':(seen ++ [j]).Nodup:=by
    rw [List.nodup_append]
    exact ⟨hnd,by simp,fun a ha b hb e=>hj (by rw [List.mem_singleton.1 hb] at e;rw [← e];exact ha)⟩
   have hlt':∀ i ∈ seen ++ [j],i < L.length:=fun i hi=>by
    rcases List.mem_append.1 hi with h | h
    ·exact hls i h
    ·rw [List.mem_singleton.1 h];exact hjl
   have hsl':=Kr hnd' hlt'
   rw [List.length_append,List.length_singleton] at hsl'
   refine hK _ ?_
   clear hK K
   refine Wb ?_
   repeat' with_reducible first | refine W ?_ | refine Z0 ?_ | ((first | refine Wo fun K hK=>?_ | refine Wp ?_ | refine Wq ?_ | refine Wr ?_);(try simp only [go_sem,fN,seval,eT,iR,e8,e34,s10,s34,s502,s9,Ep,List.getLast?_concat,hb,KV.sv,KV.sv1,hmt,LB,Tg,dT,dF,nL]);(repeat refine Ai ?_);(try (refine hK _ ?_;clear hK K));try refine iC ?_)
   refine AA ⟨L.length - (seen.length + 1),by omega,seen ++ [j],hnd',hlt',by rw [List.length_append,List.length_singleton],?_⟩
   rw [Ut hb]
   simp only [go_sem,fN,seval,AS.drop,AY,AC.clears,AC.clear,AC.highs,AC.high,Bool.not_false,Bool.true_and,Bool.and_self,AV.purge,AV.purges,AC.purge,AL.purge,List.contains_cons,List.contains_nil,Nat.reduceBEq,Bool.or_self,Bool.or_false,Bool.false_or,Bool.or_true,eT,iR,e8,e34,s10,s34,s502,s9]
   rw [TF,List.map_append]
   rfl

end Go.Proofs.Ytkegjgodjigjfaa
