/-
  Part 10 of the texts. Conditions: none.
-/
import Derived.Test.YtignopbnnaimaaaGreatDoorTWi9
import Derived.Lib.ItoaNum
namespace Go.Proofs.YtignopbnnaimaaaGreatDoor
open Go Go.RowKit
set_option linter.unusedVariables false
set_option linter.unusedSimpArgs false
set_option maxHeartbeats 1000000
theorem AH {b c:Nat} (hb:1000≤b) (hc:c < 1000):(b=c)=False:=eq_false (by omega)
theorem AI {b c:Nat} (hb:1000≤b) (hc:c < 1000):(c=b)=False:=eq_false (by omega)
abbrev GC (xs:List ByteArray):AU:=.mrow 9 1 (xs.map Cw)
abbrev UO (i:Int):AU:=.box 25 [.st (.int .i64 1),.st (.int .i64 i),.st (.list [])]
def GE:IR:=(.rangeF (.t 33) [34,35] (.seq (.ops [.m 5 34]) (.ops [.m 6 35])) (.block 1 (.seq (.ops [.m 36 6,.l 37 4,.i 38 (.bin .eql (.t 36) (.t 37))]) (.cond (.t 38) (.seq (.ops [.l 39 1,.i 40 (.nilCheck (.t 39)),.f 41 1 40,.l 42 41,.i 43 (.len false (.t 42)),.i 44 (.bin .sub (.t 43) (.n 1)),.m 45 5,.i 46 (.bin .sub (.t 44) (.t 45)),.i 47 (.call 73 [.t 46]),.s 3 2 47]) .ret) .skip))))
set_option maxRecDepth 100000 in
theorem Oh {C:Ctx} {Q:AX→AS→Prop} (htop:C.Top) (hC:C.n=75) (names:List ByteArray) (hl:names.length≤1000000) (nm:ByteArray) (b id:Nat) (hb:1000≤b) (u:ByteArray) (l:Int) (ty:TypeId) (env:Nat→AV) (S:AA)
  (v1:env 1=.one (.ptr 1 1 0 0)) (v2:env 2=.one (.ptr 2 1 0 0)) (v4:env 4=.one (.ptr 4 1 0 0)) (v33:env 33=.one (.fn 96 [.ptr 900 1 0 0])) {e1:TypeId} (s1:S 1=some (.box e1 [.ptr b 1 0 0])) {cs:List AC} (hcs:cs.length=3) (s2:S 2=some (.box 25 cs)) (s4:S 4=some (.box 9 [.st (.str nm)])) (s900:S 900=some (.box ty [.row id names.length])) (sid:S id=some (GC names)) (sb:S b=some (Cc u (.row id names.length) l)) (s901:S 901=none)
  (hdone:G2 names nm=none→Q .normal ⟨env,AK S 901 (some (.dead 1 0))⟩) (hret:∀ k:Nat,G2 names nm=some k→Q .ret ⟨env,AK (AK S 2 (some (UO ((names.length:Int) - 1 - k)))) 901 (some (.dead 1 0))⟩):IWP Tryz.prog C [10,21,23,26,28,33] GE Q ⟨env,S⟩:=by
 unfold GE
 refine IWP.rangeF htop 901 (by decide) s901 (show AS.ev _ (.t 33)=_ from v33) (by kernel_rfl) (Nu names (by omega) (up1 900) (up1 id) ty 9 (AL _) (AL _)) (fun _=>rfl) (fun pre U=>U=upS S∧∀ i ∈ pre,names.getD i .empty ≠ nm) (fun ex U=>ex=.ret∧∃ k:Nat,G2 names nm=some k∧U=AK (upS S) 1002 (some (UO ((names.length:Int) - 1 - k)))) ⟨rfl,by simp⟩ ?_ ?_ ?_ ?_
 ·rintro pre U b ⟨rfl,_⟩ hU
  have n1:up1 900 ≠ up1 901:=by decide
  have n2:up1 id ≠ up1 901:=fun h=>by
   have:id=901:=by unfold up1 at h;omega
   subst this
   rw [sid] at s901
   cases s901
  rw [AJ _ n1,AJ _ n2,C5,C5,s900,sid]
  exact ⟨rfl,rfl⟩
 ·rintro C' b0 b1 pre v U hC' hpre ⟨rfl,hI⟩ hU hcl hb1
  have t1:upS S 1001=some (.box e1 [.ptr (up1 b) 1 0 0]):=A1 s1
  have t2:upS S 1002=some (.box 25 (cs.map (AC.ren up1))):=by
   have:=A1 (S:=S) (i:=2) s2
   rw [show up1 2=1002 from rfl] at this
   rw [this]
   show some (AU.box _ (AC.rens up1 cs))=_
   rw [AC.rens_eq]
  have t4:upS S 1004=some (.box 9 [.st (.str nm)]):=A1 s4
  have tb:upS S (up1 b)=some (Cc u (.row (up1 id) names.length) l):=A1 sb
  have ti:upS S (up1 id)=some (GC names):=A1 sid
  have w1:Gn C.n env 1=.one (.ptr 1001 1 0 0):=by rw [Gn,if_pos (by omega),v1];rfl
  have w2:Gn C.n env 2=.one (.ptr 1002 1 0 0):=by rw [Gn,if_pos (by omega),v2];rfl
  have w4:Gn C.n env 4=.one (.ptr 1004 1 0 0):=by rw [Gn,if_pos (by omega),v4];rfl
  have u901:up1 901=1901:=rfl
  have n2b:¬ 1901=up1 b:=by unfold up1;omega
  have n2i:¬ 1901=up1 id:=fun h=>by
   have:id=901:=by unfold up1 at h;omega
   subst this
   rw [sid] at s901
   cases s901
  have n3b:¬ up1 b=1901:=fun h=>n2b h.symm
  have n3i:¬ up1 id=1901:=fun h=>n2i h.symm
  have hll:(names.map Cw).length=names.length:=by simp
  obtain ⟨tl,htl⟩:=hpre
  have hdn:DP names.length 0=(List.range names.length).reverse:=by unfold DP;rw [List.range_eq_range'];rfl
  have hrev:(List.range names.length)=tl.reverse ++ [v] ++ pre.reverse:=by
   have:=congrArg List.reverse htl
   rw [hdn,List.reverse_reverse] at this
   rw [← this]
   simp
  have v0:v < names.length:=by
   have:v ∈ List.range names.length:=by rw [hrev];simp
   simpa using this
  have hpos:∀ j,v < j→j < names.length→j ∈ pre:=fun j h1 h2=>by
   have hlen:=congrArg List.length hrev
   simp at hlen
   have hv:(List.range names.length)[tl.length]?=some v:=by rw [hrev];simp
   have hv':tl.length=v:=by
    rw [List.getElem?_range (by omega)] at hv
    injection hv
   have hj:(List.range names.length)[j]?=some j:=by rw [List.getElem?_range h2]
   rw [hrev,List.append_assoc,List.getElem?_append_right (by simp;omega),List.getElem?_append_right (by simp;omega)] at hj
   have:=List.mem_of_getElem? hj
   simpa using this
  have hget:names[v]?=some (names.getD v .empty):=by simp [List.getD,List.getElem?_eq_getElem v0]
  have hgd:∀ x,names.getD v .empty=x→names.getD v .empty=x:=fun _ h=>h
  generalize hx0:names.getD v .empty=x at hget
  repeat' with_reducible first | refine W ?_ | refine Z0 ?_ | ((first | refine Wo fun K hK=>?_ | refine Wp ?_ | refine Wq ?_ | refine Wr ?_);(try simp only [go_sem,fN,seval,eT,iR,Kp,w4,t4,dT,dF,nL]);(repeat refine Ai ?_);(try (refine hK _ ?_;clear hK K));try refine iC ?_)
  refine Ag ⟨show AK (upS S) (up1 901) (some b0) (up1 901)=_ from AD _ _ _,?_⟩
  have hhigh:An (AK (upS S) (up1 901) (some b1)):=A2 hcl (AL _) hb1
  by_cases hx:x=nm
  ·have hbd:G2 names nm=some v:=Jt (by rw [decide_eq_true_eq,hx0,hx]) v0 fun j h1 h2=>by
    rw [decide_eq_true_eq]
    exact hI j (hpos j h1 h2)
   repeat' (first | (with_reducible first | refine W ?_ | refine Z0 ?_ | ((first | refine Wo fun K hK=>?_ | refine Wp ?_ | refine Wq ?_ | refine Wr ?_);(try simp only [go_sem,fN,seval,eT,iR,w1,w2,w4,t1,t2,t4,tb,ti,n2b,n2i,n3b,n3i,hll,u901,hx,hcs,AS.set,dT,dF,nL]);(repeat refine Ai ?_);(try (refine hK _ ?_;clear hK K));try refine iC ?_)) | refine Cg _ (He ((names.length:Int) - 1 - v)) ?_)
   have hd:List.drop 3 (List.map (AC.ren up1) cs)=[]:=List.drop_eq_nil_of_le (by simp [hcs])
   rw [hd]
   refine ⟨_,AK (upS S) 1002 (some (UO ((names.length:Int) - 1 - v))),Am.refl _ _,?_,?_,?_,rfl,v,hbd,rfl⟩
   ·show AK (AK (AK (upS S) 1901 (some b0)) 1901 (some b1)) 1002 _=_
    rw [Eb,BK (by decide)]
   ·show An (AK (AK (AK (upS S) 1901 (some b0)) 1901 (some b1)) 1002 _)
    rw [Eb]
    exact A2 hhigh (by decide) rfl
   ·rw [AJ _ (by decide)]
    exact hU
  ·repeat' with_reducible first | refine W ?_ | refine Z0 ?_ | ((first | refine Wo fun K hK=>?_ | refine Wp ?_ | refine Wq ?_ | refine Wr ?_);(try simp only [go_sem,fN,seval,eT,iR,w4,t4,u901,hx,AS.set,dT,dF,nL]);(repeat refine Ai ?_);(try (refine hK _ ?_;clear hK K));try refine iC ?_)
   refine ⟨_,upS S,Am.refl _ _,by simp only [AS.set,Eb,u901],by simpa only [AS.set,Eb,u901] using hhigh,by rw [← u901];exact hU,rfl,fun i hi=>?_⟩
   rcases List.mem_append.1 hi with hi | hi
   ·exact hI i hi
   ·rw [List.mem_singleton.1 hi,hx0]
    exact hx
 ·rintro U ⟨rfl,h⟩
  rw [Dy]
  refine hdone (Jj fun j hj=>?_)
  rw [decide_eq_true_eq]
  exact h j (by simp [DP];exact hj)
 ·rintro ex U ⟨rfl,k,hk,rfl⟩
  rw [show (1002:Nat)=up1 2 from rfl,CE,Dy]
  exact hret k hk

theorem K8 (s:ByteArray) (i:Nat):∀ k j:Nat,i + j + k≤s.size→Hk (Ar s i) k j + i=Hk s k (i + j)
 | 0,j,_=>by rw [Hk,Hk];omega
 | k + 1,j,h=>by
  rw [Hk,Hk]
  have hb:Ac (Ar s i) j=Ac s (i + j):=Dz (by omega)
  rw [hb]
  by_cases hl:Bi (Ac s (i + j))=true
  ·rw [if_pos hl,if_pos hl,K8 s i k (j + 1) (by omega)]
   rfl
  ·rw [if_neg hl,if_neg hl]
   omega
theorem Eo {s:ByteArray} {i:Nat} (hi:i≤s.size):Ak (Ar s i) 0=Ak s i - i:=by
 have h:=K8 s i (s.size - i) 0 (by omega)
 unfold Ak
 rw [Bm,Nat.sub_zero]
 rw [Nat.add_zero] at h
 omega
theorem L8 {s:ByteArray} {i:Nat} (hi:i≤s.size):(Ar s i).extract 0 (Ak (Ar s i) 0)=GU s i:=by
 obtain ⟨l1,l2⟩:=FO hi
 rw [Eo hi,Pf (by omega)]
 unfold GU
 congr 1
 omega
theorem P3 {s:ByteArray} {i:Nat} (hi:i≤s.size):(Ar s i).extract (Ak (Ar s i) 0) (Ar s i).size=Ar s (Ak s i):=by
 obtain ⟨l1,l2⟩:=FO hi
 rw [Eo hi,EX (by omega)]
 congr 1
 omega
theorem ET {s:ByteArray} {i:Nat} (hi:i≤s.size):Ar s i=⟨#[]⟩ ↔ i=s.size:=by
 constructor
 ·intro h
  have:=Bm s i
  rw [h] at this
  have h0:(⟨#[]⟩:ByteArray).size=0:=rfl
  omega
 ·intro h
  have:=Bm s i
  exact ByteArray.size_eq_zero_iff.1 (by omega)
theorem Jp (s:ByteArray) (i:Nat):Gc (Ar s i)=if i < s.size then Ac s i else 0:=by
 unfold Gc
 rw [Bm]
 by_cases h:i < s.size
 ·rw [if_neg (by omega),if_pos h,Dz (by omega),Nat.add_zero]
 ·rw [if_pos (by omega),if_neg h]
theorem Hr {s:ByteArray} {i:Nat} {c:Int} (h:i < s.size∧Ac s i=c):Gc (Ar s i)=c:=by
 rw [Jp,if_pos h.1,h.2]
theorem JX {s:ByteArray} {i:Nat} {c:Int} (hc:c ≠ 0) (h:¬ (i < s.size∧Ac s i=c)):¬ Gc (Ar s i)=c:=by
 rw [Jp]
 by_cases h1:i < s.size
 ·rw [if_pos h1]
  exact fun e=>h ⟨h1,e⟩
 ·rw [if_neg h1]
  exact fun e=>hc e.symm
section
variable {s:ByteArray} {nm:AC} {l:Int} {b at_:Nat} {S:AA}
theorem Gq (hb:1000≤b) (sb:S b=some (Cc (Ar s at_) nm l)):Ay Tryz.prog 63 [.one (.ptr b 1 0 0)] S (.one (.st (.int .u8 (Gc (Ar s at_))))) S:=Tc hb sb
theorem MF (hs:s.size≤100000) (hat:at_≤s.size) (hb:1000≤b) (hnm:nm.high=true) (sb:S b=some (Cc (Ar s at_) nm l)) (h:Dh s at_=0):Ay Tryz.prog 65 [.one (.ptr b 1 0 0)] S (CM (GU s at_)) (AK S b (some (Cc (Ar s (Ak s at_)) nm l))):=by
 have hz:=Bm s at_
 obtain ⟨n1,n2⟩:=(FJ hat).2.2.2 h
 have:=TB (u:=Ar s at_) (by omega) hb hnm sb (by rw [Eo hat];omega) (by rw [L8 hat];exact n2)
 rw [L8 hat,P3 hat] at this
 exact this
theorem KU (hs:s.size≤100000) (hat:at_≤s.size) (hb:1000≤b) (sb:S b=some (Cc (Ar s at_) nm l)) (h:¬ Dh s at_=0):IG Tryz.prog 65 [.one (.ptr b 1 0 0)] S (C3 (Dh s at_)) (AK S b (some (.dead 1 0))):=by
 have hz:=Bm s at_
 obtain ⟨l1,l2⟩:=FO hat
 refine TZ (u:=Ar s at_) _ (by omega) hb sb ?_
 rw [L8 hat,Eo hat]
 unfold Dh at h ⊢
 by_cases h0:Ak s at_=at_
 ·rw [if_pos h0] at h ⊢
  by_cases h1:at_=s.size
  ·rw [if_pos h1]
   exact .inl ⟨by omega,(ET hat).2 h1,rfl⟩
  ·rw [if_neg h1]
   exact .inr (.inl ⟨by omega,fun e=>h1 ((ET hat).1 e),rfl⟩)
 ·rw [if_neg h0] at h ⊢
  by_cases h1:A9 (GU s at_)=true
  ·rw [if_pos h1] at h
   exact absurd rfl h
  ·rw [if_neg h1]
   exact .inr (.inr ⟨by omega,h1,rfl⟩)
theorem NH {c:Int} (hat:at_≤s.size) (hb:1000≤b) (hnm:nm.high=true) (sb:S b=some (Cc (Ar s at_) nm l)) (h:EE s c at_=0):Ay Tryz.prog 66 [.one (.ptr b 1 0 0),.one (.st (.int .u8 c))] S (.tup []) (AK S b (some (Cc (Ar s (at_ + 1)) nm l))):=by
 obtain ⟨h1,h2⟩:=(G3 hat).2 h
 have hz:=Bm s at_
 have:=Sz (u:=Ar s at_) c hb hnm sb (by omega) (by rw [Dz (by omega)];exact h2)
 rw [EX (by omega)] at this
 exact this
theorem KX {c:Int} (hat:at_≤s.size) (hb:1000≤b) (sb:S b=some (Cc (Ar s at_) nm l)) (h:¬ EE s c at_=0):IG Tryz.prog 66 [.one (.ptr b 1 0 0),.one (.st (.int .u8 c))] S (C3 (EE s c at_)) (AK S b (some (.dead 1 0))):=by
 have hz:=Bm s at_
 unfold EE at h ⊢
 by_cases h0:at_=s.size
 ·rw [if_pos h0]
  exact RJ (u:=Ar s at_) c hb sb ((ET hat).2 h0)
 ·rw [if_neg h0] at h ⊢
  by_cases h1:Ac s at_=c
  ·rw [if_pos h1] at h
   exact absurd rfl h
  ·rw [if_neg h1]
   exact Rn (u:=Ar s at_) c hb sb (by omega) (by rw [Dz (by omega)];exact h1)
end
theorem A4 {S:AA} {b i n:Nat} {u:ByteArray} {l:Int} (h:S b=some (Cc u (.row i n) l)):upS S (up1 b)=some (Cc u (.row (up1 i) n) l):=A1 h
theorem DC {S:AA} {i:Nat} {ns:List ByteArray} (h:S i=some (GC ns)):upS S (up1 i)=some (GC ns):=A1 h
theorem Co {S:AA} {i:Nat} (h:S i=none):upS S (up1 i)=none:=by rw [C5,h];rfl
def Ch (S:AA) (b i ni N:Nat) (ns:List ByteArray) (u:ByteArray) (l:Int):AA:=AK (AK (AK S i (some (.dead N 1))) ni (some (GC ns))) b (some (Cc u (.row ni ns.length) l))
def CI (S:AA) (b i N:Nat):AA:=AK (AK S i (some (.dead N 1))) b (some (.dead 1 0))
theorem DW {S:AA} {b i ni N:Nat} {ns:List ByteArray} {u:ByteArray} {l:Int}:dnS (Ch (upS S) (up1 b) (up1 i) (up1 ni) N ns u l)=Ch S b i ni N ns u l:=by
 unfold Ch
 rw [CE,CE,CE,Dy]
 show AK _ b (some (AU.box _ [_,AC.row (dn1 (up1 ni)) _,_]))=_
 rw [DF]
 rfl
theorem Bp {S:AA} {b i N:Nat}:dnS (CI (upS S) (up1 b) (up1 i) N)=CI S b i N:=by
 unfold CI
 rw [CE,CE,Dy]
 rfl
def TT (t:Lm) (S':AA) (x:AS):Prop:=∃ r0,(AB x [RV.cell 2 true 3]).map AQ=some r0∧outV x.S r0=some (aLm t)∧∀ i,1000≤i→x.S i=S' i
def LRS (f:Nat) (q:LRd) (S S1 S2:AA) (b:Nat):Prop :=
 (q.e=0→Ay Tryz.prog f [.one (.ptr b 1 0 0)] S (aLm q.t) S1)∧(q.e ≠ 0→IG Tryz.prog f [.one (.ptr b 1 0 0)] S (C3 q.e) S2)
theorem N9 {f n:Nat} {mu:List Nat} {x:IR} (o:OkF Tryz.prog f n mu x [.cell 2 true 3]) (hn:1≤n) {q:LRd} {S S1 S2:AA} {b:Nat} (h1:An S→An S1) (h2:An S→An S2)
  (h:An S→∀ (C:Ctx) (Q:AX→AS→Prop),C.n=n→C.Top→(q.e=0→∀ x y,Am C x y→TT q.t S1 y→Q .ret x)→(q.e ≠ 0→∀ x y,Am C x y→(∀ i,1000≤i→y.S i=S2 i)→Q (.pan (C3 q.e)) x)→IWP Tryz.prog C mu x Q (AS.startS [.one (.ptr b 1 0 0)] S)):LRS f q S S1 S2 b:=by
 refine ⟨fun he=>?_,fun he=>?_⟩
 ·refine o.acST (fun hS C hC ht=>h hS C _ hC ht (fun _ x y hg hx=>?_) (fun hne=>absurd he hne)) hn
  obtain ⟨r0,q1,q2,q3⟩:=hx
  exact Ei hg (CL r0 (h1 hS) trivial q1 q2 q3)
 ·refine o.acPT (fun hS C hC ht=>h hS C _ hC ht (fun h0=>absurd h0 he) (fun _ x y hg hx=>?_)) hn
  have hc:=h2 hS
  refine ⟨rfl,_,hg.trans (Am.low fun i c hi hc'=>?_),?_,hc⟩
  ·rw [hx i hi] at hc'
   exact (hc i c hc').2
  ·funext i
   show (if i < 1000 then none else y.S i)=_
   split
   ·exact (AY hc (by omega)).symm
   ·exact hx i (by omega)
theorem FW {S:AA} {b i ni N:Nat} {ns:List ByteArray} {u:ByteArray} {l:Int} (hb:1000≤b) (hi:1000≤i) (hn:1000≤ni) (hS:An S):An (Ch S b i ni N ns u l) :=
 A2 (A2 (A2 hS hi rfl) hn rfl) hb (F1 (B8 hn))
theorem Fg {S:AA} {b i N:Nat} (hb:1000≤b) (hi:1000≤i) (hS:An S):An (CI S b i N):=A2 (A2 hS hi rfl) hb rfl
theorem TV {C:Ctx} {x:AS} {S:AA} {b i N:Nat} (hne:b ≠ i) (h1:(∃ ty xs,x.S b=some (.box ty xs)) ∨ x.S b=some (.dead 1 0)) (h2:(∃ xs,x.S i=some (GC xs)∧xs.length < N) ∨ x.S i=some (.dead N 1)) (h3:∀ j,1000≤j→j ≠ b→j ≠ i→x.S j=S j):∃ y,Am C x y∧∀ j,1000≤j→y.S j=CI S b i N j:=by
 obtain ⟨y,hg,hy1,hy2⟩:∃ y:AS,Am C x y∧y.S b=some (.dead 1 0)∧∀ j,j ≠ b→y.S j=x.S j:=by
  rcases h1 with ⟨ty,xs,h1⟩ | h1
  ·exact ⟨_,Am.kill b h1,AD _ _ _,fun j hj=>AJ _ hj _⟩
  ·exact ⟨x,Am.refl _ _,h1,fun _ _=>rfl⟩
 obtain ⟨z,hg2,hz1,hz2⟩:∃ z:AS,Am C y z∧z.S i=some (.dead N 1)∧∀ j,j ≠ i→z.S j=y.S j:=by
  have hyi:=hy2 i (fun e=>hne e.symm)
  rcases h2 with ⟨xs,h2,hl⟩ | h2
  ·exact ⟨_,Am.bury i N 1 (hyi.trans h2) ⟨by simpa using hl,rfl⟩,AD _ _ _,fun j hj=>AJ _ hj _⟩
  ·exact ⟨y,Am.refl _ _,hyi.trans h2,fun _ _=>rfl⟩
 refine ⟨z,hg.trans hg2,fun j hj=>?_⟩
 unfold CI
 by_cases e1:j=b
 ·subst e1
  rw [hz2 _ hne,hy1,AD]
 ·rw [AJ _ e1]
  by_cases e2:j=i
  ·subst e2
   rw [hz1,AD]
  ·rw [AJ _ e2,hz2 _ e2,hy2 _ e1,h3 j hj e1 e2]
theorem CZ {C:Ctx} {Q:AX→AS→Prop} {v:Value} {S:AA} {b i N:Nat} (hne:¬ b=i) (hpan:∀ x y,Am C x y→(∀ j,1000≤j→y.S j=CI S b i N j)→Q (.pan v) x) (x:AS) (h1:(∃ ty xs,x.S b=some (.box ty xs)) ∨ x.S b=some (.dead 1 0)) (h2:(∃ xs,x.S i=some (GC xs)∧xs.length < N) ∨ x.S i=some (.dead N 1)) (h3:∀ j,1000≤j→j ≠ b→j ≠ i→x.S j=S j):Q (.pan v) x:=by
 obtain ⟨y,hg,hy⟩:=TV (C:=C) hne h1 h2 h3
 exact hpan x y hg hy
theorem Rq {C:Ctx} {x:AS} {S:AA} {b i j ni N:Nat} {ns xs:List ByteArray} {u:ByteArray} {l:Int} {c:AC} (hb:x.S b=some (Cc u c l)) (hj:x.S j=some (GC xs)) (hN:xs.length < N) (hc:c=.part j ns.length xs.length ∨ (c=.row j ns.length∧ns.length=xs.length)) (hx:xs.take ns.length=ns) (hni:x.S ni=none) (hbn:b ≠ ni) (h1000:1000≤ni)
  (hi:(j=i) ∨ (j < 1000∧x.S i=some (.dead N 1)∧i ≠ ni∧i ≠ b)) (h3:∀ j,1000≤j→j ≠ b→j ≠ i→x.S j=S j):∃ y:AS,y.env=x.env∧Am C x y∧(∀ k,k ≠ b→k ≠ ni→k ≠ j→y.S k=x.S k)∧∀ k,1000≤k→y.S k=Ch S b i ni N ns u l k:=by
 have hjb:b ≠ j:=fun e=>by subst e;rw [hb] at hj;cases hj
 have hjn:j ≠ ni:=fun e=>by subst e;rw [hj] at hni;cases hni
 have hg:=Am.rebase (C:=C) (s:=x) b j ni 1 ns.length N (xs:=xs.map Cw) (by simpa using hN) hb hj hni (by
  rw [List.length_map]
  rcases hc with rfl | ⟨rfl,h⟩
  ·exact .inl rfl
  ·exact .inr ⟨rfl,h⟩)
 refine ⟨_,?he,hg,fun k k1 k2 k3=>?_,fun k hk=>?_⟩
 case he=>rfl
 ·show AK (AK (AK x.S j _) ni _) b _ k=_
  rw [AJ _ k1,AJ _ k2,AJ _ k3]
 show AK (AK (AK x.S j (some (.dead N 1))) ni (some (AU.mrow _ 1 ((xs.map Cw).take ns.length)))) b (some (AU.box _ ([_,c,_].set 1 (.row ni ns.length)))) k=_
 rw [← List.map_take,hx]
 unfold Ch
 by_cases e1:k=b
 ·subst e1
  rw [AD,AD]
  rfl
 rw [AJ _ e1,AJ _ e1]
 by_cases e2:k=ni
 ·subst e2
  rw [AD,AD]
 rw [AJ _ e2,AJ _ e2]
 rcases hi with rfl | ⟨q1,q2,q3,q4⟩
 ·by_cases e3:k=j
  ·subst e3
   rw [AD,AD]
  ·rw [AJ _ e3,AJ _ e3,h3 k hk e1 e3]
 ·rw [AJ _ (show k ≠ j by omega)]
  by_cases e3:k=i
  ·subst e3
   rw [AD,q2]
  ·rw [AJ _ e3,h3 k hk e1 e3]
theorem Gw {C:Ctx} {Q:AX→AS→Prop} {S:AA} {b i ni N:Nat} {ns:List ByteArray} {u:ByteArray} {l:Int} {t:Lm} (hok:∀ x y,Am C x y→TT t (Ch S b i ni N ns u l) y→Q .ret x) (x:AS) (j:Nat) (xs:List ByteArray) (c:AC) (h2:x.env 2=.one (.ptr 2 1 0 0)) (s2:x.S 2=some (.box 25 [.st (.int .i64 t.kind),.st (.int .i64 t.idx),.st (.list (t.subs.map Ci))]))
  (hb:x.S b=some (Cc u c l)) (hj:x.S j=some (GC xs)) (hN:xs.length < N) (hc:c=.part j ns.length xs.length ∨ (c=.row j ns.length∧ns.length=xs.length)) (hx:xs.take ns.length=ns) (hni:x.S ni=none) (hbn:b ≠ ni) (h1000:1000≤ni) (hb1000:1000≤b)
  (hi:(j=i) ∨ (j < 1000∧x.S i=some (.dead N 1)∧i ≠ ni∧i ≠ b)) (h3:∀ j,1000≤j→j ≠ b→j ≠ i→x.S j=S j):Q .ret x:=by
 obtain ⟨y,y1,hg,y2,y3⟩:=Rq (C:=C) (S:=S) (i:=i) hb hj hN hc hx hni hbn h1000 hi h3
 have hj2:2 ≠ j:=fun e=>by subst e;rw [s2] at hj;cases hj
 have e2:=y2 2 (by omega) (by omega) hj2
 rw [s2] at e2
 refine hok x y hg ⟨aLm t,?_,rfl,y3⟩
 rw [← y1] at h2
 simp [AB,AE,AQ,h2,e2,Cf,LU]

set_option maxHeartbeats 2000000
def LT (s:ByteArray) (f:Nat):Prop:=∀ (ns:List ByteArray) (at_ k b i ni N:Nat) (S:AA),at_≤s.size→k≤200→3 * (s.size - at_) + 2 < f→ns.length + (s.size - at_) + 1 < N→N≤1000000→1000≤b→1000≤i→1000≤ni →
 S b=some (Cc (Ar s at_) (.row i ns.length) (200 - k))→S i=some (GC ns)→S ni=none→LRS 40 (lrT s f ns at_ k) S (Ch S b i ni N ns (Ar s (lrT s f ns at_ k).i) (200 - (lrT s f ns at_ k).k)) (CI S b i N) b
def LPc (s:ByteArray) (f:Nat):Prop:=∀ (ns:List ByteArray) (at_ k b i ni N:Nat) (S:AA),at_≤s.size→k≤200→3 * (s.size - at_) + 1 < f→ns.length + (s.size - at_) + 1 < N→N≤1000000→1000≤b→1000≤i→1000≤ni →
 S b=some (Cc (Ar s at_) (.row i ns.length) (200 - k))→S i=some (GC ns)→S ni=none→LRS 68 (lrP s f ns at_ k) S (Ch S b i ni N ns (Ar s (lrP s f ns at_ k).i) (200 - (lrP s f ns at_ k).k)) (CI S b i N) b
set_option maxRecDepth 100000 in
theorem TS {s:ByteArray} (hs:s.size≤100000) {f:Nat} (hT:LT s f):LPc s (f + 1):=by
 intro ns at_ k b i ni N S hat hk hf hN hN2 hb hi hni sb si sni
 have hbi:¬ b=i:=fun e=>by subst e;rw [sb] at si;cases si
 have hbn:¬ b=ni:=fun e=>by subst e;rw [sb] at sni;cases sni
 have hin:¬ i=ni:=fun e=>by subst e;rw [si] at sni;cases sni
 have hib:¬ i=b:=fun e=>hbi e.symm
 have hnb:¬ ni=b:=fun e=>hbn e.symm
 have hnj:¬ ni=i:=fun e=>hin e.symm
 have hus:=Bm s at_
 obtain ⟨q,hq⟩:∃ q,lrP s (f + 1) ns at_ k=q:=⟨_,rfl⟩
 rw [hq]
 refine N9 Cy (by decide) (FW hb hi hni) (Fg hb hi) fun hS C Q hC htop hok hpan=>?_
 have n1:S 1=none:=AY hS (by omega)
 have n2:S 2=none:=AY hS (by omega)
 have n3:S 3=none:=AY hS (by omega)
 have n4:S 4=none:=AY hS (by omega)
 have n5:S 5=none:=AY hS (by omega)
 have n900:S 900=none:=AY hS (by omega)
 have n901:S 901=none:=AY hS (by omega)
 unfold Bn
 repeat' with_reducible first | refine W ?_ | refine Z0 ?_ | ((first | refine Wx rfl fun K hK=>?_ | refine Wp ?_ | refine Wq ?_ | refine Wr ?_);(try simp only [go_sem,fN,seval,eT,iR,AS.startS,AH,AI,hb,hi,hni,n1,n2,n3,n4,n5,n900,n901,hbi,hib,hbn,hnb,hin,hnj,dT,dF,nL]);(repeat refine Ai ?_);(try (refine hK _ ?_;clear hK K));try refine iC ?_)
 refine ⟨_,_,Gq (s:=s) (at_:=at_) (nm:=.row (up1 i) ns.length) (l:=200 - k) (AL b) (A4 (by simp only [go_sem,fN,seval,eT,iR,AH,AI,hb,hi,hni,n1,n2,n3,n4,n5,n900,n901,hbi,hib,hbn,hnb,hin,hnj,sb])),?_⟩
 by_cases h0:at_ < s.size∧Ac s at_=40
 ·have ha:=Hr h0
  obtain ⟨h0,h0'⟩:=h0
  rw [lrP,if_pos ⟨h0,h0'⟩] at hq
  have hdr:=EX (s:=s) (i:=at_) (n:=1) (by omega)
  have h1i:(1:Int)≤(Ar s at_).size:=by omega
  have hc:=hT ns (at_ + 1) k (up1 b) (up1 i) (up1 900) N
  by_cases he:(lrT s f ns (at_ + 1) k).e=0
  case neg =>
   rw [if_neg he] at hq
   subst hq
   repeat' (first | (with_reducible first | refine W ?_ | refine Z0 ?_) | (first | refine IWP.opsPan 1 ⟨some 21,none,.callS 40 [.t 20],.no⟩ rfl (by kernel_rfl) ?_) | (with_reducible ((first | refine Wx rfl fun K hK=>?_ | refine Wp ?_ | refine Wq ?_ | refine Wr ?_);(try simp only [go_sem,fN,seval,eT,iR,AH,AI,hb,hi,hni,n1,n2,n3,n4,n5,n900,n901,hbi,hib,hbn,hnb,hin,hnj,ha,sb,hdr,h1i,dT,dF,nL]);(repeat refine Ai ?_);(try (refine hK _ ?_;clear hK K));try refine iC ?_)))
   simp only [go_sem,fN,seval,eT,iR,BI,List.take_succ_cons,List.take_zero,AH,AI,hb,hi,hni,n1,n2,n3,n4,n5,n900,n901,hbi,hib,hbn,hnb,hin,hnj]
   refine ⟨_,_,(hc _ (by omega) hk (by omega) (by omega) hN2 (AL b) (AL i) (AL 900) (A4 (by simp only [go_sem,fN,seval,eT,iR,AH,AI,hb,hi,hni,n1,n2,n3,n4,n5,n900,n901,hbi,hib,hbn,hnb,hin,hnj,sb])) (DC (by simp only [go_sem,fN,seval,eT,iR,AH,AI,hb,hi,hni,n1,n2,n3,n4,n5,n900,n901,hbi,hib,hbn,hnb,hin,hnj,si])) (Co (by simp only [go_sem,fN,seval,eT,iR,AH,AI,hb,hi,hni,n1,n2,n3,n4,n5,n900,n901,hbi,hib,hbn,hnb,hin,hnj]))).2 he,fun envP=>?_⟩
   repeat' (with_reducible first | refine Wy ?_ | refine Wz ?_ | refine Wv ?_)
   refine CZ hbi (hpan he) _ (.inr ?_) (.inr ?_) fun j j1 j2 j3=>?_
   ·simp only [go_sem,fN,seval,eT,iR,Bp,CI,AH,AI,hb,hi,hni,n1,n2,n3,n4,n5,n900,n901,hbi,hib,hbn,hnb,hin,hnj]
   ·simp only [go_sem,fN,seval,eT,iR,Bp,CI,AH,AI,hb,hi,hni,n1,n2,n3,n4,n5,n900,n901,hbi,hib,hbn,hnb,hin,hnj]
   ·simp only [go_sem,fN,seval,eT,iR,Bp,CI,AH,AI,j1,j2,j3]
  case pos =>
  rw [if_pos he] at hq
  have hqo:=MD s f ns (at_ + 1) k (by omega) hk (by omega)
  obtain ⟨o1,o2,o3,o4⟩:=hqo.ok he
  repeat' with_reducible first | refine W ?_ | refine Z0 ?_ | ((first | refine Wx rfl fun K hK=>?_ | refine Wp ?_ | refine Wq ?_ | refine Wr ?_);(try simp only [go_sem,fN,seval,eT,iR,AH,AI,hb,hi,hni,n1,n2,n3,n4,n5,n900,n901,hbi,hib,hbn,hnb,hin,hnj,ha,sb,hdr,h1i,dT,dF,nL]);(repeat refine Ai ?_);(try (refine hK _ ?_;clear hK K));try refine iC ?_)
  refine ⟨_,_,(hc _ (by omega) hk (by omega) (by omega) hN2 (AL b) (AL i) (AL 900) (A4 (by simp only [go_sem,fN,seval,eT,iR,AH,AI,hb,hi,hni,n1,n2,n3,n4,n5,n900,n901,hbi,hib,hbn,hnb,hin,hnj,sb])) (DC (by simp only [go_sem,fN,seval,eT,iR,AH,AI,hb,hi,hni,n1,n2,n3,n4,n5,n900,n901,hbi,hib,hbn,hnb,hin,hnj,si])) (Co (by simp only [go_sem,fN,seval,eT,iR,AH,AI,hb,hi,hni,n1,n2,n3,n4,n5,n900,n901,hbi,hib,hbn,hnb,hin,hnj]))).1 he,?_⟩
  clear hc hT
  generalize lrT s f ns (at_ + 1) k=p at *
  by_cases hw:EE s 41 p.i=0
  case neg =>
   subst hq
   repeat' (first | (with_reducible first | refine W ?_ | refine Z0 ?_) | (first | refine IWP.opsPan 1 ⟨some 23,none,.callS 66 [.t 22,.c (.one (.st (.int .u8 41)))],.no⟩ rfl (by kernel_rfl) ?_) | (with_reducible ((first | refine Wx rfl fun K hK=>?_ | refine Wp ?_ | refine Wq ?_ | refine Wr ?_);(try simp only [go_sem,fN,seval,eT,iR,DW,Ch,AH,AI,hb,hi,hni,n1,n2,n3,n4,n5,n900,n901,hbi,hib,hbn,hnb,hin,hnj,ha,sb,hdr,h1i,dT,dF,nL]);(repeat refine Ai ?_);(try (refine hK _ ?_;clear hK K));try refine iC ?_)))
   simp only [go_sem,fN,seval,eT,iR,BI,List.take_succ_cons,List.take_zero,AH,AI,hb,hi,hni,n1,n2,n3,n4,n5,n900,n901,hbi,hib,hbn,hnb,hin,hnj]
   refine ⟨_,_,KX (c:=41) (nm:=.row (up1 900) ns.length) (l:=200 - p.k) o1 (AL b) (A4 (by simp only [go_sem,fN,seval,eT,iR,AH,AI,hb,hi,hni,n1,n2,n3,n4,n5,n900,n901,hbi,hib,hbn,hnb,hin,hnj])) hw,fun envP=>?_⟩
   repeat' (with_reducible first | refine Wy ?_ | refine Wz ?_ | refine Wv ?_)
   refine CZ hbi (hpan hw) _ (.inr ?_) (.inr ?_) fun j j1 j2 j3=>?_
   ·simp only [go_sem,fN,seval,eT,iR,AH,AI,hb,hi,hni,n1,n2,n3,n4,n5,n900,n901,hbi,hib,hbn,hnb,hin,hnj]
   ·simp only [go_sem,fN,seval,eT,iR,AH,AI,hb,hi,hni,n1,n2,n3,n4,n5,n900,n901,hbi,hib,hbn,hnb,hin,hnj]
   ·simp only [go_sem,fN,seval,eT,iR,AH,AI,j1,j2,j3]
  case pos =>
   subst hq
   repeat' with_reducible first | refine W ?_ | refine Z0 ?_ | ((first | refine Wx rfl fun K hK=>?_ | refine Wp ?_ | refine Wq ?_ | refine Wr ?_);(try simp only [go_sem,fN,seval,eT,iR,DW,Ch,AH,AI,hb,hi,hni,n1,n2,n3,n4,n5,n900,n901,hbi,hib,hbn,hnb,hin,hnj,ha,sb,hdr,h1i,dT,dF,nL]);(repeat refine Ai ?_);(try (refine hK _ ?_;clear hK K));try refine iC ?_)
   refine ⟨_,_,NH (c:=41) (nm:=.row (up1 900) ns.length) (l:=200 - p.k) o1 (AL b) (B8 (AL 900)) (A4 (by simp only [go_sem,fN,seval,eT,iR,AH,AI,hb,hi,hni,n1,n2,n3,n4,n5,n900,n901,hbi,hib,hbn,hnb,hin,hnj])) hw,?_⟩
   repeat' with_reducible first | refine W ?_ | refine Z0 ?_ | ((first | refine Wx rfl fun K hK=>?_ | refine Wp ?_ | refine Wq ?_ | refine Wr ?_);(try simp only [go_sem,fN,seval,eT,iR,DW,Ch,AH,AI,hb,hi,hni,n1,n2,n3,n4,n5,n900,n901,hbi,hib,hbn,hnb,hin,hnj,ha,sb,hdr,h1i,dT,dF,nL]);(repeat refine Ai ?_);(try (refine hK _ ?_;clear hK K));try refine iC ?_)
   refine Gw (hok hw) _ 900 ns (.row 900 ns.length) rfl ?_ ?_ ?_ (by omega) (.inr ⟨rfl,rfl⟩) (List.take_length) ?_ hbn hni hb (.inr ⟨by decide,?_,hin,hib⟩) fun j j1 j2 j3=>?_
   ·simp only [go_sem,fN,seval,eT,iR,AH,AI,hb,hi,hni,n1,n2,n3,n4,n5,n900,n901,hbi,hib,hbn,hnb,hin,hnj]
   ·simp only [go_sem,fN,seval,eT,iR,AH,AI,hb,hi,hni,n1,n2,n3,n4,n5,n900,n901,hbi,hib,hbn,hnb,hin,hnj]
   ·simp only [go_sem,fN,seval,eT,iR,AH,AI,hb,hi,hni,n1,n2,n3,n4,n5,n900,n901,hbi,hib,hbn,hnb,hin,hnj]
   ·simp only [go_sem,fN,seval,eT,iR,AH,AI,hb,hi,hni,n1,n2,n3,n4,n5,n900,n901,hbi,hib,hbn,hnb,hin,hnj,sni]
   ·simp only [go_sem,fN,seval,eT,iR,AH,AI,hb,hi,hni,n1,n2,n3,n4,n5,n900,n901,hbi,hib,hbn,hnb,hin,hnj]
   ·simp only [go_sem,fN,seval,eT,iR,AH,AI,j1,j2,j3]
 have ha:=JX (c:=40) (by decide) h0
 rw [lrP,if_neg h0] at hq
 obtain ⟨m1,m2,m3,m4⟩:=FJ hat
 clear hT
 by_cases he:Dh s at_=0
 case neg =>
  rw [if_neg he] at hq
  subst hq
  repeat' (first | (with_reducible first | refine W ?_ | refine Z0 ?_) | (first | refine IWP.opsPan 1 ⟨some 26,none,.callS 65 [.t 25],.no⟩ rfl (by kernel_rfl) ?_) | (with_reducible ((first | refine Wx rfl fun K hK=>?_ | refine Wp ?_ | refine Wq ?_ | refine Wr ?_);(try simp only [go_sem,fN,seval,eT,iR,AH,AI,hb,hi,hni,n1,n2,n3,n4,n5,n900,n901,hbi,hib,hbn,hnb,hin,hnj,ha,sb,dT,dF,nL]);(repeat refine Ai ?_);(try (refine hK _ ?_;clear hK K));try refine iC ?_)))
  simp only [go_sem,fN,seval,eT,iR,BI,List.take_succ_cons,List.take_zero,AH,AI,hb,hi,hni,n1,n2,n3,n4,n5,n900,n901,hbi,hib,hbn,hnb,hin,hnj]
  refine ⟨_,_,KU (nm:=.row (up1 i) ns.length) (l:=200 - k) hs hat (AL b) (A4 (by simp only [go_sem,fN,seval,eT,iR,AH,AI,hb,hi,hni,n1,n2,n3,n4,n5,n900,n901,hbi,hib,hbn,hnb,hin,hnj,sb])) he,fun envP=>?_⟩
  repeat' (with_reducible first | refine Wy ?_ | refine Wz ?_ | refine Wv ?_)
  refine CZ hbi (hpan he) _ (.inr ?_) (.inl ⟨ns,?_,by omega⟩) fun j j1 j2 j3=>?_
  ·simp only [go_sem,fN,seval,eT,iR,AH,AI,hb,hi,hni,n1,n2,n3,n4,n5,n900,n901,hbi,hib,hbn,hnb,hin,hnj]
  ·simp only [go_sem,fN,seval,eT,iR,AH,AI,hb,hi,hni,n1,n2,n3,n4,n5,n900,n901,hbi,hib,hbn,hnb,hin,hnj,si]
  ·simp only [go_sem,fN,seval,eT,iR,AH,AI,j1,j2,j3]
 case pos =>
 rw [if_pos he] at hq
 obtain ⟨m5,m6⟩:=m4 he
 obtain ⟨z1,z8,zl⟩:=E3 m6
 obtain ⟨nm,hnm⟩:∃ nm,GU s at_=nm:=⟨_,rfl⟩
 repeat' with_reducible first | refine W ?_ | refine Z0 ?_ | ((first | refine Wx rfl fun K hK=>?_ | refine Wp ?_ | refine Wq ?_ | refine Wr ?_);(try simp only [go_sem,fN,seval,eT,iR,AH,AI,hb,hi,hni,n1,n2,n3,n4,n5,n900,n901,hbi,hib,hbn,hnb,hin,hnj,ha,sb,dT,dF,nL]);(repeat refine Ai ?_);(try (refine hK _ ?_;clear hK K));try refine iC ?_)
 refine ⟨_,_,MF (nm:=.row (up1 i) ns.length) (l:=200 - k) hs hat (AL b) (B8 (AL i)) (A4 (by simp only [go_sem,fN,seval,eT,iR,AH,AI,hb,hi,hni,n1,n2,n3,n4,n5,n900,n901,hbi,hib,hbn,hnb,hin,hnj,sb])) he,?_⟩
 rw [hnm] at hq m6 z1 z8 zl ⊢
 by_cases hk2:200 < k + 1
 ·have hqe:q.e=3:=by
   rw [← hq]
   unfold lrV
   split <;> exact if_pos hk2
  rw [hqe] at hpan
  repeat' (first | (with_reducible first | refine W ?_ | refine Z0 ?_) | (first | refine IWP.opsPan 1 ⟨some 28,none,.callS 64 [.t 27],.no⟩ rfl (by kernel_rfl) ?_) | (with_reducible ((first | refine Wx rfl fun K hK=>?_ | refine Wp ?_ | refine Wq ?_ | refine Wr ?_);(try simp only [go_sem,fN,seval,eT,iR,AH,AI,hb,hi,hni,n1,n2,n3,n4,n5,n900,n901,hbi,hib,hbn,hnb,hin,hnj,ha,sb,dT,dF,nL]);(repeat refine Ai ?_);(try (refine hK _ ?_;clear hK K));try refine iC ?_)))
  simp only [go_sem,fN,seval,eT,iR,BI,List.take_succ_cons,List.take_zero,AH,AI,hb,hi,hni,n1,n2,n3,n4,n5,n900,n901,hbi,hib,hbn,hnb,hin,hnj]
  refine ⟨_,_,Lz (nm:=.row (up1 i) ns.length) (u:=Ar s (Ak s at_)) (l:=200 - k) (AL b) (B8 (AL i)) (A4 (by simp only [go_sem,fN,seval,eT,iR,AH,AI,hb,hi,hni,n1,n2,n3,n4,n5,n900,n901,hbi,hib,hbn,hnb,hin,hnj,sb])) (by omega) (by omega),fun envP=>?_⟩
  repeat' (with_reducible first | refine Wy ?_ | refine Wz ?_ | refine Wv ?_)
  refine CZ hbi (hpan (by decide)) _ (.inr ?_) (.inl ⟨ns,?_,by omega⟩) fun j j1 j2 j3=>?_
  ·simp only [go_sem,fN,seval,eT,iR,AH,AI,hb,hi,hni,n1,n2,n3,n4,n5,n900,n901,hbi,hib,hbn,hnb,hin,hnj]
  ·simp only [go_sem,fN,seval,eT,iR,AH,AI,hb,hi,hni,n1,n2,n3,n4,n5,n900,n901,hbi,hib,hbn,hnb,hin,hnj,si]
  ·simp only [go_sem,fN,seval,eT,iR,AH,AI,j1,j2,j3]
 repeat' with_reducible first | refine W ?_ | refine Z0 ?_ | ((first | refine Wx rfl fun K hK=>?_ | refine Wp ?_ | refine Wq ?_ | refine Wr ?_);(try simp only [go_sem,fN,seval,eT,iR,AH,AI,hb,hi,hni,n1,n2,n3,n4,n5,n900,n901,hbi,hib,hbn,hnb,hin,hnj,ha,sb,dT,dF,nL]);(repeat refine Ai ?_);(try (refine hK _ ?_;clear hK K));try refine iC ?_)
 refine ⟨_,_,L3 (nm:=.row (up1 i) ns.length) (u:=Ar s (Ak s at_)) (l:=200 - k) (AL b) (B8 (AL i)) (A4 (by simp only [go_sem,fN,seval,eT,iR,AH,AI,hb,hi,hni,n1,n2,n3,n4,n5,n900,n901,hbi,hib,hbn,hnb,hin,hnj,sb])) (by omega) (by omega),?_⟩
 repeat' with_reducible first | refine W ?_ | refine Z0 ?_ | ((first | refine Wx rfl fun K hK=>?_ | refine Wp ?_ | refine Wq ?_ | refine Wr ?_);(try simp only [go_sem,fN,seval,eT,iR,AH,AI,hb,hi,hni,n1,n2,n3,n4,n5,n900,n901,hbi,hib,hbn,hnb,hin,hnj,ha,sb,dT,dF,nL]);(repeat refine Ai ?_);(try (refine hK _ ?_;clear hK K));try refine iC ?_)
 refine ⟨_,_,Ns _ (up1 900) (up1 i) ns.length (AL 900) (AL i) (Co (by simp only [go_sem,fN,seval,eT,iR,AH,AI,hb,hi,hni,n1,n2,n3,n4,n5,n900,n901,hbi,hib,hbn,hnb,hin,hnj])),?_⟩
 repeat' with_reducible first | refine W ?_ | refine Z0 ?_ | ((first | refine Wx rfl fun K hK=>?_ | refine Wp ?_ | refine Wq ?_ | refine Wr ?_);(try simp only [go_sem,fN,seval,eT,iR,AH,AI,hb,hi,hni,n1,n2,n3,n4,n5,n900,n901,hbi,hib,hbn,hnb,hin,hnj,ha,sb,dT,dF,nL]);(repeat refine Ai ?_);(try (refine hK _ ?_;clear hK K));try refine iC ?_)
 refine Oh htop hC ns (by omega) nm b i hb (Ar s (Ak s at_)) (200 - k - 1) 65 _ _ (by simp only [go_sem,fN,seval,eT,iR,AH,AI,hb,hi,hni,n1,n2,n3,n4,n5,n900,n901,hbi,hib,hbn,hnb,hin,hnj]) (by simp only [go_sem,fN,seval,eT,iR,AH,AI,hb,hi,hni,n1,n2,n3,n4,n5,n900,n901,hbi,hib,hbn,hnb,hin,hnj]) (by simp only [go_sem,fN,seval,eT,iR,AH,AI,hb,hi,hni,n1,n2,n3,n4,n5,n900,n901,hbi,hib,hbn,hnb,hin,hnj]) (by simp only [go_sem,fN,seval,eT,iR,AH,AI,hb,hi,hni,n1,n2,n3,n4,n5,n900,n901,hbi,hib,hbn,hnb,hin,hnj]) (e1:=69) (cs:=[.st (.int .i64 0),.st (.int .i64 0),.full []]) (by simp only [go_sem,fN,seval,eT,iR,AH,AI,hb,hi,hni,n1,n2,n3,n4,n5,n900,n901,hbi,hib,hbn,hnb,hin,hnj]) rfl (by simp only [go_sem,fN,seval,eT,iR,AH,AI,hb,hi,hni,n1,n2,n3,n4,n5,n900,n901,hbi,hib,hbn,hnb,hin,hnj]) (by simp only [go_sem,fN,seval,eT,iR,AH,AI,hb,hi,hni,n1,n2,n3,n4,n5,n900,n901,hbi,hib,hbn,hnb,hin,hnj]) (by simp only [go_sem,fN,seval,eT,iR,AH,AI,hb,hi,hni,n1,n2,n3,n4,n5,n900,n901,hbi,hib,hbn,hnb,hin,hnj]) (by simp only [go_sem,fN,seval,eT,iR,AH,AI,hb,hi,hni,n1,n2,n3,n4,n5,n900,n901,hbi,hib,hbn,hnb,hin,hnj,si]) (by simp only [go_sem,fN,seval,eT,iR,AH,AI,hb,hi,hni,n1,n2,n3,n4,n5,n900,n901,hbi,hib,hbn,hnb,hin,hnj]) (by simp only [go_sem,fN,seval,eT,iR,AH,AI,hb,hi,hni,n1,n2,n3,n4,n5,n900,n901,hbi,hib,hbn,hnb,hin,hnj]) (fun hbd=>?_) fun kk hbd=>?_
 ·have hqc:q=⟨.mk 4 (BJ nm) [],Ak s at_,k + 1,if BJ nm < 0 then 15 else 0⟩:=by
   rw [← hq]
   unfold lrV
   rw [hbd]
   simp only [if_neg hk2]
  have n0:0 < nm.size:=z1
  have z1':(1:Int)≤nm.size:=by omega
  have hz:(Bf nm).size≤18:=by rw [JB];omega
  have hat0:=@O2 (Bf nm) hz
  have hatn:=fun n=>@Rk (Bf nm) n hz
  clear hq
  cases hq2:Lib.atoi (Bf nm).data.toList with
  | none =>
   have hc:BJ nm=-1:=CU fun ⟨_,n,h,_⟩=>by rw [hq2] at h;cases h
   rw [hc,if_pos (by decide)] at hqc
   subst hqc
   have hA:=hat0 hq2
   unfold Bf at hA
   by_cases h99:Ac nm 0=99
   ·repeat' (first | (with_reducible first | refine W ?_ | refine Z0 ?_ | ((first | refine Wx rfl fun K hK=>?_ | refine Wp ?_ | refine Wq ?_ | refine Wr ?_);(try simp only [go_sem,fN,seval,eT,iR,AH,AI,hb,hi,hni,n1,n2,n3,n4,n5,n900,n901,hbi,hib,hbn,hnb,hin,hnj,z1',n0,BG,h99,S8,dT,dF,nL]);(repeat refine Ai ?_);(try (refine hK _ ?_;clear hK K));try refine iC ?_)) | refine Cg _ (hA) ?_)
    refine IWP.opsPan 1 _ rfl (by kernel_rfl) ?_
    simp only [go_sem,fN,seval,eT,iR,BI,List.take_succ_cons,List.take_zero]
    intro envP
    repeat' (with_reducible first | refine Wy ?_ | refine Wz ?_ | refine Wv ?_)
    refine CZ hbi (hpan (by show ¬ (15:Int)=0;decide)) _ (.inl ⟨72,[.st (.str (Ar s (Ak s at_))),.row i ns.length,.st (.int .i64 (200 - k - 1))],?_⟩) (.inl ⟨ns,?_,by omega⟩) fun j j1 j2 j3=>?_
    ·simp only [go_sem,fN,seval,eT,iR,AH,AI,hb,hi,hni,n1,n2,n3,n4,n5,n900,n901,hbi,hib,hbn,hnb,hin,hnj]
    ·simp only [go_sem,fN,seval,eT,iR,AH,AI,hb,hi,hni,n1,n2,n3,n4,n5,n900,n901,hbi,hib,hbn,hnb,hin,hnj,si]
    ·simp only [go_sem,fN,seval,eT,iR,AH,AI,j1,j2,j3]
   ·repeat' (first | (with_reducible first | refine W ?_ | refine Z0 ?_ | ((first | refine Wx rfl fun K hK=>?_ | refine Wp ?_ | refine Wq ?_ | refine Wr ?_);(try simp only [go_sem,fN,seval,eT,iR,AH,AI,hb,hi,hni,n1,n2,n3,n4,n5,n900,n901,hbi,hib,hbn,hnb,hin,hnj,z1',n0,BG,h99,S8,dT,dF,nL]);(repeat refine Ai ?_);(try (refine hK _ ?_;clear hK K));try refine iC ?_)) | refine Cg _ (hA) ?_)
    refine IWP.opsPan 1 _ rfl (by kernel_rfl) ?_
    simp only [go_sem,fN,seval,eT,iR,BI,List.take_succ_cons,List.take_zero]
    intro envP
    repeat' (with_reducible first | refine Wy ?_ | refine Wz ?_ | refine Wv ?_)
    refine CZ hbi (hpan (by show ¬ (15:Int)=0;decide)) _ (.inl ⟨72,[.st (.str (Ar s (Ak s at_))),.row i ns.length,.st (.int .i64 (200 - k - 1))],?_⟩) (.inl ⟨ns,?_,by omega⟩) fun j j1 j2 j3=>?_
    ·simp only [go_sem,fN,seval,eT,iR,AH,AI,hb,hi,hni,n1,n2,n3,n4,n5,n900,n901,hbi,hib,hbn,hnb,hin,hnj]
    ·simp only [go_sem,fN,seval,eT,iR,AH,AI,hb,hi,hni,n1,n2,n3,n4,n5,n900,n901,hbi,hib,hbn,hnb,hin,hnj,si]
    ·simp only [go_sem,fN,seval,eT,iR,AH,AI,j1,j2,j3]
  | some n =>
   have hA:=hatn n hq2
   have hI:=Hj n
   unfold Bf at hA
   by_cases h99:Ac nm 0=99
   case neg =>
    have hc:BJ nm=-1:=CU fun ⟨h,_⟩=>h99 h
    rw [hc,if_pos (by decide)] at hqc
    subst hqc
    repeat' (first | (with_reducible first | refine W ?_ | refine Z0 ?_ | ((first | refine Wx rfl fun K hK=>?_ | refine Wp ?_ | refine Wq ?_ | refine Wr ?_);(try simp only [go_sem,fN,seval,eT,iR,AH,AI,hb,hi,hni,n1,n2,n3,n4,n5,n900,n901,hbi,hib,hbn,hnb,hin,hnj,z1',n0,BG,h99,MU,dT,dF,nL]);(repeat refine Ai ?_);(try (refine hK _ ?_;clear hK K));try refine iC ?_)) | refine Cg _ (hA) ?_)
    refine IWP.opsPan 1 _ rfl (by kernel_rfl) ?_
    simp only [go_sem,fN,seval,eT,iR,BI,List.take_succ_cons,List.take_zero]
    intro envP
    repeat' (with_reducible first | refine Wy ?_ | refine Wz ?_ | refine Wv ?_)
    refine CZ hbi (hpan (by show ¬ (15:Int)=0;decide)) _ (.inl ⟨72,[.st (.str (Ar s (Ak s at_))),.row i ns.length,.st (.int .i64 (200 - k - 1))],?_⟩) (.inl ⟨ns,?_,by omega⟩) fun j j1 j2 j3=>?_
    ·simp only [go_sem,fN,seval,eT,iR,AH,AI,hb,hi,hni,n1,n2,n3,n4,n5,n900,n901,hbi,hib,hbn,hnb,hin,hnj]
    ·simp only [go_sem,fN,seval,eT,iR,AH,AI,hb,hi,hni,n1,n2,n3,n4,n5,n900,n901,hbi,hib,hbn,hnb,hin,hnj,si]
    ·simp only [go_sem,fN,seval,eT,iR,AH,AI,j1,j2,j3]
   case pos =>
   by_cases hit:(⟨(Lib.itoa n).toArray⟩:ByteArray)=Bf nm
   case neg =>
    have hc:BJ nm=-1:=CU fun ⟨_,n',h,h',_⟩=>hit (by rw [hq2] at h;cases h;exact h')
    rw [hc,if_pos (by decide)] at hqc
    subst hqc
    unfold Bf at hit
    repeat' (first | (with_reducible first | refine W ?_ | refine Z0 ?_ | ((first | refine Wx rfl fun K hK=>?_ | refine Wp ?_ | refine Wq ?_ | refine Wr ?_);(try simp only [go_sem,fN,seval,eT,iR,AH,AI,hb,hi,hni,n1,n2,n3,n4,n5,n900,n901,hbi,hib,hbn,hnb,hin,hnj,z1',n0,BG,h99,MU,hit,dT,dF,nL]);(repeat refine Ai ?_);(try (refine hK _ ?_;clear hK K));try refine iC ?_)) | refine Cg _ (hA) ?_ | refine Cg _ (hI) ?_)
    refine IWP.opsPan 1 _ rfl (by kernel_rfl) ?_
    simp only [go_sem,fN,seval,eT,iR,BI,List.take_succ_cons,List.take_zero]
    intro envP
    repeat' (with_reducible first | refine Wy ?_ | refine Wz ?_ | refine Wv ?_)
    refine CZ hbi (hpan (by show ¬ (15:Int)=0;decide)) _ (.inl ⟨72,[.st (.str (Ar s (Ak s at_))),.row i ns.length,.st (.int .i64 (200 - k - 1))],?_⟩) (.inl ⟨ns,?_,by omega⟩) fun j j1 j2 j3=>?_
    ·simp only [go_sem,fN,seval,eT,iR,AH,AI,hb,hi,hni,n1,n2,n3,n4,n5,n900,n901,hbi,hib,hbn,hnb,hin,hnj]
    ·simp only [go_sem,fN,seval,eT,iR,AH,AI,hb,hi,hni,n1,n2,n3,n4,n5,n900,n901,hbi,hib,hbn,hnb,hin,hnj,si]
    ·simp only [go_sem,fN,seval,eT,iR,AH,AI,j1,j2,j3]
   case pos =>
   by_cases hn:n < 40
   case neg =>
    have hc:BJ nm=-1:=CU fun ⟨_,n',h,_,h'⟩=>hn (by rw [hq2] at h;cases h;exact h')
    rw [hc,if_pos (by decide)] at hqc
    subst hqc
    unfold Bf at hit
    repeat' (first | (with_reducible first | refine W ?_ | refine Z0 ?_ | ((first | refine Wx rfl fun K hK=>?_ | refine Wp ?_ | refine Wq ?_ | refine Wr ?_);(try simp only [go_sem,fN,seval,eT,iR,AH,AI,hb,hi,hni,n1,n2,n3,n4,n5,n900,n901,hbi,hib,hbn,hnb,hin,hnj,z1',n0,BG,h99,MU,hit,hn,dT,dF,nL]);(repeat refine Ai ?_);(try (refine hK _ ?_;clear hK K));try refine iC ?_)) | refine Cg _ (hA) ?_ | refine Cg _ (hI) ?_)
    refine IWP.opsPan 1 _ rfl (by kernel_rfl) ?_
    simp only [go_sem,fN,seval,eT,iR,BI,List.take_succ_cons,List.take_zero]
    intro envP
    repeat' (with_reducible first | refine Wy ?_ | refine Wz ?_ | refine Wv ?_)
    refine CZ hbi (hpan (by show ¬ (15:Int)=0;decide)) _ (.inl ⟨72,[.st (.str (Ar s (Ak s at_))),.row i ns.length,.st (.int .i64 (200 - k - 1))],?_⟩) (.inl ⟨ns,?_,by omega⟩) fun j j1 j2 j3=>?_
    ·simp only [go_sem,fN,seval,eT,iR,AH,AI,hb,hi,hni,n1,n2,n3,n4,n5,n900,n901,hbi,hib,hbn,hnb,hin,hnj]
    ·simp only [go_sem,fN,seval,eT,iR,AH,AI,hb,hi,hni,n1,n2,n3,n4,n5,n900,n901,hbi,hib,hbn,hnb,hin,hnj,si]
    ·simp only [go_sem,fN,seval,eT,iR,AH,AI,j1,j2,j3]
   case pos =>
   obtain ⟨hc,hn0⟩:=ID z1 zl h99 hit hn
   rw [hc,if_neg (by omega)] at hqc
   subst hqc
   unfold Bf at hit
   repeat' (first | (with_reducible first | refine W ?_ | refine Z0 ?_ | ((first | refine Wx rfl fun K hK=>?_ | refine Wp ?_ | refine Wq ?_ | refine Wr ?_);(try simp only [go_sem,fN,seval,eT,iR,AH,AI,hb,hi,hni,n1,n2,n3,n4,n5,n900,n901,hbi,hib,hbn,hnb,hin,hnj,z1',n0,BG,h99,MU,hit,hn,dT,dF,nL]);(repeat refine Ai ?_);(try (refine hK _ ?_;clear hK K));try refine iC ?_)) | refine Cg _ (hA) ?_ | refine Cg _ (hI) ?_ | refine Cg _ (Ug n) ?_)
   have hl1:(200:Int) - ((k + 1:Nat):Int)=200 - k - 1:=by omega
   have hok':∀ x y,Am C x y→TT (.mk 4 n []) (Ch S b i ni N ns (Ar s (Ak s at_)) (200 - k - 1)) y→Q .ret x:=by
    rw [← hl1]
    exact hok rfl
   refine Gw hok' _ i ns (.row i ns.length) rfl ?_ ?_ ?_ (by omega) (.inr ⟨rfl,rfl⟩) (List.take_length) ?_ hbn hni hb (.inl rfl) fun j j1 j2 j3=>?_
   ·simp only [go_sem,fN,seval,eT,iR,AH,AI,hb,hi,hni,n1,n2,n3,n4,n5,n900,n901,hbi,hib,hbn,hnb,hin,hnj]
   ·simp only [go_sem,fN,seval,eT,iR,AH,AI,hb,hi,hni,n1,n2,n3,n4,n5,n900,n901,hbi,hib,hbn,hnb,hin,hnj]
   ·simp only [go_sem,fN,seval,eT,iR,AH,AI,hb,hi,hni,n1,n2,n3,n4,n5,n900,n901,hbi,hib,hbn,hnb,hin,hnj,si]
   ·simp only [go_sem,fN,seval,eT,iR,AH,AI,hb,hi,hni,n1,n2,n3,n4,n5,n900,n901,hbi,hib,hbn,hnb,hin,hnj,sni]
   ·simp only [go_sem,fN,seval,eT,iR,AH,AI,j1,j2,j3]
 ·have hqv:q=⟨.v ((ns.length:Int) - 1 - kk),Ak s at_,k + 1,0⟩:=by
   rw [← hq]
   unfold lrV
   rw [hbd]
   simp only [if_neg hk2]
  clear hq
  subst hqv
  repeat' with_reducible first | refine W ?_ | refine Z0 ?_ | ((first | refine Wx rfl fun K hK=>?_ | refine Wp ?_ | refine Wq ?_ | refine Wr ?_);(try simp only [go_sem,fN,seval,eT,iR,AH,AI,hb,hi,hni,n1,n2,n3,n4,n5,n900,n901,hbi,hib,hbn,hnb,hin,hnj,dT,dF,nL]);(repeat refine Ai ?_);(try (refine hK _ ?_;clear hK K));try refine iC ?_)
  have hl1:(200:Int) - ((k + 1:Nat):Int)=200 - k - 1:=by omega
  have hok':∀ x y,Am C x y→TT (.v ((ns.length:Int) - 1 - kk)) (Ch S b i ni N ns (Ar s (Ak s at_)) (200 - k - 1)) y→Q .ret x:=by
   rw [← hl1]
   exact hok rfl
  refine Gw hok' _ i ns (.row i ns.length) rfl ?_ ?_ ?_ (by omega) (.inr ⟨rfl,rfl⟩) (List.take_length) ?_ hbn hni hb (.inl rfl) fun j j1 j2 j3=>?_
  ·simp only [go_sem,fN,seval,eT,iR,AH,AI,hb,hi,hni,n1,n2,n3,n4,n5,n900,n901,hbi,hib,hbn,hnb,hin,hnj]
   rfl
  ·simp only [go_sem,fN,seval,eT,iR,AH,AI,hb,hi,hni,n1,n2,n3,n4,n5,n900,n901,hbi,hib,hbn,hnb,hin,hnj]
  ·simp only [go_sem,fN,seval,eT,iR,AH,AI,hb,hi,hni,n1,n2,n3,n4,n5,n900,n901,hbi,hib,hbn,hnb,hin,hnj,si]
  ·simp only [go_sem,fN,seval,eT,iR,AH,AI,hb,hi,hni,n1,n2,n3,n4,n5,n900,n901,hbi,hib,hbn,hnb,hin,hnj,sni]
  ·simp only [go_sem,fN,seval,eT,iR,AH,AI,j1,j2,j3]

set_option maxRecDepth 100000 in
theorem Rt {s:ByteArray} (hs:s.size≤100000) {f:Nat} (hT:LT s f) {ns:List ByteArray} {at_ k b i ni N:Nat} {S:AA} (hat:at_≤s.size) (hk:k≤200) (hf:3 * (s.size - at_) + 2 < f + 1) (hN:ns.length + (s.size - at_) + 1 < N) (hN2:N≤1000000) (hb:1000≤b) (hi:1000≤i) (hni:1000≤ni)
  (sb:S b=some (Cc (Ar s at_) (.row i ns.length) (200 - k))) (si:S i=some (GC ns)) (sni:S ni=none) (h0:at_ < s.size∧Ac s at_=92) {q:LRd} (hq:lrT s (f + 1) ns at_ k=q):LRS 40 q S (Ch S b i ni N ns (Ar s q.i) (200 - q.k)) (CI S b i N) b:=by
 have hbi:¬ b=i:=fun e=>by subst e;rw [sb] at si;cases si
 have hbn:¬ b=ni:=fun e=>by subst e;rw [sb] at sni;cases sni
 have hin:¬ i=ni:=fun e=>by subst e;rw [si] at sni;cases sni
 have hib:¬ i=b:=fun e=>hbi e.symm
 have hnb:¬ ni=b:=fun e=>hbn e.symm
 have hnj:¬ ni=i:=fun e=>hin e.symm
 have hus:=Bm s at_
 refine N9 Bx (by decide) (FW hb hi hni) (Fg hb hi) fun hS C Q hC htop hok hpan=>?_
 have n1:S 1=none:=AY hS (by omega)
 have n2:S 2=none:=AY hS (by omega)
 have n3:S 3=none:=AY hS (by omega)
 have n4:S 4=none:=AY hS (by omega)
 have n5:S 5=none:=AY hS (by omega)
 have n900:S 900=none:=AY hS (by omega)
 have n901:S 901=none:=AY hS (by omega)
 have ha:=Hr h0
 rw [lrT,if_pos h0] at hq
 obtain ⟨h0,h0'⟩:=h0
 have hdr:=EX (s:=s) (i:=at_) (n:=1) (by omega)
 have h1i:(1:Int)≤(Ar s at_).size:=by omega
 unfold BM
 repeat' with_reducible first | refine W ?_ | refine Z0 ?_ | ((first | refine Wx rfl fun K hK=>?_ | refine Wp ?_ | refine Wq ?_ | refine Wr ?_);(try simp only [go_sem,fN,seval,eT,iR,AS.startS,AH,AI,hb,hi,hni,n1,n2,n3,n4,n5,n900,n901,hbi,hib,hbn,hnb,hin,hnj,dT,dF,nL]);(repeat refine Ai ?_);(try (refine hK _ ?_;clear hK K));try refine iC ?_)
 refine ⟨_,_,Gq (s:=s) (at_:=at_) (nm:=.row (up1 i) ns.length) (l:=200 - k) (AL b) (A4 (by simp only [go_sem,fN,seval,eT,iR,AH,AI,hb,hi,hni,n1,n2,n3,n4,n5,n900,n901,hbi,hib,hbn,hnb,hin,hnj,sb])),?_⟩
 by_cases hk2:200 < k + 1
 ·rw [if_pos hk2] at hq
  subst hq
  repeat' (first | (with_reducible first | refine W ?_ | refine Z0 ?_) | (first | refine IWP.opsPan 1 ⟨some 10,none,.callS 64 [.t 9],.no⟩ rfl (by kernel_rfl) ?_) | (with_reducible ((first | refine Wx rfl fun K hK=>?_ | refine Wp ?_ | refine Wq ?_ | refine Wr ?_);(try simp only [go_sem,fN,seval,eT,iR,AH,AI,hb,hi,hni,n1,n2,n3,n4,n5,n900,n901,hbi,hib,hbn,hnb,hin,hnj,ha,sb,dT,dF,nL]);(repeat refine Ai ?_);(try (refine hK _ ?_;clear hK K));try refine iC ?_)))
  simp only [go_sem,fN,seval,eT,iR,BI,List.take_succ_cons,List.take_zero,AH,AI,hb,hi,hni,n1,n2,n3,n4,n5,n900,n901,hbi,hib,hbn,hnb,hin,hnj]
  refine ⟨_,_,Lz (nm:=.row (up1 i) ns.length) (u:=Ar s at_) (l:=200 - k) (AL b) (B8 (AL i)) (A4 (by simp only [go_sem,fN,seval,eT,iR,AH,AI,hb,hi,hni,n1,n2,n3,n4,n5,n900,n901,hbi,hib,hbn,hnb,hin,hnj,sb])) (by omega) (by omega),fun envP=>?_⟩
  repeat' (with_reducible first | refine Wy ?_ | refine Wz ?_ | refine Wv ?_)
  refine CZ hbi (hpan (by show ¬ (3:Int)=0;decide)) _ (.inr ?_) (.inl ⟨ns,?_,by omega⟩) fun j j1 j2 j3=>?_
  ·simp only [go_sem,fN,seval,eT,iR,AH,AI,hb,hi,hni,n1,n2,n3,n4,n5,n900,n901,hbi,hib,hbn,hnb,hin,hnj]
  ·simp only [go_sem,fN,seval,eT,iR,AH,AI,hb,hi,hni,n1,n2,n3,n4,n5,n900,n901,hbi,hib,hbn,hnb,hin,hnj,si]
  ·simp only [go_sem,fN,seval,eT,iR,AH,AI,j1,j2,j3]
 rw [if_neg hk2] at hq
 repeat' with_reducible first | refine W ?_ | refine Z0 ?_ | ((first | refine Wx rfl fun K hK=>?_ | refine Wp ?_ | refine Wq ?_ | refine Wr ?_);(try simp only [go_sem,fN,seval,eT,iR,AH,AI,hb,hi,hni,n1,n2,n3,n4,n5,n900,n901,hbi,hib,hbn,hnb,hin,hnj,ha,sb,dT,dF,nL]);(repeat refine Ai ?_);(try (refine hK _ ?_;clear hK K));try refine iC ?_)
 refine ⟨_,_,L3 (nm:=.row (up1 i) ns.length) (u:=Ar s at_) (l:=200 - k) (AL b) (B8 (AL i)) (A4 (by simp only [go_sem,fN,seval,eT,iR,AH,AI,hb,hi,hni,n1,n2,n3,n4,n5,n900,n901,hbi,hib,hbn,hnb,hin,hnj,sb])) (by omega) (by omega),?_⟩
 obtain ⟨m1,m2,m3,m4⟩:=FJ (s:=s) (i:=at_ + 1) (by omega)
 by_cases he:Dh s (at_ + 1)=0
 case neg =>
  rw [if_neg he] at hq
  subst hq
  repeat' (first | (with_reducible first | refine W ?_ | refine Z0 ?_) | (first | refine IWP.opsPan 1 ⟨some 20,none,.callS 65 [.t 19],.no⟩ rfl (by kernel_rfl) ?_) | (with_reducible ((first | refine Wx rfl fun K hK=>?_ | refine Wp ?_ | refine Wq ?_ | refine Wr ?_);(try simp only [go_sem,fN,seval,eT,iR,AH,AI,hb,hi,hni,n1,n2,n3,n4,n5,n900,n901,hbi,hib,hbn,hnb,hin,hnj,hdr,h1i,sb,dT,dF,nL]);(repeat refine Ai ?_);(try (refine hK _ ?_;clear hK K));try refine iC ?_)))
  simp only [go_sem,fN,seval,eT,iR,BI,List.take_succ_cons,List.take_zero,AH,AI,hb,hi,hni,n1,n2,n3,n4,n5,n900,n901,hbi,hib,hbn,hnb,hin,hnj]
  refine ⟨_,_,KU (nm:=.row (up1 i) ns.length) (l:=200 - k - 1) hs (by omega) (AL b) (A4 (by simp only [go_sem,fN,seval,eT,iR,AH,AI,hb,hi,hni,n1,n2,n3,n4,n5,n900,n901,hbi,hib,hbn,hnb,hin,hnj,sb])) he,fun envP=>?_⟩
  repeat' (with_reducible first | refine Wy ?_ | refine Wz ?_ | refine Wv ?_)
  refine CZ hbi (hpan he) _ (.inr ?_) (.inl ⟨ns,?_,by omega⟩) fun j j1 j2 j3=>?_
  ·simp only [go_sem,fN,seval,eT,iR,AH,AI,hb,hi,hni,n1,n2,n3,n4,n5,n900,n901,hbi,hib,hbn,hnb,hin,hnj]
  ·simp only [go_sem,fN,seval,eT,iR,AH,AI,hb,hi,hni,n1,n2,n3,n4,n5,n900,n901,hbi,hib,hbn,hnb,hin,hnj,si]
  ·simp only [go_sem,fN,seval,eT,iR,AH,AI,j1,j2,j3]
 rw [if_pos he] at hq
 obtain ⟨m5,m6⟩:=m4 he
 repeat' with_reducible first | refine W ?_ | refine Z0 ?_ | ((first | refine Wx rfl fun K hK=>?_ | refine Wp ?_ | refine Wq ?_ | refine Wr ?_);(try simp only [go_sem,fN,seval,eT,iR,AH,AI,hb,hi,hni,n1,n2,n3,n4,n5,n900,n901,hbi,hib,hbn,hnb,hin,hnj,hdr,h1i,sb,dT,dF,nL]);(repeat refine Ai ?_);(try (refine hK _ ?_;clear hK K));try refine iC ?_)
 refine ⟨_,_,MF (nm:=.row (up1 i) ns.length) (l:=200 - k - 1) hs (by omega) (AL b) (B8 (AL i)) (A4 (by simp only [go_sem,fN,seval,eT,iR,AH,AI,hb,hi,hni,n1,n2,n3,n4,n5,n900,n901,hbi,hib,hbn,hnb,hin,hnj,sb])) he,?_⟩
 obtain ⟨nm,hnm⟩:∃ nm,GU s (at_ + 1)=nm:=⟨_,rfl⟩
 rw [hnm] at hq m6 ⊢
 generalize Ak s (at_ + 1)=j1 at *
 by_cases hw:EE s 46 j1=0
 case neg =>
  rw [if_neg hw] at hq
  subst hq
  repeat' (first | (with_reducible first | refine W ?_ | refine Z0 ?_) | (first | refine IWP.opsPan 1 ⟨some 22,none,.callS 66 [.t 21,.c (.one (.st (.int .u8 46)))],.no⟩ rfl (by kernel_rfl) ?_) | (with_reducible ((first | refine Wx rfl fun K hK=>?_ | refine Wp ?_ | refine Wq ?_ | refine Wr ?_);(try simp only [go_sem,fN,seval,eT,iR,AH,AI,hb,hi,hni,n1,n2,n3,n4,n5,n900,n901,hbi,hib,hbn,hnb,hin,hnj,sb,dT,dF,nL]);(repeat refine Ai ?_);(try (refine hK _ ?_;clear hK K));try refine iC ?_)))
  simp only [go_sem,fN,seval,eT,iR,BI,List.take_succ_cons,List.take_zero,AH,AI,hb,hi,hni,n1,n2,n3,n4,n5,n900,n901,hbi,hib,hbn,hnb,hin,hnj]
  refine ⟨_,_,KX (c:=46) (nm:=.row (up1 i) ns.length) (l:=200 - k - 1) m3 (AL b) (A4 (by simp only [go_sem,fN,seval,eT,iR,AH,AI,hb,hi,hni,n1,n2,n3,n4,n5,n900,n901,hbi,hib,hbn,hnb,hin,hnj])) hw,fun envP=>?_⟩
  repeat' (with_reducible first | refine Wy ?_ | refine Wz ?_ | refine Wv ?_)
  refine CZ hbi (hpan hw) _ (.inr ?_) (.inl ⟨ns,?_,by omega⟩) fun j j1 j2 j3=>?_
  ·simp only [go_sem,fN,seval,eT,iR,AH,AI,hb,hi,hni,n1,n2,n3,n4,n5,n900,n901,hbi,hib,hbn,hnb,hin,hnj]
  ·simp only [go_sem,fN,seval,eT,iR,AH,AI,hb,hi,hni,n1,n2,n3,n4,n5,n900,n901,hbi,hib,hbn,hnb,hin,hnj,si]
  ·simp only [go_sem,fN,seval,eT,iR,AH,AI,j1,j2,j3]
 rw [if_pos hw] at hq
 have w1:=((G3 m3).2 hw).1
 repeat' with_reducible first | refine W ?_ | refine Z0 ?_ | ((first | refine Wx rfl fun K hK=>?_ | refine Wp ?_ | refine Wq ?_ | refine Wr ?_);(try simp only [go_sem,fN,seval,eT,iR,AH,AI,hb,hi,hni,n1,n2,n3,n4,n5,n900,n901,hbi,hib,hbn,hnb,hin,hnj,sb,dT,dF,nL]);(repeat refine Ai ?_);(try (refine hK _ ?_;clear hK K));try refine iC ?_)
 refine ⟨_,_,NH (c:=46) (nm:=.row (up1 i) ns.length) (l:=200 - k - 1) m3 (AL b) (B8 (AL i)) (A4 (by simp only [go_sem,fN,seval,eT,iR,AH,AI,hb,hi,hni,n1,n2,n3,n4,n5,n900,n901,hbi,hib,hbn,hnb,hin,hnj])) hw,?_⟩
 have hlen:(ns ++ [nm]).length=ns.length + 1:=by simp
 have hmap:(ns ++ [nm]).map Cw=ns.map Cw ++ [[.str nm]]:=by simp [Cw]
 have hml:(ns.map Cw).length=ns.length:=by simp
 have hl1:(200:Int) - ((k + 1:Nat):Int)=200 - k - 1:=by omega
 have hc:=hT (ns ++ [nm]) (j1 + 1) (k + 1) (up1 b) (up1 i) (up1 900) N
 rw [hlen,hl1] at hc
 by_cases ht:(lrT s f (ns ++ [nm]) (j1 + 1) (k + 1)).e=0
 case neg =>
  have hqe:q.e=(lrT s f (ns ++ [nm]) (j1 + 1) (k + 1)).e:=by rw [← hq]
  rw [hqe] at hpan
  clear hq
  repeat' (first | (with_reducible first | refine W ?_ | refine Z0 ?_) | (first | refine IWP.opsPan 1 ⟨some 34,none,.callS 40 [.t 33],.no⟩ rfl (by kernel_rfl) ?_) | (with_reducible ((first | refine Wx rfl fun K hK=>?_ | refine Wp ?_ | refine Wq ?_ | refine Wr ?_);(try simp only [go_sem,fN,seval,eT,iR,AH,AI,hb,hi,hni,n1,n2,n3,n4,n5,n900,n901,hbi,hib,hbn,hnb,hin,hnj,sb,si,hml,dT,dF,nL]);(repeat refine Ai ?_);(try (refine hK _ ?_;clear hK K));try refine iC ?_)))
  simp only [go_sem,fN,seval,eT,iR,BI,List.take_succ_cons,List.take_zero,AH,AI,hb,hi,hni,n1,n2,n3,n4,n5,n900,n901,hbi,hib,hbn,hnb,hin,hnj]
  refine ⟨_,_,(hc _ (by omega) (by omega) (by omega) (by omega) hN2 (AL b) (AL i) (AL 900) (A4 (by simp only [go_sem,fN,seval,eT,iR,AH,AI,hb,hi,hni,n1,n2,n3,n4,n5,n900,n901,hbi,hib,hbn,hnb,hin,hnj,sb])) (DC (by simp only [go_sem,fN,seval,eT,iR,AH,AI,hb,hi,hni,n1,n2,n3,n4,n5,n900,n901,hbi,hib,hbn,hnb,hin,hnj,hmap,GC])) (Co (by simp only [go_sem,fN,seval,eT,iR,AH,AI,hb,hi,hni,n1,n2,n3,n4,n5,n900,n901,hbi,hib,hbn,hnb,hin,hnj]))).2 ht,fun envP=>?_⟩
  repeat' (with_reducible first | refine Wy ?_ | refine Wz ?_ | refine Wv ?_)
  refine CZ hbi (hpan ht) _ (.inr ?_) (.inr ?_) fun j j1 j2 j3=>?_
  ·simp only [go_sem,fN,seval,eT,iR,Bp,CI,AH,AI,hb,hi,hni,n1,n2,n3,n4,n5,n900,n901,hbi,hib,hbn,hnb,hin,hnj]
  ·simp only [go_sem,fN,seval,eT,iR,Bp,CI,AH,AI,hb,hi,hni,n1,n2,n3,n4,n5,n900,n901,hbi,hib,hbn,hnb,hin,hnj]
  ·simp only [go_sem,fN,seval,eT,iR,Bp,CI,AH,AI,j1,j2,j3]
 repeat' with_reducible first | refine W ?_ | refine Z0 ?_ | ((first | refine Wx rfl fun K hK=>?_ | refine Wp ?_ | refine Wq ?_ | refine Wr ?_);(try simp only [go_sem,fN,seval,eT,iR,AH,AI,hb,hi,hni,n1,n2,n3,n4,n5,n900,n901,hbi,hib,hbn,hnb,hin,hnj,sb,si,hml,dT,dF,nL]);(repeat refine Ai ?_);(try (refine hK _ ?_;clear hK K));try refine iC ?_)
 refine ⟨_,_,(hc _ (by omega) (by omega) (by omega) (by omega) hN2 (AL b) (AL i) (AL 900) (A4 (by simp only [go_sem,fN,seval,eT,iR,AH,AI,hb,hi,hni,n1,n2,n3,n4,n5,n900,n901,hbi,hib,hbn,hnb,hin,hnj,sb])) (DC (by simp only [go_sem,fN,seval,eT,iR,AH,AI,hb,hi,hni,n1,n2,n3,n4,n5,n900,n901,hbi,hib,hbn,hnb,hin,hnj,hmap,GC])) (Co (by simp only [go_sem,fN,seval,eT,iR,AH,AI,hb,hi,hni,n1,n2,n3,n4,n5,n900,n901,hbi,hib,hbn,hnb,hin,hnj]))).1 ht,?_⟩
 generalize lrT s f (ns ++ [nm]) (j1 + 1) (k + 1)=p at *
 subst hq
 have hl2:((ns ++ [nm]).map Cw).length=ns.length + 1:=by simp
 have hl3:(((ns.length + 1:Nat):Int) - 1).toNat=ns.length:=by omega
 repeat' (first | (with_reducible first | refine W ?_ | refine Z0 ?_ | ((first | refine Wx rfl fun K hK=>?_ | refine Wp ?_ | refine Wq ?_ | refine Wr ?_);(try simp only [go_sem,fN,seval,eT,iR,DW,Ch,AH,AI,hb,hi,hni,n1,n2,n3,n4,n5,n900,n901,hbi,hib,hbn,hnb,hin,hnj,hlen,hl2,hl3,dT,dF,nL]);(repeat refine Ai ?_);(try (refine hK _ ?_;clear hK K));try refine iC ?_)) | refine Cg _ (Hd p.t) ?_)
 refine Gw (hok ht) _ 900 (ns ++ [nm]) (.part 900 ns.length (ns ++ [nm]).length) rfl ?_ ?_ ?_ (by omega) (.inl rfl) (by simp) ?_ hbn hni hb (.inr ⟨by decide,?_,hin,hib⟩) fun j j1 j2 j3=>?_
 ·simp only [go_sem,fN,seval,eT,iR,AH,AI,hb,hi,hni,n1,n2,n3,n4,n5,n900,n901,hbi,hib,hbn,hnb,hin,hnj]
 ·simp only [go_sem,fN,seval,eT,iR,AH,AI,hb,hi,hni,n1,n2,n3,n4,n5,n900,n901,hbi,hib,hbn,hnb,hin,hnj,hlen]
 ·simp only [go_sem,fN,seval,eT,iR,AH,AI,hb,hi,hni,n1,n2,n3,n4,n5,n900,n901,hbi,hib,hbn,hnb,hin,hnj]
 ·simp only [go_sem,fN,seval,eT,iR,AH,AI,hb,hi,hni,n1,n2,n3,n4,n5,n900,n901,hbi,hib,hbn,hnb,hin,hnj,sni]
 ·simp only [go_sem,fN,seval,eT,iR,AH,AI,hb,hi,hni,n1,n2,n3,n4,n5,n900,n901,hbi,hib,hbn,hnb,hin,hnj]
 ·simp only [go_sem,fN,seval,eT,iR,AH,AI,j1,j2,j3]

set_option maxRecDepth 100000 in
theorem RS {s:ByteArray} (hs:s.size≤100000) {f:Nat} (hP:∀ g,g≤f→LPc s g) {ns:List ByteArray} {at_ k b i ni N:Nat} {S:AA} (hat:at_≤s.size) (hk:k≤200) (hf:3 * (s.size - at_) + 2 < f + 1) (hN:ns.length + (s.size - at_) + 1 < N) (hN2:N≤1000000) (hb:1000≤b) (hi:1000≤i) (hni:1000≤ni)
  (sb:S b=some (Cc (Ar s at_) (.row i ns.length) (200 - k))) (si:S i=some (GC ns)) (sni:S ni=none) (h0:¬ (at_ < s.size∧Ac s at_=92)) {q:LRd} (hq:lrT s (f + 1) ns at_ k=q):LRS 40 q S (Ch S b i ni N ns (Ar s q.i) (200 - q.k)) (CI S b i N) b:=by
 have hbi:¬ b=i:=fun e=>by subst e;rw [sb] at si;cases si
 have hbn:¬ b=ni:=fun e=>by subst e;rw [sb] at sni;cases sni
 have hin:¬ i=ni:=fun e=>by subst e;rw [si] at sni;cases sni
 have hib:¬ i=b:=fun e=>hbi e.symm
 have hnb:¬ ni=b:=fun e=>hbn e.symm
 have hnj:¬ ni=i:=fun e=>hin e.symm
 refine N9 Bx (by decide) (FW hb hi hni) (Fg hb hi) fun hS C Q hC htop hok hpan=>?_
 have n1:S 1=none:=AY hS (by omega)
 have n2:S 2=none:=AY hS (by omega)
 have n3:S 3=none:=AY hS (by omega)
 have n4:S 4=none:=AY hS (by omega)
 have n5:S 5=none:=AY hS (by omega)
 have n900:S 900=none:=AY hS (by omega)
 have n901:S 901=none:=AY hS (by omega)
 have ha:=JX (c:=92) (by decide) h0
 rw [lrT,if_neg h0] at hq
 unfold BM
 repeat' with_reducible first | refine W ?_ | refine Z0 ?_ | ((first | refine Wx rfl fun K hK=>?_ | refine Wp ?_ | refine Wq ?_ | refine Wr ?_);(try simp only [go_sem,fN,seval,eT,iR,AS.startS,AH,AI,hb,hi,hni,n1,n2,n3,n4,n5,n900,n901,hbi,hib,hbn,hnb,hin,hnj,dT,dF,nL]);(repeat refine Ai ?_);(try (refine hK _ ?_;clear hK K));try refine iC ?_)
 refine ⟨_,_,Gq (s:=s) (at_:=at_) (nm:=.row (up1 i) ns.length) (l:=200 - k) (AL b) (A4 (by simp only [go_sem,fN,seval,eT,iR,AH,AI,hb,hi,hni,n1,n2,n3,n4,n5,n900,n901,hbi,hib,hbn,hnb,hin,hnj,sb])),?_⟩
 have hpo:=Lt s f ns at_ k hat hk (by omega)
 have hc:=hP f (Nat.le_refl _) ns at_ k (up1 b) (up1 i) (up1 (300 + (lrP s f ns at_ k).k)) N
 by_cases he:(lrP s f ns at_ k).e=0
 case neg =>
  have hq':q=lrP s f ns at_ k:=by rw [← hq];exact Ly (by omega) fun h=>he h.1
  subst hq'
  repeat' (first | (with_reducible first | refine W ?_ | refine Z0 ?_) | (first | refine IWP.opsPan 1 ⟨some 52,none,.callS 68 [.t 51],.no⟩ rfl (by kernel_rfl) ?_) | (with_reducible ((first | refine Wx rfl fun K hK=>?_ | refine Wp ?_ | refine Wq ?_ | refine Wr ?_);(try simp only [go_sem,fN,seval,eT,iR,AH,AI,hb,hi,hni,n1,n2,n3,n4,n5,n900,n901,hbi,hib,hbn,hnb,hin,hnj,ha,sb,dT,dF,nL]);(repeat refine Ai ?_);(try (refine hK _ ?_;clear hK K));try refine iC ?_)))
  simp only [go_sem,fN,seval,eT,iR,BI,List.take_succ_cons,List.take_zero,AH,AI,hb,hi,hni,n1,n2,n3,n4,n5,n900,n901,hbi,hib,hbn,hnb,hin,hnj]
  have hm:=hpo.most
  have hc2:=hP f (Nat.le_refl _) ns at_ k (up1 b) (up1 i) (up1 900) N
  refine ⟨_,_,(hc2 _ hat hk (by omega) (by omega) hN2 (AL b) (AL i) (AL _) (A4 (by simp only [go_sem,fN,seval,eT,iR,AH,AI,hb,hi,hni,n1,n2,n3,n4,n5,n900,n901,hbi,hib,hbn,hnb,hin,hnj,sb])) (DC (by simp only [go_sem,fN,seval,eT,iR,AH,AI,hb,hi,hni,n1,n2,n3,n4,n5,n900,n901,hbi,hib,hbn,hnb,hin,hnj,si])) (Co (by simp only [go_sem,fN,seval,eT,iR,AH,AI,hb,hi,hni,n1,n2,n3,n4,n5,n900,n901,hbi,hib,hbn,hnb,hin,hnj]))).2 he,fun envP=>?_⟩
  repeat' (with_reducible first | refine Wy ?_ | refine Wz ?_ | refine Wv ?_)
  refine CZ hbi (hpan he) _ (.inr ?_) (.inr ?_) fun j j1 j2 j3=>?_
  ·simp only [go_sem,fN,seval,eT,iR,Bp,CI,AH,AI,hb,hi,hni,n1,n2,n3,n4,n5,n900,n901,hbi,hib,hbn,hnb,hin,hnj]
  ·simp only [go_sem,fN,seval,eT,iR,Bp,CI,AH,AI,hb,hi,hni,n1,n2,n3,n4,n5,n900,n901,hbi,hib,hbn,hnb,hin,hnj]
  ·simp only [go_sem,fN,seval,eT,iR,Bp,CI,AH,AI,j1,j2,j3]
 obtain ⟨o1,o2,o3,o4⟩:=hpo.ok he
 obtain ⟨p,hp⟩:∃ p,lrP s f ns at_ k=p:=⟨_,rfl⟩
 rw [hp] at hc hq he o1 o2 o3 o4
 have hlow:∀ j,j≤201→S (300 + j)=none:=fun j hj=>AY hS (by omega)
 have l1:300 + p.k < 1000:=by omega
 have l2:¬ 300 + p.k=2:=by omega
 have l5:¬ 300 + p.k=5:=by omega
 have k2:¬ 2=300 + p.k:=by omega
 have k5:¬ 5=300 + p.k:=by omega
 have hpn:S (300 + p.k)=none:=hlow p.k (by omega)
 repeat' with_reducible first | refine W ?_ | refine Z0 ?_ | ((first | refine Wx rfl fun K hK=>?_ | refine Wp ?_ | refine Wq ?_ | refine Wr ?_);(try simp only [go_sem,fN,seval,eT,iR,AH,AI,hb,hi,hni,n1,n2,n3,n4,n5,n900,n901,hbi,hib,hbn,hnb,hin,hnj,ha,sb,dT,dF,nL]);(repeat refine Ai ?_);(try (refine hK _ ?_;clear hK K));try refine iC ?_)
 refine ⟨_,_,(hc _ hat hk (by omega) (by omega) hN2 (AL b) (AL i) (AL _) (A4 (by simp only [go_sem,fN,seval,eT,iR,AH,AI,hb,hi,hni,n1,n2,n3,n4,n5,n900,n901,hbi,hib,hbn,hnb,hin,hnj,sb])) (DC (by simp only [go_sem,fN,seval,eT,iR,AH,AI,hb,hi,hni,n1,n2,n3,n4,n5,n900,n901,hbi,hib,hbn,hnb,hin,hnj,si])) (Co (by simp only [go_sem,fN,seval,eT,iR,AH,AI,hb,hi,hni,n1,n2,n3,n4,n5,n900,n901,hbi,hib,hbn,hnb,hin,hnj,l1,l2,l5,hpn]))).1 he,?_⟩
 repeat' with_reducible first | refine W ?_ | refine Z0 ?_ | ((first | refine Wx rfl fun K hK=>?_ | refine Wp ?_ | refine Wq ?_ | refine Wr ?_);(try simp only [go_sem,fN,seval,eT,iR,DW,Ch,AH,AI,hb,hi,hni,n1,n2,n3,n4,n5,n900,n901,hbi,hib,hbn,hnb,hin,hnj,l1,l2,l5,k2,k5,sb,dT,dF,nL]);(repeat refine Ai ?_);(try (refine hK _ ?_;clear hK K));try refine iC ?_)
 refine IWP.loop (fun m x=>∃ (p:LRd) (g:Nat),lrL s g ns p=q∧m=s.size - p.i∧p.e=0∧p.i≤s.size∧p.k≤200∧at_ < p.i∧3 * (s.size - p.i) < g∧g≤f∧x.env 0=.one (.ptr b 1 0 0)∧x.env 2=.one (.ptr 2 1 0 0)∧x.env 5=.one (.ptr 5 1 0 0)∧x.S 2=some (.box 25 [.st (.int .i64 0),.st (.int .i64 0),.full []])∧x.S 5=some (.box 25 [.st (.int .i64 p.t.kind),.st (.int .i64 p.t.idx),.st (.list (p.t.subs.map Ci))]) ∧
  x.S b=some (Cc (Ar s p.i) (.row (300 + p.k) ns.length) (200 - p.k))∧x.S (300 + p.k)=some (GC ns)∧x.S i=some (.dead N 1)∧(∀ j,p.k < j→j≤201→x.S (300 + j)=none)∧∀ j,1000≤j→j ≠ b→j ≠ i→x.S j=S j) (s.size - p.i) ⟨p,f,hq,rfl,he,o1,o4,o2,by omega,Nat.le_refl _,?_⟩ ?_
 ·simp only [go_sem,fN,seval,eT,iR,AH,AI,hb,hi,hni,n1,n2,n3,n4,n5,n900,n901,hbi,hib,hbn,hnb,hin,hnj,l1,l2,l5,k2,k5,AS.startS]
  refine ⟨fun j j1 j2=>?_,fun j j1 j2 j3=>?_⟩
  ·have h1:¬ 300 + j=5:=by omega
   have h2:¬ 300 + j=2:=by omega
   have h3:¬ 300 + j=300 + p.k:=by omega
   have h4:¬ 300 + j=b:=by omega
   have h5:¬ 300 + j=i:=by omega
   have h6:=hlow j j2
   simp only [go_sem,fN,seval,eT,iR,h1,h2,h3,h4,h5,h6]
  ·have h3:¬ j=300 + p.k:=by omega
   simp only [go_sem,fN,seval,eT,iR,AH,AI,j1,j2,j3,h3]
 clear hc hp hlow l1 l2 l5 k2 k5 hpn he o1 o2 o3 o4 hq hpo
 clear p
 rintro m ⟨env,S1⟩ ⟨p,g,hq,rfl,he,o1,o4,o2,hg,hgf,v0,v2,v5,t2,t5,tb,tk,ti,tn,hrest⟩
 simp only at v0 v2 v5 t2 t5 tb tk ti tn hrest
 have l1:300 + p.k < 1000:=by omega
 have l2:¬ 300 + p.k=2:=by omega
 have l5:¬ 300 + p.k=5:=by omega
 have k2:¬ 2=300 + p.k:=by omega
 have k5:¬ 5=300 + p.k:=by omega
 have kb:¬ b=300 + p.k:=by omega
 have ki:¬ i=300 + p.k:=by omega
 have lb:¬ 300 + p.k=b:=by omega
 have li:¬ 300 + p.k=i:=by omega
 obtain ⟨g,rfl⟩:∃ g',g=g' + 1:=⟨g - 1,by omega⟩
 have tni:S1 ni=none:=by rw [hrest ni hni (by omega) (by omega)];exact sni
 repeat' with_reducible first | refine W ?_ | refine Z0 ?_ | ((first | refine Wx rfl fun K hK=>?_ | refine Wp ?_ | refine Wq ?_ | refine Wr ?_);(try simp only [go_sem,fN,seval,eT,iR,v0,AH,AI,hb,hi,hni,n1,n2,n3,n4,n5,n900,n901,hbi,hib,hbn,hnb,hin,hnj,dT,dF,nL]);(repeat refine Ai ?_);(try (refine hK _ ?_;clear hK K));try refine iC ?_)
 refine ⟨_,_,Gq (s:=s) (at_:=p.i) (nm:=.row (up1 (300 + p.k)) ns.length) (l:=200 - p.k) (AL b) (A4 (by simp only [go_sem,fN,seval,eT,iR,AH,AI,hb,hi,hni,n1,n2,n3,n4,n5,n900,n901,hbi,hib,hbn,hnb,hin,hnj,tb])),?_⟩
 by_cases h1:p.i < s.size∧Ac s p.i=32
 case neg =>
  have ha1:=JX (c:=32) (by decide) h1
  have hq':p=q:=by rw [← hq];exact (Ly (Nat.succ_pos _) fun h=>h1 h.2).symm
  subst hq'
  repeat' with_reducible first | refine W ?_ | refine Z0 ?_ | ((first | refine Wx rfl fun K hK=>?_ | refine Wp ?_ | refine Wq ?_ | refine Wr ?_);(try simp only [go_sem,fN,seval,eT,iR,v0,v2,v5,AH,AI,hb,hi,hni,n1,n2,n3,n4,n5,n900,n901,hbi,hib,hbn,hnb,hin,hnj,ha1,tb,t2,t5,dT,dF,nL]);(repeat refine Ai ?_);(try (refine hK _ ?_;clear hK K));try refine iC ?_)
  refine Gw (hok he) _ (300 + p.k) ns (.row (300 + p.k) ns.length) ?_ ?_ ?_ ?_ (by omega) (.inr ⟨rfl,rfl⟩) (List.take_length) ?_ hbn hni hb (.inr ⟨l1,?_,hin,hib⟩) fun j j1 j2 j3=>?_
  ·simp only [go_sem,fN,seval,eT,iR,v2]
  ·simp only [go_sem,fN,seval,eT,iR,AH,AI,hb,hi,hni,n1,n2,n3,n4,n5,n900,n901,hbi,hib,hbn,hnb,hin,hnj]
  ·simp only [go_sem,fN,seval,eT,iR,AH,AI,hb,hi,hni,n1,n2,n3,n4,n5,n900,n901,hbi,hib,hbn,hnb,hin,hnj,tb]
  ·simp only [go_sem,fN,seval,eT,iR,l2,tk]
  ·simp only [go_sem,fN,seval,eT,iR,AH,AI,hb,hi,hni,n1,n2,n3,n4,n5,n900,n901,hbi,hib,hbn,hnb,hin,hnj,tni]
  ·simp only [go_sem,fN,seval,eT,iR,AH,AI,hb,hi,hni,n1,n2,n3,n4,n5,n900,n901,hbi,hib,hbn,hnb,hin,hnj,ti]
  ·have j4:¬ j=2:=by omega
   simp only [go_sem,fN,seval,eT,iR,j4]
   exact hrest j j1 j2 j3
 case pos =>
 have ha1:=Hr h1
 have hus1:=Bm s p.i
 have hdr:=EX (s:=s) (i:=p.i) (n:=1) (by omega)
 have h1i:(1:Int)≤(Ar s p.i).size:=by omega
 rw [lrL,if_pos ⟨he,h1⟩] at hq
 by_cases hk2:200 < p.k + 1
 ·rw [if_pos hk2] at hq
  subst hq
  repeat' (first | (with_reducible first | refine W ?_ | refine Z0 ?_) | (first | refine IWP.opsPan 1 ⟨some 65,none,.callS 64 [.t 64],.no⟩ rfl (by kernel_rfl) ?_) | (with_reducible ((first | refine Wx rfl fun K hK=>?_ | refine Wp ?_ | refine Wq ?_ | refine Wr ?_);(try simp only [go_sem,fN,seval,eT,iR,v0,v2,v5,AH,AI,hb,hi,hni,n1,n2,n3,n4,n5,n900,n901,hbi,hib,hbn,hnb,hin,hnj,ha1,hdr,h1i,tb,t2,t5,dT,dF,nL]);(repeat refine Ai ?_);(try (refine hK _ ?_;clear hK K));try refine iC ?_)))
  simp only [go_sem,fN,seval,eT,iR,BI,List.take_succ_cons,List.take_zero,v0,AH,AI,hb,hi,hni,n1,n2,n3,n4,n5,n900,n901,hbi,hib,hbn,hnb,hin,hnj]
  refine ⟨_,_,Lz (nm:=.row (up1 (300 + p.k)) ns.length) (u:=Ar s (p.i + 1)) (l:=200 - p.k) (AL b) (B8 (AL _)) (A4 (by simp only [go_sem,fN,seval,eT,iR,AH,AI,hb,hi,hni,n1,n2,n3,n4,n5,n900,n901,hbi,hib,hbn,hnb,hin,hnj,tb])) (by omega) (by omega),fun envP=>?_⟩
  repeat' (with_reducible first | refine Wy ?_ | refine Wz ?_ | refine Wv ?_)
  refine CZ hbi (hpan (by show ¬ (3:Int)=0;decide)) _ (.inr ?_) (.inr ?_) fun j j1 j2 j3=>?_
  ·simp only [go_sem,fN,seval,eT,iR,AH,AI,hb,hi,hni,n1,n2,n3,n4,n5,n900,n901,hbi,hib,hbn,hnb,hin,hnj]
  ·simp only [go_sem,fN,seval,eT,iR,AH,AI,hb,hi,hni,n1,n2,n3,n4,n5,n900,n901,hbi,hib,hbn,hnb,hin,hnj,ti]
  ·simp only [go_sem,fN,seval,eT,iR,AH,AI,hb,hi,hni,n1,n2,n3,n4,n5,n900,n901,hbi,hib,hbn,hnb,hin,hnj,j2]
   exact hrest j j1 j2 j3
 rw [if_neg hk2] at hq
 repeat' with_reducible first | refine W ?_ | refine Z0 ?_ | ((first | refine Wx rfl fun K hK=>?_ | refine Wp ?_ | refine Wq ?_ | refine Wr ?_);(try simp only [go_sem,fN,seval,eT,iR,v0,v2,v5,AH,AI,hb,hi,hni,n1,n2,n3,n4,n5,n900,n901,hbi,hib,hbn,hnb,hin,hnj,ha1,hdr,h1i,tb,t2,t5,dT,dF,nL]);(repeat refine Ai ?_);(try (refine hK _ ?_;clear hK K));try refine iC ?_)
 refine ⟨_,_,L3 (nm:=.row (up1 (300 + p.k)) ns.length) (u:=Ar s (p.i + 1)) (l:=200 - p.k) (AL b) (B8 (AL _)) (A4 (by simp only [go_sem,fN,seval,eT,iR,AH,AI,hb,hi,hni,n1,n2,n3,n4,n5,n900,n901,hbi,hib,hbn,hnb,hin,hnj,tb])) (by omega) (by omega),?_⟩
 have hc:=hP g (by omega) ns (p.i + 1) (p.k + 1) (up1 b) (up1 (300 + p.k))
 have hpo:=Lt s g ns (p.i + 1) (p.k + 1) (by omega) (by omega) (by omega)
 have hl1:(200:Int) - ((p.k + 1:Nat):Int)=200 - p.k - 1:=by omega
 rw [hl1] at hc
 by_cases hr:(lrP s g ns (p.i + 1) (p.k + 1)).e=0
 case neg =>
  have hq':=(Ly (s:=s) (g:=g) (ns:=ns) (q:=⟨.a p.t (lrP s g ns (p.i + 1) (p.k + 1)).t,(lrP s g ns (p.i + 1) (p.k + 1)).i,(lrP s g ns (p.i + 1) (p.k + 1)).k,(lrP s g ns (p.i + 1) (p.k + 1)).e⟩) (by omega) fun h=>hr h.1).symm.trans hq
  subst hq'
  repeat' (first | (with_reducible first | refine W ?_ | refine Z0 ?_) | (first | refine IWP.opsPan 2 ⟨some 68,none,.callS 68 [.t 67],.keeps [5]⟩ rfl (by kernel_rfl) ?_) | (with_reducible ((first | refine Wx rfl fun K hK=>?_ | refine Wp ?_ | refine Wq ?_ | refine Wr ?_);(try simp only [go_sem,fN,seval,eT,iR,v0,v2,v5,AH,AI,hb,hi,hni,n1,n2,n3,n4,n5,n900,n901,hbi,hib,hbn,hnb,hin,hnj,tb,t2,t5,dT,dF,nL]);(repeat refine Ai ?_);(try (refine hK _ ?_;clear hK K));try refine iC ?_)))
  simp only [go_sem,fN,seval,eT,iR,BI,List.take_succ_cons,List.take_zero,v0,v5,t5,AH,AI,hb,hi,hni,n1,n2,n3,n4,n5,n900,n901,hbi,hib,hbn,hnb,hin,hnj]
  have tn':=tn (p.k + 1) (by omega) (by omega)
  have kb':¬ 300 + (p.k + 1)=b:=by omega
  refine ⟨_,_,(hc (up1 (300 + (p.k + 1))) N _ (by omega) (by omega) (by omega) (by omega) hN2 (AL b) (AL _) (AL _) (A4 (by simp only [go_sem,fN,seval,eT,iR,AH,AI,hb,hi,hni,n1,n2,n3,n4,n5,n900,n901,hbi,hib,hbn,hnb,hin,hnj,tb])) (DC (by simp only [go_sem,fN,seval,eT,iR,lb,tk])) (Co (by simp only [go_sem,fN,seval,eT,iR,kb',tn']))).2 hr,fun envP=>?_⟩
  repeat' (with_reducible first | refine Wy ?_ | refine Wz ?_ | refine Wv ?_)
  refine CZ hbi (hpan hr) _ (.inr ?_) (.inr ?_) fun j j1 j2 j3=>?_
  ·simp only [go_sem,fN,seval,eT,iR,Bp,CI,AH,AI,hb,hi,hni,n1,n2,n3,n4,n5,n900,n901,hbi,hib,hbn,hnb,hin,hnj]
  ·simp only [go_sem,fN,seval,eT,iR,Bp,CI,AH,AI,hb,hi,hni,n1,n2,n3,n4,n5,n900,n901,hbi,hib,hbn,hnb,hin,hnj,li,ki,ti]
  ·have j4:¬ j=300 + p.k:=by omega
   simp only [go_sem,fN,seval,eT,iR,Bp,CI,AH,AI,j1,j2,j3,j4]
   exact hrest j j1 j2 j3
 obtain ⟨p1,hp1⟩:∃ p1,lrP s g ns (p.i + 1) (p.k + 1)=p1:=⟨_,rfl⟩
 have hc:=hc (up1 (300 + p1.k)) N
 rw [hp1] at hq hc hpo hr
 obtain ⟨r1,r2,r3,r4⟩:=hpo.ok hr
 have l1':300 + p1.k < 1000:=by omega
 have l2':¬ 300 + p1.k=2:=by omega
 have l5':¬ 300 + p1.k=5:=by omega
 have k2':¬ 2=300 + p1.k:=by omega
 have k5':¬ 5=300 + p1.k:=by omega
 have lb':¬ 300 + p1.k=b:=by omega
 have li':¬ 300 + p1.k=i:=by omega
 have kb':¬ b=300 + p1.k:=by omega
 have ki':¬ i=300 + p1.k:=by omega
 have ll':¬ 300 + p1.k=300 + p.k:=by omega
 have tn':=tn p1.k (by omega) (by omega)
 repeat' with_reducible first | refine W ?_ | refine Z0 ?_ | ((first | refine Wx rfl fun K hK=>?_ | refine Wp ?_ | refine Wq ?_ | refine Wr ?_);(try simp only [go_sem,fN,seval,eT,iR,v0,v2,v5,AH,AI,hb,hi,hni,n1,n2,n3,n4,n5,n900,n901,hbi,hib,hbn,hnb,hin,hnj,tb,t2,t5,dT,dF,nL]);(repeat refine Ai ?_);(try (refine hK _ ?_;clear hK K));try refine iC ?_)
 refine ⟨_,_,(hc _ (by omega) (by omega) (by omega) (by omega) hN2 (AL b) (AL _) (AL _) (A4 (by simp only [go_sem,fN,seval,eT,iR,AH,AI,hb,hi,hni,n1,n2,n3,n4,n5,n900,n901,hbi,hib,hbn,hnb,hin,hnj,tb])) (DC (by simp only [go_sem,fN,seval,eT,iR,lb,tk])) (Co (by simp only [go_sem,fN,seval,eT,iR,lb',tn']))).1 hr,?_⟩
 repeat' (first | (with_reducible first | refine W ?_ | refine Z0 ?_ | ((first | refine Wx rfl fun K hK=>?_ | refine Wp ?_ | refine Wq ?_ | refine Wr ?_);(try simp only [go_sem,fN,seval,eT,iR,DW,Ch,v0,v2,v5,AH,AI,hb,hi,hni,n1,n2,n3,n4,n5,n900,n901,hbi,hib,hbn,hnb,hin,hnj,k5,k5',l5,l5',tb,t2,t5,List.forall_mem_singleton,dT,dF,nL]);(repeat refine Ai ?_);(try (refine hK _ ?_;clear hK K));try refine iC ?_)) | refine Cg _ (Mu p.t p1.t) ?_)
 refine Ag ⟨s.size - p1.i,by omega,⟨.a p.t p1.t,p1.i,p1.k,p1.e⟩,g,hq,rfl,hr,r1,r4,by show at_ < p1.i;omega,by show 3 * (s.size - p1.i) < g;omega,by omega,?_⟩
 dsimp only
 simp only [go_sem,fN,seval,eT,iR,v0,v2,v5,AH,AI,hb,hi,hni,n1,n2,n3,n4,n5,n900,n901,hbi,hib,hbn,hnb,hin,hnj,k2,k2',k5,k5',l2,l2',l5,l5',lb,lb',li,li',kb',ki',t2,ll',ki,ti]
 refine ⟨fun j j1 j2=>?_,fun j j1 j2 j3=>?_⟩
 ·have h1:¬ 300 + j=5:=by omega
  have h3:¬ 300 + j=300 + p.k:=by omega
  have h3':¬ 300 + j=300 + p1.k:=by omega
  have h4:¬ 300 + j=b:=by omega
  have h6:=tn j (by omega) j2
  simp only [go_sem,fN,seval,eT,iR,h1,h3,h3',h4,h6]
 ·have h3:¬ j=300 + p.k:=by omega
  have h3':¬ j=300 + p1.k:=by omega
  simp only [go_sem,fN,seval,eT,iR,AH,AI,j1,j2,j3,h3,h3']
  exact hrest j j1 j2 j3
theorem TR {s:ByteArray} (hs:s.size≤100000):∀ f,LT s f∧LPc s f:=by
 intro f
 induction f using Nat.strongRecOn with
 | _ f ih =>
 cases f with
 | zero=>exact ⟨fun _ _ _ _ _ _ _ _ _ _ h=>absurd h (Nat.not_lt_zero _),fun _ _ _ _ _ _ _ _ _ _ h=>absurd h (Nat.not_lt_zero _)⟩
 | succ f =>
  have hT:=(ih f (Nat.lt_succ_self f)).1
  refine ⟨fun ns at_ k b i ni N S hat hk hf hN hN2 hb hi hni sb si sni=>?_,TS hs hT⟩
  by_cases h0:at_ < s.size∧Ac s at_=92
  ·exact Rt hs hT hat hk hf hN hN2 hb hi hni sb si sni h0 rfl
  ·exact RS hs (fun g hg=>(ih g (by omega)).2) hat hk hf hN hN2 hb hi hni sb si sni h0 rfl

set_option maxRecDepth 100000
def BY:IR :=
 (.seq (.ops [.i 2 (.mov (.c (.one (.full []))))]) (.seq (.seq (.ops [.m 3 0,.i 4 (.eqN false (.t 3))]) (.cond (.t 4) (.seq (.ops [.i 2 (.mov (.c (.one (.full []))))]) .ret) .skip)) (.seq (.ops [.i 5 (.buildFlat []),.m 6 0,.i 7 (.append true 9 1 16 (.t 5) (.t 6)),.m 2 7]) .ret)))
theorem B_:OkF Tryz.prog 39 8 [7] BY [.t 2]:=.of Tryz.func39 rfl rfl (by kernel_rfl) rfl


section
variable {s:ByteArray} {i k b:Nat} {e:Int} {S:AA}
end

abbrev UG:AU:=.box 25 [.st (.int .i64 0),.st (.int .i64 0),.full []]

def FB:IR :=
 (.seq (.ops [.i 2 (.mov (.n 0))]) (.seq (.seq (.ops [.m 5 0,.i 6 (.len false (.t 5)),.i 7 (.bin .gtr (.t 6) (.n 40))]) (.cond (.t 7) (.seq (.ops [.i 2 (.mov (.n 3))]) .ret) .skip)) (.seq (.seq (.ops [.m 8 0,.i 9 (.len false (.t 8)),.i 10 (.mov (.n 0))]) (.block 0 (.loop (.seq (.ops [.i 11 (.bin .lss (.t 10) (.t 9))]) (.seq (.cond (.t 11) .skip (.exit 0)) (.seq (.block 1 (.seq (.ops [.m 12 10,.i 13 (.indexAddr 1 (.t 8) (.t 10)),.l 14 13,.m 3 12,.m 4 14]) (.seq (.seq (.ops [.m 15 4,.i 16 (.call 61 [.t 15]),.i 17 (.un .not (.t 16)),.m 18 17,.mk (some 19) (some (18,false)) (.mov (.t 4)) .no,.mk (some 20) (some (18,false)) (.indexStr (.t 19) (.n 0)) .no,.mk (some 21) (some (18,false)) (.bin .eql (.t 20) (.c (.one (.st (.int .u8 120))))) .no,.i 22 (.pick (.t 18) (.c (.one (.st (.bool true)))) (.t 21)),.m 23 22,.mk (some 24) (some (23,false)) (.mov (.t 4)) .no,.mk (some 25) (some (23,false)) (.indexStr (.t 24) (.n 0)) .no,.mk (some 26) (some (23,false)) (.bin .eql (.t 25) (.c (.one (.st (.int .u8 99))))) .no,.i 27 (.pick (.t 23) (.c (.one (.st (.bool true)))) (.t 26))]) (.cond (.t 27) (.seq (.ops [.i 2 (.mov (.n 1))]) .ret) .skip)) (.seq (.ops [.m 28 0,.m 29 3,.i 30 (.sliceL 1 (.t 28) none (some (.t 29))),.m 31 4,.i 32 (.call 62 [.t 30,.t 31])]) (.cond (.t 32) (.seq (.ops [.i 2 (.mov (.n 4))]) .ret) .skip))))) (.ops [.i 33 (.bin .add (.t 10) (.n 1)),.m 10 33]))))))) (.seq (.ops [.i 2 (.mov (.n 0))]) .ret))))
theorem IN:OkF Tryz.prog 37 34 [] FB [.t 2]:=.of Tryz.func37 rfl rfl (by kernel_rfl) rfl

def D9:List ByteArray→List ByteArray→Int
 | _,[]=>0
 | p,n :: r=>if A9 n=true∧Ac n 0 ≠ 120∧Ac n 0 ≠ 99 then (if I5 n p=true then 4 else D9 (p ++ [n]) r) else 1
def Cm (l:List ByteArray):Int:=if 40 < l.length then 3 else D9 [] l
theorem RM {l:List ByteArray} {k:Nat} {n:ByteArray} (h:l[k]?=some n):D9 (l.take k) (l.drop k)=if A9 n=true∧Ac n 0 ≠ 120∧Ac n 0 ≠ 99 then (if I5 n (l.take k)=true then 4 else D9 (l.take (k + 1)) (l.drop (k + 1))) else 1:=by
 obtain ⟨hk,rfl⟩:=List.getElem?_eq_some_iff.1 h
 rw [List.drop_eq_getElem_cons hk,D9,B7 h]
theorem Hy:∀ (p l:List ByteArray),0≤D9 p l∧D9 p l≤15
 | _,[]=>by rw [D9];decide
 | p,n :: r=>by
  rw [D9]
  split
  ·split
   ·decide
   ·exact Hy _ r
  ·decide
theorem KC (l:List ByteArray):0≤Cm l∧Cm l≤15:=by
 unfold Cm
 split
 ·decide
 ·exact Hy _ _
theorem Ib (l:List ByteArray):AW Tryz.prog 37 [Eh l] (Ad (Cm l)):=by
 refine IN.ac fun C hC=>?_
 unfold FB
 unfold Cm
 by_cases h40:(40:Int) < l.length
 ·rw [if_pos (by omega)]
  repeat' with_reducible first | refine W ?_ | refine Z0 ?_ | ((first | refine Wo fun K hK=>?_ | refine Wp ?_ | refine Wq ?_ | refine Wr ?_);(try simp only [go_sem,fN,seval,eT,iR,h40,dT,dF,nL]);(repeat refine Ai ?_);(try (refine hK _ ?_;clear hK K));try refine iC ?_)
  simp only [go_sem,fN,seval,AR,AS.result,AB,AE,AQ]
 rw [if_neg (by omega)]
 repeat' with_reducible first | refine W ?_ | refine Z0 ?_ | ((first | refine Wo fun K hK=>?_ | refine Wp ?_ | refine Wq ?_ | refine Wr ?_);(try simp only [go_sem,fN,seval,eT,iR,h40,dT,dF,nL]);(repeat refine Ai ?_);(try (refine hK _ ?_;clear hK K));try refine iC ?_)
 refine IWP.loop (fun n s=>∃ k,k≤l.length∧n=l.length - k∧D9 [] l=D9 (l.take k) (l.drop k)∧s.env 0=Eh l∧s.env 8=Eh l∧s.env 9=Ad l.length∧s.env 10=Ad k) l.length ⟨0,Nat.zero_le _,rfl,by simp,rfl,rfl,rfl,rfl⟩ ?_
 rintro n ⟨env,S⟩ ⟨k,hk,rfl,hf,e0,e8,e9,e10⟩
 simp only at e0 e8 e9 e10
 rw [hf]
 by_cases hlt:(k:Int) < l.length
 ·obtain ⟨a,ha⟩:=Bk (show k < l.length by omega)
  have hpre:(l.map Cw).take k=(l.take k).map Cw:=List.map_take.symm
  rw [RM ha]
  by_cases h1:A9 a=true
  case neg =>
   rw [if_neg fun h=>h1 h.1]
   repeat' (first | (with_reducible first | refine W ?_ | refine Z0 ?_ | ((first | refine Wo fun K hK=>?_ | refine Wp ?_ | refine Wq ?_ | refine Wr ?_);(try simp only [go_sem,fN,seval,eT,iR,e0,e8,e9,e10,hlt,ha,h1,dT,dF,nL]);(repeat refine Ai ?_);(try (refine hK _ ?_;clear hK K));try refine iC ?_)) | refine Cg _ (FR a) ?_)
   simp only [go_sem,fN,seval,AR,AS.result,AB,AE,AQ]
  obtain ⟨z1,_,_⟩:=E3 h1
  have z0:0 < a.size:=z1
  by_cases h2:Ac a 0=120
  ·rw [if_neg fun h=>h.2.1 h2]
   repeat' (first | (with_reducible first | refine W ?_ | refine Z0 ?_ | ((first | refine Wo fun K hK=>?_ | refine Wp ?_ | refine Wq ?_ | refine Wr ?_);(try simp only [go_sem,fN,seval,eT,iR,e0,e8,e9,e10,hlt,ha,h1,h2,z0,BG,dT,dF,nL]);(repeat refine Ai ?_);(try (refine hK _ ?_;clear hK K));try refine iC ?_)) | refine Cg _ (FR a) ?_)
   simp only [go_sem,fN,seval,AR,AS.result,AB,AE,AQ]
  by_cases h3:Ac a 0=99
  ·rw [if_neg fun h=>h.2.2 h3]
   repeat' (first | (with_reducible first | refine W ?_ | refine Z0 ?_ | ((first | refine Wo fun K hK=>?_ | refine Wp ?_ | refine Wq ?_ | refine Wr ?_);(try simp only [go_sem,fN,seval,eT,iR,e0,e8,e9,e10,hlt,ha,h1,h2,h3,z0,BG,dT,dF,nL]);(repeat refine Ai ?_);(try (refine hK _ ?_;clear hK K));try refine iC ?_)) | refine Cg _ (FR a) ?_)
   simp only [go_sem,fN,seval,AR,AS.result,AB,AE,AQ]
  rw [if_pos ⟨h1,h2,h3⟩]
  by_cases h4:I5 a (l.take k)=true
  ·rw [if_pos h4]
   repeat' (first | (with_reducible first | refine W ?_ | refine Z0 ?_ | ((first | refine Wo fun K hK=>?_ | refine Wp ?_ | refine Wq ?_ | refine Wr ?_);(try simp only [go_sem,fN,seval,eT,iR,e0,e8,e9,e10,hlt,ha,h1,h2,h3,h4,z0,BG,hpre,dT,dF,nL]);(repeat refine Ai ?_);(try (refine hK _ ?_;clear hK K));try refine iC ?_)) | refine Cg _ (FR a) ?_ | refine Cg _ (JL (l.take k) a) ?_)
   simp only [go_sem,fN,seval,AR,AS.result,AB,AE,AQ]
  ·rw [if_neg h4]
   repeat' (first | (with_reducible first | refine W ?_ | refine Z0 ?_ | ((first | refine Wo fun K hK=>?_ | refine Wp ?_ | refine Wq ?_ | refine Wr ?_);(try simp only [go_sem,fN,seval,eT,iR,e0,e8,e9,e10,hlt,ha,h1,h2,h3,h4,z0,BG,hpre,dT,dF,nL]);(repeat refine Ai ?_);(try (refine hK _ ?_;clear hK K));try refine iC ?_)) | refine Cg _ (FR a) ?_ | refine Cg _ (JL (l.take k) a) ?_)
   refine Ag ⟨l.length - (k + 1),by omega,k + 1,by omega,rfl,rfl,?_⟩
   simp only [go_sem,fN,seval,eT,iR,e0,e8,e9,e10]
   congr 3
 ·rw [List.take_of_length_le (by omega),List.drop_eq_nil_of_le (by omega),D9]
  repeat' with_reducible first | refine W ?_ | refine Z0 ?_ | ((first | refine Wo fun K hK=>?_ | refine Wp ?_ | refine Wq ?_ | refine Wr ?_);(try simp only [go_sem,fN,seval,eT,iR,e0,e8,e9,e10,hlt,dT,dF,nL]);(repeat refine Ai ?_);(try (refine hK _ ?_;clear hK K));try refine iC ?_)
  simp only [go_sem,fN,seval,AR,AS.result,AB,AE,AQ]

def UX:Code→Code
 | .seq _ (.seq _ (.seq _ (.seq d _)))=>d
 | c=>c
section
variable {P:Program}
theorem KN {f:FuncId} {fn:Func} {mu:List Nat} {c:Code} {xA xB xZ xD xE:IR} {rs:List RV} {xs:List AV} {r:AV} {g t id:Nat} {caps:Array Operand} {xs':List Opd} {oM oF:Oper} {ts:Array TypeId}
  (hf:P.funcs[f]?=some fn) (hb:fn.body=some c) (hx:Az P fn.ntmps mu c=some (.seq xA (.seq xB (.seq xZ (.seq xD xE))))) (hr:Df P fn.ntmps fn.results.toList=some rs) (hn:xs.length≤fn.ntmps)
  (hD:UX c=.region id #[oM,oF] false) (hM1:oM.op=.makeFunc (.func g) #[] caps) (hM2:oM.dst=some t) (hM3:oM.guard=none) (hF1:oF.op=.defer { callee:=.value (.tmp t),args:=#[],argTypes:=ts }) (hF2:oF.dst=none) (hF3:oF.guard=none) (ht:t < fn.ntmps)
  (hcaps:Bj fn.ntmps caps.toList=some xs') (hpl:CS P g=true)
  (h:∀ C:Ctx,C.n=fn.ntmps→IWP P C mu xA (AX.then (fun s=>IWP P C mu xB (AX.then (fun s=>IWP P C mu xZ (AX.then (fun s=>∃ cs,s.caps xs'=some cs∧∀ C':Ctx,C'.n=fn.ntmps→IWP P C' mu xE (Um P g (cs.map fun c=>(AV.one c).ren up1) rs r) (s.put (some t) (.one (.fn g cs))).up) (AR rs r)) s) (AR rs r)) s) (AR rs r)) (AS.start xs)):AW P f xs r:=by
 intro σ w vs hglob hfit hvs
 have hl:=hvs.len
 let C:Ctx:=⟨fn.ntmps,w.heap.size,fun _=>False,σ,w,noS,noH,fun i b h=>by simp [noS] at h,hglob,[],none,true⟩
 obtain ⟨A,c2,rfl,hA,h2⟩:=DN hx
 obtain ⟨B,c3,rfl,hB,h3⟩:=DN h2
 obtain ⟨Z,c4,rfl,hZ,h4⟩:=DN h3
 obtain ⟨D,E,rfl,hD',hE⟩:=DN h4
 have hD:D=.region id #[oM,oF] false:=hD
 subst hD
 refine calls_of_wp_defers hf hb ?_
 have R0:AT C σ noH (AS.start xs) { tmps:=vs.toArray ++ Array.replicate (fn.ntmps - vs.toArray.size) undef,defers:=[] } w:=by
  refine ⟨by simp [C];omega,fun i hi=>?_,Cv,hfit,fun id b h=>by simp [AS.start,noS] at h,fun id id' b b' g h=>by simp [AS.start,noS] at h,fun id b g h=>by simp [AS.start,noS] at h,fun _ _ h=>h,fun _ _ _=>rfl,⟨rfl,rfl,rfl⟩,⟨Nat.le_refl _,Nat.le_refl _⟩,fun _ _ _=>rfl,Upd.refl _ _⟩
  show AN σ noS noH _ ((xs[i]?).getD (.tup []))
  rw [Array.getD_eq_getD_getElem?]
  by_cases hlt:i < vs.length
  ·rw [Array.getElem?_append_left (by simpa using hlt)]
   obtain ⟨b,hb1,hb2⟩:=hvs.get' (List.getElem?_eq_getElem hlt)
   rw [hb1]
   simpa [hlt] using hb2
  ·rw [Array.getElem?_append_right (by simp;omega),List.getElem?_eq_none (by omega)]
   have hi':i < fn.ntmps:=hi
   rw [Array.getElem?_replicate,if_pos (by simp;omega)]
   exact .tup (fun _=>undef) rfl (by simp) (by simp)
 have early:∀ (s:AS) (a':Act) (w':World),s.result rs=some r→Ax C s a' w'→Leaves P fn a'.tmps (fun e w'=>∃ v σ',e=.returned v∧AN σ' noS noH v r∧Fit σ' w'∧Ext w.heap.size σ σ'∧Below w.heap.size w w') a'.defers .returning w':=by
  intro s a' w' hs hH
  obtain ⟨σ',ι',R'⟩:=hH
  obtain ⟨v,v1,v2⟩:=LG R' (fn:=fn) hr hs
  have hnod:a'.defers=[]:=R'.nod.none rfl
  rw [hnod]
  exact ⟨v,v1,v,σ',rfl,v2,R'.fit,⟨R'.ext,fun p hp=>R'.old p hp (fun h=>h)⟩,⟨R'.os.1,R'.os.2.1,R'.os.2.2,R'.grown.2,fun k hk=>R'.same k hk (fun h=>h)⟩⟩
 refine wp_seq (wp_mono (wpIn_wide.1 (h C rfl A hA _ w ⟨σ,noH,R0⟩)) fun e a' w' he=>?_)
 cases e with
 | normal =>
  obtain ⟨s,hs,hH⟩:=he
  refine wp_seq (wp_mono (wpIn_wide.1 (hs B hB a' w' hH)) fun e a' w' he=>?_)
  cases e with
  | normal =>
   obtain ⟨s,hs,hH⟩:=he
   refine wp_seq (wp_mono (wpIn_wide.1 (hs Z hZ a' w' hH)) fun e a' w' he=>?_)
   cases e with
   | normal =>
    obtain ⟨s,⟨cs,hcs,hwalk⟩,⟨σ1,ι1,R⟩⟩:=he
    refine wp_seq ?_
    have rc:=JM R hcaps hcs
    have ecap:(caps.toList.map a'.eval).toArray=caps.map a'.eval:=by rw [← Array.toList_map,Array.toArray_toList]
    have hv:AN σ1 s.S ι1 (.func (.func g) #[] (caps.map a'.eval)) (.one (.fn g cs)):=by
     rw [← ecap]
     refine .one (.fn (fun j=>((caps.toList.map a'.eval)[j]?).getD undef) (by simpa using rc.len) (fun j b hb=>?_) (fun j b hb=>?_))
     ·obtain ⟨v,v1,v2⟩:=rc.get hb
      rw [v1]
      simpa using v1
     ·obtain ⟨v,v1,v2⟩:=rc.get hb
      rw [v1]
      exact v2
    have rf:(execOp a'.eval oM).run P w'=.ok (.value (.func (.func g) #[] (caps.map a'.eval))) w':=by
     simp [execOp,hM1,Instr.makeFunc]
    have R1:=R.put (d:=some t) hv
    have hta:t < a'.tmps.size:=Nat.lt_of_lt_of_le ht R.size
    have hev:(a'.put (some t) (.func (.func g) #[] (caps.map a'.eval))).eval (.tmp t)=.func (.func g) #[] (caps.map a'.eval):=by
     simp [Act.eval,Act.put,hta]
    have rF:(execOp (a'.put (some t) (.func (.func g) #[] (caps.map a'.eval))).eval oF).run P w'=.ok (.defer { target:=.fn (.func g) (caps.map a'.eval),args:=#[] }) w':=by
     simp [execOp,hF1,resolve,hev,Deferred.ofValue]
    refine wp_region ?_
    show wpOps P #[oM,oF] _ [0,1] a' w'
    rw [wpOps_cons]
    show (if Region.wanted oM _ then _ else _)
    rw [if_pos (by simp [Region.wanted,hM3])]
    refine .inl ?_
    show Oper.wp P oM a' w' _ _
    unfold Oper.wp
    rw [rf,Oper.upon_value,hM2,wpOps_cons]
    show (if Region.wanted oF _ then _ else _)
    rw [if_pos (by simp [Region.wanted,hF3])]
    refine .inl ?_
    show Oper.wp P oF _ w' _ _
    unfold Oper.wp
    rw [rF,Oper.upon_defer,hF2]
    let C':Ctx:=⟨fn.ntmps,w.heap.size,fun _=>False,σ1,w',upS s.S,fun i=>ι1 (dn1 i),Ee _,hglob.mono R.ext,[{ target:=.fn (.func g) (caps.toList.map a'.eval).toArray,args:=#[] }],none,true⟩
    have hnod0:a'.defers=[]:=R.nod.none rfl
    have RC:AT C' σ1 (fun i=>ι1 (dn1 i)) (s.put (some t) (.one (.fn g cs))).up { a'.put (some t) (.func (.func g) #[] (caps.map a'.eval)) with defers:={ target:=.fn (.func g) (caps.map a'.eval),args:=#[] } :: (a'.put (some t) (.func (.func g) #[] (caps.map a'.eval))).defers } w':=by
     refine ⟨R1.size,fun i hi=>OU R1 (R1.env i hi),?_,R1.fit,(HC R1).1,(HC R1).2,fun id b g hb hg=>?_,fun _ _ h=>h,fun _ _ _=>rfl,⟨rfl,rfl,rfl⟩,⟨R.grown.1,Nat.le_refl _⟩,fun _ _ _=>rfl,Upd.refl _ _⟩
     ·have e0:({ target:=.fn (.func g) (caps.map a'.eval),args:=#[] }:Deferred) :: a'.defers=C'.ds:=by rw [hnod0,← ecap]
      have m0:Gz C' C'.ds w':=Cv
      rw [← e0] at m0
      exact m0
     ·obtain ⟨_,b',k1,_⟩:=Bo hb
      exact R1.base _ _ g k1 hg
    have hvs1:Af (AN σ1 (upS s.S) (fun i=>ι1 (dn1 i))) (caps.toList.map a'.eval) (cs.map fun c=>(AV.one c).ren up1):=(rc.mono fun _ _ x=>OU R (.one x)).map_right
    have fin:∀ (s4:AS) (a4:Act) (w4:World),s4.result rs=some r→Ax C' s4 a4 w4→∃ v,(results fn a4.tmps).run P w4=.ok v w4∧∃ v1 σ',Ending.returned v=.returned v1∧AN σ' noS noH v1 r∧Fit σ' w4∧Ext w.heap.size σ σ'∧Below w.heap.size w w4:=fun s4 a4 w4 hs4 hH4=>by
     obtain ⟨σ4,ι4,R4⟩:=hH4
     obtain ⟨v,v1,v2⟩:=LG R4 (fn:=fn) hr hs4
     exact ⟨v,v1,v,σ4,rfl,v2,R4.fit,⟨fun p x hp=>R4.ext p x (R.ext p x hp),fun p hp=>(R4.old p hp (fun h=>h)).trans (R.old p hp (fun h=>h))⟩,⟨R4.os.1.trans R.os.1,R4.os.2.1.trans R.os.2.1,R4.os.2.2.trans R.os.2.2,Nat.le_trans R.grown.2 R4.grown.2,fun k hk=>(R4.same k hk (fun h=>h)).trans (R.same k hk (fun h=>h))⟩⟩
    refine wp_mono (wpIn_wide.1 (hwalk C' rfl E hE _ w' ⟨σ1,_,RC⟩)) fun e a3 w3 he=>?_
    cases e with
    | normal =>
     obtain ⟨s3,⟨S',hdef,hres⟩,⟨σ3,ι3,R3⟩⟩:=he
     show Leaves P fn a3.tmps _ a3.defers .returning w3
     rw [R3.nod.none rfl]
     exact Gf R3 hpl (hvs1.mono fun _ _ x=>x.mono R3.ext R3.upd) (by simp) hdef rfl fun w4 hH4=>fin _ _ _ hres hH4
    | ret =>
     obtain ⟨s3,⟨S',hdef,hres⟩,⟨σ3,ι3,R3⟩⟩:=he
     show Leaves P fn a3.tmps _ a3.defers .returning w3
     rw [R3.nod.none rfl]
     exact Gf R3 hpl (hvs1.mono fun _ _ x=>x.mono R3.ext R3.upd) (by simp) hdef rfl fun w4 hH4=>fin _ _ _ hres hH4
    | exit id =>
     obtain ⟨s3,h3,_⟩:=he
     exact h3.elim
    | panic ch =>
     obtain ⟨s3,v,⟨⟨u',S',hdef,hset,hres⟩,rfl⟩,⟨σ3,ι3,R3⟩⟩:=he
     show Leaves P fn a3.tmps _ a3.defers (.panicking _) w3
     rw [R3.nod.none rfl]
     exact Gf R3 hpl (hvs1.mono fun _ _ x=>x.mono R3.ext R3.upd) (by simp) hdef hset fun w4 hH4=>fin _ _ _ hres hH4
    | goto l=>exact he.elim
    | outgrown=>exact he.elim
   | ret =>
    obtain ⟨s,h1,h2⟩:=he
    exact early s _ _ (show AR rs r .ret s from h1).2 h2
   | exit id =>
    obtain ⟨s,h1,h2⟩:=he
    exact (show AR rs r (.exit id) s from h1).1.elim
   | panic ch =>
    obtain ⟨s,v,h1,h2⟩:=he
    exact (show AR rs r (.pan v) s from h1.1).1.elim
   | goto l=>exact he.elim
   | outgrown=>exact he.elim
  | ret =>
   obtain ⟨s,h1,h2⟩:=he
   exact early s _ _ (show AR rs r .ret s from h1).2 h2
  | exit id =>
   obtain ⟨s,h1,h2⟩:=he
   exact (show AR rs r (.exit id) s from h1).1.elim
  | panic ch =>
   obtain ⟨s,v,h1,h2⟩:=he
   exact (show AR rs r (.pan v) s from h1.1).1.elim
  | goto l=>exact he.elim
  | outgrown=>exact he.elim
 | ret =>
  obtain ⟨s,h1,h2⟩:=he
  exact early s _ _ (show AR rs r .ret s from h1).2 h2
 | exit id =>
  obtain ⟨s,h1,h2⟩:=he
  exact (show AR rs r (.exit id) s from h1).1.elim
 | panic ch =>
  obtain ⟨s,v,h1,h2⟩:=he
  exact (show AR rs r (.pan v) s from h1.1).1.elim
 | goto l=>exact he.elim
 | outgrown=>exact he.elim
end

def Nl (s:ByteArray) (free:List ByteArray):Lm × Int:=if Cm free=0 then (if 4000 < s.size then (.nil,3) else Ty s free) else (.nil,Cm free)
def Ip (r:Lm × Int):AV:=.tup [aLm r.1,Ad r.2]
theorem JW (l:List ByteArray) (hl:l.length≤1000000):Fy Tryz.prog 39 [Eh l] 9 1 (l.map Cw) true:=by
 unfold Fy
 rw [List.length_map]
 refine B_.acS fun hS C hC=>?_
 unfold BY
 by_cases h0:l.length=0
 ·have hl:l=[]:=List.eq_nil_of_length_eq_zero h0
  subst hl
  repeat' with_reducible first | refine W ?_ | refine Z0 ?_ | ((first | refine Wo fun K hK=>?_ | refine Wp ?_ | refine Wq ?_ | refine Wr ?_);(try simp only [go_sem,fN,seval,eT,iR,dT,dF,nL]);(repeat refine Ai ?_);(try (refine hK _ ?_;clear hK K));try refine iC ?_)
  refine ⟨?_,?_⟩
  ·repeat' with_reducible first | refine W ?_ | refine Z0 ?_ | ((first | refine Wo fun K hK=>?_ | refine Wp ?_ | refine Wq ?_ | refine Wr ?_);(try simp only [go_sem,fN,seval,eT,iR,dT,dF,nL]);(repeat refine Ai ?_);(try (refine hK _ ?_;clear hK K));try refine iC ?_)
   refine Ei (Am.ownM (C:=C) 2 30 9 1 rfl rfl (by omega)) ?_
   exact PY (mu:=true) trivial 30 (by decide) rfl (fun i hi=>by show AK _ _ _ _=_;rw [AJ _ (by omega)];rfl) rfl
  ·repeat' with_reducible first | refine W ?_ | refine Z0 ?_ | ((first | refine Wo fun K hK=>?_ | refine Wp ?_ | refine Wq ?_ | refine Wr ?_);(try simp only [go_sem,fN,seval,eT,iR,dT,dF,nL]);(repeat refine Ai ?_);(try (refine hK _ ?_;clear hK K));try refine iC ?_)
   exact PY (mu:=true) trivial 7 (by decide) rfl (fun i hi=>by show AK _ _ _ _=_;rw [AJ _ (by omega)];rfl) rfl
 ·have hb:l.length * 16≤140737488355328:=by omega
  repeat' with_reducible first | refine W ?_ | refine Z0 ?_ | ((first | refine Wo fun K hK=>?_ | refine Wp ?_ | refine Wq ?_ | refine Wr ?_);(try simp only [go_sem,fN,seval,eT,iR,h0,hb,dT,dF,nL]);(repeat refine Ai ?_);(try (refine hK _ ?_;clear hK K));try refine iC ?_)
  exact PY (mu:=true) trivial 7 (by decide) rfl (fun i hi=>by show AK _ _ _ _=_;rw [AJ _ (by omega)];rfl) rfl
theorem Ko {n:Int} (hn:inR .i64 n) {x:AS} {c1 c2 c3:AC} {x1:AC} (e2:x.env 4=.one (.ptr 1004 1 0 0)) (e3:x.env 5=.one (.ptr 1005 1 0 0)) (t2:x.S 1004=some (.box 25 [c1,c2,c3])) (t3:x.S 1005=some (.box 31 [x1])) :
  Um Tryz.prog 38 [.one (.ptr 1004 1 0 0),.one (.ptr 1005 1 0 0)] [RV.cell 4 true 3,RV.cell 5 false 1] (Ip (.nil,n)) (.pan (C3 n)) x:=by
 refine ⟨_,_,Nd n hn 2004 2005 (upS x.S) (cs1:=[c1.ren up1,c2.ren up1,c3.ren up1]) (x1:=x1.ren up1) (by decide) (by decide) (by decide) ?_ rfl ?_,RU n,?_⟩
 ·rw [show (2004:Nat)=up1 1004 from rfl,C5,t2]
  rfl
 ·rw [show (2005:Nat)=up1 1005 from rfl,C5,t3]
  rfl
 ·unfold Q0
  rw [show (2004:Nat)=up1 1004 from rfl,show (2005:Nat)=up1 1005 from rfl,CE,CE,Dy]
  unfold AS.result
  simp only [go_sem,fN,seval,eT,iR,AB,AE,AQ,e2,e3]
  rfl
set_option maxRecDepth 100000 in
theorem Ru (s:ByteArray) (free:List ByteArray) (hl:free.length≤1000):AW Tryz.prog 17 [CM s,Eh free] (Ip (Nl s free)):=by
 have hfr:=KC free
 unfold Nl
 refine KN (f:=17) (g:=38) (t:=18) (rs:=[.cell 4 true 3,.cell 5 false 1]) Tryz.func17 rfl IS rfl (Nat.le_of_ble_eq_true rfl) rfl rfl rfl rfl rfl rfl rfl (Nat.le_of_ble_eq_true rfl) rfl (by kernel_rfl) fun C hC=>?_
 have hC:C.n=33:=hC
 by_cases h1:Cm free=0
 case neg =>
  rw [if_neg h1]
  unfold Ip
  repeat' with_reducible first | refine W ?_ | refine Z0 ?_ | ((first | refine Wx rfl fun K hK=>?_ | refine Wp ?_ | refine Wq ?_ | refine Wr ?_);(try simp only [go_sem,fN,seval,eT,iR,h1,dT,dF,nL]);(repeat refine Ai ?_);(try (refine hK _ ?_;clear hK K));try refine iC ?_)
  refine Ag ?_
  repeat' (first | (with_reducible first | refine W ?_ | refine Z0 ?_ | ((first | refine Wx rfl fun K hK=>?_ | refine Wp ?_ | refine Wq ?_ | refine Wr ?_);(try simp only [go_sem,fN,seval,eT,iR,h1,dT,dF,nL]);(repeat refine Ai ?_);(try (refine hK _ ?_;clear hK K));try refine iC ?_)) | refine Cg _ (Ib free) ?_)
  simp only [go_sem,fN,seval,AR,AS.result,AB,AE,AQ]
  rfl
 rw [if_pos h1]
 by_cases h0:(4000:Int) < s.size
 ·rw [if_pos (by omega)]
  unfold Ip
  repeat' with_reducible first | refine W ?_ | refine Z0 ?_ | ((first | refine Wx rfl fun K hK=>?_ | refine Wp ?_ | refine Wq ?_ | refine Wr ?_);(try simp only [go_sem,fN,seval,eT,iR,h0,dT,dF,nL]);(repeat refine Ai ?_);(try (refine hK _ ?_;clear hK K));try refine iC ?_)
  refine Ag ?_
  repeat' (first | (with_reducible first | refine W ?_ | refine Z0 ?_ | ((first | refine Wx rfl fun K hK=>?_ | refine Wp ?_ | refine Wq ?_ | refine Wr ?_);(try simp only [go_sem,fN,seval,eT,iR,h1,h0,dT,dF,nL]);(repeat refine Ai ?_);(try (refine hK _ ?_;clear hK K));try refine iC ?_)) | refine Cg _ (Ib free) ?_)
  refine Ag ?_
  repeat' with_reducible first | refine W ?_ | refine Z0 ?_ | ((first | refine Wx rfl fun K hK=>?_ | refine Wp ?_ | refine Wq ?_ | refine Wr ?_);(try simp only [go_sem,fN,seval,eT,iR,h0,dT,dF,nL]);(repeat refine Ai ?_);(try (refine hK _ ?_;clear hK K));try refine iC ?_)
  simp only [go_sem,fN,seval,AR,AS.result,AB,AE,AQ]
  rfl
 have hs:s.size≤100000:=by omega
 rw [if_neg (by omega)]
 repeat' with_reducible first | refine W ?_ | refine Z0 ?_ | ((first | refine Wx rfl fun K hK=>?_ | refine Wp ?_ | refine Wq ?_ | refine Wr ?_);(try simp only [go_sem,fN,seval,eT,iR,h0,dT,dF,nL]);(repeat refine Ai ?_);(try (refine hK _ ?_;clear hK K));try refine iC ?_)
 refine Ag ?_
 repeat' (first | (with_reducible first | refine W ?_ | refine Z0 ?_ | ((first | refine Wx rfl fun K hK=>?_ | refine Wp ?_ | refine Wq ?_ | refine Wr ?_);(try simp only [go_sem,fN,seval,eT,iR,h1,h0,dT,dF,nL]);(repeat refine Ai ?_);(try (refine hK _ ?_;clear hK K));try refine iC ?_)) | refine Cg _ (Ib free) ?_)
 refine Ag ?_
 repeat' with_reducible first | refine W ?_ | refine Z0 ?_ | ((first | refine Wx rfl fun K hK=>?_ | refine Wp ?_ | refine Wq ?_ | refine Wr ?_);(try simp only [go_sem,fN,seval,eT,iR,h0,dT,dF,nL]);(repeat refine Ai ?_);(try (refine hK _ ?_;clear hK K));try refine iC ?_)
 refine Ag ⟨_,by simp [AS.caps];rfl,fun C' hC'=>?_⟩
 have hC':C'.n=33:=hC'
 generalize hT:AS.up _=T
 have e0:T.env 0=CM s:=by subst hT;rfl
 have e1:T.env 1=Eh free:=by subst hT;rfl
 have e4:T.env 4=.one (.ptr 1004 1 0 0):=by subst hT;rfl
 have e5:T.env 5=.one (.ptr 1005 1 0 0):=by subst hT;rfl
 have t4:T.S 1004=some UG:=by subst hT;rfl
 have t5:T.S 1005=some (.box 31 [.st (.int .i64 0)]):=by subst hT;rfl
 have t21:T.S 21=none:=by subst hT;rfl
 have t23:T.S 23=none:=by subst hT;rfl
 have t900:T.S 900=none:=by subst hT;rfl
 obtain ⟨env,S⟩:=T
 simp only at e0 e1 e4 e5 t4 t5 t21 t23 t900
 clear hT
 have h40:free.length≤40:=by
  unfold Cm at h1
  by_cases h:40 < free.length
  ·rw [if_pos h] at h1;cases h1
  ·omega
 have hcall:=fun S' h1 h2 h3=>(TR hs (3 * s.size + 3)).1 free 0 0 (up1 23) (up1 21) (up1 900) (free.length + s.size + 2) S' (by omega) (by omega) (by omega) (by omega) (by omega) (AL 23) (AL 21) (AL 900) h1 h2 h3
 have hr:lrT s (3 * s.size + 3) free 0 0=lrS s free:=rfl
 rw [hr,Po] at hcall
 have hok:=MD s (3 * s.size + 3) free 0 0 (by omega) (by omega) (by omega)
 rw [hr] at hok
 unfold Ty
 generalize lrS s free=q at *
 have hrange:inR .i64 q.e:=by
  rw [CO]
  have:=hok.err
  omega
 by_cases he:q.e=0
 case neg =>
  rw [if_neg he]
  repeat' with_reducible first | refine W ?_ | refine Z0 ?_ | ((first | refine Wx rfl fun K hK=>?_ | refine Wp ?_ | refine Wq ?_ | refine Wr ?_);(try simp only [go_sem,fN,seval,eT,iR,e0,e1,e4,e5,t4,t5,t21,t23,t900,dT,dF,nL]);(repeat refine Ai ?_);(try (refine hK _ ?_;clear hK K));try refine iC ?_)
  refine HS.mk _ _ _ _ (JW free (by omega)) ⟨t21,by simp,?_⟩
  have hml:(free.map Cw).length=free.length:=by simp
  repeat' (first | (with_reducible first | refine W ?_ | refine Z0 ?_) | (first | refine IWP.opsPanE 1 ⟨some 25,none,.callS 40 [.t 24],.no⟩ rfl (by kernel_rfl) ?_) | (with_reducible ((first | refine Wx rfl fun K hK=>?_ | refine Wp ?_ | refine Wq ?_ | refine Wr ?_);(try simp only [go_sem,fN,seval,eT,iR,e0,e1,e4,e5,t4,t5,t21,t23,t900,hml,GB,dT,dF,nL]);(repeat refine Ai ?_);(try (refine hK _ ?_;clear hK K));try refine iC ?_)))
  simp only [go_sem,fN,seval,eT,iR,BI,List.take_succ_cons,List.take_zero,e0,e1,e4,e5,t4,t5]
  refine ⟨_,_,(hcall _ (A4 (by simp only [go_sem,fN,seval,eT,iR])) (DC (by simp only [go_sem,fN,seval,eT,iR])) (Co (by simp only [go_sem,fN,seval,eT,iR,t900]))).2 he,fun envP hE=>?_⟩
  refine Wy (Ko (c1:=.st (.int .i64 0)) (c2:=.st (.int .i64 0)) (c3:=.full []) (x1:=.st (.int .i64 0)) hrange ((hE 4 rfl).trans (by simp only [go_sem,fN,seval,eT,iR,e4])) ((hE 5 rfl).trans (by simp only [go_sem,fN,seval,eT,iR,e5])) ?_ ?_)
  ·simp only [go_sem,fN,seval,eT,iR,Bp,CI,t4]
  ·simp only [go_sem,fN,seval,eT,iR,Bp,CI,t5]
 rw [if_pos he]
 obtain ⟨o1,o2,o3,o4⟩:=hok.ok he
 have hml:(free.map Cw).length=free.length:=by simp
 by_cases h2:q.i < s.size
 ·have h2n:¬ Ar s q.i=⟨#[]⟩:=fun h=>by have:=(ET o1).1 h;omega
  rw [if_pos h2]
  repeat' with_reducible first | refine W ?_ | refine Z0 ?_ | ((first | refine Wx rfl fun K hK=>?_ | refine Wp ?_ | refine Wq ?_ | refine Wr ?_);(try simp only [go_sem,fN,seval,eT,iR,e0,e1,e4,e5,t4,t5,t21,t23,t900,dT,dF,nL]);(repeat refine Ai ?_);(try (refine hK _ ?_;clear hK K));try refine iC ?_)
  refine HS.mk _ _ _ _ (JW free (by omega)) ⟨t21,by simp,?_⟩
  repeat' with_reducible first | refine W ?_ | refine Z0 ?_ | ((first | refine Wx rfl fun K hK=>?_ | refine Wp ?_ | refine Wq ?_ | refine Wr ?_);(try simp only [go_sem,fN,seval,eT,iR,e0,e1,e4,e5,t4,t5,t21,t23,t900,hml,GB,dT,dF,nL]);(repeat refine Ai ?_);(try (refine hK _ ?_;clear hK K));try refine iC ?_)
  refine ⟨_,_,(hcall _ (A4 (by simp only [go_sem,fN,seval,eT,iR])) (DC (by simp only [go_sem,fN,seval,eT,iR])) (Co (by simp only [go_sem,fN,seval,eT,iR,t900]))).1 he,?_⟩
  repeat' with_reducible first | refine W ?_ | refine Z0 ?_ | ((first | refine Wx rfl fun K hK=>?_ | refine Wp ?_ | refine Wq ?_ | refine Wr ?_);(try simp only [go_sem,fN,seval,eT,iR,DW,Ch,e0,e1,e4,e5,t4,t5,h2n,dT,dF,nL]);(repeat refine Ai ?_);(try (refine hK _ ?_;clear hK K));try refine iC ?_)
  refine IWP.opsPanE 1 _ rfl (by kernel_rfl) ?_
  simp only [go_sem,fN,seval,eT,iR,BI,List.take_succ_cons,List.take_zero,e0,e1,e4,e5,t4,t5]
  intro envP hE
  refine Wy (Ko (n:=12) (c1:=.st (.int .i64 q.t.kind)) (c2:=.st (.int .i64 q.t.idx)) (c3:=.st (.list (List.map Ci q.t.subs))) (x1:=.st (.int .i64 0)) (by decide) ((hE 4 rfl).trans (by simp only [go_sem,fN,seval,eT,iR,e4])) ((hE 5 rfl).trans (by simp only [go_sem,fN,seval,eT,iR,e5])) ?_ ?_)
  ·simp only [go_sem,fN,seval,eT,iR,t4]
  ·simp only [go_sem,fN,seval,eT,iR,t5]
 ·have h2n:Ar s q.i=⟨#[]⟩:=(ET o1).2 (by omega)
  rw [if_neg h2]
  repeat' with_reducible first | refine W ?_ | refine Z0 ?_ | ((first | refine Wx rfl fun K hK=>?_ | refine Wp ?_ | refine Wq ?_ | refine Wr ?_);(try simp only [go_sem,fN,seval,eT,iR,e0,e1,e4,e5,t4,t5,t21,t23,t900,dT,dF,nL]);(repeat refine Ai ?_);(try (refine hK _ ?_;clear hK K));try refine iC ?_)
  refine HS.mk _ _ _ _ (JW free (by omega)) ⟨t21,by simp,?_⟩
  repeat' with_reducible first | refine W ?_ | refine Z0 ?_ | ((first | refine Wx rfl fun K hK=>?_ | refine Wp ?_ | refine Wq ?_ | refine Wr ?_);(try simp only [go_sem,fN,seval,eT,iR,e0,e1,e4,e5,t4,t5,t21,t23,t900,hml,GB,dT,dF,nL]);(repeat refine Ai ?_);(try (refine hK _ ?_;clear hK K));try refine iC ?_)
  refine ⟨_,_,(hcall _ (A4 (by simp only [go_sem,fN,seval,eT,iR])) (DC (by simp only [go_sem,fN,seval,eT,iR])) (Co (by simp only [go_sem,fN,seval,eT,iR,t900]))).1 he,?_⟩
  repeat' with_reducible first | refine W ?_ | refine Z0 ?_ | ((first | refine Wx rfl fun K hK=>?_ | refine Wp ?_ | refine Wq ?_ | refine Wr ?_);(try simp only [go_sem,fN,seval,eT,iR,DW,Ch,e0,e1,e4,e5,t4,t5,h2n,dT,dF,nL]);(repeat refine Ai ?_);(try (refine hK _ ?_;clear hK K));try refine iC ?_)
  refine ⟨_,Lg _ _ _,?_⟩
  rw [Dy]
  unfold AS.result
  simp only [go_sem,fN,seval,eT,iR,AB,AE,AQ,e4,e5]
  rfl

def At:IR :=
 (.seq (.ops [.i 4 (.box 25 (.t 1))]) (.seq (.ops [.f 9 0 4,.l 10 9,.i 11 (.bin .eql (.t 10) (.n 2)),.m 12 11,.mk (some 13) (some (12,true)) (.mov (.t 2)) .no,.mk (some 14) (some (12,true)) (.bin .gtr (.t 13) (.n 0)) .no,.i 15 (.pick (.t 12) (.t 14) (.c (.one (.st (.bool false))))),.m 16 15,.mk (some 17) (some (16,false)) (.fieldAddr 0 (.t 4)) .no,.mk (some 18) (some (16,false)) (.load false 1 (.t 17)) .no,.mk (some 19) (some (16,false)) (.bin .eql (.t 18) (.n 3)) .no,.mk (some 20) (some (16,false)) (.mov (.t 19)) .no,.mk (some 21) (some (20,true)) (.mov (.t 2)) .no,.mk (some 22) (some (20,true)) (.bin .gtr (.t 21) (.n 1)) .no,.mk (some 23) (some (16,false)) (.pick (.t 20) (.t 22) (.c (.one (.st (.bool false))))) .no,.i 24 (.pick (.t 16) (.c (.one (.st (.bool true)))) (.t 23)),.m 6 24]) (.seq (.seq (.ops [.m 25 6]) (.cond (.t 25) (.ops [.m 26 0,.i 27 (.nilCheck (.t 26)),.f 28 0 27,.i 29 (.callS 83 [.t 28,.c (.one (.st (.int .u8 40)))])]) .skip)) (.seq (.seq (.ops [.f 30 0 4,.l 31 30]) (.block 0 (.seq (.ops [.i 41 (.bin .eql (.t 31) (.n 1)),.m 40 41]) (.cond (.t 40) (.seq (.ops [.m 42 0,.i 43 (.nilCheck (.t 42)),.f 44 2 43,.l 45 44,.i 46 (.len false (.t 45)),.i 47 (.bin .sub (.t 46) (.n 1)),.f 48 1 4,.l 49 48,.i 50 (.bin .sub (.t 47) (.t 49)),.m 7 50]) (.seq (.ops [.m 51 7,.i 52 (.bin .geq (.t 51) (.n 0))]) (.cond (.t 52) (.ops [.m 53 0,.i 54 (.nilCheck (.t 53)),.f 55 0 54,.m 56 0,.i 57 (.nilCheck (.t 56)),.f 58 2 57,.l 59 58,.m 60 7,.i 61 (.indexAddr 1 (.t 59) (.t 60)),.l 62 61,.i 63 (.callS 84 [.t 55,.t 62])]) (.ops [.m 64 0,.i 65 (.nilCheck (.t 64)),.f 66 0 65,.m 67 7,.i 68 (.un .neg (.t 67)),.i 69 (.call 33 [.t 68]),.i 70 (.bin .add (.c (.one (.st (.str (ByteArray.mk (#[63])))))) (.t 69)),.i 71 (.callS 84 [.t 66,.t 70])])))) (.seq (.ops [.i 73 (.bin .eql (.t 31) (.n 2)),.m 72 73]) (.cond (.t 72) (.seq (.ops [.m 74 0,.i 75 (.nilCheck (.t 74)),.f 76 2 75,.l 77 76,.i 78 (.len false (.t 77)),.m 79 0,.i 80 (.nilCheck (.t 79)),.f 81 3 80,.l 82 81,.i 83 (.bin .sub (.t 78) (.t 82)),.i 84 (.call 33 [.t 83]),.i 85 (.bin .add (.c (.one (.st (.str (ByteArray.mk (#[120])))))) (.t 84)),.m 8 85]) (.seq (.ops [.m 86 0,.i 87 (.nilCheck (.t 86)),.f 88 0 87,.m 89 8,.i 90 (.bin .add (.c (.one (.st (.str (ByteArray.mk (#[92])))))) (.t 89)),.i 91 (.bin .add (.t 90) (.c (.one (.st (.str (ByteArray.mk (#[46]))))))),.i 92 (.callS 84 [.t 88,.t 91])]) (.seq (.ops [.m 93 0,.m 94 0,.i 95 (.nilCheck (.t 94)),.f 96 2 95,.l 97 96,.m 98 8,.i 99 (.buildFlat [.t 98]),.i 100 (.append true 9 1 16 (.t 97) (.t 99)),.i 101 (.nilCheck (.t 93)),.f 102 2 101,.s 1 102 100]) (.seq (.ops [.m 103 0,.f 104 2 4,.l 105 104,.i 106 (.indexAddr 3 (.t 105) (.n 0)),.L 107 3 106,.i 108 (.callS 69 [.t 103,.t 107,.n 0])]) (.ops [.m 109 0,.m 110 0,.i 111 (.nilCheck (.t 110)),.f 112 2 111,.l 113 112,.m 114 0,.i 115 (.nilCheck (.t 114)),.f 116 2 115,.l 117 116,.i 118 (.len false (.t 117)),.i 119 (.bin .sub (.t 118) (.n 1)),.i 120 (.cutP 1 (.t 113) (.t 119)),.i 121 (.nilCheck (.t 109)),.f 122 2 121,.s 1 122 120]))))) (.seq (.ops [.i 124 (.bin .eql (.t 31) (.n 3)),.m 123 124]) (.cond (.t 123) (.seq (.ops [.m 125 0,.f 126 2 4,.l 127 126,.i 128 (.indexAddr 3 (.t 127) (.n 0)),.L 129 3 128,.i 130 (.callS 69 [.t 125,.t 129,.n 1])]) (.seq (.ops [.m 131 0,.i 132 (.nilCheck (.t 131)),.f 133 0 132,.i 134 (.callS 83 [.t 133,.c (.one (.st (.int .u8 32)))])]) (.ops [.m 135 0,.f 136 2 4,.l 137 136,.i 138 (.indexAddr 3 (.t 137) (.n 1)),.L 139 3 138,.i 140 (.callS 69 [.t 135,.t 139,.n 2])]))) (.seq (.ops [.i 142 (.bin .eql (.t 31) (.n 4)),.m 141 142]) (.cond (.t 141) (.ops [.m 143 0,.i 144 (.nilCheck (.t 143)),.f 145 0 144,.f 146 1 4,.l 147 146,.i 148 (.call 33 [.t 147]),.i 149 (.bin .add (.c (.one (.st (.str (ByteArray.mk (#[99])))))) (.t 148)),.i 150 (.callS 84 [.t 145,.t 149])]) (.ops [.m 32 0,.i 33 (.nilCheck (.t 32)),.f 34 0 33,.f 35 1 4,.l 36 35,.i 37 (.call 33 [.t 36]),.i 38 (.bin .add (.c (.one (.st (.str (ByteArray.mk (#[35])))))) (.t 37)),.i 39 (.callS 84 [.t 34,.t 38])]))))))))))) (.seq (.ops [.m 151 6]) (.cond (.t 151) (.ops [.m 152 0,.i 153 (.nilCheck (.t 152)),.f 154 0 153,.i 155 (.callS 83 [.t 154,.c (.one (.st (.int .u8 41)))])]) .skip))))))
theorem A5:OkF Tryz.prog 69 156 [29,63,71,92,108,134,130,140,150,39,155,100,30000120] At []:=.of Tryz.func69 rfl rfl (by kernel_rfl) rfl
def Fd:IR :=
 (.seq (.ops [.i 2 (.box 25 (.t 0)),.i 4 (.mov (.c (.one (.st (.str (ByteArray.mk (#[])))))))]) (.seq (.ops [.m 6 1,.i 7 (.len false (.t 6)),.m 8 1,.i 9 (.callN 39 [.t 8]),.i 10 (.build [.st (.lit (.pointer none)),.full [],.full [],.st (.int .i64 0)] [(3,1,.t 7),(2,1,.t 9)]),.i 11 (.box 99 (.t 10)),.m 5 11]) (.seq (.ops [.m 12 5,.L 13 3 2,.i 14 (.callS 69 [.t 12,.t 13,.n 0])]) (.seq (.ops [.m 15 5,.i 16 (.nilCheck (.t 15)),.f 17 0 16,.i 18 (.callS 70 [.t 17]),.m 4 18]) .ret))))
theorem Jv:OkF Tryz.prog 41 19 [20000009,14,18] Fd [.t 4]:=.of Tryz.func41 rfl rfl (by kernel_rfl) rfl
def FQ:IR :=
 (.seq (.ops [.i 2 (.box 25 (.t 0)),.i 4 (.mov (.c (.one (.st (.str (ByteArray.mk (#[]))))))),.i 5 (.mov (.n 0))]) (.seq (.ops [.m 7 1,.i 8 (.call 37 [.t 7]),.m 6 8]) (.seq (.seq (.ops [.m 9 6,.i 10 (.bin .eql (.t 9) (.n 0))]) (.cond (.t 10) (.ops [.L 11 3 2,.m 12 1,.i 13 (.len false (.t 12)),.i 14 (.call 15 [.t 11,.t 13]),.m 6 14]) .skip)) (.seq (.seq (.ops [.m 15 6,.i 16 (.bin .neq (.t 15) (.n 0))]) (.cond (.t 16) (.seq (.ops [.m 17 6,.i 4 (.mov (.c (.one (.st (.str (ByteArray.mk (#[]))))))),.m 5 17]) .ret) .skip)) (.seq (.ops [.L 18 3 2,.m 19 1,.i 20 (.call 41 [.t 18,.t 19]),.m 4 20,.i 5 (.mov (.n 0))]) .ret)))))
theorem Ju:OkF Tryz.prog 18 21 [] FQ [.t 4,.t 5]:=.of Tryz.func18 rfl rfl (by kernel_rfl) rfl

abbrev Bd:=ByteArray × Tm
def Ut (b:Bd):List SV:=[.str b.1,.str b.2.name,.list (b.2.args.map EH)]
instance:SH Ut 3:=⟨fun _=>rfl⟩
def lookup (l:List Bd) (n:ByteArray):Option Tm:=(l.find? fun b=>decide (b.1=n)).map (·.2)
theorem N6 {l:List Bd} {n:ByteArray} {x:Tm} (h:lookup l n=some x):∃ b ∈ l,b.1=n∧b.2=x:=by
 unfold lookup at h
 rw [Option.map_eq_some_iff] at h
 obtain ⟨b,h1,h2⟩:=h
 exact ⟨b,List.mem_of_find?_eq_some h1,by simpa using List.find?_some h1,h2⟩
mutual
def Tm.on (s:List Bd):Tm→Tm
 | .mk n xs=>match (if xs.isEmpty then lookup s n else none) with
  | some x=>x
  | none=>.mk n (Tm.onL s xs)
def Tm.onL (s:List Bd):List Tm→List Tm
 | []=>[]
 | t :: ts=>t.on s :: Tm.onL s ts
end
theorem Tm.onL_eq (s:List Bd):∀ ts:List Tm,Tm.onL s ts=ts.map (Tm.on s)
 | []=>rfl
 | t :: ts=>by rw [Tm.onL,Tm.onL_eq s ts];rfl
theorem Tm.on_leaf {s:List Bd} {t x:Tm} (h:lookup s t.name=some x) (h0:t.args=[]):t.on s=x:=by
 cases t with
 | mk n xs =>
  simp only [Tm.name_mk,Tm.args_mk] at h h0
  subst h0
  simp [Tm.on,h]
theorem Tm.on_knot {s:List Bd} {t:Tm} (h:lookup s t.name=none ∨ t.args ≠ []):t.on s=.mk t.name (t.args.map (Tm.on s)):=by
 cases t with
 | mk n xs =>
  simp only [Tm.name_mk,Tm.args_mk] at h ⊢
  rw [← Tm.onL_eq]
  rcases h with h | h
  ·simp [Tm.on,h]
  ·cases xs with
   | nil=>exact absurd rfl h
   | cons y ys=>simp [Tm.on]



theorem size_sub {s:List Bd} {M:Nat} (hM:1≤M) (hs:∀ b ∈ s,b.2.size≤M) (t:Tm):(t.on s).size≤t.size * M:=by
 induction hN:SizeOf.sizeOf t using Nat.strongRecOn generalizing t with
 | _ N ih =>
 subst hN
 have hsz:=Tm.size_eq t
 by_cases hleaf:(∃ x,lookup s t.name=some x)∧t.args=[]
 ·obtain ⟨⟨x,hx⟩,h0⟩:=hleaf
  rw [Tm.on_leaf hx h0]
  obtain ⟨b,hb,_,rfl⟩:=N6 hx
  have:=hs b hb
  have h1:=Nat.mul_le_mul_right M (Tm.size_pos t)
  omega
 ·have hon:t.on s=.mk t.name (t.args.map (Tm.on s)):=Tm.on_knot (by
   cases hl:lookup s t.name with
   | none=>exact .inl rfl
   | some x=>exact .inr fun h0=>hleaf ⟨⟨x,hl⟩,h0⟩)
  have key:∀ xs:List Tm,(∀ x ∈ xs,(x.on s).size≤x.size * M)→Tm.sizes (xs.map (Tm.on s))≤Tm.sizes xs * M:=by
   intro xs
   induction xs with
   | nil=>intro _;simp [Tm.sizes]
   | cons x xs ih2 =>
    intro h
    have h1:=h x (by simp)
    have h2:=ih2 fun y hy=>h y (by simp [hy])
    simp only [List.map_cons,Tm.sizes]
    rw [Nat.add_mul]
    omega
  have hk:=key t.args fun x hx=>ih _ (Tm.lt_of_arg hx) x rfl
  rw [hon]
  have e:(Tm.mk t.name (t.args.map (Tm.on s))).size=1 + Tm.sizes (t.args.map (Tm.on s)):=rfl
  rw [e,hsz,Nat.add_mul]
  omega

abbrev Pr:=Tm × Tm
def Uu (p:Pr):List SV:=[.str p.1.name,.list (p.1.args.map EH),.str p.2.name,.list (p.2.args.map EH)]
instance:SH Uu 4:=⟨fun _=>rfl⟩

def Gd (n:Nat):ByteArray:=⟨(Lib.decDigits n).toArray⟩
theorem Tg {u k:Nat} (h:u < 10 ^ k) (hk:1≤k):Lib.nDigits u≤k:=by
 induction k generalizing u with
 | zero=>omega
 | succ k ih =>
  by_cases h1:u < 10
  ·rw [Lib.nDigits_small h1];omega
  ·rw [Lib.nDigits_big h1]
   have:1≤k:=by
    rcases Nat.eq_zero_or_pos k with h0 | h0
    ·subst h0;rw [Nat.zero_add,Nat.pow_one] at h;omega
    ·exact h0
   have:=ih (u:=u / 10) (by rw [Nat.pow_succ] at h;omega) this
   omega
theorem QH (n:Nat):(Gd n).size=Lib.nDigits n:=by
 show (Lib.decDigits n).toArray.size=_
 rw [List.size_toArray,Lib.decDigits_length]
theorem E2 {n:Nat} (h:n < 1000000):(Gd n).size≤6:=by rw [QH];exact Tg (k:=6) (by omega) (by omega)
def Rw (n:ByteArray) (xs:List Tm) (b:Tm):Prop:=D0 n=false∧n=b.name∧xs.length=b.args.length
instance (n:ByteArray) (xs:List Tm) (b:Tm):Decidable (Rw n xs b):=by unfold Rw;infer_instance
def Pe (l m:List Pr):Prop:=∃ r,m=l ++ r
theorem Pe.refl (l:List Pr):Pe l l:=⟨[],by simp⟩
theorem Pe.trans {a b c:List Pr} (h:Pe a b) (k:Pe b c):Pe a c:=by
 obtain ⟨r,rfl⟩:=h
 obtain ⟨q,rfl⟩:=k
 exact ⟨r ++ q,by simp⟩

def Ej (p:UInt8) (k:Nat):ByteArray:=⟨#[p]⟩ ++ Gd k
def brk (b:Bool) (s:ByteArray):ByteArray:=if b=true then ⟨#[40]⟩ ++ s ++ ⟨#[41]⟩ else s
inductive LTx (p:UInt8) (o:Nat):List ByteArray→Lm→ByteArray→Prop
 | v {ns:List ByteArray} {i:Nat} {n:ByteArray} (h:i < ns.length) (hn:ns[ns.length - 1 - i]?=some n):LTx p o ns (.v i) n
 | c {ns:List ByteArray} {i:Nat} (h:i < 40):LTx p o ns (.mk 4 i []) (⟨#[99]⟩ ++ Gd i)
 | l {ns:List ByteArray} {b:Lm} {s:ByteArray} (ho:o≤ns.length) (h:LTx p o (ns ++ [Ej p (ns.length - o)]) b s):LTx p o ns (.l b) (⟨#[92]⟩ ++ Ej p (ns.length - o) ++ ⟨#[46]⟩ ++ s)
 | a {ns:List ByteArray} {f x:Lm} {s t:ByteArray} (hf:LTx p o ns f s) (hx:LTx p o ns x t):LTx p o ns (.a f x) (brk (decide (f.kind=2)) s ++ ⟨#[32]⟩ ++ brk (decide (x.kind=2 ∨ x.kind=3)) t)
theorem Lm.size_l (b:Lm):(Lm.l b).size=1 + b.size:=by simp [Lm.l,Lm.size,Lm.sizes]
theorem Lm.size_a (f x:Lm):(Lm.a f x).size=1 + f.size + x.size:=by simp [Lm.a,Lm.size,Lm.sizes];omega
theorem NM (b:Bool) (s:ByteArray):s.size≤(brk b s).size∧(brk b s).size≤s.size + 2:=by
 unfold brk
 split
 ·simp only [ByteArray.size_append]
  have h1:(⟨#[40]⟩:ByteArray).size=1:=rfl
  have h2:(⟨#[41]⟩:ByteArray).size=1:=rfl
  omega
 ·omega
theorem NP {p:UInt8} {k:Nat} (h:k < 1000000):(Ej p k).size≤7:=by
 have:=E2 h
 unfold Ej
 rw [ByteArray.size_append]
 have h1:(⟨#[p]⟩:ByteArray).size=1:=rfl
 omega

theorem Gs {P:Program} {f:FuncId} {xs:List AV} {S:AA} {r:AV} {S':AA} (hS':An S→An S')
  (h:An S→∀ (C:Ctx) (σ:Sto) (ι:As) (vs:List Value) (w:World),C.n=xs.length→AT C σ ι (AS.startS xs S) { tmps:=vs.toArray,defers:=[] } w→Af (AN σ S ι) vs xs→Calls P f vs.toArray w fun e w'=>∃ v σ' ι' env',e=.returned v∧AT C σ' ι' ⟨env',S'⟩ { tmps:=vs.toArray,defers:=[] } w'∧AN σ' S' ι' v r):Ay P f xs S r S':=by
 intro hclean σ w vs ι hglob hfit hown hvs
 have hl:=hvs.len
 let C:Ctx:=⟨xs.length,w.heap.size,fun g=>¬ BZ S ι g,σ,w,S,ι,hclean,hglob,[],none,false⟩
 have R:AT C σ ι (AS.startS xs S) { tmps:=vs.toArray,defers:=[] } w:=by
  refine ⟨by simp [C,hl],fun i hi=>?_,Cv,hfit,hown.1,hown.2,fun id b g h hg=>.inr (fun hno=>hno id b h hg),fun _ _ h=>h,fun _ _ _=>rfl,⟨rfl,rfl,rfl⟩,⟨Nat.le_refl _,Nat.le_refl _⟩,fun _ _ _=>rfl,Upd.refl _ _⟩
  show AN σ S ι _ ((xs[i]?).getD (.tup []))
  have hi:i < xs.length:=hi
  have hi2:i < vs.length:=by omega
  obtain ⟨b,hb1,hb2⟩:=hvs.get' (List.getElem?_eq_getElem hi2)
  rw [Array.getD_eq_getD_getElem?,hb1]
  simpa [hi2] using hb2
 refine (h hclean C σ ι vs w rfl R hvs).mono fun e w' ⟨v,σ',ι',env',he,R',hv⟩=>?_
 exact ⟨v,σ',ι',he,hS' hclean,R'.upd,⟨R'.blk,R'.inj⟩,hv,R'.fit,R'.ext,fun p h1 h2=>R'.old p h1 (fun h=>h h2),R'.os,R'.grown.2,fun g h1 h2=>R'.same g h1 (fun h=>h h2),fun id b g h1 h2=>R'.base id b g h1 h2⟩
theorem Am.ownCell {C:Ctx} {s:AS} {id r:Nat} {e e':TypeId} {cs:List AC} (j wd:Nat) (hS:s.S id=some (.box e cs)) (hj:cs[j]?=some (.full [])) (hr:s.S r=none) (hne:id ≠ r) :
  Am C s ((s.set r (.mrow e' wd [])).set id (.box e (cs.set j (.row r 0)))):=fun a w ⟨σ,ι,R⟩=>by
 have hb:=R.blk _ _ hS
 cases hb with
 | @box _ _ g vs k1 k2 k3 k4 k5 =>
  obtain ⟨v,hv,hvr⟩:=k4.get hj
  cases hvr with
  | @full p len xs hs =>
   have hl:len=0:=by
    obtain ⟨p',cap',e1,_⟩:=Cq hs
    cases e1
    rfl
   subst hl
   obtain ⟨hu,R'⟩:=R.fresh (w':=w) hr (.mrow e' wd []) ⟨p,0,none⟩ (Ext.refl _ _) R.fit (Below.refl _ _) (by simp) (fun S' ι' hu=>.mnil rfl rfl)
   have hS':(s.set r (.mrow e' wd [])).S id=some (.box e cs):=by simp [AS.set,AJ _ hne,hS]
   have hι:AK ι r ⟨p,0,none⟩ id=ι id:=AJ _ hne _
   have hrr:(s.set r (.mrow e' wd [])).S r=some (.mrow e' wd []):=by simp [AS.set,AD]
   obtain ⟨hu2,R2⟩:=R'.turn (w':=w) hS' (.box e (cs.set j (.row r 0))) (AK ι r ⟨p,0,none⟩ id) (σ':=σ) (fun _ _ h=>h) (fun _ _ _=>rfl) R.fit (by simp [AU.len]) (fun _=>⟨rfl,rfl⟩) ⟨rfl,rfl,rfl⟩ (Nat.le_refl _) (fun _ _ _=>rfl) (fun g h=>.inl h)
    (fun hu2=>by
     rw [hι] at hu2 ⊢
     refine .box k1 k2 k3 (Af.of_get (by rw [List.length_set];exact k4.len) fun q u c hu3 hc=>?_) k5
     by_cases e2:q=j
     ·subst e2
      rw [hv] at hu3
      cases hu3
      rw [List.getElem?_set_self (List.getElem?_eq_some_iff.1 hj).1] at hc
      cases hc
      refine .row (b:=.mrow e' wd []) (by simp [AS.set,AK,Ne.symm hne]) (Nat.le_refl _) rfl fun _=>?_
      simp [AK,Ne.symm hne]
     ·rw [List.getElem?_set_ne (fun e=>e2 e.symm)] at hc
      obtain ⟨u',hu',hr'⟩:=k4.get hc
      rw [hu3] at hu'
      cases hu'
      exact (hr'.mono (fun _ _ h=>h) hu).mono (fun _ _ h=>h) hu2)
   exact ⟨σ,_,R2⟩

def B3:IR :=
 (.seq (.ops [.i 4 (.mov (.n 0)),.i 5 (.mov (.c (.one (.st (.lit .nilIface)))))]) (.seq (.ops [.m 6 0,.i 7 (.callS 97 [.t 6])]) (.seq (.ops [.m 8 0,.m 9 0,.i 10 (.nilCheck (.t 9)),.f 11 1 10,.l 12 11,.m 13 1,.i 14 (.appS 5 (.t 12) (.t 13)),.i 15 (.nilCheck (.t 8)),.f 16 1 15,.s 1 16 14]) (.seq (.ops [.m 17 1,.i 18 (.len true (.t 17)),.m 4 18,.i 5 (.mov (.c (.one (.st (.lit .nilIface)))))]) .ret))))
theorem DH:OkF Tryz.prog 84 19 [7] B3 [.t 4,.t 5]:=.of Tryz.func84 rfl rfl (by kernel_rfl) rfl
def CF:IR :=
 (.seq (.ops [.i 4 (.mov (.c (.one (.st (.lit .nilIface)))))]) (.seq (.ops [.m 5 0,.i 6 (.callS 97 [.t 5])]) (.seq (.ops [.m 7 0,.m 8 0,.i 9 (.nilCheck (.t 8)),.f 10 1 9,.l 11 10,.m 12 1,.i 13 (.buildFlat [.t 12]),.i 14 (.append true 5 1 1 (.t 11) (.t 13)),.i 15 (.nilCheck (.t 7)),.f 16 1 15,.s 1 16 14]) (.seq (.ops [.i 4 (.mov (.c (.one (.st (.lit .nilIface)))))]) .ret))))
theorem Da:OkF Tryz.prog 83 17 [6,14] CF [.t 4]:=.of Tryz.func83 rfl rfl (by kernel_rfl) rfl

end Go.Proofs.YtignopbnnaimaaaGreatDoor
