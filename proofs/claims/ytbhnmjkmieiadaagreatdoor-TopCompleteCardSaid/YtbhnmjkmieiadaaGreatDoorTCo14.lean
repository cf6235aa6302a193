/-
  Proved: rules that completion gives go down, have critical pairs that all meet, and make both sides of each equation the same (KNUTH, BENDIX): the law TopComplete returns true; as a tied card. Conditions: none.
-/
import Derived.Test.YtbhnmjkmieiadaaGreatDoorTCo13
import Derived.Test.YtbhnmjkmieiadaaGreatDoorRows
import Derived.ProofKit
import Derived.OpenShut
import Derived.JoinedCond
import Derived.Deep.Slices
import Derived.Test.YtbhnmjkmieiadaaGreatDoorTie
import Derived.Test.YtbhnmjkmieiadaaGreatDoorCards
import Derived.LaidMore
import Derived.MakeChecks
import Derived.Stop.Joined
import Derived.Lib.LaidTab
import Derived.Lib.ItoaNum
import Derived.LaidLaws
namespace Go.Proofs.YtbhnmjkmieiadaaGreatDoor
open Go Go.RowKit
set_option linter.unusedVariables false
set_option linter.unusedSimpArgs false
set_option maxHeartbeats 2000000
theorem St {k:Nat} (hk:k < 9) {j:Nat} (hj:j < 6):MA 4000 (NT.getD j []) (W7 k)=true:=by
 rw [TN k hk]
 cases k with
 | zero=>exact PM j hj
 | succ k=>exact Qh k (by omega) j hj
theorem RZ {k:Nat} (hk:k < 9):Bg (W7 k)=0:=by
 have h:∀ k,k < 9→Bg (Y4.getD k [])=0:=by decide +kernel
 rw [TN k hk]
 exact h k hk
theorem M8 (m1 m2 m3:Int) (h1:inR .i64 m1) (h2:inR .i64 m2) (h3:inR .i64 m3):AY Tryz.prog 5 [AN m1,AN m2,AN m3] (Ad true):=by
 obtain ⟨k,hk,-,cE⟩:=UV m1 h1
 obtain ⟨j,hj,cR⟩:=VB m2 h2
 have p3:=Sc m3 40 h3 (by omega)
 have r3:=G8 m3 40 (by omega)
 obtain ⟨k3,e3⟩:∃ k:Nat,GW m3 40=k:=⟨(GW m3 40).toNat,by omega⟩
 rw [e3] at p3 r3
 obtain ⟨R,e,hc,hg⟩:=Vn (St hk hj) (n:=60 - k3) (by omega)
 have cC:=SW (N9 j hj) (RZ hk) (by omega) hc
 have hsub:((60 - k3:Nat):Int)=60 - (k3:Int):=by omega
 rw [hsub] at cC
 have hrm:=N9 j hj
 have hem:=RZ hk
 generalize NT.getD j []=row at *
 generalize W7 k=eqs at *
 unfold Ws at hg
 by_cases he:e=0
 case neg =>
  rw [if_pos he] at hg
  simp only [Bool.and_eq_true,Bool.or_eq_true,decide_eq_true_eq,List.isEmpty_iff] at hg
  obtain ⟨rfl,hg⟩:=hg
  have cF:=Zx
  refine Cm.ac fun C hC=>?_
  unfold Bx
  rcases hg with ((rfl | rfl) | rfl) | rfl
  ·repeat' (first | (with_reducible first | refine W ?_ | refine Z0 ?_ | ((first | refine Wo fun K hK=>?_ | refine Wp ?_ | refine Wq ?_ | refine Wr ?_);(try simp only [go_sem,fN,seval,eT,iR,dT,dF,nL]);(repeat refine Ai ?_);(try (refine hK _ ?_;clear hK K));try refine iC ?_)) | refine Cg _ (cE) ?_ | refine Cg _ (cR) ?_ | refine Cg _ (p3) ?_ | refine Cg _ (cC) ?_ | refine Cg _ (cF) ?_)
   simp only [go_sem,fN,seval,AR,AS.result,AB,AD,AL]
  ·repeat' (first | (with_reducible first | refine W ?_ | refine Z0 ?_ | ((first | refine Wo fun K hK=>?_ | refine Wp ?_ | refine Wq ?_ | refine Wr ?_);(try simp only [go_sem,fN,seval,eT,iR,dT,dF,nL]);(repeat refine Ai ?_);(try (refine hK _ ?_;clear hK K));try refine iC ?_)) | refine Cg _ (cE) ?_ | refine Cg _ (cR) ?_ | refine Cg _ (p3) ?_ | refine Cg _ (cC) ?_ | refine Cg _ (cF) ?_)
   simp only [go_sem,fN,seval,AR,AS.result,AB,AD,AL]
  ·repeat' (first | (with_reducible first | refine W ?_ | refine Z0 ?_ | ((first | refine Wo fun K hK=>?_ | refine Wp ?_ | refine Wq ?_ | refine Wr ?_);(try simp only [go_sem,fN,seval,eT,iR,dT,dF,nL]);(repeat refine Ai ?_);(try (refine hK _ ?_;clear hK K));try refine iC ?_)) | refine Cg _ (cE) ?_ | refine Cg _ (cR) ?_ | refine Cg _ (p3) ?_ | refine Cg _ (cC) ?_ | refine Cg _ (cF) ?_)
   simp only [go_sem,fN,seval,AR,AS.result,AB,AD,AL]
  ·repeat' (first | (with_reducible first | refine W ?_ | refine Z0 ?_ | ((first | refine Wo fun K hK=>?_ | refine Wp ?_ | refine Wq ?_ | refine Wr ?_);(try simp only [go_sem,fN,seval,eT,iR,dT,dF,nL]);(repeat refine Ai ?_);(try (refine hK _ ?_;clear hK K));try refine iC ?_)) | refine Cg _ (cE) ?_ | refine Cg _ (cR) ?_ | refine Cg _ (p3) ?_ | refine Cg _ (cC) ?_ | refine Cg _ (cF) ?_)
   simp only [go_sem,fN,seval,AR,AS.result,AB,AD,AL]
 case pos =>
 subst he
 rw [if_neg (by simp)] at hg
 simp only [Bool.and_eq_true,decide_eq_true_eq,List.all_eq_true,Bool.not_eq_true'] at hg
 obtain ⟨⟨⟨⟨g1,g2⟩,g3⟩,g4⟩,g5⟩:=hg
 have hR:=Dy g1
 have cJ:=Y8 hR g1 200
 rw [XY g2] at cJ
 unfold joV at cJ
 have cF:=ZA hrm hR
 have hall:(R.all fun r=>paB row r.1 r.2)=true:=by
  rw [List.all_eq_true]
  intro r hr
  rw [← SS]
  exact g3 r hr
 rw [hall] at cF
 have hl:¬ R.length=0:=by
  intro h0
  rw [List.length_eq_zero_iff.1 h0] at g4
  cases g4
 have hl':¬ (R.length:Int)=0:=by omega
 have hel:eqs.length≤40:=by
  unfold Bg at hem
  split at hem
  ·cases hem
  ·omega
 have hRl:(R.map As).length=R.length:=List.length_map _
 have hEl:(eqs.map As).length=eqs.length:=List.length_map _
 refine Cm.ac fun C hC=>?_
 unfold Bx
 repeat' (first | (with_reducible first | refine W ?_ | refine Z0 ?_ | ((first | refine Wo fun K hK=>?_ | refine Wp ?_ | refine Wq ?_ | refine Wr ?_);(try simp only [go_sem,fN,seval,eT,iR,hl,hl',hRl,hEl,dT,dF,nL]);(repeat refine Ai ?_);(try (refine hK _ ?_;clear hK K));try refine iC ?_)) | refine Cg _ (cE) ?_ | refine Cg _ (cR) ?_ | refine Cg _ (p3) ?_ | refine Cg _ (cC) ?_ | refine Cg _ (cJ) ?_ | refine Cg _ (cF) ?_)
 refine IWP.loop (fun z s=>∃ i,i≤eqs.length∧z=eqs.length - i∧s.env 7=CI eqs∧s.env 8=CI R∧s.env 11=AN i) eqs.length ⟨0,Nat.zero_le _,rfl,by simp only [go_sem,fN,seval,eT,iR],by simp only [go_sem,fN,seval,eT,iR],by simp only [go_sem,fN,seval,eT,iR]⟩ ?_
 rintro z ⟨env,S⟩ ⟨i,hi,rfl,e7,e8,e11⟩
 simp only at e7 e8 e11
 by_cases hil:i < eqs.length
 ·have hil':(i:Int) < eqs.length:=by omega
  obtain ⟨q,hq⟩:=Aj hil
  obtain ⟨q1,q2⟩:=g5 q (AU hq)
  have cM:=Z2 R q.1 q.2 200
  rw [q1,q2] at cM
  repeat' (first | (with_reducible first | refine W ?_ | refine Z0 ?_ | ((first | refine Wo fun K hK=>?_ | refine Wp ?_ | refine Wq ?_ | refine Wr ?_);(try simp only [go_sem,fN,seval,eT,iR,e7,e8,e11,hil',hq,hEl,As,dT,dF,nL]);(repeat refine Ai ?_);(try (refine hK _ ?_;clear hK K));try refine iC ?_)) | refine Cg _ (cM) ?_)
  refine AH ⟨eqs.length - (i + 1),by omega,i + 1,by omega,rfl,?_,?_,?_⟩
  ·simp only [go_sem,fN,seval,eT,iR,e7]
  ·simp only [go_sem,fN,seval,eT,iR,e8]
  ·simp only [go_sem,fN,seval,eT,iR]
   rfl
 ·have hil':¬ (i:Int) < eqs.length:=by omega
  repeat' with_reducible first | refine W ?_ | refine Z0 ?_ | ((first | refine Wo fun K hK=>?_ | refine Wp ?_ | refine Wq ?_ | refine Wr ?_);(try simp only [go_sem,fN,seval,eT,iR,e7,e8,e11,hil',hEl,dT,dF,nL]);(repeat refine Ai ?_);(try (refine hK _ ?_;clear hK K));try refine iC ?_)
  simp only [go_sem,fN,seval,AR,AS.result,AB,AD,AL]

open Go.ChangeShapes Go.WideShapes Go.ChangeAt
section
variable {H:Type} {enc:TypeId × Value→H} {P:Program}
theorem Hn (hl:laidOutB P=true):∀ {ts:List TypeId} {vs:List Value} {ds:List (DataW H)} {ps:List MemPlace} {W W':World} {sp:Nat→Bool},
  (∀ t ∈ ts,P.readableRec t=true∧t < P.types.size)→DataW.TrodAll enc P W 0 (fun _=>true) true ts vs ds ps→(∀ p ∈ ps,W.sameAt W' p)→(∀ p ∈ ps,sp p.block=true)→DataW.TrodAll enc P W' 0 sp true ts vs ds ps
 | [],[],[],_,_,_,_,_,h,_,_=>h
 | _ :: _,_ :: _,_ :: _,_,_,_,_,hT,⟨p,q,h1,h2,e⟩,hsame,hs=>⟨p,q,WideElems.Trod_stays hl (hT _ (List.mem_cons.2 (Or.inl rfl))).1 (hT _ (List.mem_cons.2 (Or.inl rfl))).2 h1 (fun x hx=>hsame x (by rw [e];exact List.mem_append_left _ hx)) (fun x hx=>hs x (by rw [e];exact List.mem_append_left _ hx)),
   Hn hl (fun t ht=>hT t (List.mem_cons.2 (Or.inr ht))) h2 (fun x hx=>hsame x (by rw [e];exact List.mem_append_right _ hx)) (fun x hx=>hs x (by rw [e];exact List.mem_append_right _ hx)),e⟩
 | [],_ :: _,_,_,_,_,_,_,h,_,_=>h.elim
 | [],[],_ :: _,_,_,_,_,_,h,_,_=>h.elim
 | _ :: _,[],_,_,_,_,_,_,h,_,_=>h.elim
 | _ :: _,_ :: _,[],_,_,_,_,_,h,_,_=>h.elim
theorem WX {f:Func} {s:ChangeSpec} {apart fresh handsOn:Bool} {W W':World} {args:Array Value} {ds:List (DataW H)} {before:List MemPlace} {tb:TypeId}
  (hW:DataW.Whole enc P f.params.toList s.vars apart W args.toList ds [] before) (hv:s.vars=[]) (hr:f.resultTypes=#[tb]) (htb:P.underlying tb=some .bool)
  (hres:(s.fn H (ds ++ [])).results=[.lit (.bool true)]) (hargs:(s.fn H (ds ++ [])).args=ds) (hvs:(s.fn H (ds ++ [])).vars=[])
  (hl:laidOutB P=true) (hT:(f.params.toList.all fun t=>P.readableRec t && decide (t < P.types.size))=true) (hb:Below W.heap.size W W') :
  s.post enc P f apart fresh handsOn false W args (.bool true) W':=by
 have hlt:∀ p ∈ before,p.block < W.heap.size:=fun p hp=>hW.lt p hp
 have hT':∀ t ∈ f.params.toList,P.readableRec t=true∧t < P.types.size:=fun t ht=>by
  have:=List.all_eq_true.1 hT t ht
  simpa using this
 obtain ⟨p,q,hA,hV,rfl,hz,hn⟩:=hW
 rw [hv] at hV
 obtain ⟨_,rfl⟩:=trodVars_none hV
 have hargs':∀ sp:Nat→Bool,(∀ x ∈ p,sp x.block=true)→DataW.TrodAll enc P W' 0 sp true f.params.toList args.toList ds p:=fun sp hsp =>
  Hn hl hT' hA (fun x hx=>hb.same (hlt x (by simpa using hx))) hsp
 have hres':∀ (b:Nat) (sp:Nat→Bool) (hd:Bool),DataW.TrodAll enc P W' b sp hd f.resultTypes.toList ((Value.bool true).resultList f.resultTypes.size) (s.fn H (ds ++ [])).results []:=fun b sp hd=>by
  rw [hres,hr]
  exact trodAll_cons_mk (shut_bool htb true) trodAll_mk0
 refine ⟨ds,[],p ++ [],[],p,[],⟨p,[],hA,by rw [hv];exact rfl,rfl,hz,hn⟩,hres' _ _ _,by rw [hargs];exact hargs' _ (fun x hx=>by simpa using hlt x (by simpa using hx)),by rw [hv,hvs];exact rfl,
  World.keptBut_mono (fun x hx=>⟨hx,Or.inr (by simpa using hx)⟩) (hb.frame (· ∈ p ++ [])),fun h=>by cases h⟩
variable {W:World} {sp:Nat→Bool} {hd:Bool} {base:Nat}
def sto (W:World):Sto:=C6 W
theorem Y_ (W:World):Fit (sto W) W:=fun _ _ h=>h
theorem Xz {t:TypeId} (ht:P.underlying t=some (.int .i64)) (fuel:Nat) (cs:List Value) (x:DataW H × List MemPlace) (h:DataW.trod enc P W base sp hd fuel t cs=some x):∃ n:Int,Af (A5 (sto W)) cs (R_ n):=by
 obtain ⟨n,rfl,_,hn⟩:=DataW.trod_int ht h
 exact ⟨n,.cons (.int (by rw [I9];simpa [Lit.wf,IntKind.min,IntKind.max,IntKind.signed,IntKind.bits] using hn)) .nil⟩
theorem Pi {t:TypeId} (ht:P.underlying t=some (.int .i64)) {r:Reach} {b0:Nat} {v:Value} {d:DataW H} {p:List MemPlace} (hv:Value.okWide P W r b0 t v) (h:DataW.Trod enc P W base sp hd t v d p):∃ n:Int,AQ (sto W) noS noH v (AN n):=by
 obtain ⟨n,rfl⟩:=okWide_int ht hv
 obtain ⟨fuel,hf⟩:=h
 obtain ⟨m,hm⟩:=Xz ht fuel _ _ hf
 have:Af (A5 (sto W)) [.int .i64 n] (R_ m):=hm
 cases this with
 | cons h1 h2=>exact ⟨m,.one (.st h1)⟩
end
theorem Qm {P:Program} {f:FuncId} {xs:List AV} {b:Bool} (h:AY P f xs (Ad b)) {σ:Sto} {w:World} {vs:List Value} (hg:CB σ) (hf:Fit σ w) (hv:Af (AQ σ noS noH) vs xs) :
  Calls P f vs.toArray w fun e w'=>e=.returned (.bool b)∧Below w.heap.size w w':=(h σ w vs hg hf hv).mono fun e w' ⟨v,σ',he,hv,_,_,hb⟩=>by
 rw [Dp hv] at he
 exact ⟨he,hb⟩

theorem TL {P:Program} {W:World} {x:String × DataW Unit}:∀ {l:List (String × DataW Unit)} {ps:List MemPlace},DataW.LaidVars P W l ps→x ∈ l→∃ q,DataW.LaidVars P W [x] q
 | [],_,_,hx=>by simp at hx
 | y :: l,ps,h,hx=>by
  obtain ⟨n,d⟩:=y
  obtain ⟨g,t,cs,fuel,p,q,a1,a2,a3,a4,a5,a6⟩:=h
  rcases List.mem_cons.1 hx with rfl | hx
  ·exact ⟨_,g,t,cs,fuel,p,[],a1,a2,a3,a4,rfl,rfl⟩
  ·exact TL a5 hx
theorem WW {P:Program} {W:World} {n:String} {g:Nat} {cs:Array Value} (hg:P.globalNamed n=some g) (h:W.var? P n=some cs):sto W ⟨g,cs.size,some 0⟩=some .nilFunc:=by
 unfold World.var? at h
 rw [hg] at h
 simp only [Option.bind_some] at h
 show C6 W _=_
 unfold C6
 simp only
 cases hb:W.heap[g]? with
 | none=>rw [hb] at h;cases h
 | some o =>
  rw [hb] at h
  cases o <;> simp_all
theorem Xg {P:Program} {W:World} {name:String} {g:Nat} {t e:TypeId} {n:Nat} {k:IntKind} {zs:List Int} (hg:P.globalNamed name=some g) (hty:(P.globals[g]?).map (·.type)=some t) (ht:P.underlying t=some (.array n e)) (he:P.underlying e=some (.int k))
  (hce:P.cellsOf e=1) (hct:P.cellsOf t=n) (hin:∀ z ∈ zs,inR k z) {ps:List MemPlace} (h:DataW.LaidVars P W [(name,Lib.tabData k zs)] ps):O5 (sto W) (g,zs.map fun z=>.int k z):=by
 obtain ⟨g0,t0,cs0,f0,p0,q0,hg0,ht0,hv0,hd0,_,_⟩:=h
 obtain rfl:=Option.some.inj (hg.symm.trans hg0)
 obtain rfl:=Option.some.inj (hty.symm.trans ht0)
 have hc:=Lib.cells_of_tab ht he hce hct hd0
 have hs:cs0.size=zs.length:=by
  have:=congrArg List.length hc
  simpa using this
 refine ⟨⟨fun j=>(zs[j]?).elim .nilFunc (.int k),fun j a ha=>?_,fun j a ha=>?_⟩,?_⟩
 ·rw [List.getElem?_map,Option.map_eq_some_iff] at ha
  obtain ⟨z,hz,rfl⟩:=ha
  have h1:=World.var?_cell hg0 hv0 j
  have h2:cs0[j]?=some (.int k z):=by
   have h3:=congrArg (fun l:List Value=>l[j]?) hc
   simpa [hz] using h3
  show C6 W _=_
  rw [Ch rfl,Nat.zero_add,h1,h2]
  simp only [hz,Option.elim]
 ·rw [List.getElem?_map,Option.map_eq_some_iff] at ha
  obtain ⟨z,hz,rfl⟩:=ha
  simp only [hz,Option.elim]
  exact .int (hin z (List.mem_of_getElem? hz))
 ·have:=WW hg0 hv0
  rw [hs] at this
  simpa using this
theorem Zj {zs:List Int} (h:zs.all (fun z=>decide (0≤z) && decide (z≤18446744073709551615))=true):∀ z ∈ zs,inR .u64 z:=fun z hz=>by
 have:=List.all_eq_true.1 h z hz
 simp only [Bool.and_eq_true,decide_eq_true_eq] at this
 simp [inR,IntKind.min,IntKind.max,IntKind.signed,IntKind.bits]
 omega
theorem WM {W : World} {ps : List MemPlace} (h : DataW.LaidVars Tryz.prog W [("internal/strconv.uint64pow10", Rows.laid_internal_strconv_uint64pow10)] ps) : O5 (sto W) (0, Ww) := Xg (k := .u64) (zs := Lib.pow10Tab) (by kernel_rfl) (by kernel_rfl) Tryz.underlying190 Tryz.underlying176 (by kernel_rfl) (by kernel_rfl) (Zj (by decide)) h

theorem ST {W : World} {l : List (String × DataW Unit)} (hp : (l.all fun x => true) = true) (hin : ("internal/strconv.uint64pow10", Rows.laid_internal_strconv_uint64pow10) ∈ l) {ps : List MemPlace} (h : DataW.LaidVars Tryz.prog W l ps) : CB (sto W) := by
 obtain ⟨_, h1⟩ := TL (x := ("internal/strconv.uint64pow10", Rows.laid_internal_strconv_uint64pow10)) h hin
 intro y hy
 simp only [Qv,List.mem_cons,List.not_mem_nil,or_false] at hy
 subst hy
 exact WM h1

section
variable {H:Type} {enc:TypeId × Value→H} {W:World} {sp:Nat→Bool} {hd:Bool} {base:Nat}
end

end Go.Proofs.YtbhnmjkmieiadaaGreatDoor
namespace Go.Proofs.YtbhnmjkmieiadaaGreatDoor.topComplete
open Go Go.RowKit Go.ChangeShapes Go.WideShapes Go.ChangeAt
set_option linter.unusedVariables false
theorem Y6 {W:World} (h:laidMetH Tryz.prog Rows.topCompleteRow.laid W):CB (sto W):=by
 rw [MakeChecks.laidMetH_plain _ _ _ (by kernel_rfl)] at h
 obtain ⟨ps,h,_,_⟩:=h
 exact ST (by kernel_rfl) (by simp [Rows.topCompleteRow]) h
theorem own:ownKnob Tryz.prog.godebug=none:=by kernel_rfl
theorem laid:laidOutB Tryz.prog=true:=by kernel_rfl
set_option maxRecDepth 100000 in
theorem W5 (H:Type) (enc:TypeId × Value→H) (W:World) (base:Nat) (args:Array Value) (ds gs:List (DataW H)) (before:List MemPlace) (hL:laidMetH Tryz.prog Rows.topCompleteRow.laid W)
  (hval:∀ (j:Nat) t v,Tryz.f5.params[j]?=some t→args[j]?=some v→Value.okWide Tryz.prog W .any base t v)
  (hW:DataW.Whole enc Tryz.prog Tryz.f5.params.toList Rows.topCompleteSpec.vars false W args.toList ds gs before) :
  Calls Tryz.prog 5 args W fun e W'=>∃ v,e=.returned v∧Rows.topCompleteSpec.post enc Tryz.prog Tryz.f5 false true false false W args v W':=by
 have hG:=Y6 hL
 obtain ⟨p,q,hA0,hV,rfl,hfz,hnd⟩:=id hW
 obtain ⟨rfl,rfl⟩:=trodVars_none hV
 have hA:DataW.TrodAll enc Tryz.prog W 0 (fun _=>true) true Tryz.f5.params.toList args.toList ds p:=hA0
 rw [Tryz.params5] at hA hval
 obtain ⟨v0,w0,d0,e0,p0,q0,hargs,rfl,rfl,h0,g0⟩:=trodAll_cons hA
 obtain ⟨v1,w1,d1,e1,p1,q1,rfl,rfl,rfl,h1,g1⟩:=trodAll_cons g0
 obtain ⟨v2,w2,d2,e2,p2,q2,rfl,rfl,rfl,h2,g2⟩:=trodAll_cons g1
 obtain ⟨rfl,rfl,rfl⟩:=trodAll_nil g2
 obtain rfl:args=#[v0,v1,v2]:=by cases args;simp_all
 obtain ⟨m1,r1⟩:=Pi Tryz.underlying3 (hval 0 3 v0 rfl rfl) h0
 obtain ⟨m2,r2⟩:=Pi Tryz.underlying3 (hval 1 3 v1 rfl rfl) h1
 obtain ⟨m3,r3⟩:=Pi Tryz.underlying3 (hval 2 3 v2 rfl rfl) h2
 refine (Qm (M8 m1 m2 m3 r1.known r2.known r3.known) hG (Y_ W) (vs:=[v0,v1,v2]) (.cons r1 (.cons r2 (.cons r3 .nil)))).mono fun e W' ⟨he,hb⟩=>⟨_,he,?_⟩
 exact WX hW rfl rfl Tryz.underlying4 rfl rfl rfl laid (by kernel_rfl) hb
theorem WU (os:Os) (args:Array Value):laidMetH Tryz.prog Rows.topCompleteRow.laid ((World.doorLaid Tryz.prog 400 os).forCall (fun _ _=>0) ⟨#[],args,[]⟩).memory :=
 laidMetH_of_parts3 (fuel:=8) (laidMet_of_run' 8 (by kernel_rfl) (by kernel_rfl)) (by kernel_rfl) (by kernel_rfl)
set_option maxRecDepth 100000 in
theorem Zs (os:Os) (started:os.Started) (H:Type) (enc:TypeId × Value→H) :
  ReturnsInHanded {} Tryz.checked os 5 .any (fun w args=>(Rows.topCompleteSpec.pre enc Tryz.prog Tryz.f5 [] false w args∧laidMetH Tryz.prog Rows.topCompleteRow.laid w)∧sizedMet enc Tryz.prog Tryz.f5 (OpenSpec.ofChange Rows.topCompleteSpec) false w args)
   (Rows.topCompleteSpec.post enc Tryz.prog Tryz.f5 false true false false):=by
 refine returnsInHanded_of_change_and (C:=Tryz.checked) (X:=fun w _=>laidMetH Tryz.prog Rows.topCompleteRow.laid w) (fun _ _ _ hh h=>h.of_heap hh) own started (by kernel_rfl) Tryz.func5
  (ChangeSpec.witness_shaped (enc:=enc) (C:=Tryz.checked) (os:=os) (X:=fun w _=>laidMetH Tryz.prog Rows.topCompleteRow.laid w) false (World.doorLaid Tryz.prog 400 os) #[.int .i64 0,.int .i64 0,.int .i64 0] 8 rfl (World.shaped_of_RefB (by kernel_rfl) (by kernel_rfl)) (by kernel_rfl) (by kernel_rfl) (by kernel_rfl) (WU os _)) ?_
 intro W base args ds gs before hval hW _ _ hL _
 exact W5 H enc W base args ds gs before hL hval hW
theorem Va:Rows.TopCompleteSaid :=
 OpenClaim.holds_of_wide 5 Tryz.f5 rfl rfl rfl rfl rfl rfl rfl ⟨rfl,rfl,rfl,rfl,rfl⟩ rfl rfl rfl rfl rfl (by kernel_rfl) Tryz.func5 (by kernel_rfl)
  (of_decide_eq_true (by kernel_rfl)) (by unfold Func.isWrapper;first | (rw [if_pos (by decide +kernel)];kernel_rfl) | (rw [if_neg (by decide +kernel)];exact ⟨rfl,rfl⟩))
  (fun os started H enc _=>Zs os started H enc)
theorem X6:(Tryz.f5.params.toList.all fun t=>!Tryz.prog.wantsStandIn t)=true:=by kernel_rfl
theorem proved:Rows.TopCompleteCardSaid :=
 Claim7.holds_tied_plain_at .later [] [.data,.data,.data] true Rows.topCompleteCard.stood.harness Rows.topCompleteCard.stood.looks
  Va (fun _ h=>by cases h) (by kernel_rfl) (fun _ h=>by cases h) topComplete_row_tie rfl ⟨rfl,rfl⟩ (by kernel_rfl) rfl
  (fun f fn hf hfn=>by
   obtain rfl : f = 5 := Option.some.inj ((show Tryz.prog.funcNamed "metaprune/metaprunetop.TopComplete" = some 5 by kernel_rfl).symm.trans hf) |>.symm
   obtain rfl:fn=Tryz.f5:=(Option.some.inj (Tryz.func5.symm.trans hfn)).symm
   exact ⟨by kernel_rfl,fun j t ht=>by
    have h1:=List.all_eq_true.1 X6 t (by rw [Array.mem_toList_iff];exact Array.mem_of_getElem? ht)
    have h2:Tryz.prog.wantsStandIn t=false:=by simpa using h1
    exact h2⟩)
  (by kernel_rfl)

end Go.Proofs.YtbhnmjkmieiadaaGreatDoor.topComplete
