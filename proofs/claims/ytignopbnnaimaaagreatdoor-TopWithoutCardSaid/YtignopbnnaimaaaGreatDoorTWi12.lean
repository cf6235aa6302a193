/-
  Proved: a lambda term and its translation into combinators and back have the same normal form, up to eta: the law TopWithout returns true; as a tied card. Conditions: none.
-/
import Derived.Test.YtignopbnnaimaaaGreatDoorTWi11
import Derived.Test.YtignopbnnaimaaaGreatDoorRows
import Derived.ProofKit
import Derived.OpenShut
import Derived.JoinedCond
import Derived.Deep.Slices
import Derived.Test.YtignopbnnaimaaaGreatDoorTie
import Derived.Test.YtignopbnnaimaaaGreatDoorCards
import Derived.LaidMore
import Derived.MakeChecks
import Derived.Stop.Joined
import Derived.Lib.LaidTab
import Derived.Lib.ItoaNum
import Derived.LaidLaws
namespace Go.Proofs.YtignopbnnaimaaaGreatDoor
open Go Go.RowKit Go.ChangeShapes Go.WideShapes Go.ChangeAt
set_option maxHeartbeats 400000
set_option linter.unusedVariables false
section
variable {H:Type} {enc:TypeId × Value→H} {P:Program}
theorem GH (hl:laidOutB P=true):∀ {ts:List TypeId} {vs:List Value} {ds:List (DataW H)} {ps:List MemPlace} {W W':World} {sp:Nat→Bool},
  (∀ t ∈ ts,P.readableRec t=true∧t < P.types.size)→DataW.TrodAll enc P W 0 (fun _=>true) true ts vs ds ps→(∀ p ∈ ps,W.sameAt W' p)→(∀ p ∈ ps,sp p.block=true)→DataW.TrodAll enc P W' 0 sp true ts vs ds ps
 | [],[],[],_,_,_,_,_,h,_,_=>h
 | _ :: _,_ :: _,_ :: _,_,_,_,_,hT,⟨p,q,h1,h2,e⟩,hsame,hs=>⟨p,q,WideElems.Trod_stays hl (hT _ (List.mem_cons.2 (Or.inl rfl))).1 (hT _ (List.mem_cons.2 (Or.inl rfl))).2 h1 (fun x hx=>hsame x (by rw [e];exact List.mem_append_left _ hx)) (fun x hx=>hs x (by rw [e];exact List.mem_append_left _ hx)),
   GH hl (fun t ht=>hT t (List.mem_cons.2 (Or.inr ht))) h2 (fun x hx=>hsame x (by rw [e];exact List.mem_append_right _ hx)) (fun x hx=>hs x (by rw [e];exact List.mem_append_right _ hx)),e⟩
 | [],_ :: _,_,_,_,_,_,_,h,_,_=>h.elim
 | [],[],_ :: _,_,_,_,_,_,h,_,_=>h.elim
 | _ :: _,[],_,_,_,_,_,_,h,_,_=>h.elim
 | _ :: _,_ :: _,[],_,_,_,_,_,h,_,_=>h.elim
theorem Qr {f:Func} {s:ChangeSpec} {apart fresh handsOn:Bool} {W W':World} {args:Array Value} {ds:List (DataW H)} {before:List MemPlace} {tb:TypeId}
  (hW:DataW.Whole enc P f.params.toList s.vars apart W args.toList ds [] before) (hv:s.vars=[]) (hr:f.resultTypes=#[tb]) (htb:P.underlying tb=some .bool)
  (hres:(s.fn H (ds ++ [])).results=[.lit (.bool true)]) (hargs:(s.fn H (ds ++ [])).args=ds) (hvs:(s.fn H (ds ++ [])).vars=[])
  (hl:laidOutB P=true) (hT:(f.params.toList.all fun t=>P.readableRec t && decide (t < P.types.size))=true) (hb:Below W.heap.size W W') :
  s.post enc P f apart fresh handsOn false W args (.bool true) W':=by
 have hlt:∀ p ∈ before,p.block < W.heap.size:=fun p hp=>hW.lt p hp
 have hT':∀ t ∈ f.params.toList,P.readableRec t=true∧t < P.types.size:=fun t ht=>by
  have:=List.all_eq_true.1 hT t ht
  simpa using this
 obtain ⟨p,q,hA,hV,rfl,hz,hn⟩:=hW
 rw [hv] at hV
 obtain ⟨_,rfl⟩:=trodVars_none hV
 have hargs':∀ sp:Nat→Bool,(∀ x ∈ p,sp x.block=true)→DataW.TrodAll enc P W' 0 sp true f.params.toList args.toList ds p:=fun sp hsp =>
  GH hl hT' hA (fun x hx=>hb.same (hlt x (by simpa using hx))) hsp
 have hres':∀ (b:Nat) (sp:Nat→Bool) (hd:Bool),DataW.TrodAll enc P W' b sp hd f.resultTypes.toList ((Value.bool true).resultList f.resultTypes.size) (s.fn H (ds ++ [])).results []:=fun b sp hd=>by
  rw [hres,hr]
  exact trodAll_cons_mk (shut_bool htb true) trodAll_mk0
 refine ⟨ds,[],p ++ [],[],p,[],⟨p,[],hA,by rw [hv];exact rfl,rfl,hz,hn⟩,hres' _ _ _,by rw [hargs];exact hargs' _ (fun x hx=>by simpa using hlt x (by simpa using hx)),by rw [hv,hvs];exact rfl,
  World.keptBut_mono (fun x hx=>⟨hx,Or.inr (by simpa using hx)⟩) (hb.frame (· ∈ p ++ [])),fun h=>by cases h⟩
variable {W:World} {sp:Nat→Bool} {hd:Bool} {base:Nat}
def sto (W:World):Sto:=Ca W
theorem S4 (W:World):Fit (sto W) W:=fun _ _ h=>h
theorem K3 {W:World} {a:Addr} {v:Value} (h:W.cell? a=some v):a.spot=none:=by
 cases hs:a.spot with
 | none=>rfl
 | some n =>
  unfold World.cell? at h
  split at h
  ·simp [hs] at h
  ·cases h
theorem Mt {α:Type} {p:Nat→α→Prop} {n:Nat} (h:∀ i,i < n→∃ b,p i b):∃ xs:List α,xs.length=n∧∀ i (h:i < xs.length),p i xs[i]:=by
 induction n with
 | zero=>exact ⟨[],rfl,fun i h=>absurd h (by simp)⟩
 | succ m ih =>
  obtain ⟨xs,h1,h2⟩:=ih (fun i hi=>h i (by omega))
  obtain ⟨b,h3⟩:=h m (by omega)
  refine ⟨xs ++ [b],by simp [h1],fun i hi=>?_⟩
  by_cases him:i < xs.length
  ·rw [List.getElem_append_left him]
   exact h2 i him
  ·have:i=xs.length:=by simp at hi;omega
   subst this
   rw [show (xs ++ [b])[xs.length]'hi=b by simp,h1]
   exact h3
theorem MA {α:Type} {e0:α→List SV} {t e:TypeId} {k:Nat} {fuel:Nat} {cs:List Value} {x:DataW H × List MemPlace} (ht:P.underlying t=some (.slice e)) (hc:P.cellsOf e=k) (hlen:∀ a,(e0 a).length=k) (hk:0 < k)
  (f:∀ (n:Nat) (cs:List Value) (y:DataW H × List MemPlace),n < fuel→DataW.trod enc P W base sp hd n e cs=some y→∃ a:α,Af (A0 (sto W)) cs (e0 a))
  (h:DataW.trod enc P W base sp hd fuel t cs=some x) (hs:CG=true→k < 2:=by decide):∃ xs:List α,Af (A0 (sto W)) cs [.list (xs.map e0)]:=by
 rcases DataW.trod_slice ht h with ⟨rfl,_⟩ | ⟨a,len,cap,DT,rest,n,hfu,rfl,_,hb,hl,hm,hlen',hel,_,_⟩
 ·exact ⟨[],.cons Mn .nil⟩
 ·have key:∀ i,i < len→∃ (b:α),∃ (cs':List Value),cs'.length=k∧(∀ j u,cs'[j]?=some u→W.cell? ((a.add (i * k)).add j)=some u)∧Af (A0 (sto W)) cs' (e0 b):=fun i hi=>by
   have h1:=hel i hi
   rw [List.getElem?_eq_getElem (by omega)] at h1
   obtain ⟨cs',h2,h3⟩:=Option.bind_eq_some_iff.1 h1
   obtain ⟨_,h4,h5⟩:=World.cells?_some h2
   obtain ⟨b,hb⟩:=f n cs' _ (by omega) h3
   rw [hc] at h4 h5
   refine ⟨b,cs',h4,fun j u hj=>?_,hb⟩
   rw [h5 j (by have:=(List.getElem?_eq_some_iff.1 hj).1;omega)]
   exact hj
  obtain ⟨xs,hxl,hxs⟩:∃ xs:List α,xs.length=len∧∀ i (h:i < xs.length),∃ cs':List Value,cs'.length=k∧(∀ j u,cs'[j]?=some u→W.cell? ((a.add (i * k)).add j)=some u)∧Af (A0 (sto W)) cs' (e0 xs[i]):=Mt key
  have cell:∀ m y j z,(xs.map e0)[m]?=some y→y[j]?=some z→∃ v,W.cell? ⟨a.block,a.off + m * k + j,none⟩=some v∧A0 (sto W) v z:=fun m y j z hy hz=>by
   rw [List.getElem?_map,Option.map_eq_some_iff] at hy
   obtain ⟨b,hb',rfl⟩:=hy
   obtain ⟨hm',hbe⟩:=List.getElem?_eq_some_iff.1 hb'
   obtain ⟨cs',c1,c2,c3⟩:=hxs m hm'
   rw [hbe] at c3
   obtain ⟨v,v1,v2⟩:=c3.get hz
   refine ⟨v,?_,v2⟩
   have:=c2 j v v1
   have hsp:=K3 this
   rw [← this]
   congr 1
   have h7:((a.add (m * k)).add j).block=a.block∧((a.add (m * k)).add j).off=a.off + m * k + j:=by
    unfold Addr.add
    split <;> split <;> simp_all
   generalize (a.add (m * k)).add j=q at *
   cases q
   simp_all
  refine ⟨xs,.cons (.list (b:=a.block) (o:=a.off) (w:=k) (fun m j=>(W.cell? ⟨a.block,a.off + m * k + j,none⟩).getD undef) (by simp [hxl]) hl hm (by simp) (fun h0=>?_) (fun y hy=>?_) (fun q1 q2 _=>absurd (hs q1) (by omega)) (fun m y j z hy hz=>?_) (fun m y j z hy hz=>?_)) .nil⟩
  ·obtain ⟨cs',h1,h2,h3⟩:=hxs 0 (by omega)
   have h4:W.cell? a=some (cs'[0]'(by omega)):=by
    have:=h2 0 _ (List.getElem?_eq_getElem (by omega))
    simpa [Addr.add] using this
   have:=K3 h4
   cases a
   simp_all
  ·obtain ⟨b,_,rfl⟩:=List.mem_map.1 hy
   exact hlen b
  ·obtain ⟨v,v1,v2⟩:=cell m y j z hy hz
   show W.cell? _=_
   rw [v1];rfl
  ·obtain ⟨v,v1,v2⟩:=cell m y j z hy hz
   rw [v1];exact v2
theorem NL {t:TypeId} (ht:P.underlying t=some (.int .i64)) (fuel:Nat) (cs:List Value) (x:DataW H × List MemPlace) (h:DataW.trod enc P W base sp hd fuel t cs=some x):∃ n:Int,Af (A0 (sto W)) cs (SK n):=by
 obtain ⟨n,rfl,_,hn⟩:=DataW.trod_int ht h
 exact ⟨n,.cons (.int (by rw [CO];simpa [Lit.wf,IntKind.min,IntKind.max,IntKind.signed,IntKind.bits] using hn)) .nil⟩
theorem TN {t:TypeId} (ht:P.underlying t=some (.int .i64)) {r:Reach} {b0:Nat} {v:Value} {d:DataW H} {p:List MemPlace} (hv:Value.okWide P W r b0 t v) (h:DataW.Trod enc P W base sp hd t v d p):∃ n:Int,AN (sto W) noS noH v (Ad n):=by
 obtain ⟨n,rfl⟩:=okWide_int ht hv
 obtain ⟨fuel,hf⟩:=h
 obtain ⟨m,hm⟩:=NL ht fuel _ _ hf
 have:Af (A0 (sto W)) [.int .i64 n] (SK m):=hm
 cases this with
 | cons h1 h2=>exact ⟨m,.one (.st h1)⟩
theorem RZ {α:Type} {e0:α→List SV} {t e:TypeId} {k:Nat} (ht:P.underlying t=some (.slice e)) (hc:P.cellsOf e=k) (hlen:∀ a,(e0 a).length=k) (hk:0 < k) {r:Reach} {b0:Nat} {v:Value} {d:DataW H} {p:List MemPlace} (hv:Value.okWide P W r b0 t v)
  (f:∀ (n:Nat) (cs:List Value) (y:DataW H × List MemPlace),DataW.trod enc P W base sp hd n e cs=some y→∃ a:α,Af (A0 (sto W)) cs (e0 a)) (h:DataW.Trod enc P W base sp hd t v d p) (hs:CG=true→k < 2:=by decide):∃ xs:List α,AN (sto W) noS noH v (.one (.st (.list (xs.map e0)))):=by
 obtain ⟨a,len,cap,rfl⟩:=okWide_slice ht hv
 obtain ⟨fuel,hf⟩:=h
 obtain ⟨xs,hxs⟩:=MA ht hc hlen hk (fun n cs y _ hy=>f n cs y hy) hf hs
 have:Af (A0 (sto W)) [.slice a len cap] [.list (xs.map e0)]:=hxs
 cases this with
 | cons h1 h2=>exact ⟨xs,.one (.st h1)⟩
end
theorem NK {P:Program} {f:FuncId} {xs:List AV} {b:Bool} (h:AW P f xs (CH b)) {σ:Sto} {w:World} {vs:List Value} (hg:Bt σ) (hf:Fit σ w) (hv:Af (AN σ noS noH) vs xs) :
  Calls P f vs.toArray w fun e w'=>e=.returned (.bool b)∧Below w.heap.size w w':=(h σ w vs hg hf hv).mono fun e w' ⟨v,σ',he,hv,_,_,hb⟩=>by
 rw [DL hv] at he
 exact ⟨he,hb⟩

theorem IZ {P:Program} {W:World} {x:String × DataW Unit}:∀ {l:List (String × DataW Unit)} {ps:List MemPlace},DataW.LaidVars P W l ps→x ∈ l→∃ q,DataW.LaidVars P W [x] q
 | [],_,_,hx=>by simp at hx
 | y :: l,ps,h,hx=>by
  obtain ⟨n,d⟩:=y
  obtain ⟨g,t,cs,fuel,p,q,a1,a2,a3,a4,a5,a6⟩:=h
  rcases List.mem_cons.1 hx with rfl | hx
  ·exact ⟨_,g,t,cs,fuel,p,[],a1,a2,a3,a4,rfl,rfl⟩
  ·exact IZ a5 hx
theorem Mm {P:Program} {W:World} {n:String} {g:Nat} {cs:Array Value} (hg:P.globalNamed n=some g) (h:W.var? P n=some cs):sto W ⟨g,cs.size,some 0⟩=some .nilFunc:=by
 unfold World.var? at h
 rw [hg] at h
 simp only [Option.bind_some] at h
 show Ca W _=_
 unfold Ca
 simp only
 cases hb:W.heap[g]? with
 | none=>rw [hb] at h;cases h
 | some o =>
  rw [hb] at h
  cases o <;> simp_all
theorem MG {P:Program} {W:World} {name:String} {g:Nat} {t e:TypeId} {n:Nat} {k:IntKind} {zs:List Int} (hg:P.globalNamed name=some g) (hty:(P.globals[g]?).map (·.type)=some t) (ht:P.underlying t=some (.array n e)) (he:P.underlying e=some (.int k))
  (hce:P.cellsOf e=1) (hct:P.cellsOf t=n) (hin:∀ z ∈ zs,inR k z) {ps:List MemPlace} (h:DataW.LaidVars P W [(name,Lib.tabData k zs)] ps):Gh (sto W) (g,zs.map fun z=>.int k z):=by
 obtain ⟨g0,t0,cs0,f0,p0,q0,hg0,ht0,hv0,hd0,_,_⟩:=h
 obtain rfl:=Option.some.inj (hg.symm.trans hg0)
 obtain rfl:=Option.some.inj (hty.symm.trans ht0)
 have hc:=Lib.cells_of_tab ht he hce hct hd0
 have hs:cs0.size=zs.length:=by
  have:=congrArg List.length hc
  simpa using this
 refine ⟨⟨fun j=>(zs[j]?).elim .nilFunc (.int k),fun j a ha=>?_,fun j a ha=>?_⟩,?_⟩
 ·rw [List.getElem?_map,Option.map_eq_some_iff] at ha
  obtain ⟨z,hz,rfl⟩:=ha
  have h1:=World.var?_cell hg0 hv0 j
  have h2:cs0[j]?=some (.int k z):=by
   have h3:=congrArg (fun l:List Value=>l[j]?) hc
   simpa [hz] using h3
  show Ca W _=_
  rw [B6 rfl,Nat.zero_add,h1,h2]
  simp only [hz,Option.elim]
 ·rw [List.getElem?_map,Option.map_eq_some_iff] at ha
  obtain ⟨z,hz,rfl⟩:=ha
  simp only [hz,Option.elim]
  exact .int (hin z (List.mem_of_getElem? hz))
 ·have:=Mm hg0 hv0
  rw [hs] at this
  simpa using this
theorem Q4 {P:Program} {W:World} {name nm:String} {d:DataW Unit} {g:Nat} {t:TypeId} {ms:Array (String × TypeId)} (hg:P.globalNamed name=some g) (hty:(P.globals[g]?).map (·.type)=some t) (ht:P.underlying t=some (.interface ms))
  {ps:List MemPlace} (h:DataW.LaidVars P W [(name,.iface nm d)] ps):Gh (sto W) (g,[.err]):=by
 obtain ⟨g0,t0,cs0,f0,p0,q0,hg0,ht0,hv0,hd0,_,_⟩:=h
 obtain rfl:=Option.some.inj (hg.symm.trans hg0)
 obtain rfl:=Option.some.inj (hty.symm.trans ht0)
 obtain ⟨f1,u,v,hc,_,_⟩:=iface_of_trod ht hd0
 have hs:cs0.size=1:=by
  have:=congrArg List.length hc
  simpa using this
 refine ⟨⟨fun j=>.iface u v,fun j a ha=>?_,fun j a ha=>?_⟩,?_⟩
 ·match j,ha with
  | 0,_ =>
   have h1:=World.var?_cell hg0 hv0 0
   have h2:cs0[0]?=some (.iface u v):=by
    have h3:=congrArg (fun l:List Value=>l[0]?) hc
    simpa using h3
   show Ca W _=_
   rw [B6 rfl,Nat.zero_add,h1,h2]
  | j + 1,ha=>simp at ha
 ·match j,ha with
  | 0,ha =>
   cases ha
   exact .err
  | j + 1,ha=>simp at ha
 ·have:=Mm hg0 hv0
  rw [hs] at this
  simpa using this
theorem UD {zs:List Int} (h:zs.all (fun z=>decide (-9223372036854775808≤z) && decide (z≤9223372036854775807))=true):∀ z ∈ zs,inR .i64 z:=fun z hz=>by
 have:=List.all_eq_true.1 h z hz
 rw [CO]
 simpa using this
theorem T8 {zs:List Int} (h:zs.all (fun z=>decide (0≤z) && decide (z≤18446744073709551615))=true):∀ z ∈ zs,inR .u64 z:=fun z hz=>by
 have:=List.all_eq_true.1 h z hz
 simp only [Bool.and_eq_true,decide_eq_true_eq] at this
 simp [inR,IntKind.min,IntKind.max,IntKind.signed,IntKind.bits]
 omega
theorem Qe {W : World} {ps : List MemPlace} (h : DataW.LaidVars Tryz.prog W [("metaprune/lambda.subs", Rows.laid_metaprune_lambda_subs)] ps) : Gh (sto W) (0, [.int .i64 0, .int .i64 0, .int .i64 1, .int .i64 2, .int .i64 0, .int .i64 0]) := MG (k := .i64) (zs := [0, 0, 1, 2, 0, 0]) (by kernel_rfl) (by kernel_rfl) Tryz.underlying102 Tryz.underlying3 (by kernel_rfl) (by kernel_rfl) (UD (by decide)) h
theorem Rx {W : World} {ps : List MemPlace} (h : DataW.LaidVars Tryz.prog W [("internal/strconv.uint64pow10", Rows.laid_internal_strconv_uint64pow10)] ps) : Gh (sto W) (3, Qn) := MG (k := .u64) (zs := Lib.pow10Tab) (by kernel_rfl) (by kernel_rfl) Tryz.underlying137 Tryz.underlying121 (by kernel_rfl) (by kernel_rfl) (T8 (by decide)) h
theorem Q8 {W : World} {ps : List MemPlace} (h : DataW.LaidVars Tryz.prog W [("strconv.ErrSyntax", Rows.laid_strconv_ErrSyntax)] ps) : Gh (sto W) (1, [.err]) := Q4 (by kernel_rfl) (by kernel_rfl) Tryz.underlying79 h

section
variable {H:Type} {enc:TypeId × Value→H} {W:World} {sp:Nat→Bool} {hd:Bool} {base:Nat}
set_option maxRecDepth 100000 in
theorem SS {r:Reach} {b0:Nat} {v:Value} {d:DataW H} {p:List MemPlace} (hv:Value.okWide Tryz.prog W r b0 22 v) (h:DataW.Trod enc Tryz.prog W base sp hd 22 v d p):∃ l:List Int,AN (sto W) noS noH v (Mc l) :=
 RZ (k:=1) Tryz.underlying22 (by kernel_rfl) (fun _=>rfl) (by decide) hv (NL Tryz.underlying3) h
end

end Go.Proofs.YtignopbnnaimaaaGreatDoor
namespace Go.Proofs.YtignopbnnaimaaaGreatDoor.topWithout
open Go Go.RowKit Go.ChangeShapes Go.WideShapes Go.ChangeAt
set_option linter.unusedVariables false
theorem Tr {W:World} (h:laidMetH Tryz.prog Rows.topWithoutRow.laid W):Bt (sto W):=by
 rw [MakeChecks.laidMetH_plain _ _ _ (by kernel_rfl)] at h
 obtain ⟨ps,h,_,_⟩:=h
 obtain ⟨_, h1⟩ := IZ (x := ("metaprune/lambda.subs", Rows.laid_metaprune_lambda_subs)) h (by simp [Rows.topWithoutRow])
 obtain ⟨_, h2⟩ := IZ (x := ("internal/strconv.uint64pow10", Rows.laid_internal_strconv_uint64pow10)) h (by simp [Rows.topWithoutRow])
 obtain ⟨_, h3⟩ := IZ (x := ("strconv.ErrSyntax", Rows.laid_strconv_ErrSyntax)) h (by simp [Rows.topWithoutRow])
 intro y hy
 simp only [Md,List.mem_cons,List.not_mem_nil,or_false] at hy
 rcases hy with rfl | rfl | rfl
 ·exact Qe h1
 ·exact Rx h2
 ·exact Q8 h3
theorem own:ownKnob Tryz.prog.godebug=none:=by kernel_rfl
theorem laid:laidOutB Tryz.prog=true:=by kernel_rfl
set_option maxRecDepth 100000 in
theorem Qu (H:Type) (enc:TypeId × Value→H) (W:World) (base:Nat) (args:Array Value) (ds gs:List (DataW H)) (before:List MemPlace) (hL:laidMetH Tryz.prog Rows.topWithoutRow.laid W)
  (hval:∀ (j:Nat) t v,Tryz.f3.params[j]?=some t→args[j]?=some v→Value.okWide Tryz.prog W .any base t v)
  (hW:DataW.Whole enc Tryz.prog Tryz.f3.params.toList Rows.topWithoutSpec.vars false W args.toList ds gs before) :
  Calls Tryz.prog 3 args W fun e W'=>∃ v,e=.returned v∧Rows.topWithoutSpec.post enc Tryz.prog Tryz.f3 false true false false W args v W':=by
 have hG:=Tr hL
 obtain ⟨p,q,hA0,hV,rfl,hfz,hnd⟩:=id hW
 obtain ⟨rfl,rfl⟩:=trodVars_none hV
 have hA:DataW.TrodAll enc Tryz.prog W 0 (fun _=>true) true Tryz.f3.params.toList args.toList ds p:=hA0
 rw [Tryz.params3] at hA hval
 obtain ⟨v0,v1,d0,d1,p0,p1,hargs,rfl,rfl,h0,h1⟩:=trodAll_two hA
 obtain rfl:args=#[v0,v1]:=by cases args;simp_all
 obtain ⟨l,r0⟩:=SS (hval 0 22 v0 rfl rfl) h0
 obtain ⟨m1,r1⟩:=TN Tryz.underlying3 (hval 1 3 v1 rfl rfl) h1
 have k0:=Nk r0.known
 refine (NK (LP l m1 k0.1 k0.2 r1.known) hG (S4 W) (vs:=[v0,v1]) (.cons r0 (.cons r1 .nil))).mono fun e W' ⟨he,hb⟩=>⟨_,he,?_⟩
 exact Qr hW rfl rfl Tryz.underlying4 rfl rfl rfl laid (by kernel_rfl) hb
theorem RW (os:Os) (args:Array Value):laidMetH Tryz.prog Rows.topWithoutRow.laid ((World.doorLaid Tryz.prog 400 os).forCall (fun _ _=>0) ⟨#[],args,[]⟩).memory :=
 laidMetH_of_parts3 (fuel:=8) (laidMet_of_run' 8 (by kernel_rfl) (by kernel_rfl)) (by kernel_rfl) (by kernel_rfl)
set_option maxRecDepth 100000 in
theorem UB (os:Os) (started:os.Started) (H:Type) (enc:TypeId × Value→H) :
  ReturnsInHanded {} Tryz.checked os 3 .any (fun w args=>(Rows.topWithoutSpec.pre enc Tryz.prog Tryz.f3 [] false w args∧laidMetH Tryz.prog Rows.topWithoutRow.laid w)∧sizedMet enc Tryz.prog Tryz.f3 (OpenSpec.ofChange Rows.topWithoutSpec) false w args)
   (Rows.topWithoutSpec.post enc Tryz.prog Tryz.f3 false true false false):=by
 refine returnsInHanded_of_change_and (C:=Tryz.checked) (X:=fun w _=>laidMetH Tryz.prog Rows.topWithoutRow.laid w) (fun _ _ _ hh h=>h.of_heap hh) own started (by kernel_rfl) Tryz.func3
  (ChangeSpec.witness_shaped (enc:=enc) (C:=Tryz.checked) (os:=os) (X:=fun w _=>laidMetH Tryz.prog Rows.topWithoutRow.laid w) false (World.doorLaid Tryz.prog 400 os) #[.slice none 0 0,.int .i64 0] 8 rfl (World.shaped_of_RefB (by kernel_rfl) (by kernel_rfl)) (by kernel_rfl) (by kernel_rfl) (by kernel_rfl) (RW os _)) ?_
 intro W base args ds gs before hval hW _ _ hL _
 exact Qu H enc W base args ds gs before hL hval hW
theorem QW:Rows.TopWithoutSaid :=
 OpenClaim.holds_of_wide 3 Tryz.f3 rfl rfl rfl rfl rfl rfl rfl ⟨rfl,rfl,rfl,rfl,rfl⟩ rfl rfl rfl rfl rfl (by kernel_rfl) Tryz.func3 (by kernel_rfl)
  (of_decide_eq_true (by kernel_rfl)) (by unfold Func.isWrapper;first | (rw [if_pos (by decide +kernel)];kernel_rfl) | (rw [if_neg (by decide +kernel)];exact ⟨rfl,rfl⟩))
  (fun os started H enc _=>UB os started H enc)
theorem SN:(Tryz.f3.params.toList.all fun t=>!Tryz.prog.wantsStandIn t)=true:=by kernel_rfl
theorem proved:Rows.TopWithoutCardSaid :=
 Claim7.holds_tied_plain_at .later [] [.data,.data,.data,.sentinel,.sentinel,.data] true Rows.topWithoutCard.stood.harness Rows.topWithoutCard.stood.looks
  QW (fun _ h=>by cases h) (by kernel_rfl) (fun _ h=>by cases h) topWithout_row_tie rfl ⟨rfl,rfl⟩ (by kernel_rfl) rfl
  (fun f fn hf hfn=>by
   obtain rfl : f = 3 := Option.some.inj ((show Tryz.prog.funcNamed "metaprune/metaprunetop.TopWithout" = some 3 by kernel_rfl).symm.trans hf) |>.symm
   obtain rfl:fn=Tryz.f3:=(Option.some.inj (Tryz.func3.symm.trans hfn)).symm
   exact ⟨by kernel_rfl,fun j t ht=>by
    have h1:=List.all_eq_true.1 SN t (by rw [Array.mem_toList_iff];exact Array.mem_of_getElem? ht)
    have h2:Tryz.prog.wantsStandIn t=false:=by simpa using h1
    exact h2⟩)
  (by kernel_rfl)

end Go.Proofs.YtignopbnnaimaaaGreatDoor.topWithout
