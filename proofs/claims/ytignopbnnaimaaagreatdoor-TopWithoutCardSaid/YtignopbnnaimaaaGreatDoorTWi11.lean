/-
  Part 11 of the texts. Conditions: none.
-/
import Derived.Test.YtignopbnnaimaaaGreatDoorTWi10
import Derived.Lib.FrozenHead2
import Derived.Lib.OthersKept
import Derived.Shelf.Strings.BuilderK
namespace Go.Proofs.YtignopbnnaimaaaGreatDoor
open Go Go.RowKit
set_option linter.unusedVariables false
set_option linter.unusedSimpArgs false
set_option maxHeartbeats 1000000
theorem G9:(Tryz.prog.info? 97).map (fun i=>i.size)=some 2:=by kernel_rfl
set_option maxRecDepth 100000 in
theorem IM (b:Nat) (w:World) (h0:w.cell? ⟨b,0,none⟩=some (.pointer (some ⟨b,0,none⟩))) :
  Calls Tryz.prog 97 #[.pointer (some ⟨b,0,none⟩)] w fun e w'=>e=.returned (.tuple #[])∧w'=w:=by
 obtain ⟨j,hj,_⟩:=Option.map_eq_some_iff.1 G9
 go_enter Tryz.func97,Tryz.ntmps97
 go_wp2
 rw [Lib.run_neq_ptr_same w _ Tryz.underlying94 hj]
 go_wp2
 go_end0
 exact ⟨rfl,rfl⟩
set_option maxRecDepth 100000 in
theorem HY (b:Nat) (w:World) (h0:w.cell? ⟨b,0,none⟩=some (.pointer none)) {ty:TypeId} {n:Nat} (hsh:w.shape? b=some (ty,n)) (hn:0 < n) (hlies:liesAt Tryz.prog (Tryz.prog).depth ty (n / (Tryz.prog).cellsOf ty) 0 97 1=true) (hfz:w.frozen? ⟨b,0,none⟩=false) :
  Calls Tryz.prog 97 #[.pointer (some ⟨b,0,none⟩)] w fun e w'=>e=.returned (.tuple #[])∧w'=w.setCell ⟨b,0,none⟩ (.pointer (some ⟨b,0,none⟩)):=by
 obtain ⟨j,hj,hjs⟩:=Option.map_eq_some_iff.1 G9
 go_enter Tryz.func97,Tryz.ntmps97
 go_wp2
 rw [Lib.run_to_unsafe w ⟨b,0,none⟩ Tryz.underlying94 Tryz.underlying142 hj (by rw [hjs];decide) hsh hn]
 simp only [Result.andThen]
 rw [Oper.upon_value]
 go_wp2
 rw [run_callFunc_extern Tryz.func106 (by kernel_rfl) (by kernel_rfl) (by kernel_rfl) (e:=Extern.AbiNoEscape.same) (by kernel_rfl)]
 rw [Lib.run_noEscape]
 simp only [Result.andThen]
 rw [Oper.upon_value]
 go_wp2
 rw [Lib.run_from_unsafe w ⟨b,0,none⟩ Tryz.underlying142 Tryz.underlying94 hj hsh hlies]
 simp only [Result.andThen]
 rw [Oper.upon_value]
 go_wp2
 go_end0
 exact ⟨rfl,rfl⟩
def Un (w w':World) (g:Nat):Prop:=w'.heap.size=w.heap.size∧(∀ k,k ≠ g→w'.heap[k]?=w.heap[k]?)∧w'.os=w.os∧w'.tape=w.tape∧w'.output=w.output∧∀ cs e f,w.heap[g]?=some (.cells cs e f)→∃ f',w'.heap[g]?=some (.cells cs e f')
theorem ND (w:World) (g n:Nat):Un w (w.drew.freeze ⟨g,0,none⟩ n) g:=by
 unfold World.freeze
 split
 ·exact ⟨rfl,fun _ _=>rfl,rfl,rfl,rfl,fun cs e f h=>⟨f,h⟩⟩
 ·refine ⟨by simp,fun k hk=>?_,rfl,rfl,rfl,fun cs e f h=>?_⟩
  ·simp only [Array.getElem?_modify]
   rw [if_neg (fun e=>hk e.symm)]
   rfl
  ·obtain ⟨lo,hi⟩:=f
   have h':w.drew.heap[g]?=some (.cells cs e (lo,hi)):=h
   refine ⟨if lo == hi then (0,0 + n) else (min lo 0,max hi (0 + n)),?_⟩
   simp only [Array.getElem?_modify,if_true,h',Option.map_some]
set_option maxRecDepth 100000 in
theorem HO (b g cap:Nat) (vs:Array Value) (ty:TypeId) (cur:Array Value) (l:List UInt8) (w:World) (h0:l ≠ []) (hbk:w.heap[b]?=some (.cells vs ty (0,0))) (hv1:vs[1]?=some (.slice (some ⟨g,0,none⟩) l.length cap)) (hbg:w.heap[g]?=some (.cells cur 5 (0,0)))
  (hcm:cap≤maxLen) (hnc:l.length≤cap) (hsz:l.length≤cur.size) (hcur:∀ (j:Nat) (x:UInt8),l[j]?=some x→cur[j]?=some (Value.int .u8 (x.toNat:Int))) :
  Calls Tryz.prog 70 #[.pointer (some ⟨b,0,none⟩)] w fun e w'=>e=.returned (.string ⟨l.toArray⟩)∧Un w w' g:=by
 have hl0:l.length ≠ 0:=by simpa using h0
 have c1:w.drew.cell? ⟨b,1,none⟩=some (.slice (some ⟨g,0,none⟩) l.length cap):=by
  have:w.drew.heap[b]?=some (.cells vs ty (0,0)):=hbk
  rw [Lib.cell_of_heap this]
  exact hv1
 have hSD:(Builtin.unsafeSliceData_ #[95] 112 #[.slice (some ⟨g,0,none⟩) l.length cap]).run Tryz.prog w.drew=.ok (.pointer (some ⟨g,0,none⟩)) w.drew :=
  Lib.run_unsafeSliceData_row _ _ _ _ _ _ (by omega)
 have hUS:(Builtin.unsafeString_ #[112,3] 9 #[.pointer (some ⟨g,0,none⟩),.int .i64 l.length]).run Tryz.prog w.drew=.ok (.string ⟨l.toArray⟩) (w.drew.freeze ⟨g,0,none⟩ l.length):=by
  refine Lib.run_unsafeString_row w.drew 112 3 9 5 Tryz.underlying112 (by kernel_rfl) g cur.size (by have hg':w.drew.heap[g]?=some (.cells cur 5 (0,0)):=hbg;simp [World.shape?,hg']) l h0 (by omega) (by unfold maxLen at hcm;omega) ?_
  intro j x hx
  have hg':w.drew.heap[g]?=some (.cells cur 5 (0,0)):=hbg
  rw [BW,Nat.zero_add,cell_of_row w.drew g _ _ _ _ hg']
  exact hcur j x hx
 go_enter Tryz.func70,Tryz.ntmps70
 go_wp2
 have mixed:Tryz.prog.follows Departure.mixedOrders=true:=by kernel_rfl
 go_region_o
 all_goals (go_wp2;go_ret;exact ⟨rfl,ND w g l.length⟩)
abbrev bTW:TypeId:=97
abbrev u8W:TypeId:=5
structure OD (ty:TypeId) (ex:List AC) (S:AA) (a0 r:Nat) (bs:ByteArray):Prop where
 ha:1000≤a0
 hr:1000≤r
 ne:a0 ≠ r
 hex:AC.highs ex=true
 lies:liesAt Tryz.prog (Tryz.prog).depth ty ((2 + ex.length) / (Tryz.prog).cellsOf ty) 0 bTW 1=true
 box:∃ p,(p=.st (.lit (.pointer none)) ∨ p=.ptr a0 1 0 0)∧S a0=some (.box ty (p :: .row r bs.size :: ex))
 row:S r=some (.mrow u8W 1 (Ap bs))
def Ab (ty:TypeId) (ex:List AC) (S:AA) (a0 r:Nat) (bs:ByteArray):AA:=AK (AK S a0 (some (.box ty (.ptr a0 1 0 0 :: .row r bs.size :: ex)))) r (some (.mrow u8W 1 (Ap bs)))
theorem Jb {σ:Sto} {S:AA} {ι:As} {v:Value} {a0:Nat} {e:TypeId} {cs:List AC} (h:AN σ S ι v (.one (.ptr a0 1 0 0))) (hS:S a0=some (.box e cs)):∃ g,(ι a0).g=some g∧v=.pointer (some ⟨g,0,none⟩):=by
 have h:=Aa h
 cases h with
 | @ptr _ _ _ _ _ b h1 h2 h3 h4 =>
  rw [hS] at h1
  cases h1
  obtain ⟨g,g1,g2⟩:=h4 rfl
  exact ⟨g,g1,by rw [g2];rfl⟩
theorem QN {σ:Sto} {S:AA} {ι:As} {v:Value} {a0:Nat} {e:TypeId} {cs:List AC} (h:Aq σ S ι v (.ptr a0 1 0 0)) (hS:S a0=some (.box e cs)):∃ g,(ι a0).g=some g∧v=.pointer (some ⟨g,0,none⟩):=Jb (.one h) hS
theorem GQ {α:Type} {l:List α} {n:Nat} (h:l.length=2 + n):∃ a b m,l=a :: b :: m:=by
 match l,h with
 | [],h=>simp at h;omega
 | [_],h=>simp at h;omega
 | a :: b :: m,_=>exact ⟨a,b,m,rfl⟩
theorem Hb {ty:TypeId} {ex:List AC} {a0 r n:Nat} (ha:1000≤a0) (hr:1000≤r) (hex:AC.highs ex=true):(AU.box ty (.ptr a0 1 0 0 :: .row r n :: ex)).high=true:=by simp only [AU.high,AC.highs,AC.high,decide_eq_true ha,decide_eq_true hr,hex,Bool.and_self]
theorem G0 {ty:TypeId} {ex:List AC} {a0 r:Nat} {bs:ByteArray} {S:AA} (h:OD ty ex S a0 r bs):Ay Tryz.prog 97 [.one (.ptr a0 1 0 0)] S (.tup []) (AK S a0 (some (.box ty (.ptr a0 1 0 0 :: .row r bs.size :: ex)))):=by
 obtain ⟨p,hp,hSa⟩:=h.box
 refine Gs (fun hc=>A2 hc h.ha (Hb h.ha h.hr h.hex)) fun hclean C σ ι vs w hn R hvs=>?_
 obtain ⟨v,rfl⟩:∃ v,vs=[v]:=by
  have:=hvs.len
  match vs,this with
  | [v],_=>exact ⟨v,rfl⟩
 have hv:AN σ S ι v (.one (.ptr a0 1 0 0)):=by cases hvs with | cons h _=>exact h
 obtain ⟨g,hg,rfl⟩:=Jb hv hSa
 have hb:=R.blk a0 _ hSa
 cases hb with
 | @box _ _ g' vs k1 k2 k3 k4 k5 =>
 rw [hg] at k1
 cases k1
 obtain ⟨v0,v1,vm,hvs2⟩:=GQ (n:=ex.length) (show vs.toList.length=2 + ex.length by rw [k4.len];simp;omega)
 have hsz:vs.size=2 + ex.length:=by
  have:=k4.len
  simp at this
  omega
 obtain rfl:vs=(v0 :: v1 :: vm).toArray:=by rw [← hvs2]
 have r0:Aq σ S ι v0 p:=by cases k4 with | cons h _=>exact h
 have r1:Af (Aq σ S ι) (v1 :: vm) (.row r bs.size :: ex):=by cases k4 with | cons _ h=>exact h
 have c0:w.cell? ⟨g,0,none⟩=some v0:=by rw [Lib.cell_of_heap k3];rfl
 have key:∀ w',w'=w.setRow g (.pointer (some ⟨g,0,none⟩) :: v1 :: vm).toArray→∃ σ' ι' env',AT C σ' ι' ⟨env',AK S a0 (some (.box ty (.ptr a0 1 0 0 :: .row r bs.size :: ex)))⟩ { tmps:=#[.pointer (some ⟨g,0,none⟩)],defers:=[] } w'∧AN σ' (AK S a0 (some (.box ty (.ptr a0 1 0 0 :: .row r bs.size :: ex)))) ι' (.tuple #[]) (.tup []):=fun w' hw'=>by
  subst hw'
  obtain ⟨hu,R'⟩:=R.turn (w':=w.setRow g (.pointer (some ⟨g,0,none⟩) :: v1 :: vm).toArray) hSa (.box ty (.ptr a0 1 0 0 :: .row r bs.size :: ex)) (ι a0) (σ':=σ) (fun _ _ h=>h) (fun _ _ _=>rfl) (R.fit.row k5 fun k hk=>setRow_other _ _ _ _ hk) (by simp [AU.len]) (fun _=>⟨rfl,rfl⟩) (BU _ _) (by simp)
   (fun k hk hne=>setRow_other _ _ _ _ (fun e=>hne (by rw [e];exact hg))) (fun g h=>.inl h) (fun hu=>.box hg k2 (setRow_heap w _ _ _ _ _ k3) (.cons (.ptr (b:=.box ty (.ptr a0 1 0 0 :: .row r bs.size :: ex)) (by simp [AS.set,AD]) (by simp [AU.len]) rfl fun _=>⟨g,by rw [AD];exact hg,by simp [AU.wid]⟩) (r1.mono fun _ _ x=>x.mono (fun _ _ h=>h) hu)) k5)
  exact ⟨σ,_,_,R',.tup (fun _=>undef) rfl (by simp) (by simp)⟩
 rcases hp with rfl | rfl
 ·have e0:v0=.pointer none:=by cases r0 with | st h=>cases h with | lit _=>rfl
  subst e0
  refine (HY g w c0 (ty:=ty) (n:=2 + ex.length) (by simp [World.shape?,k3];simpa using hsz) (by omega) h.lies (Lib.frozen_of_heap k3 0)).mono ?_
  rintro e w' ⟨rfl,rfl⟩
  obtain ⟨σ',ι',env',R',hv'⟩:=key _ (setCell_eq_setRow w g 0 _ _ _ _ k3)
  exact ⟨_,σ',ι',env',rfl,R',hv'⟩
 ·obtain ⟨g2,hg2,e0⟩:=QN r0 hSa
  rw [hg] at hg2
  cases hg2
  subst e0
  refine (IM g w c0).mono ?_
  rintro e w' ⟨rfl,rfl⟩
  obtain ⟨σ',ι',env',R',hv'⟩:=key _ (setRow_self w' g _ _ _ k3).symm
  exact ⟨_,σ',ι',env',rfl,R',hv'⟩
theorem HG (a b:ByteArray):Ap (a ++ b)=Ap a ++ Ap b:=by unfold Ap;simp
theorem NA (ρ:Nat→Nat) (ex:List AC):(AC.rens ρ ex).length=ex.length:=by rw [AC.rens_eq,List.length_map]
theorem Om {ty:TypeId} {ex:List AC} {a0 r:Nat} {bs:ByteArray} {S:AA} (h:OD ty ex S a0 r bs):OD ty (AC.rens up1 ex) (upS S) (up1 a0) (up1 r) bs:=by
 obtain ⟨p,hp,hSa⟩:=h.box
 refine ⟨AL _,AL _,fun e=>h.ne (Nat.add_right_cancel e),?_,by rw [NA];exact h.lies,?_,by rw [A1 h.row];rfl⟩
 ·have:=AC.rens_high ex
  exact this
 rcases hp with rfl | rfl
 ·exact ⟨_,.inl rfl,by rw [A1 hSa];rfl⟩
 ·exact ⟨_,.inr rfl,by rw [A1 hSa];rfl⟩
theorem L7 (ex:List AC):AC.rens dn1 (AC.rens up1 ex)=ex:=AC.rens_rens up1 dn1 DF ex
theorem C6 {ty:TypeId} {ex:List AC} {a0 r:Nat} {bs:ByteArray} {S:AA} (h:OD ty ex S a0 r bs) (s:ByteArray) (hz:bs.size + s.size≤140737488355328):Ay Tryz.prog 84 [.one (.ptr a0 1 0 0),CM s] S (.tup [Ad s.size,.one (.st (.lit .nilIface))]) (Ab ty ex S a0 r (bs ++ s)):=by
 obtain ⟨p,hp,hSa⟩:=h.box
 have hSr:=h.row
 have ha:=h.ha
 have hr:=h.hr
 have hne:=h.ne
 have hne2:¬ r=a0:=fun e=>hne e.symm
 have hbl:=D6 bs
 refine DH.acS fun hS C hC=>?_
 unfold B3
 repeat' with_reducible first | refine W ?_ | refine Z0 ?_ | ((first | refine Wo fun K hK=>?_ | refine Wp ?_ | refine Wq ?_ | refine Wr ?_);(try simp only [go_sem,fN,seval,eT,iR,hSa,dT,dF,nL]);(repeat refine Ai ?_);(try (refine hK _ ?_;clear hK K));try refine iC ?_)
 refine ⟨_,_,G0 (Om h),?_⟩
 repeat' with_reducible first | refine W ?_ | refine Z0 ?_ | ((first | refine Wo fun K hK=>?_ | refine Wp ?_ | refine Wq ?_ | refine Wr ?_);(try simp only [go_sem,fN,seval,eT,iR,hSa,hSr,hne,hne2,hbl,L7,dT,dF,nL]);(repeat refine Ai ?_);(try (refine hK _ ?_;clear hK K));try refine iC ?_)
 refine M8 (.tup [Ad s.size,.one (.st (.lit .nilIface))]) hS ha hr hne2 (Hb ha hr h.hex) rfl trivial ?_ ?_ ?_ ?_ fun i hi i1 i2=>?_
 ·simp only [go_sem,fN,seval,eT,iR,AB,AE,AQ]
 ·simp only [go_sem,fN,seval,eT,iR]
  try rfl
 ·simp only [go_sem,fN,seval,eT,iR,hne,hne2]
  try (rw [ByteArray.size_append])
 ·simp only [go_sem,fN,seval,eT,iR,hne,hne2,HG]
 ·simp only [go_sem,fN,seval,eT,iR,i1,i2]
theorem Lp (c:UInt8):Ap ⟨#[c]⟩=[[.int .u8 (c.toNat:Int)]]:=rfl
theorem CW {ty:TypeId} {ex:List AC} {a0 r:Nat} {bs:ByteArray} {S:AA} (h:OD ty ex S a0 r bs) (c:UInt8) (hz:bs.size + 1≤140737488355328):Ay Tryz.prog 83 [.one (.ptr a0 1 0 0),.one (.st (.int .u8 (c.toNat:Int)))] S (.one (.st (.lit .nilIface))) (Ab ty ex S a0 r (bs ++ ⟨#[c]⟩)):=by
 obtain ⟨p,hp,hSa⟩:=h.box
 have hSr:=h.row
 have ha:=h.ha
 have hr:=h.hr
 have hne:=h.ne
 have hne2:¬ r=a0:=fun e=>hne e.symm
 have hbl:=D6 bs
 have hsz:(bs ++ ⟨#[c]⟩).size=bs.size + 1:=by rw [ByteArray.size_append];rfl
 refine Da.acS fun hS C hC=>?_
 unfold CF
 repeat' with_reducible first | refine W ?_ | refine Z0 ?_ | ((first | refine Wo fun K hK=>?_ | refine Wp ?_ | refine Wq ?_ | refine Wr ?_);(try simp only [go_sem,fN,seval,eT,iR,hSa,dT,dF,nL]);(repeat refine Ai ?_);(try (refine hK _ ?_;clear hK K));try refine iC ?_)
 refine ⟨_,_,G0 (Om h),?_⟩
 have h63:bs.size + 1≤maxLen:=by rw [CK];omega
 repeat' with_reducible first | refine W ?_ | refine Z0 ?_ | ((first | refine Wo fun K hK=>?_ | refine Wp ?_ | refine Wq ?_ | refine Wr ?_);(try simp only [go_sem,fN,seval,eT,iR,hSa,hSr,hne,hne2,hbl,h63,L7,dT,dF,nL]);(repeat refine Ai ?_);(try (refine hK _ ?_;clear hK K));try refine iC ?_)
 refine M8 (.one (.st (.lit .nilIface))) hS ha hr hne2 (Hb ha hr h.hex) rfl trivial ?_ ?_ ?_ ?_ fun i hi i1 i2=>?_
 ·simp only [go_sem,fN,seval,eT,iR,AB,AE,AQ]
 ·simp only [go_sem,fN,seval,eT,iR]
  try rfl
 ·simp only [go_sem,fN,seval,eT,iR,hne,hne2,hbl,hsz]
 ·simp only [go_sem,fN,seval,eT,iR,hne,hne2,HG,Lp]
 ·simp only [go_sem,fN,seval,eT,iR,i1,i2]
theorem HZ {ty:TypeId} {ex:List AC} {a0 r:Nat} {bs:ByteArray} {S:AA} (h:OD ty ex S a0 r bs) (h0:0 < bs.size) (hmx:bs.size≤140737488355328):Ay Tryz.prog 70 [.one (.ptr a0 1 0 0)] S (CM bs) (AK S r (some (.dead bs.size 1))):=by
 obtain ⟨p,hp,hSa⟩:=h.box
 refine Gs (fun hc=>A2 hc h.hr rfl) fun hclean C σ ι vs w hn R hvs=>?_
 obtain ⟨v,rfl⟩:∃ v,vs=[v]:=by
  have:=hvs.len
  match vs,this with
  | [v],_=>exact ⟨v,rfl⟩
 have hv:AN σ S ι v (.one (.ptr a0 1 0 0)):=by cases hvs with | cons h _=>exact h
 obtain ⟨g,hg,rfl⟩:=Jb hv hSa
 have hb:=R.blk a0 _ hSa
 have hbr:=R.blk r _ h.row
 have hlen:(Ap bs).length=bs.size:=D6 bs
 cases hb with
 | @box _ _ g' vs k1 k2 k3 k4 k5 =>
 rw [hg] at k1
 cases k1
 obtain ⟨v0,v1,vm,hvs2⟩:=GQ (n:=ex.length) (show vs.toList.length=2 + ex.length by rw [k4.len];simp;omega)
 obtain rfl:vs=(v0 :: v1 :: vm).toArray:=by rw [← hvs2]
 have r1:Aq σ S ι v1 (.row r bs.size):=by cases k4 with | cons _ h=>cases h with | cons h _=>exact h
 generalize hrow:Ap bs=row at hbr hlen
 cases hbr with
 | mnil m1 m2=>simp at hlen;omega
 | @mrow _ _ _ gr cur m1 m2 m3 m4 m5 m6 m7 m8 m9 =>
 subst hrow
 have e1:v1=.slice (some ⟨gr,0,none⟩) bs.size (ι r).cap:=by
  cases r1 with
  | row q1 q2 q3 q4 =>
   rw [h.row] at q1
   cases q1
   rw [q4 hlen.symm,m2]
 subst e1
 have hl:bs.data.toList.length=bs.size:=by rw [Array.length_toList];rfl
 refine (HO g gr (ι r).cap _ ty cur bs.data.toList w (fun e=>by rw [e] at hl;simp at hl;omega) k3 (by rw [hl];rfl) m3 m5 (by omega) (by rw [m6,hl];omega) fun j x hx=>?_).mono ?_
 ·have hx':(Ap bs)[j]?=some [SV.int .u8 (x.toNat:Int)]:=by
   unfold Ap
   rw [List.getElem?_map,hx]
   rfl
  obtain ⟨u,u1,u2⟩:=m8 j _ 0 _ hx' rfl
  rw [Nat.mul_one,Nat.add_zero] at u1
  rw [u1]
  cases u2
  rfl
 ·rintro e w' ⟨rfl,f1,f2,f3,f4,f5,f6⟩
  obtain ⟨hu,R'⟩:=R.turn (w':=w') h.row (.dead bs.size 1) (ι r) (σ':=σ) (fun _ _ h=>h) (fun _ _ _=>rfl) (R.fit.row m9 f2) (by simp [AU.len,hlen]) (fun _=>⟨rfl,rfl⟩) ⟨f3,f4,f5⟩ (by omega)
   (fun k hk hne=>f2 k (fun e=>hne (by rw [e];exact m1))) (fun g h=>.inl h) (fun hu=>.dead fun g hg=>by
    rw [m1] at hg
    cases hg
    obtain ⟨f',h'⟩:=f6 _ _ _ m3
    exact ⟨_,h',rfl⟩)
  refine ⟨_,σ,_,_,rfl,R',.one (.st (.str ?_))⟩
  show bs.size≤maxLen
  rw [CK]
  omega

set_option maxHeartbeats 2000000
theorem AP {b c:Nat} (hb:1000≤b) (hc:c < 1000):(b=c)=False:=eq_false (by omega)
theorem AO {b c:Nat} (hb:1000≤b) (hc:c < 1000):(c=b)=False:=eq_false (by omega)
theorem L1 (k:Nat) (hk:k < 1000000):AW Tryz.prog 33 [Ad k] (CM (Gd k)):=by
 have h:=Hj (k:Int)
 have hd:(⟨(Lib.itoa (k:Int)).toArray⟩:ByteArray)=Gd k:=by rw [Lib.itoa_nonneg];rfl
 rw [hd] at h
 exact h
abbrev wT:TypeId:=99
abbrev Oi (xs:List ByteArray):AU:=.mrow 9 1 (xs.map Cw)
abbrev Hu (p:AC) (r n:Nat) (c:AC) (o:Int):AU:=.box wT [p,.row r n,c,.st (.int .i64 o)]
theorem UZ:liesAt Tryz.prog (Tryz.prog).depth wT (4 / (Tryz.prog).cellsOf wT) 0 bTW 1=true:=by kernel_rfl
theorem CR {S:AA} {b r:Nat} {bs:ByteArray} {c p:AC} {o:Int} (hbr:b ≠ r) (hp:p=.st (.lit (.pointer none)) ∨ p=.ptr b 1 0 0) (h1:S b=some (Hu p r bs.size c o)) (h2:S r=some (.mrow u8W 1 (Ap bs))):OD wT (AC.rens up1 [c,.st (.int .i64 o)]) (upS S) (up1 b) (up1 r) bs:=by
 refine ⟨AL _,AL _,fun e=>hbr (Nat.add_right_cancel e),AC.rens_high _,by rw [NA];exact UZ,?_,by rw [A1 h2];rfl⟩
 rcases hp with rfl | rfl
 ·exact ⟨_,.inl rfl,by rw [A1 h1];rfl⟩
 ·exact ⟨_,.inr rfl,by rw [A1 h1];rfl⟩
theorem AG {ty:TypeId} {ex:List AC} {S:AA} {b r:Nat} {bs:ByteArray}:dnS (Ab ty (AC.rens up1 ex) (upS S) (up1 b) (up1 r) bs)=Ab ty ex S b r bs:=by
 unfold Ab
 rw [CE,CE,Dy]
 show AK (AK S b (some (AU.box ty (AC.ptr (dn1 (up1 b)) 1 0 0 :: AC.row (dn1 (up1 r)) _ :: AC.rens dn1 (AC.rens up1 ex))))) r _=_
 rw [DF,DF,L7]
 rfl
def DG (S:AA) (b r i ni N:Nat) (ns:List ByteArray) (bs:ByteArray) (o:Int):AA:=AK (AK (AK (AK S i (some (.dead N 1))) ni (some (Oi ns))) b (some (Hu (.ptr b 1 0 0) r bs.size (.row ni ns.length) o))) r (some (.mrow u8W 1 (Ap bs)))
theorem Du {S:AA} {b r i ni N:Nat} {ns:List ByteArray} {bs:ByteArray} {o:Int}:dnS (DG (upS S) (up1 b) (up1 r) (up1 i) (up1 ni) N ns bs o)=DG S b r i ni N ns bs o:=by
 unfold DG
 rw [CE,CE,CE,CE,Dy]
 show AK (AK _ b (some (AU.box wT [AC.ptr (dn1 (up1 b)) 1 0 0,AC.row (dn1 (up1 r)) _,AC.row (dn1 (up1 ni)) _,_]))) r _=_
 rw [DF,DF,DF]
 rfl
theorem QD {p:AC} {r n i m:Nat} {o:Int} (hp:p.high=true) (hr:1000≤r) (hi:1000≤i):(Hu p r n (.row i m) o).high=true:=by
 show AC.highs [p,.row r n,.row i m,_]=true
 simp only [AC.highs,AC.high,hp,decide_eq_true hr,decide_eq_true hi,Bool.and_self]
theorem Ml {S:AA} {b r i ni N:Nat} {ns:List ByteArray} {bs:ByteArray} {o:Int} (hb:1000≤b) (hr:1000≤r) (hi:1000≤i) (hn:1000≤ni) (hS:An S):An (DG S b r i ni N ns bs o) :=
 A2 (A2 (A2 (A2 hS hi rfl) hn rfl) hb (QD (Jq hb) hr hn)) hr rfl
theorem G4 {S:AA} {b r n i m:Nat} {o:Int} (h:S b=some (Hu (.ptr b 1 0 0) r n (.row i m) o)):upS S (up1 b)=some (Hu (.ptr (up1 b) 1 0 0) (up1 r) n (.row (up1 i) m) o):=A1 h
theorem Qq {S:AA} {b r n i m:Nat} {o:Int} (h:S b=some (Hu (.st (.lit (.pointer none))) r n (.row i m) o)):upS S (up1 b)=some (Hu (.st (.lit (.pointer none))) (up1 r) n (.row (up1 i) m) o):=A1 h
theorem En {S:AA} {i:Nat} {ns:List ByteArray} (h:S i=some (Oi ns)):upS S (up1 i)=some (Oi ns):=A1 h
theorem Dr {S:AA} {r:Nat} {bs:ByteArray} (h:S r=some (.mrow u8W 1 (Ap bs))):upS S (up1 r)=some (.mrow u8W 1 (Ap bs)):=A1 h
theorem Dq {S:AA} {i:Nat} (h:S i=none):upS S (up1 i)=none:=by rw [C5,h];rfl
theorem P_ {C:Ctx} {x:AS} {S:AA} {b r i j ni N:Nat} {ns xs:List ByteArray} {bs:ByteArray} {o:Int} {c:AC} {e:AX} (hS:An S) (he:match e with | .normal=>True | .ret=>True | _=>False) (hb1:1000≤b) (hr1:1000≤r) (hi1:1000≤i) (hb:x.S b=some (Hu (.ptr b 1 0 0) r bs.size c o)) (hr:x.S r=some (.mrow u8W 1 (Ap bs))) (hj:x.S j=some (Oi xs)) (hN:xs.length < N) (hc:c=.part j ns.length xs.length ∨ (c=.row j ns.length∧ns.length=xs.length)) (hx:xs.take ns.length=ns) (hni:x.S ni=none) (hbn:b ≠ ni) (hrn:r ≠ ni) (hrb:r ≠ b) (hrj:r ≠ j) (h1000:1000≤ni)
  (hi:(j=i) ∨ (j < 1000∧x.S i=some (.dead N 1)∧i ≠ ni∧i ≠ b∧i ≠ r)) (h3:∀ j,1000≤j→j ≠ b→j ≠ r→j ≠ i→x.S j=S j):Gu C [] (.tup []) (DG S b r i ni N ns bs o) e x:=by
 have hjb:b ≠ j:=fun e=>by subst e;rw [hb] at hj;cases hj
 have hjn:j ≠ ni:=fun e=>by subst e;rw [hj] at hni;cases hni
 have hg:=Am.rebase (C:=C) (s:=x) b j ni 2 ns.length N (xs:=xs.map Cw) (by simpa using hN) hb hj hni (by
  rw [List.length_map]
  rcases hc with rfl | ⟨rfl,h⟩
  ·exact .inl rfl
  ·exact .inr ⟨rfl,h⟩)
 refine Ei hg (CL (.tup []) (Ml hb1 hr1 hi1 h1000 hS) he rfl rfl fun k hk=>?_)
 show AK (AK (AK x.S j (some (.dead N 1))) ni (some (AU.mrow _ 1 ((xs.map Cw).take ns.length)))) b (some (AU.box _ ([_,_,c,_].set 2 (.row ni ns.length)))) k=_
 rw [← List.map_take,hx]
 unfold DG
 by_cases e0:k=r
 ·subst e0
  rw [AJ _ hrb,AJ _ hrn,AJ _ hrj,hr,AD]
 rw [AJ _ e0]
 by_cases e1:k=b
 ·subst e1
  rw [AD,AD]
  rfl
 rw [AJ _ e1,AJ _ e1]
 by_cases e2:k=ni
 ·subst e2
  rw [AD,AD]
 rw [AJ _ e2,AJ _ e2]
 rcases hi with rfl | ⟨q1,q2,q3,q4,q5⟩
 ·by_cases e3:k=j
  ·subst e3
   rw [AD,AD]
  ·rw [AJ _ e3,AJ _ e3,h3 k hk e1 e0 e3]
 ·rw [AJ _ (show k ≠ j by omega)]
  by_cases e3:k=i
  ·subst e3
   rw [AD,q2]
  ·rw [AJ _ e3,h3 k hk e1 e0 e3]

def brP (t:Lm) (place:Int):Bool:=decide (t.kind=2∧0 < place ∨ t.kind=3∧1 < place)
def WrS (o:Nat) (ns:List ByteArray) (t:Lm) (s:ByteArray):Prop:=∀ (place:Int) (bs:ByteArray) (p:AC) (b r i ni N:Nat) (S:AA),0≤place∧place≤2→ns.length + t.size < N→N≤1000000→bs.size + s.size + 4 * t.size≤1000000000→1000≤b→1000≤r→1000≤i→1000≤ni→(p=.st (.lit (.pointer none)) ∨ p=.ptr b 1 0 0)→S b=some (Hu p r bs.size (.row i ns.length) o)→S r=some (.mrow u8W 1 (Ap bs))→S i=some (Oi ns)→S ni=none →
 Ay Tryz.prog 69 [.one (.ptr b 1 0 0),aLm t,Ad place] S (.tup []) (DG S b r i ni N ns (bs ++ brk (brP t place) s) o)
theorem SQ {S:AA} {b r n i m:Nat} {o:Int} {p:AC} (hp:p=.st (.lit (.pointer none)) ∨ p=.ptr b 1 0 0) (h:S b=some (Hu p r n (.row i m) o)):∃ p',(p'=.st (.lit (.pointer none)) ∨ p'=.ptr (up1 b) 1 0 0)∧upS S (up1 b)=some (Hu p' (up1 r) n (.row (up1 i) m) o):=by
 rcases hp with rfl | rfl
 ·exact ⟨_,.inl rfl,A1 h⟩
 ·exact ⟨_,.inr rfl,A1 h⟩
set_option maxRecDepth 100000 in
theorem Tj {o:Nat} {ns:List ByteArray} {j:Nat} {n:ByteArray} (h:j < ns.length) (hn:ns[ns.length - 1 - j]?=some n):WrS o ns (.v j) n:=by
 intro place bs p b r i ni N S hpl hN hN2 hz hb hr hi hni hp sb sr si sni
 have hbr:¬ b=r:=fun e=>by subst e;rw [sb] at sr;cases sr
 have hbi:¬ b=i:=fun e=>by subst e;rw [sb] at si;cases si
 have hbn:¬ b=ni:=fun e=>by subst e;rw [sb] at sni;cases sni
 have hri:¬ r=i:=fun e=>by subst e;rw [sr] at si;injection si with si;injection si with si;exact absurd si (by decide)
 have hrn:¬ r=ni:=fun e=>by subst e;rw [sr] at sni;cases sni
 have hin:¬ i=ni:=fun e=>by subst e;rw [si] at sni;cases sni
 have hrb:¬ r=b:=fun e=>hbr e.symm
 have hib:¬ i=b:=fun e=>hbi e.symm
 have hnb:¬ ni=b:=fun e=>hbn e.symm
 have hir:¬ i=r:=fun e=>hri e.symm
 have hnr:¬ ni=r:=fun e=>hrn e.symm
 have hnj:¬ ni=i:=fun e=>hin e.symm
 have hbk:brk (brP (.v j) place) n=n:=by
  unfold brP brk
  rw [if_neg]
  simp [Lm.v,Lm.kind]
 rw [hbk]
 refine A5.acS fun hS C hC=>?_
 unfold At
 have n4:S 4=none:=AY hS (by omega)
 have n901:S 901=none:=AY hS (by omega)
 have n902:S 902=none:=AY hS (by omega)
 have hge:(0:Int)≤(ns.length:Int) - 1 - j:=by omega
 have hidx:(ns.length:Int) - 1 - j=((ns.length - 1 - j:Nat):Int):=by omega
 have hge2:(0:Int)≤((ns.length - 1 - j:Nat):Int):=by omega
 have hml:(ns.map Cw).length=ns.length:=by simp
 repeat' with_reducible first | refine W ?_ | refine Z0 ?_ | ((first | refine Wo fun K hK=>?_ | refine Wp ?_ | refine Wq ?_ | refine Wr ?_);(try simp only [go_sem,fN,seval,eT,iR,AS.startS,AP,AO,hb,hr,hi,hni,n4,n901,n902,hbr,hrb,hbi,hib,hbn,hnb,hri,hir,hrn,hnr,hin,hnj,AG,Ab,sb,sr,si,Lm.v,Lm.kind_mk,Lm.idx_mk,Lm.subs_mk,hidx,hge2,hn,hml,Cw,dT,dF,nL]);(repeat refine Ai ?_);(try (refine hK _ ?_;clear hK K));try refine iC ?_)
 refine ⟨_,_,C6 (CR (bs:=bs) (c:=.row i ns.length) (o:=o) hbr hp (by simp only [go_sem,fN,seval,eT,iR,AP,AO,hb,hr,hi,hni,n4,n901,n902,hbr,hrb,hbi,hib,hbn,hnb,hri,hir,hrn,hnr,hin,hnj,AG,Ab,sb,sr]) (by simp only [go_sem,fN,seval,eT,iR,AP,AO,hb,hr,hi,hni,n4,n901,n902,hbr,hrb,hbi,hib,hbn,hnb,hri,hir,hrn,hnr,hin,hnj,AG,Ab,sb,sr])) (n) (by first | omega | (simp only [ByteArray.size_append] at *;omega)),?_⟩
 repeat' with_reducible first | refine W ?_ | refine Z0 ?_ | ((first | refine Wo fun K hK=>?_ | refine Wp ?_ | refine Wq ?_ | refine Wr ?_);(try simp only [go_sem,fN,seval,eT,iR,AP,AO,hb,hr,hi,hni,n4,n901,n902,hbr,hrb,hbi,hib,hbn,hnb,hri,hir,hrn,hnr,hin,hnj,AG,Ab,sb,sr,si,dT,dF,nL]);(repeat refine Ai ?_);(try (refine hK _ ?_;clear hK K));try refine iC ?_)
 refine P_ hS trivial hb hr hi (j:=i) (xs:=ns) (c:=.row i ns.length) ?_ ?_ ?_ (by omega) (.inr ⟨rfl,rfl⟩) List.take_length ?_ hbn hrn hrb hri hni (.inl rfl) fun k k1 k2 k3 k4=>?_
 ·simp only [go_sem,fN,seval,eT,iR,AP,AO,hb,hr,hi,hni,n4,n901,n902,hbr,hrb,hbi,hib,hbn,hnb,hri,hir,hrn,hnr,hin,hnj,AG,Ab]
 ·simp only [go_sem,fN,seval,eT,iR,AP,AO,hb,hr,hi,hni,n4,n901,n902,hbr,hrb,hbi,hib,hbn,hnb,hri,hir,hrn,hnr,hin,hnj,AG,Ab]
 ·simp only [go_sem,fN,seval,eT,iR,AP,AO,hb,hr,hi,hni,n4,n901,n902,hbr,hrb,hbi,hib,hbn,hnb,hri,hir,hrn,hnr,hin,hnj,AG,Ab,si]
 ·simp only [go_sem,fN,seval,eT,iR,AP,AO,hb,hr,hi,hni,n4,n901,n902,hbr,hrb,hbi,hib,hbn,hnb,hri,hir,hrn,hnr,hin,hnj,AG,Ab,sni]
 ·simp only [go_sem,fN,seval,eT,iR,AP,AO,k1,k2,k3,k4,AG,Ab]
set_option maxRecDepth 100000 in
theorem S_ {o:Nat} {ns:List ByteArray} {j:Nat} (h:j < 40):WrS o ns (.mk 4 j []) (⟨#[99]⟩ ++ Gd j):=by
 intro place bs p b r i ni N S hpl hN hN2 hz hb hr hi hni hp sb sr si sni
 have hbr:¬ b=r:=fun e=>by subst e;rw [sb] at sr;cases sr
 have hbi:¬ b=i:=fun e=>by subst e;rw [sb] at si;cases si
 have hbn:¬ b=ni:=fun e=>by subst e;rw [sb] at sni;cases sni
 have hri:¬ r=i:=fun e=>by subst e;rw [sr] at si;injection si with si;injection si with si;exact absurd si (by decide)
 have hrn:¬ r=ni:=fun e=>by subst e;rw [sr] at sni;cases sni
 have hin:¬ i=ni:=fun e=>by subst e;rw [si] at sni;cases sni
 have hrb:¬ r=b:=fun e=>hbr e.symm
 have hib:¬ i=b:=fun e=>hbi e.symm
 have hnb:¬ ni=b:=fun e=>hbn e.symm
 have hir:¬ i=r:=fun e=>hri e.symm
 have hnr:¬ ni=r:=fun e=>hrn e.symm
 have hnj:¬ ni=i:=fun e=>hin e.symm
 have hbk:brk (brP (.mk 4 j []) place) (⟨#[99]⟩ ++ Gd j)=⟨#[99]⟩ ++ Gd j:=by
  unfold brP brk
  rw [if_neg]
  simp [Lm.kind]
 rw [hbk]
 refine A5.acS fun hS C hC=>?_
 unfold At
 have n4:S 4=none:=AY hS (by omega)
 have n901:S 901=none:=AY hS (by omega)
 have n902:S 902=none:=AY hS (by omega)
 have hds:=E2 (n:=j) (by omega)
 have h99:(⟨#[99]⟩:ByteArray).size=1:=rfl
 repeat' (first | (with_reducible first | refine W ?_ | refine Z0 ?_ | ((first | refine Wo fun K hK=>?_ | refine Wp ?_ | refine Wq ?_ | refine Wr ?_);(try simp only [go_sem,fN,seval,eT,iR,AS.startS,AP,AO,hb,hr,hi,hni,n4,n901,n902,hbr,hrb,hbi,hib,hbn,hnb,hri,hir,hrn,hnr,hin,hnj,AG,Ab,sb,sr,si,Lm.kind_mk,Lm.idx_mk,Lm.subs_mk,h99,dT,dF,nL]);(repeat refine Ai ?_);(try (refine hK _ ?_;clear hK K));try refine iC ?_)) | refine Cg _ (L1 j (by omega)) ?_)
 refine ⟨_,_,C6 (CR (bs:=bs) (c:=.row i ns.length) (o:=o) hbr hp (by simp only [go_sem,fN,seval,eT,iR,AP,AO,hb,hr,hi,hni,n4,n901,n902,hbr,hrb,hbi,hib,hbn,hnb,hri,hir,hrn,hnr,hin,hnj,AG,Ab,sb,sr]) (by simp only [go_sem,fN,seval,eT,iR,AP,AO,hb,hr,hi,hni,n4,n901,n902,hbr,hrb,hbi,hib,hbn,hnb,hri,hir,hrn,hnr,hin,hnj,AG,Ab,sb,sr])) (⟨#[99]⟩ ++ Gd j) (by first | omega | (simp only [ByteArray.size_append] at *;omega)),?_⟩
 repeat' with_reducible first | refine W ?_ | refine Z0 ?_ | ((first | refine Wo fun K hK=>?_ | refine Wp ?_ | refine Wq ?_ | refine Wr ?_);(try simp only [go_sem,fN,seval,eT,iR,AP,AO,hb,hr,hi,hni,n4,n901,n902,hbr,hrb,hbi,hib,hbn,hnb,hri,hir,hrn,hnr,hin,hnj,AG,Ab,sb,sr,si,dT,dF,nL]);(repeat refine Ai ?_);(try (refine hK _ ?_;clear hK K));try refine iC ?_)
 refine P_ hS trivial hb hr hi (j:=i) (xs:=ns) (c:=.row i ns.length) ?_ ?_ ?_ (by omega) (.inr ⟨rfl,rfl⟩) List.take_length ?_ hbn hrn hrb hri hni (.inl rfl) fun k k1 k2 k3 k4=>?_
 ·simp only [go_sem,fN,seval,eT,iR,AP,AO,hb,hr,hi,hni,n4,n901,n902,hbr,hrb,hbi,hib,hbn,hnb,hri,hir,hrn,hnr,hin,hnj,AG,Ab]
 ·simp only [go_sem,fN,seval,eT,iR,AP,AO,hb,hr,hi,hni,n4,n901,n902,hbr,hrb,hbi,hib,hbn,hnb,hri,hir,hrn,hnr,hin,hnj,AG,Ab]
 ·simp only [go_sem,fN,seval,eT,iR,AP,AO,hb,hr,hi,hni,n4,n901,n902,hbr,hrb,hbi,hib,hbn,hnb,hri,hir,hrn,hnr,hin,hnj,AG,Ab,si]
 ·simp only [go_sem,fN,seval,eT,iR,AP,AO,hb,hr,hi,hni,n4,n901,n902,hbr,hrb,hbi,hib,hbn,hnb,hri,hir,hrn,hnr,hin,hnj,AG,Ab,sni]
 ·simp only [go_sem,fN,seval,eT,iR,AP,AO,k1,k2,k3,k4,AG,Ab]
theorem UF (t:Lm) (s:ByteArray):brk (brP t 0) s=s:=by
 unfold brP brk
 rw [if_neg]
 simp
set_option maxRecDepth 100000 in
theorem TW {o:Nat} {ns:List ByteArray} {t:Lm} {s:ByteArray} (ho:o≤ns.length) (ih:WrS o (ns ++ [Ej 120 (ns.length - o)]) t s):WrS o ns (.l t) (⟨#[92]⟩ ++ Ej 120 (ns.length - o) ++ ⟨#[46]⟩ ++ s):=by
 intro place bs p b r i ni N S hpl hN hN2 hz hb hr hi hni hp sb sr si sni
 have hbr:¬ b=r:=fun e=>by subst e;rw [sb] at sr;cases sr
 have hbi:¬ b=i:=fun e=>by subst e;rw [sb] at si;cases si
 have hbn:¬ b=ni:=fun e=>by subst e;rw [sb] at sni;cases sni
 have hri:¬ r=i:=fun e=>by subst e;rw [sr] at si;injection si with si;injection si with si;exact absurd si (by decide)
 have hrn:¬ r=ni:=fun e=>by subst e;rw [sr] at sni;cases sni
 have hin:¬ i=ni:=fun e=>by subst e;rw [si] at sni;cases sni
 have hrb:¬ r=b:=fun e=>hbr e.symm
 have hib:¬ i=b:=fun e=>hbi e.symm
 have hnb:¬ ni=b:=fun e=>hbn e.symm
 have hir:¬ i=r:=fun e=>hri e.symm
 have hnr:¬ ni=r:=fun e=>hrn e.symm
 have hnj:¬ ni=i:=fun e=>hin e.symm
 rw [Lm.size_l] at hN hz
 refine A5.acS fun hS C hC=>?_
 unfold At
 have n4:S 4=none:=AY hS (by omega)
 have n901:S 901=none:=AY hS (by omega)
 have n902:S 902=none:=AY hS (by omega)
 have hsub:(ns.length:Int) - o=((ns.length - o:Nat):Int):=by omega
 have hds:=E2 (n:=ns.length - o) (by omega)
 have h120:(⟨#[120]⟩:ByteArray).size=1:=rfl
 have h92:(⟨#[92]⟩:ByteArray).size=1:=rfl
 have h46:(⟨#[46]⟩:ByteArray).size=1:=rfl
 have h40:(⟨#[40]⟩:ByteArray).size=1:=rfl
 have h41:(⟨#[41]⟩:ByteArray).size=1:=rfl
 have hml:(ns.map Cw).length=ns.length:=by simp
 have hxs:(Ej 120 (ns.length - o)).size≤7:=NP (by omega)
 have hx:⟨#[120]⟩ ++ Gd (ns.length - o)=Ej 120 (ns.length - o):=rfl
 generalize Ej 120 (ns.length - o)=nm at *
 have hlen:(ns ++ [nm]).length=ns.length + 1:=by simp
 have hmap:(ns ++ [nm]).map Cw=ns.map Cw ++ [[.str nm]]:=by simp [Cw]
 have hl2:((ns ++ [nm]).map Cw).length=ns.length + 1:=by simp
 have hl3:(((ns.length + 1:Nat):Int) - 1).toNat=ns.length:=by omega
 simp only [ByteArray.size_append] at hz
 by_cases hp0:0 < place
 ·have hbk:bs ++ brk (brP (.l t) place) (⟨#[92]⟩ ++ nm ++ ⟨#[46]⟩ ++ s)=bs ++ ⟨#[40]⟩ ++ (⟨#[92]⟩ ++ nm ++ ⟨#[46]⟩) ++ s ++ ⟨#[41]⟩:=by
   unfold brP brk
   rw [if_pos]
   ·simp only [ByteArray.append_assoc]
   ·simp [Lm.l,Lm.kind,hp0]
  rw [hbk]
  obtain ⟨Sd,hW⟩:∃ Sd,DG S b r i ni N ns (bs ++ ⟨#[40]⟩ ++ (⟨#[92]⟩ ++ nm ++ ⟨#[46]⟩) ++ s ++ ⟨#[41]⟩) o=Sd:=⟨_,rfl⟩
  rw [hW]
  repeat' with_reducible first | refine W ?_ | refine Z0 ?_ | ((first | refine Wo fun K hK=>?_ | refine Wp ?_ | refine Wq ?_ | refine Wr ?_);(try simp only [go_sem,fN,seval,eT,iR,AS.startS,AP,AO,hb,hr,hi,hni,n4,n901,n902,hbr,hrb,hbi,hib,hbn,hnb,hri,hir,hrn,hnr,hin,hnj,AG,Ab,sb,sr,si,Lm.l,Lm.kind_mk,Lm.idx_mk,Lm.subs_mk,hp0,dT,dF,nL]);(repeat refine Ai ?_);(try (refine hK _ ?_;clear hK K));try refine iC ?_)
  refine ⟨_,_,CW (CR (bs:=bs) (c:=.row i ns.length) (o:=o) hbr hp (by simp only [go_sem,fN,seval,eT,iR,AP,AO,hb,hr,hi,hni,n4,n901,n902,hbr,hrb,hbi,hib,hbn,hnb,hri,hir,hrn,hnr,hin,hnj,AG,Ab,sb,sr]) (by simp only [go_sem,fN,seval,eT,iR,AP,AO,hb,hr,hi,hni,n4,n901,n902,hbr,hrb,hbi,hib,hbn,hnb,hri,hir,hrn,hnr,hin,hnj,AG,Ab,sb,sr])) 40 (by first | omega | (simp only [ByteArray.size_append] at *;omega)),?_⟩
  repeat' (first | (with_reducible first | refine W ?_ | refine Z0 ?_ | ((first | refine Wo fun K hK=>?_ | refine Wp ?_ | refine Wq ?_ | refine Wr ?_);(try simp only [go_sem,fN,seval,eT,iR,AS.startS,AP,AO,hb,hr,hi,hni,n4,n901,n902,hbr,hrb,hbi,hib,hbn,hnb,hri,hir,hrn,hnr,hin,hnj,AG,Ab,sb,sr,si,Lm.l,Lm.kind_mk,Lm.idx_mk,Lm.subs_mk,hp0,hsub,hx,h120,h92,h46,dT,dF,nL]);(repeat refine Ai ?_);(try (refine hK _ ?_;clear hK K));try refine iC ?_)) | refine Cg _ (L1 (ns.length - o) (by omega)) ?_)
  refine ⟨_,_,C6 (CR (bs:=bs ++ ⟨#[40]⟩) (c:=.row i ns.length) (o:=o) hbr (.inr rfl) (by simp only [go_sem,fN,seval,eT,iR,AP,AO,hb,hr,hi,hni,n4,n901,n902,hbr,hrb,hbi,hib,hbn,hnb,hri,hir,hrn,hnr,hin,hnj,AG,Ab,sb,sr]) (by simp only [go_sem,fN,seval,eT,iR,AP,AO,hb,hr,hi,hni,n4,n901,n902,hbr,hrb,hbi,hib,hbn,hnb,hri,hir,hrn,hnr,hin,hnj,AG,Ab,sb,sr])) (⟨#[92]⟩ ++ nm ++ ⟨#[46]⟩) (by first | omega | (simp only [ByteArray.size_append] at *;omega)),?_⟩
  repeat' with_reducible first | refine W ?_ | refine Z0 ?_ | ((first | refine Wo fun K hK=>?_ | refine Wp ?_ | refine Wq ?_ | refine Wr ?_);(try simp only [go_sem,fN,seval,eT,iR,AP,AO,hb,hr,hi,hni,n4,n901,n902,hbr,hrb,hbi,hib,hbn,hnb,hri,hir,hrn,hnr,hin,hnj,AG,Ab,sb,sr,si,Lm.l,Lm.kind_mk,Lm.idx_mk,Lm.subs_mk,hml,dT,dF,nL]);(repeat refine Ai ?_);(try (refine hK _ ?_;clear hK K));try refine iC ?_)
  refine ⟨_,_,ih 0 (bs ++ ⟨#[40]⟩ ++ (⟨#[92]⟩ ++ nm ++ ⟨#[46]⟩)) _ (up1 b) (up1 r) (up1 i) (up1 901) N _ (by decide) (by omega) hN2 (by simp only [ByteArray.size_append];omega) (AL _) (AL _) (AL _) (AL _) (.inr rfl) (G4 (by simp only [go_sem,fN,seval,eT,iR,AP,AO,hb,hr,hi,hni,n4,n901,n902,hbr,hrb,hbi,hib,hbn,hnb,hri,hir,hrn,hnr,hin,hnj,AG,Ab,hlen])) (Dr (by simp only [go_sem,fN,seval,eT,iR,AP,AO,hb,hr,hi,hni,n4,n901,n902,hbr,hrb,hbi,hib,hbn,hnb,hri,hir,hrn,hnr,hin,hnj,AG,Ab])) (En (by simp only [go_sem,fN,seval,eT,iR,AP,AO,hb,hr,hi,hni,n4,n901,n902,hbr,hrb,hbi,hib,hbn,hnb,hri,hir,hrn,hnr,hin,hnj,AG,Ab,hmap,Oi])) (Dq (by simp only [go_sem,fN,seval,eT,iR,AP,AO,hb,hr,hi,hni,n4,n901,n902,hbr,hrb,hbi,hib,hbn,hnb,hri,hir,hrn,hnr,hin,hnj,AG,Ab])),?_⟩
  rw [UF]
  repeat' with_reducible first | refine W ?_ | refine Z0 ?_ | ((first | refine Wo fun K hK=>?_ | refine Wp ?_ | refine Wq ?_ | refine Wr ?_);(try simp only [go_sem,fN,seval,eT,iR,Du,DG,AP,AO,hb,hr,hi,hni,n4,n901,n902,hbr,hrb,hbi,hib,hbn,hnb,hri,hir,hrn,hnr,hin,hnj,AG,Ab,hlen,hl2,hl3,dT,dF,nL]);(repeat refine Ai ?_);(try (refine hK _ ?_;clear hK K));try refine iC ?_)
  refine ⟨_,_,CW (CR (bs:=bs ++ ⟨#[40]⟩ ++ (⟨#[92]⟩ ++ nm ++ ⟨#[46]⟩) ++ s) (c:=.part 901 ns.length (ns.length + 1)) (o:=o) hbr (.inr rfl) (by simp only [go_sem,fN,seval,eT,iR,AP,AO,hb,hr,hi,hni,n4,n901,n902,hbr,hrb,hbi,hib,hbn,hnb,hri,hir,hrn,hnr,hin,hnj,AG,Ab,sb,sr]) (by simp only [go_sem,fN,seval,eT,iR,AP,AO,hb,hr,hi,hni,n4,n901,n902,hbr,hrb,hbi,hib,hbn,hnb,hri,hir,hrn,hnr,hin,hnj,AG,Ab,sb,sr])) 41 (by first | omega | (simp only [ByteArray.size_append] at *;omega)),?_⟩
  repeat' with_reducible first | refine W ?_ | refine Z0 ?_ | ((first | refine Wo fun K hK=>?_ | refine Wp ?_ | refine Wq ?_ | refine Wr ?_);(try simp only [go_sem,fN,seval,eT,iR,AP,AO,hb,hr,hi,hni,n4,n901,n902,hbr,hrb,hbi,hib,hbn,hnb,hri,hir,hrn,hnr,hin,hnj,AG,Ab,hlen,hl2,hl3,dT,dF,nL]);(repeat refine Ai ?_);(try (refine hK _ ?_;clear hK K));try refine iC ?_)
  rw [← hW]
  refine P_ hS trivial hb hr hi (j:=901) (xs:=ns ++ [nm]) (c:=.part 901 ns.length (ns ++ [nm]).length) ?_ ?_ ?_ (by first | omega | (simp only [List.length_append,List.length_cons,List.length_nil];omega)) (by first | exact .inl rfl | exact .inr ⟨rfl,rfl⟩) (by simp) ?_ hbn hrn hrb (by omega) hni (.inr ⟨by decide,?_,hin,hib,hir⟩) fun k k1 k2 k3 k4=>?_
  ·simp only [go_sem,fN,seval,eT,iR,AP,AO,hb,hr,hi,hni,n4,n901,n902,hbr,hrb,hbi,hib,hbn,hnb,hri,hir,hrn,hnr,hin,hnj,AG,Ab,hlen]
  ·simp only [go_sem,fN,seval,eT,iR,AP,AO,hb,hr,hi,hni,n4,n901,n902,hbr,hrb,hbi,hib,hbn,hnb,hri,hir,hrn,hnr,hin,hnj,AG,Ab]
  ·simp only [go_sem,fN,seval,eT,iR,AP,AO,hb,hr,hi,hni,n4,n901,n902,hbr,hrb,hbi,hib,hbn,hnb,hri,hir,hrn,hnr,hin,hnj,AG,Ab]
  ·simp only [go_sem,fN,seval,eT,iR,AP,AO,hb,hr,hi,hni,n4,n901,n902,hbr,hrb,hbi,hib,hbn,hnb,hri,hir,hrn,hnr,hin,hnj,AG,Ab,sni]
  ·simp only [go_sem,fN,seval,eT,iR,AP,AO,hb,hr,hi,hni,n4,n901,n902,hbr,hrb,hbi,hib,hbn,hnb,hri,hir,hrn,hnr,hin,hnj,AG,Ab]
  ·simp only [go_sem,fN,seval,eT,iR,AP,AO,k1,k2,k3,k4,AG,Ab]
 ·have hbk:bs ++ brk (brP (.l t) place) (⟨#[92]⟩ ++ nm ++ ⟨#[46]⟩ ++ s)=bs ++ (⟨#[92]⟩ ++ nm ++ ⟨#[46]⟩) ++ s:=by
   unfold brP brk
   rw [if_neg]
   ·simp only [ByteArray.append_assoc]
   ·simp [Lm.l,Lm.kind,hp0]
  rw [hbk]
  obtain ⟨Sd,hW⟩:∃ Sd,DG S b r i ni N ns (bs ++ (⟨#[92]⟩ ++ nm ++ ⟨#[46]⟩) ++ s) o=Sd:=⟨_,rfl⟩
  rw [hW]
  repeat' (first | (with_reducible first | refine W ?_ | refine Z0 ?_ | ((first | refine Wo fun K hK=>?_ | refine Wp ?_ | refine Wq ?_ | refine Wr ?_);(try simp only [go_sem,fN,seval,eT,iR,AS.startS,AP,AO,hb,hr,hi,hni,n4,n901,n902,hbr,hrb,hbi,hib,hbn,hnb,hri,hir,hrn,hnr,hin,hnj,AG,Ab,sb,sr,si,Lm.l,Lm.kind_mk,Lm.idx_mk,Lm.subs_mk,hp0,hsub,hx,h120,h92,h46,dT,dF,nL]);(repeat refine Ai ?_);(try (refine hK _ ?_;clear hK K));try refine iC ?_)) | refine Cg _ (L1 (ns.length - o) (by omega)) ?_)
  refine ⟨_,_,C6 (CR (bs:=bs) (c:=.row i ns.length) (o:=o) hbr hp (by simp only [go_sem,fN,seval,eT,iR,AP,AO,hb,hr,hi,hni,n4,n901,n902,hbr,hrb,hbi,hib,hbn,hnb,hri,hir,hrn,hnr,hin,hnj,AG,Ab,sb,sr]) (by simp only [go_sem,fN,seval,eT,iR,AP,AO,hb,hr,hi,hni,n4,n901,n902,hbr,hrb,hbi,hib,hbn,hnb,hri,hir,hrn,hnr,hin,hnj,AG,Ab,sb,sr])) (⟨#[92]⟩ ++ nm ++ ⟨#[46]⟩) (by first | omega | (simp only [ByteArray.size_append] at *;omega)),?_⟩
  repeat' with_reducible first | refine W ?_ | refine Z0 ?_ | ((first | refine Wo fun K hK=>?_ | refine Wp ?_ | refine Wq ?_ | refine Wr ?_);(try simp only [go_sem,fN,seval,eT,iR,AP,AO,hb,hr,hi,hni,n4,n901,n902,hbr,hrb,hbi,hib,hbn,hnb,hri,hir,hrn,hnr,hin,hnj,AG,Ab,sb,sr,si,Lm.l,Lm.kind_mk,Lm.idx_mk,Lm.subs_mk,hml,dT,dF,nL]);(repeat refine Ai ?_);(try (refine hK _ ?_;clear hK K));try refine iC ?_)
  refine ⟨_,_,ih 0 (bs ++ (⟨#[92]⟩ ++ nm ++ ⟨#[46]⟩)) _ (up1 b) (up1 r) (up1 i) (up1 901) N _ (by decide) (by omega) hN2 (by simp only [ByteArray.size_append];omega) (AL _) (AL _) (AL _) (AL _) (.inr rfl) (G4 (by simp only [go_sem,fN,seval,eT,iR,AP,AO,hb,hr,hi,hni,n4,n901,n902,hbr,hrb,hbi,hib,hbn,hnb,hri,hir,hrn,hnr,hin,hnj,AG,Ab,hlen])) (Dr (by simp only [go_sem,fN,seval,eT,iR,AP,AO,hb,hr,hi,hni,n4,n901,n902,hbr,hrb,hbi,hib,hbn,hnb,hri,hir,hrn,hnr,hin,hnj,AG,Ab])) (En (by simp only [go_sem,fN,seval,eT,iR,AP,AO,hb,hr,hi,hni,n4,n901,n902,hbr,hrb,hbi,hib,hbn,hnb,hri,hir,hrn,hnr,hin,hnj,AG,Ab,hmap,Oi])) (Dq (by simp only [go_sem,fN,seval,eT,iR,AP,AO,hb,hr,hi,hni,n4,n901,n902,hbr,hrb,hbi,hib,hbn,hnb,hri,hir,hrn,hnr,hin,hnj,AG,Ab])),?_⟩
  rw [UF]
  repeat' with_reducible first | refine W ?_ | refine Z0 ?_ | ((first | refine Wo fun K hK=>?_ | refine Wp ?_ | refine Wq ?_ | refine Wr ?_);(try simp only [go_sem,fN,seval,eT,iR,Du,DG,AP,AO,hb,hr,hi,hni,n4,n901,n902,hbr,hrb,hbi,hib,hbn,hnb,hri,hir,hrn,hnr,hin,hnj,AG,Ab,hlen,hl2,hl3,dT,dF,nL]);(repeat refine Ai ?_);(try (refine hK _ ?_;clear hK K));try refine iC ?_)
  rw [← hW]
  refine P_ hS trivial hb hr hi (j:=901) (xs:=ns ++ [nm]) (c:=.part 901 ns.length (ns ++ [nm]).length) ?_ ?_ ?_ (by first | omega | (simp only [List.length_append,List.length_cons,List.length_nil];omega)) (by first | exact .inl rfl | exact .inr ⟨rfl,rfl⟩) (by simp) ?_ hbn hrn hrb (by omega) hni (.inr ⟨by decide,?_,hin,hib,hir⟩) fun k k1 k2 k3 k4=>?_
  ·simp only [go_sem,fN,seval,eT,iR,AP,AO,hb,hr,hi,hni,n4,n901,n902,hbr,hrb,hbi,hib,hbn,hnb,hri,hir,hrn,hnr,hin,hnj,AG,Ab,hlen]
  ·simp only [go_sem,fN,seval,eT,iR,AP,AO,hb,hr,hi,hni,n4,n901,n902,hbr,hrb,hbi,hib,hbn,hnb,hri,hir,hrn,hnr,hin,hnj,AG,Ab]
  ·simp only [go_sem,fN,seval,eT,iR,AP,AO,hb,hr,hi,hni,n4,n901,n902,hbr,hrb,hbi,hib,hbn,hnb,hri,hir,hrn,hnr,hin,hnj,AG,Ab]
  ·simp only [go_sem,fN,seval,eT,iR,AP,AO,hb,hr,hi,hni,n4,n901,n902,hbr,hrb,hbi,hib,hbn,hnb,hri,hir,hrn,hnr,hin,hnj,AG,Ab,sni]
  ·simp only [go_sem,fN,seval,eT,iR,AP,AO,hb,hr,hi,hni,n4,n901,n902,hbr,hrb,hbi,hib,hbn,hnb,hri,hir,hrn,hnr,hin,hnj,AG,Ab]
  ·simp only [go_sem,fN,seval,eT,iR,AP,AO,k1,k2,k3,k4,AG,Ab]
set_option maxRecDepth 100000 in
theorem TO {o:Nat} {ns:List ByteArray} {f x:Lm} {s t:ByteArray} (ihf:WrS o ns f s) (ihx:WrS o ns x t):WrS o ns (.a f x) (brk (decide (f.kind=2)) s ++ ⟨#[32]⟩ ++ brk (decide (x.kind=2 ∨ x.kind=3)) t):=by
 intro place bs p b r i ni N S hpl hN hN2 hz hb hr hi hni hp sb sr si sni
 have hbr:¬ b=r:=fun e=>by subst e;rw [sb] at sr;cases sr
 have hbi:¬ b=i:=fun e=>by subst e;rw [sb] at si;cases si
 have hbn:¬ b=ni:=fun e=>by subst e;rw [sb] at sni;cases sni
 have hri:¬ r=i:=fun e=>by subst e;rw [sr] at si;injection si with si;injection si with si;exact absurd si (by decide)
 have hrn:¬ r=ni:=fun e=>by subst e;rw [sr] at sni;cases sni
 have hin:¬ i=ni:=fun e=>by subst e;rw [si] at sni;cases sni
 have hrb:¬ r=b:=fun e=>hbr e.symm
 have hib:¬ i=b:=fun e=>hbi e.symm
 have hnb:¬ ni=b:=fun e=>hbn e.symm
 have hir:¬ i=r:=fun e=>hri e.symm
 have hnr:¬ ni=r:=fun e=>hrn e.symm
 have hnj:¬ ni=i:=fun e=>hin e.symm
 rw [Lm.size_a] at hN hz
 refine A5.acS fun hS C hC=>?_
 unfold At
 have n4:S 4=none:=AY hS (by omega)
 have n901:S 901=none:=AY hS (by omega)
 have n902:S 902=none:=AY hS (by omega)
 have h32:(⟨#[32]⟩:ByteArray).size=1:=rfl
 have h40:(⟨#[40]⟩:ByteArray).size=1:=rfl
 have h41:(⟨#[41]⟩:ByteArray).size=1:=rfl
 have hlen:ns.length=ns.length:=rfl
 have hbf:brk (decide (f.kind=2)) s=brk (brP f 1) s:=by
  unfold brP
  congr 1
  simp
 have hbx:brk (decide (x.kind=2 ∨ x.kind=3)) t=brk (brP x 2) t:=by
  unfold brP
  congr 1
  simp
 simp only [ByteArray.size_append] at hz
 rw [hbf,hbx] at hz
 rw [hbf,hbx]
 clear hbf hbx
 have hs1:=NM (brP f 1) s
 have ht1:=NM (brP x 2) t
 generalize hS1:brk (brP f 1) s=s1 at *
 generalize hT1:brk (brP x 2) t=t1 at *
 obtain ⟨p1,hp1,sb1⟩:=SQ (S:=S) (b:=b) (i:=i) (p:=p) hp sb
 by_cases hp0:1 < place
 ·have hbk:bs ++ brk (brP (.a f x) place) (s1 ++ ⟨#[32]⟩ ++ t1)=bs ++ ⟨#[40]⟩ ++ s1 ++ ⟨#[32]⟩ ++ t1 ++ ⟨#[41]⟩:=by
   unfold brP brk
   rw [if_pos]
   ·simp only [ByteArray.append_assoc]
   ·simp [Lm.a,Lm.kind,hp0]
  rw [hbk]
  obtain ⟨Sd,hW⟩:∃ Sd,DG S b r i ni N ns (bs ++ ⟨#[40]⟩ ++ s1 ++ ⟨#[32]⟩ ++ t1 ++ ⟨#[41]⟩) o=Sd:=⟨_,rfl⟩
  rw [hW]
  repeat' with_reducible first | refine W ?_ | refine Z0 ?_ | ((first | refine Wo fun K hK=>?_ | refine Wp ?_ | refine Wq ?_ | refine Wr ?_);(try simp only [go_sem,fN,seval,eT,iR,AS.startS,AP,AO,hb,hr,hi,hni,n4,n901,n902,hbr,hrb,hbi,hib,hbn,hnb,hri,hir,hrn,hnr,hin,hnj,AG,Ab,sb,sr,si,Lm.a,Lm.kind_mk,Lm.idx_mk,Lm.subs_mk,hp0,dT,dF,nL]);(repeat refine Ai ?_);(try (refine hK _ ?_;clear hK K));try refine iC ?_)
  refine ⟨_,_,CW (CR (bs:=bs) (c:=.row i ns.length) (o:=o) hbr hp (by simp only [go_sem,fN,seval,eT,iR,AP,AO,hb,hr,hi,hni,n4,n901,n902,hbr,hrb,hbi,hib,hbn,hnb,hri,hir,hrn,hnr,hin,hnj,AG,Ab,sb,sr]) (by simp only [go_sem,fN,seval,eT,iR,AP,AO,hb,hr,hi,hni,n4,n901,n902,hbr,hrb,hbi,hib,hbn,hnb,hri,hir,hrn,hnr,hin,hnj,AG,Ab,sb,sr])) 40 (by first | omega | (simp only [ByteArray.size_append] at *;omega)),?_⟩
  repeat' with_reducible first | refine W ?_ | refine Z0 ?_ | ((first | refine Wo fun K hK=>?_ | refine Wp ?_ | refine Wq ?_ | refine Wr ?_);(try simp only [go_sem,fN,seval,eT,iR,AS.startS,AP,AO,hb,hr,hi,hni,n4,n901,n902,hbr,hrb,hbi,hib,hbn,hnb,hri,hir,hrn,hnr,hin,hnj,AG,Ab,sb,sr,si,Lm.a,Lm.kind_mk,Lm.idx_mk,Lm.subs_mk,hp0,dT,dF,nL]);(repeat refine Ai ?_);(try (refine hK _ ?_;clear hK K));try refine iC ?_)
  have hc1:=ihf 1 (bs ++ ⟨#[40]⟩) (.ptr (up1 b) 1 0 0) (up1 b) (up1 r) (up1 i) (up1 901) N
  rw [hS1] at hc1
  refine ⟨_,_,hc1 _ (by decide) (by omega) hN2 (by simp only [ByteArray.size_append];omega) (AL _) (AL _) (AL _) (AL _) (.inr rfl) (G4 (by simp only [go_sem,fN,seval,eT,iR,AP,AO,hb,hr,hi,hni,n4,n901,n902,hbr,hrb,hbi,hib,hbn,hnb,hri,hir,hrn,hnr,hin,hnj,AG,Ab])) (Dr (by simp only [go_sem,fN,seval,eT,iR,AP,AO,hb,hr,hi,hni,n4,n901,n902,hbr,hrb,hbi,hib,hbn,hnb,hri,hir,hrn,hnr,hin,hnj,AG,Ab])) (En (by simp only [go_sem,fN,seval,eT,iR,AP,AO,hb,hr,hi,hni,n4,n901,n902,hbr,hrb,hbi,hib,hbn,hnb,hri,hir,hrn,hnr,hin,hnj,AG,Ab,si])) (Dq (by simp only [go_sem,fN,seval,eT,iR,AP,AO,hb,hr,hi,hni,n4,n901,n902,hbr,hrb,hbi,hib,hbn,hnb,hri,hir,hrn,hnr,hin,hnj,AG,Ab])),?_⟩
  repeat' with_reducible first | refine W ?_ | refine Z0 ?_ | ((first | refine Wo fun K hK=>?_ | refine Wp ?_ | refine Wq ?_ | refine Wr ?_);(try simp only [go_sem,fN,seval,eT,iR,Du,DG,AP,AO,hb,hr,hi,hni,n4,n901,n902,hbr,hrb,hbi,hib,hbn,hnb,hri,hir,hrn,hnr,hin,hnj,AG,Ab,hp0,dT,dF,nL]);(repeat refine Ai ?_);(try (refine hK _ ?_;clear hK K));try refine iC ?_)
  refine ⟨_,_,CW (CR (bs:=bs ++ ⟨#[40]⟩ ++ s1) (c:=.row 901 ns.length) (o:=o) hbr (.inr rfl) (by simp only [go_sem,fN,seval,eT,iR,AP,AO,hb,hr,hi,hni,n4,n901,n902,hbr,hrb,hbi,hib,hbn,hnb,hri,hir,hrn,hnr,hin,hnj,AG,Ab,sb,sr]) (by simp only [go_sem,fN,seval,eT,iR,AP,AO,hb,hr,hi,hni,n4,n901,n902,hbr,hrb,hbi,hib,hbn,hnb,hri,hir,hrn,hnr,hin,hnj,AG,Ab,sb,sr])) 32 (by first | omega | (simp only [ByteArray.size_append] at *;omega)),?_⟩
  repeat' with_reducible first | refine W ?_ | refine Z0 ?_ | ((first | refine Wo fun K hK=>?_ | refine Wp ?_ | refine Wq ?_ | refine Wr ?_);(try simp only [go_sem,fN,seval,eT,iR,AS.startS,AP,AO,hb,hr,hi,hni,n4,n901,n902,hbr,hrb,hbi,hib,hbn,hnb,hri,hir,hrn,hnr,hin,hnj,AG,Ab,sb,sr,si,Lm.a,Lm.kind_mk,Lm.idx_mk,Lm.subs_mk,hp0,dT,dF,nL]);(repeat refine Ai ?_);(try (refine hK _ ?_;clear hK K));try refine iC ?_)
  have hc2:=ihx 2 (bs ++ ⟨#[40]⟩ ++ s1 ++ ⟨#[32]⟩) (.ptr (up1 b) 1 0 0) (up1 b) (up1 r) (up1 901) (up1 902) N
  rw [hT1] at hc2
  refine ⟨_,_,hc2 _ (by decide) (by omega) hN2 (by simp only [ByteArray.size_append];omega) (AL _) (AL _) (AL _) (AL _) (.inr rfl) (G4 (by simp only [go_sem,fN,seval,eT,iR,AP,AO,hb,hr,hi,hni,n4,n901,n902,hbr,hrb,hbi,hib,hbn,hnb,hri,hir,hrn,hnr,hin,hnj,AG,Ab])) (Dr (by simp only [go_sem,fN,seval,eT,iR,AP,AO,hb,hr,hi,hni,n4,n901,n902,hbr,hrb,hbi,hib,hbn,hnb,hri,hir,hrn,hnr,hin,hnj,AG,Ab])) (En (by simp only [go_sem,fN,seval,eT,iR,AP,AO,hb,hr,hi,hni,n4,n901,n902,hbr,hrb,hbi,hib,hbn,hnb,hri,hir,hrn,hnr,hin,hnj,AG,Ab])) (Dq (by simp only [go_sem,fN,seval,eT,iR,AP,AO,hb,hr,hi,hni,n4,n901,n902,hbr,hrb,hbi,hib,hbn,hnb,hri,hir,hrn,hnr,hin,hnj,AG,Ab])),?_⟩
  repeat' with_reducible first | refine W ?_ | refine Z0 ?_ | ((first | refine Wo fun K hK=>?_ | refine Wp ?_ | refine Wq ?_ | refine Wr ?_);(try simp only [go_sem,fN,seval,eT,iR,Du,DG,AP,AO,hb,hr,hi,hni,n4,n901,n902,hbr,hrb,hbi,hib,hbn,hnb,hri,hir,hrn,hnr,hin,hnj,AG,Ab,hp0,dT,dF,nL]);(repeat refine Ai ?_);(try (refine hK _ ?_;clear hK K));try refine iC ?_)
  refine ⟨_,_,CW (CR (bs:=bs ++ ⟨#[40]⟩ ++ s1 ++ ⟨#[32]⟩ ++ t1) (c:=.row 902 ns.length) (o:=o) hbr (.inr rfl) (by simp only [go_sem,fN,seval,eT,iR,AP,AO,hb,hr,hi,hni,n4,n901,n902,hbr,hrb,hbi,hib,hbn,hnb,hri,hir,hrn,hnr,hin,hnj,AG,Ab,sb,sr]) (by simp only [go_sem,fN,seval,eT,iR,AP,AO,hb,hr,hi,hni,n4,n901,n902,hbr,hrb,hbi,hib,hbn,hnb,hri,hir,hrn,hnr,hin,hnj,AG,Ab,sb,sr])) 41 (by first | omega | (simp only [ByteArray.size_append] at *;omega)),?_⟩
  repeat' with_reducible first | refine W ?_ | refine Z0 ?_ | ((first | refine Wo fun K hK=>?_ | refine Wp ?_ | refine Wq ?_ | refine Wr ?_);(try simp only [go_sem,fN,seval,eT,iR,AS.startS,AP,AO,hb,hr,hi,hni,n4,n901,n902,hbr,hrb,hbi,hib,hbn,hnb,hri,hir,hrn,hnr,hin,hnj,AG,Ab,dT,dF,nL]);(repeat refine Ai ?_);(try (refine hK _ ?_;clear hK K));try refine iC ?_)
  rw [← hW]
  refine P_ hS trivial hb hr hi (j:=902) (xs:=ns) (c:=.row 902 ns.length) ?_ ?_ ?_ (by first | omega | (simp only [List.length_append,List.length_cons,List.length_nil];omega)) (by first | exact .inl rfl | exact .inr ⟨rfl,rfl⟩) (by simp) ?_ hbn hrn hrb (by omega) hni (.inr ⟨by decide,?_,hin,hib,hir⟩) fun k k1 k2 k3 k4=>?_
  ·simp only [go_sem,fN,seval,eT,iR,AP,AO,hb,hr,hi,hni,n4,n901,n902,hbr,hrb,hbi,hib,hbn,hnb,hri,hir,hrn,hnr,hin,hnj,AG,Ab,hlen]
  ·simp only [go_sem,fN,seval,eT,iR,AP,AO,hb,hr,hi,hni,n4,n901,n902,hbr,hrb,hbi,hib,hbn,hnb,hri,hir,hrn,hnr,hin,hnj,AG,Ab]
  ·simp only [go_sem,fN,seval,eT,iR,AP,AO,hb,hr,hi,hni,n4,n901,n902,hbr,hrb,hbi,hib,hbn,hnb,hri,hir,hrn,hnr,hin,hnj,AG,Ab]
  ·simp only [go_sem,fN,seval,eT,iR,AP,AO,hb,hr,hi,hni,n4,n901,n902,hbr,hrb,hbi,hib,hbn,hnb,hri,hir,hrn,hnr,hin,hnj,AG,Ab,sni]
  ·simp only [go_sem,fN,seval,eT,iR,AP,AO,hb,hr,hi,hni,n4,n901,n902,hbr,hrb,hbi,hib,hbn,hnb,hri,hir,hrn,hnr,hin,hnj,AG,Ab]
  ·simp only [go_sem,fN,seval,eT,iR,AP,AO,k1,k2,k3,k4,AG,Ab]
 ·have hbk:bs ++ brk (brP (.a f x) place) (s1 ++ ⟨#[32]⟩ ++ t1)=bs ++ s1 ++ ⟨#[32]⟩ ++ t1:=by
   unfold brP brk
   rw [if_neg]
   ·simp only [ByteArray.append_assoc]
   ·simp [Lm.a,Lm.kind,hp0]
  rw [hbk]
  obtain ⟨Sd,hW⟩:∃ Sd,DG S b r i ni N ns (bs ++ s1 ++ ⟨#[32]⟩ ++ t1) o=Sd:=⟨_,rfl⟩
  rw [hW]
  repeat' with_reducible first | refine W ?_ | refine Z0 ?_ | ((first | refine Wo fun K hK=>?_ | refine Wp ?_ | refine Wq ?_ | refine Wr ?_);(try simp only [go_sem,fN,seval,eT,iR,AS.startS,AP,AO,hb,hr,hi,hni,n4,n901,n902,hbr,hrb,hbi,hib,hbn,hnb,hri,hir,hrn,hnr,hin,hnj,AG,Ab,sb,sr,si,Lm.a,Lm.kind_mk,Lm.idx_mk,Lm.subs_mk,hp0,dT,dF,nL]);(repeat refine Ai ?_);(try (refine hK _ ?_;clear hK K));try refine iC ?_)
  have hc1:=fun S'=>ihf 1 bs p1 (up1 b) (up1 r) (up1 i) (up1 901) N S'
  rw [hS1] at hc1
  have sbx:∀ S':AA,S' b=some (Hu p r bs.size (.row i ns.length) o)→upS S' (up1 b)=some (Hu p1 (up1 r) bs.size (.row (up1 i) ns.length) o):=fun S' h=>by rw [C5,h,← sb,← C5,sb1]
  refine ⟨_,_,hc1 _ (by decide) (by omega) hN2 (by omega) (AL _) (AL _) (AL _) (AL _) hp1 (sbx _ (by simp only [go_sem,fN,seval,eT,iR,AP,AO,hb,hr,hi,hni,n4,n901,n902,hbr,hrb,hbi,hib,hbn,hnb,hri,hir,hrn,hnr,hin,hnj,AG,Ab,sb])) (Dr (by simp only [go_sem,fN,seval,eT,iR,AP,AO,hb,hr,hi,hni,n4,n901,n902,hbr,hrb,hbi,hib,hbn,hnb,hri,hir,hrn,hnr,hin,hnj,AG,Ab,sr])) (En (by simp only [go_sem,fN,seval,eT,iR,AP,AO,hb,hr,hi,hni,n4,n901,n902,hbr,hrb,hbi,hib,hbn,hnb,hri,hir,hrn,hnr,hin,hnj,AG,Ab,si])) (Dq (by simp only [go_sem,fN,seval,eT,iR,AP,AO,hb,hr,hi,hni,n4,n901,n902,hbr,hrb,hbi,hib,hbn,hnb,hri,hir,hrn,hnr,hin,hnj,AG,Ab])),?_⟩
  repeat' with_reducible first | refine W ?_ | refine Z0 ?_ | ((first | refine Wo fun K hK=>?_ | refine Wp ?_ | refine Wq ?_ | refine Wr ?_);(try simp only [go_sem,fN,seval,eT,iR,Du,DG,AP,AO,hb,hr,hi,hni,n4,n901,n902,hbr,hrb,hbi,hib,hbn,hnb,hri,hir,hrn,hnr,hin,hnj,AG,Ab,hp0,dT,dF,nL]);(repeat refine Ai ?_);(try (refine hK _ ?_;clear hK K));try refine iC ?_)
  refine ⟨_,_,CW (CR (bs:=bs ++ s1) (c:=.row 901 ns.length) (o:=o) hbr (.inr rfl) (by simp only [go_sem,fN,seval,eT,iR,AP,AO,hb,hr,hi,hni,n4,n901,n902,hbr,hrb,hbi,hib,hbn,hnb,hri,hir,hrn,hnr,hin,hnj,AG,Ab,sb,sr]) (by simp only [go_sem,fN,seval,eT,iR,AP,AO,hb,hr,hi,hni,n4,n901,n902,hbr,hrb,hbi,hib,hbn,hnb,hri,hir,hrn,hnr,hin,hnj,AG,Ab,sb,sr])) 32 (by first | omega | (simp only [ByteArray.size_append] at *;omega)),?_⟩
  repeat' with_reducible first | refine W ?_ | refine Z0 ?_ | ((first | refine Wo fun K hK=>?_ | refine Wp ?_ | refine Wq ?_ | refine Wr ?_);(try simp only [go_sem,fN,seval,eT,iR,AS.startS,AP,AO,hb,hr,hi,hni,n4,n901,n902,hbr,hrb,hbi,hib,hbn,hnb,hri,hir,hrn,hnr,hin,hnj,AG,Ab,sb,sr,si,Lm.a,Lm.kind_mk,Lm.idx_mk,Lm.subs_mk,hp0,dT,dF,nL]);(repeat refine Ai ?_);(try (refine hK _ ?_;clear hK K));try refine iC ?_)
  have hc2:=ihx 2 (bs ++ s1 ++ ⟨#[32]⟩) (.ptr (up1 b) 1 0 0) (up1 b) (up1 r) (up1 901) (up1 902) N
  rw [hT1] at hc2
  refine ⟨_,_,hc2 _ (by decide) (by omega) hN2 (by simp only [ByteArray.size_append];omega) (AL _) (AL _) (AL _) (AL _) (.inr rfl) (G4 (by simp only [go_sem,fN,seval,eT,iR,AP,AO,hb,hr,hi,hni,n4,n901,n902,hbr,hrb,hbi,hib,hbn,hnb,hri,hir,hrn,hnr,hin,hnj,AG,Ab])) (Dr (by simp only [go_sem,fN,seval,eT,iR,AP,AO,hb,hr,hi,hni,n4,n901,n902,hbr,hrb,hbi,hib,hbn,hnb,hri,hir,hrn,hnr,hin,hnj,AG,Ab])) (En (by simp only [go_sem,fN,seval,eT,iR,AP,AO,hb,hr,hi,hni,n4,n901,n902,hbr,hrb,hbi,hib,hbn,hnb,hri,hir,hrn,hnr,hin,hnj,AG,Ab])) (Dq (by simp only [go_sem,fN,seval,eT,iR,AP,AO,hb,hr,hi,hni,n4,n901,n902,hbr,hrb,hbi,hib,hbn,hnb,hri,hir,hrn,hnr,hin,hnj,AG,Ab])),?_⟩
  repeat' with_reducible first | refine W ?_ | refine Z0 ?_ | ((first | refine Wo fun K hK=>?_ | refine Wp ?_ | refine Wq ?_ | refine Wr ?_);(try simp only [go_sem,fN,seval,eT,iR,Du,DG,AP,AO,hb,hr,hi,hni,n4,n901,n902,hbr,hrb,hbi,hib,hbn,hnb,hri,hir,hrn,hnr,hin,hnj,AG,Ab,hp0,dT,dF,nL]);(repeat refine Ai ?_);(try (refine hK _ ?_;clear hK K));try refine iC ?_)
  rw [← hW]
  refine P_ hS trivial hb hr hi (j:=902) (xs:=ns) (c:=.row 902 ns.length) ?_ ?_ ?_ (by first | omega | (simp only [List.length_append,List.length_cons,List.length_nil];omega)) (by first | exact .inl rfl | exact .inr ⟨rfl,rfl⟩) (by simp) ?_ hbn hrn hrb (by omega) hni (.inr ⟨by decide,?_,hin,hib,hir⟩) fun k k1 k2 k3 k4=>?_
  ·simp only [go_sem,fN,seval,eT,iR,AP,AO,hb,hr,hi,hni,n4,n901,n902,hbr,hrb,hbi,hib,hbn,hnb,hri,hir,hrn,hnr,hin,hnj,AG,Ab,hlen]
  ·simp only [go_sem,fN,seval,eT,iR,AP,AO,hb,hr,hi,hni,n4,n901,n902,hbr,hrb,hbi,hib,hbn,hnb,hri,hir,hrn,hnr,hin,hnj,AG,Ab]
  ·simp only [go_sem,fN,seval,eT,iR,AP,AO,hb,hr,hi,hni,n4,n901,n902,hbr,hrb,hbi,hib,hbn,hnb,hri,hir,hrn,hnr,hin,hnj,AG,Ab]
  ·simp only [go_sem,fN,seval,eT,iR,AP,AO,hb,hr,hi,hni,n4,n901,n902,hbr,hrb,hbi,hib,hbn,hnb,hri,hir,hrn,hnr,hin,hnj,AG,Ab,sni]
  ·simp only [go_sem,fN,seval,eT,iR,AP,AO,hb,hr,hi,hni,n4,n901,n902,hbr,hrb,hbi,hib,hbn,hnb,hri,hir,hrn,hnr,hin,hnj,AG,Ab]
  ·simp only [go_sem,fN,seval,eT,iR,AP,AO,k1,k2,k3,k4,AG,Ab]
theorem Tn {o:Nat} {ns:List ByteArray} {t:Lm} {s:ByteArray} (h:LTx 120 o ns t s):WrS o ns t s:=by
 induction h with
 | v h hn=>exact Tj h hn
 | c h=>exact S_ h
 | l ho h ih=>exact TW ho ih
 | a hf hx ihf ihx=>exact TO ihf ihx

theorem Mp:∀ (p l:List ByteArray),D9 p l=0→(∀ n ∈ l,A9 n=true∧Ac n 0 ≠ 120∧Ac n 0 ≠ 99∧n ∉ p)∧l.Nodup
 | _,[],_=>⟨fun n h=>by simp at h,List.nodup_nil⟩
 | p,n :: r,h=>by
  rw [D9] at h
  by_cases h1:A9 n=true∧Ac n 0 ≠ 120∧Ac n 0 ≠ 99
  ·rw [if_pos h1] at h
   by_cases h2:I5 n p=true
   ·rw [if_pos h2] at h
    exact absurd h (by decide)
   ·rw [if_neg h2] at h
    obtain ⟨q1,q2⟩:=Mp (p ++ [n]) r h
    have hnp:n ∉ p:=fun e=>h2 (Js.2 e)
    refine ⟨fun m hm=>?_,List.nodup_cons.2 ⟨fun hn=>?_,q2⟩⟩
    ·rcases List.mem_cons.1 hm with rfl | hm
     ·exact ⟨h1.1,h1.2.1,h1.2.2,hnp⟩
     ·obtain ⟨a,b,c,d⟩:=q1 m hm
      exact ⟨a,b,c,fun e=>d (List.mem_append_left _ e)⟩
    ·exact (q1 n hn).2.2.2 (by simp)
  ·rw [if_neg h1] at h
   exact absurd h (by decide)
theorem OK {l:List ByteArray} (h:Cm l=0):l.length≤40∧(∀ n ∈ l,A9 n=true∧Ac n 0 ≠ 120∧Ac n 0 ≠ 99)∧l.Nodup:=by
 unfold Cm at h
 by_cases h1:40 < l.length
 ·rw [if_pos h1] at h
  exact absurd h (by decide)
 ·rw [if_neg h1] at h
  obtain ⟨q1,q2⟩:=Mp [] l h
  exact ⟨by omega,fun n hn=>⟨(q1 n hn).1,(q1 n hn).2.1,(q1 n hn).2.2.1⟩,q2⟩

theorem RI (l:List ByteArray) (hl:l.length≤1000000):Fy Tryz.prog 39 [Eh l] 9 1 (l.map Cw) true:=by
 unfold Fy
 rw [List.length_map]
 refine B_.acS fun hS C hC=>?_
 unfold BY
 by_cases h0:l.length=0
 ·have hl:l=[]:=List.eq_nil_of_length_eq_zero h0
  subst hl
  repeat' with_reducible first | refine W ?_ | refine Z0 ?_ | ((first | refine Wo fun K hK=>?_ | refine Wp ?_ | refine Wq ?_ | refine Wr ?_);(try simp only [go_sem,fN,seval,eT,iR,dT,dF,nL]);(repeat refine Ai ?_);(try (refine hK _ ?_;clear hK K));try refine iC ?_)
  refine ⟨?_,?_⟩
  ·repeat' with_reducible first | refine W ?_ | refine Z0 ?_ | ((first | refine Wo fun K hK=>?_ | refine Wp ?_ | refine Wq ?_ | refine Wr ?_);(try simp only [go_sem,fN,seval,eT,iR,dT,dF,nL]);(repeat refine Ai ?_);(try (refine hK _ ?_;clear hK K));try refine iC ?_)
   refine Ei (Am.ownM (C:=C) 2 30 9 1 rfl rfl (by omega)) ?_
   exact PY (mu:=true) trivial 30 (by decide) rfl (fun i hi=>by show AK _ _ _ _=_;rw [AJ _ (by omega)];rfl) rfl
  ·repeat' with_reducible first | refine W ?_ | refine Z0 ?_ | ((first | refine Wo fun K hK=>?_ | refine Wp ?_ | refine Wq ?_ | refine Wr ?_);(try simp only [go_sem,fN,seval,eT,iR,dT,dF,nL]);(repeat refine Ai ?_);(try (refine hK _ ?_;clear hK K));try refine iC ?_)
   exact PY (mu:=true) trivial 7 (by decide) rfl (fun i hi=>by show AK _ _ _ _=_;rw [AJ _ (by omega)];rfl) rfl
 ·have hb:l.length * 16≤140737488355328:=by omega
  repeat' with_reducible first | refine W ?_ | refine Z0 ?_ | ((first | refine Wo fun K hK=>?_ | refine Wp ?_ | refine Wq ?_ | refine Wr ?_);(try simp only [go_sem,fN,seval,eT,iR,h0,hb,dT,dF,nL]);(repeat refine Ai ?_);(try (refine hK _ ?_;clear hK K));try refine iC ?_)
  exact PY (mu:=true) trivial 7 (by decide) rfl (fun i hi=>by show AK _ _ _ _=_;rw [AJ _ (by omega)];rfl) rfl
set_option maxRecDepth 100000 in
theorem TY {free:List ByteArray} {t:Lm} {s:ByteArray} (h:LTx 120 free.length free t s) (h0:0 < s.size) (hz:s.size + 4 * t.size≤100000000) (hl:free.length + t.size≤900000):AW Tryz.prog 41 [aLm t,Eh free] (CM s):=by
 have hw:=Tn h
 refine Jv.ac fun C hC=>?_
 unfold Fd
 repeat' with_reducible first | refine W ?_ | refine Z0 ?_ | ((first | refine Wo fun K hK=>?_ | refine Wp ?_ | refine Wq ?_ | refine Wr ?_);(try simp only [go_sem,fN,seval,eT,iR,dT,dF,nL]);(repeat refine Ai ?_);(try (refine hK _ ?_;clear hK K));try refine iC ?_)
 refine HS.mk _ _ _ _ (RI free (by omega)) ⟨rfl,by simp,?_⟩
 have hml:(free.map Cw).length=free.length:=by simp
 repeat' (first | (with_reducible first | refine W ?_ | refine Z0 ?_) | (first | refine IWP.ghost (Am.ownCell (e':=u8W) (id:=11) (r:=900) 1 1 rfl rfl rfl (by decide)) ?_) | (with_reducible ((first | refine Wo fun K hK=>?_ | refine Wp ?_ | refine Wq ?_ | refine Wr ?_);(try simp only [go_sem,fN,seval,eT,iR,hml,GB,dT,dF,nL]);(repeat refine Ai ?_);(try (refine hK _ ?_;clear hK K));try refine iC ?_)))
 have hc:=fun S'=>hw 0 ⟨#[]⟩ (.st (.lit (.pointer none))) (up1 11) (up1 900) (up1 9) (up1 901) (free.length + t.size + 1) S' (by decide) (by omega) (by omega) (by show 0 + s.size + _≤_;omega) (AL _) (AL _) (AL _) (AL _) (.inl rfl)
 rw [UF] at hc
 have he:⟨#[]⟩ ++ s=s:=ByteArray.empty_append
 rw [he] at hc
 refine ⟨_,_,hc _ (Qq (r:=900) (i:=9) (n:=0) (m:=free.length) (o:=free.length) ?_) (Dr (bs:=⟨#[]⟩) ?_) (En (ns:=free) ?_) (Dq ?_),?_⟩
 ·rfl
 ·rfl
 ·rfl
 ·rfl
 repeat' with_reducible first | refine W ?_ | refine Z0 ?_ | ((first | refine Wo fun K hK=>?_ | refine Wp ?_ | refine Wq ?_ | refine Wr ?_);(try simp only [go_sem,fN,seval,eT,iR,Du,DG,dT,dF,nL]);(repeat refine Ai ?_);(try (refine hK _ ?_;clear hK K));try refine iC ?_)
 refine ⟨_,_,HZ (CR (b:=11) (r:=900) (bs:=s) (c:=.row 901 free.length) (o:=free.length) (by decide) (.inr rfl) (by simp only [go_sem,fN,seval,eT,iR]) (by simp only [go_sem,fN,seval,eT,iR])) h0 (by omega),?_⟩
 repeat' with_reducible first | refine W ?_ | refine Z0 ?_ | ((first | refine Wo fun K hK=>?_ | refine Wp ?_ | refine Wq ?_ | refine Wr ?_);(try simp only [go_sem,fN,seval,eT,iR,dT,dF,nL]);(repeat refine Ai ?_);(try (refine hK _ ?_;clear hK K));try refine iC ?_)
 simp only [go_sem,fN,seval,AR,AS.result,AB,AE,AQ]

theorem Rm {t:Lm} {free:List ByteArray} {s:ByteArray} (hf:Cm free=0) (hm:t.may 0 free.length=0) (hs:LTx 120 free.length free t s) (h0:0 < s.size) (hz:s.size≤4000):AW Tryz.prog 18 [aLm t,Eh free] (.tup [CM s,Ad 0]):=by
 have h200:t.size≤200:=by
  unfold Lm.may at hm
  split at hm
  ·cases hm
  ·split at hm
   ·cases hm
   ·omega
 have h40:=(OK hf).1
 have hc:=DX t free.length
 have hn:=Ib free
 have hw:=TY hs h0 (by omega) (by omega)
 rw [hf] at hn
 rw [hm] at hc
 refine Ju.ac fun C hC=>?_
 unfold FQ
 repeat' (first | (with_reducible first | refine W ?_ | refine Z0 ?_ | ((first | refine Wo fun K hK=>?_ | refine Wp ?_ | refine Wq ?_ | refine Wr ?_);(try simp only [go_sem,fN,seval,eT,iR,dT,dF,nL]);(repeat refine Ai ?_);(try (refine hK _ ?_;clear hK K));try refine iC ?_)) | refine Cg _ (hn) ?_ | refine Cg _ (hc) ?_ | refine Cg _ (hw) ?_)
 simp only [go_sem,fN,seval,AR,AS.result,AB,AE,AQ]

def Lm.stepR (t:Lm):AV:=.tup [aLm (t.outer.getD t),CH t.outer.isSome]
theorem Lm.outer_top {t y:Lm} (h:Lm.top t.kind t.subs=some y):t.outer=some y:=by rw [Lm.outer_eq,h]
theorem Lm.outer_none {t:Lm} (h:Lm.top t.kind t.subs=none) (h2:Lm.outers t.subs=none):t.outer=none:=by rw [Lm.outer_eq,h,h2]
theorem Lm.outer_some {t:Lm} {ys:List Lm} (h:Lm.top t.kind t.subs=none) (h2:Lm.outers t.subs=some ys):t.outer=some (.mk t.kind t.idx ys):=by rw [Lm.outer_eq,h,h2]
theorem Sb (t:Lm) (hw:t.wf) (hg:t.good 1000000000) (hz:t.size≤1000000000):AW Tryz.prog 24 [aLm t] t.stepR:=by
 induction h:SizeOf.sizeOf t using Nat.strongRecOn generalizing t with
 | _ N ih =>
 subst h
 have hs:=Lm.size_eq t
 have hlen:=Lm.length_le t.subs
 unfold Lm.stepR
 rcases Lm.top_cases hw with ⟨f,x,b,h1,h2,h3,h4,h5⟩ | ⟨h5,h6⟩
 ·have hr:t.isRed=true:=by unfold Lm.isRed;rw [h5];rfl
  have hf:f ∈ t.subs:=by rw [h2];simp
  have hx:x ∈ t.subs:=by rw [h2];simp
  have hb:b ∈ f.subs:=by rw [h4];simp
  have s1:=Lm.size_sub hf
  have s2:=Lm.size_sub hx
  have s3:=Lm.size_sub hb
  rw [Lm.outer_top h5]
  refine FC.ac fun C hC=>?_
  unfold Db
  repeat' (first | (with_reducible first | refine W ?_ | refine Z0 ?_ | ((first | refine Wo fun K hK=>?_ | refine Wp ?_ | refine Wq ?_ | refine Wr ?_);(try simp only [go_sem,fN,seval,eT,iR,hr,dT,dF,nL]);(repeat refine Ai ?_);(try (refine hK _ ?_;clear hK K));try refine iC ?_)) | refine Cg _ (MP t hw) ?_ | refine Cg _ (US t f x b h2 h4 (Lm.good_sub (Lm.good_sub hg hf) hb) (Lm.good_sub hg hx) (by omega) (by omega)) ?_)
  simp only [go_sem,fN,seval,AR,AS.result,AB,AE,AQ]
 ·have hr:t.isRed=false:=by unfold Lm.isRed;rw [h5];rfl
  refine FC.ac fun C hC=>?_
  unfold Db
  repeat' (first | (with_reducible first | refine W ?_ | refine Z0 ?_ | ((first | refine Wo fun K hK=>?_ | refine Wp ?_ | refine Wq ?_ | refine Wr ?_);(try simp only [go_sem,fN,seval,eT,iR,hr,dT,dF,nL]);(repeat refine Ai ?_);(try (refine hK _ ?_;clear hK K));try refine iC ?_)) | refine Cg _ (MP t hw) ?_)
  refine IWP.loopD [5,6] (fun n s=>∃ k,k≤t.subs.length∧n=t.subs.length - k∧Lm.outers (t.subs.take k)=none∧s.env 1=.one (.ptr 1 1 0 0)∧s.env 2=.one (.ptr 2 1 0 0)∧s.S 1=some (.box 25 [.st (.int .i64 t.kind),.st (.int .i64 t.idx),.st (.list (t.subs.map Ci))])∧s.S 2=some (.box 25 [.st (.int .i64 0),.st (.int .i64 0),.full []])∧s.env 13=UH t.subs∧s.env 14=Ad t.subs.length∧s.env 15=Ad k∧s.S 5=none∧s.S 6=none) t.subs.length ⟨0,Nat.zero_le _,rfl,rfl,rfl,rfl,rfl,rfl,rfl,rfl,rfl,rfl,rfl⟩ ?_
  rintro n ⟨env,S⟩ ⟨k,hk',rfl,hp,e1,e2,s1,s2,e13,e14,e15,s5,s6⟩
  simp only at e1 e2 s1 s2 e13 e14 e15 s5 s6
  by_cases hlt:(k:Int) < t.subs.length
  ·obtain ⟨a,ha⟩:=Bk (show k < t.subs.length by omega)
   have z3:=Lm.size_sub (Ae ha)
   have ih':=ih _ (Lm.lt_of_sub (Ae ha)) a (Lm.wf_sub hw (Ae ha)) (Lm.good_sub hg (Ae ha)) (by omega) rfl
   unfold Lm.stepR at ih'
   cases ho:a.outer with
   | none =>
    rw [ho] at ih'
    repeat' (first | (with_reducible first | refine W ?_ | refine Z0 ?_ | ((first | refine Wo fun K hK=>?_ | refine Wp ?_ | refine Wq ?_ | refine Wr ?_);(try simp only [go_sem,fN,seval,eT,iR,e1,e2,s1,s2,e13,e14,e15,s5,s6,ha,hlt,dT,dF,nL]);(repeat refine Ai ?_);(try (refine hK _ ?_;clear hK K));try refine iC ?_)) | refine Cg _ (ih') ?_)
    refine Ag ⟨t.subs.length - (k + 1),by omega,k + 1,by omega,rfl,?_⟩
    simp only [go_sem,fN,seval,AS.drop,CN,AC.clears,AC.clear,AC.highs,AC.high,Bool.not_false,Bool.true_and,Bool.and_self,AV.purge,AV.purges,AC.purge,AU.purge,List.contains_cons,List.contains_nil,Nat.reduceBEq,Bool.or_self,Bool.or_false,Bool.false_or,Bool.or_true,eT,iR,e1,e2,s1,s2,e13,e14,e15,s5,s6]
    exact ⟨Lm.outers_none ha hp ho,by congr 3⟩
   | some y =>
    rw [ho] at ih'
    rw [Lm.outer_some h5 (Lm.outers_some ha hp ho)]
    repeat' (first | (with_reducible first | refine W ?_ | refine Z0 ?_ | ((first | refine Wo fun K hK=>?_ | refine Wp ?_ | refine Wq ?_ | refine Wr ?_);(try simp only [go_sem,fN,seval,eT,iR,e1,e2,s1,s2,e13,e14,e15,s5,s6,ha,hlt,dT,dF,nL]);(repeat refine Ai ?_);(try (refine hK _ ?_;clear hK K));try refine iC ?_)) | refine Cg _ (ih') ?_ | refine Cg _ (TC t y k (by omega) (by omega)) ?_)
    simp only [go_sem,fN,seval,AR,AS.result,AB,AE,AQ,e2]
    try simp [Lm.kind_mk,Lm.idx_mk,Lm.subs_mk]
  ·rw [List.take_of_length_le (by omega)] at hp
   rw [Lm.outer_none h5 hp]
   repeat' with_reducible first | refine W ?_ | refine Z0 ?_ | ((first | refine Wo fun K hK=>?_ | refine Wp ?_ | refine Wq ?_ | refine Wr ?_);(try simp only [go_sem,fN,seval,eT,iR,e1,e2,s1,s2,e13,e14,e15,s5,s6,hlt,dT,dF,nL]);(repeat refine Ai ?_);(try (refine hK _ ?_;clear hK K));try refine iC ?_)
   simp only [go_sem,fN,seval,AR,AS.result,AB,AE,AQ,e2]
   try simp [Lm.kind_mk,Lm.idx_mk,Lm.subs_mk]

abbrev T5 (r:Lm × Int × Int):AV:=.tup [aLm r.1,Ad r.2.1,Ad r.2.2]
theorem S6 (t:Lm) (m:Nat) (hm:m≤400) (hw:t.wf) (hz:t.size≤2000) (hg:t.good 1000000):AW Tryz.prog 23 [aLm t,Ad m,.one (.fn 24 [])] (T5 (Lm.run m 0 t)):=by
 refine Iz.ac fun C hC=>?_
 unfold FY
 repeat' with_reducible first | refine W ?_ | refine Z0 ?_ | ((first | refine Wo fun K hK=>?_ | refine Wp ?_ | refine Wq ?_ | refine Wr ?_);(try simp only [go_sem,fN,seval,eT,iR,dT,dF,nL]);(repeat refine Ai ?_);(try (refine hK _ ?_;clear hK K));try refine iC ?_)
 refine IWP.loopD [10] (fun n s=>∃ (k:Nat) (t':Lm),k≤m∧n=m - k∧Lm.run (m - k) k t'=Lm.run m 0 t∧t'.wf∧t'.size≤2000∧t'.good (1000000 + 2000 * k)∧s.env 1=Ad m∧s.env 2=.one (.fn 24 [])∧s.env 3=.one (.ptr 3 1 0 0)∧s.env 6=.one (.ptr 6 1 0 0)∧s.S 3=some (.box 25 [.st (.int .i64 t'.kind),.st (.int .i64 t'.idx),.st (.list (t'.subs.map Ci))])∧s.S 6=some (.box 25 [.st (.int .i64 0),.st (.int .i64 0),.full []])∧s.env 9=Ad k∧s.S 10=none) m
  ⟨0,t,Nat.zero_le _,rfl,rfl,hw,hz,by simpa using hg,rfl,rfl,rfl,rfl,rfl,rfl,rfl,rfl⟩ ?_
 rintro n ⟨env,S⟩ ⟨k,t',hk,rfl,hR,hw',hz',hg',e1,e2,e3,e6,s3,s6,e9,s10⟩
 simp only at e1 e2 e3 e6 s3 s6 e9 s10
 have hg9:=Lm.good_mono (c:=1000000000) (by omega) t' hg'
 have hO:=Sb t' hw' hg9 (by omega)
 unfold Lm.stepR at hO
 rw [← hR]
 cases ho:t'.outer with
 | none =>
  rw [ho] at hO
  rw [Lm.run_none ho]
  repeat' with_reducible first | refine W ?_ | refine Z0 ?_ | ((first | refine Wo fun K hK=>?_ | refine Wp ?_ | refine Wq ?_ | refine Wr ?_);(try simp only [go_sem,fN,seval,eT,iR,e1,e2,e3,e6,s3,s6,e9,s10,dT,dF,nL]);(repeat refine Ai ?_);(try (refine hK _ ?_;clear hK K));try refine iC ?_)
  refine ⟨by kernel_rfl,_,_,hO.toS rfl,?_⟩
  repeat' (first | (with_reducible first | refine W ?_ | refine Z0 ?_ | ((first | refine Wo fun K hK=>?_ | refine Wp ?_ | refine Wq ?_ | refine Wr ?_);(try simp only [go_sem,fN,seval,eT,iR,e1,e2,e3,e6,s3,s6,e9,s10,dT,dF,nL]);(repeat refine Ai ?_);(try (refine hK _ ?_;clear hK K));try refine iC ?_)) | refine Cg _ (TP t' hg9 (by omega)) ?_)
  simp only [go_sem,fN,seval,AR,AS.result,AB,AE,AQ,e6]
 | some y =>
  rw [ho] at hO
  have hsy:=Lm.size_outer ho
  have hsq:t'.size * t'.size≤2000 * 2000:=Nat.mul_le_mul hz' hz'
  rcases Nat.lt_or_ge k m with hkm | hkm
  ·have hne:¬ (k:Int)=m:=by omega
   obtain ⟨l,hl⟩:∃ l,m - k=l + 1:=⟨m - k - 1,by omega⟩
   rw [hl,Lm.run_succ ho]
   rw [hl,Lm.run_succ ho] at hR
   by_cases hbig:2000 < y.size
   ·rw [if_pos hbig]
    repeat' with_reducible first | refine W ?_ | refine Z0 ?_ | ((first | refine Wo fun K hK=>?_ | refine Wp ?_ | refine Wq ?_ | refine Wr ?_);(try simp only [go_sem,fN,seval,eT,iR,e1,e2,e3,e6,s3,s6,e9,s10,dT,dF,nL]);(repeat refine Ai ?_);(try (refine hK _ ?_;clear hK K));try refine iC ?_)
    refine ⟨by kernel_rfl,_,_,hO.toS rfl,?_⟩
    repeat' with_reducible first | refine W ?_ | refine Z0 ?_ | ((first | refine Wo fun K hK=>?_ | refine Wp ?_ | refine Wq ?_ | refine Wr ?_);(try simp only [go_sem,fN,seval,eT,iR,e1,e2,e3,e6,s3,s6,e9,s10,hne,dT,dF,nL]);(repeat refine Ai ?_);(try (refine hK _ ?_;clear hK K));try refine iC ?_)
    refine ⟨_,Lr y (by omega),?_⟩
    have hbig':(2000:Int) < y.size:=by omega
    repeat' with_reducible first | refine W ?_ | refine Z0 ?_ | ((first | refine Wo fun K hK=>?_ | refine Wp ?_ | refine Wq ?_ | refine Wr ?_);(try simp only [go_sem,fN,seval,eT,iR,e1,e2,e3,e6,s3,s6,e9,s10,hbig',dT,dF,nL]);(repeat refine Ai ?_);(try (refine hK _ ?_;clear hK K));try refine iC ?_)
    simp only [go_sem,fN,seval,AR,AS.result,AB,AE,AQ,e6,Lm.nil]
    rfl
   ·rw [if_neg hbig] at hR ⊢
    repeat' with_reducible first | refine W ?_ | refine Z0 ?_ | ((first | refine Wo fun K hK=>?_ | refine Wp ?_ | refine Wq ?_ | refine Wr ?_);(try simp only [go_sem,fN,seval,eT,iR,e1,e2,e3,e6,s3,s6,e9,s10,dT,dF,nL]);(repeat refine Ai ?_);(try (refine hK _ ?_;clear hK K));try refine iC ?_)
    refine ⟨by kernel_rfl,_,_,hO.toS rfl,?_⟩
    repeat' with_reducible first | refine W ?_ | refine Z0 ?_ | ((first | refine Wo fun K hK=>?_ | refine Wp ?_ | refine Wq ?_ | refine Wr ?_);(try simp only [go_sem,fN,seval,eT,iR,e1,e2,e3,e6,s3,s6,e9,s10,hne,dT,dF,nL]);(repeat refine Ai ?_);(try (refine hK _ ?_;clear hK K));try refine iC ?_)
    refine ⟨_,Lr y (by omega),?_⟩
    have hbig':¬ (2000:Int) < y.size:=by omega
    repeat' with_reducible first | refine W ?_ | refine Z0 ?_ | ((first | refine Wo fun K hK=>?_ | refine Wp ?_ | refine Wq ?_ | refine Wr ?_);(try simp only [go_sem,fN,seval,eT,iR,e1,e2,e3,e6,s3,s6,e9,s10,hbig',dT,dF,nL]);(repeat refine Ai ?_);(try (refine hK _ ?_;clear hK K));try refine iC ?_)
    refine Ag ⟨m - (k + 1),by omega,k + 1,y,by omega,rfl,?_,Lm.wf_outer hw' ho,by omega,Lm.good_mono (by omega) y (Lm.good_outer (D:=2000) (by decide) (by omega) hg' ho),?_⟩
    ·rw [show m - (k + 1)=l by omega]
     congr 1
    ·simp only [go_sem,fN,seval,AS.drop,CN,AC.clears,AC.clear,AC.highs,AC.high,Bool.not_false,Bool.true_and,Bool.and_self,AV.purge,AV.purges,AC.purge,AU.purge,List.contains_cons,List.contains_nil,Nat.reduceBEq,Bool.or_self,Bool.or_false,Bool.false_or,Bool.or_true,eT,iR,e1,e2,e3,e6,s3,s6,e9,s10]
     congr 3
  ·have hkm':k=m:=by omega
   subst hkm'
   rw [Nat.sub_self,Lm.run_zero ho]
   repeat' with_reducible first | refine W ?_ | refine Z0 ?_ | ((first | refine Wo fun K hK=>?_ | refine Wp ?_ | refine Wq ?_ | refine Wr ?_);(try simp only [go_sem,fN,seval,eT,iR,e1,e2,e3,e6,s3,s6,e9,s10,dT,dF,nL]);(repeat refine Ai ?_);(try (refine hK _ ?_;clear hK K));try refine iC ?_)
   refine ⟨by kernel_rfl,_,_,hO.toS rfl,?_⟩
   repeat' with_reducible first | refine W ?_ | refine Z0 ?_ | ((first | refine Wo fun K hK=>?_ | refine Wp ?_ | refine Wq ?_ | refine Wr ?_);(try simp only [go_sem,fN,seval,eT,iR,e1,e2,e3,e6,s3,s6,e9,s10,dT,dF,nL]);(repeat refine Ai ?_);(try (refine hK _ ?_;clear hK K));try refine iC ?_)
   simp only [go_sem,fN,seval,AR,AS.result,AB,AE,AQ,e6,Lm.nil]
   rfl
def Dm (t:Lm) (u most:Int):Int:=if t.may 0 u=0 then (if most < 0 ∨ 400 < most then 3 else 0) else t.may 0 u
theorem PI (t:Lm) (u most:Int):AW Tryz.prog 22 [aLm t,Ad u,Ad most] (Ad (Dm t u most)):=by
 refine JU.ac fun C hC=>?_
 unfold FN
 unfold Dm
 by_cases h1:t.may 0 u=0
 ·rw [if_pos h1]
  by_cases h2:most < 0
  ·rw [if_pos (Or.inl h2)]
   repeat' (first | (with_reducible first | refine W ?_ | refine Z0 ?_ | ((first | refine Wo fun K hK=>?_ | refine Wp ?_ | refine Wq ?_ | refine Wr ?_);(try simp only [go_sem,fN,seval,eT,iR,h1,h2,dT,dF,nL]);(repeat refine Ai ?_);(try (refine hK _ ?_;clear hK K));try refine iC ?_)) | refine Cg _ (DX t u) ?_)
   simp only [go_sem,fN,seval,AR,AS.result,AB,AE,AQ]
  ·by_cases h3:400 < most
   ·rw [if_pos (Or.inr h3)]
    repeat' (first | (with_reducible first | refine W ?_ | refine Z0 ?_ | ((first | refine Wo fun K hK=>?_ | refine Wp ?_ | refine Wq ?_ | refine Wr ?_);(try simp only [go_sem,fN,seval,eT,iR,h1,h2,h3,dT,dF,nL]);(repeat refine Ai ?_);(try (refine hK _ ?_;clear hK K));try refine iC ?_)) | refine Cg _ (DX t u) ?_)
    simp only [go_sem,fN,seval,AR,AS.result,AB,AE,AQ]
   ·rw [if_neg (by omega)]
    repeat' (first | (with_reducible first | refine W ?_ | refine Z0 ?_ | ((first | refine Wo fun K hK=>?_ | refine Wp ?_ | refine Wq ?_ | refine Wr ?_);(try simp only [go_sem,fN,seval,eT,iR,h1,h2,h3,dT,dF,nL]);(repeat refine Ai ?_);(try (refine hK _ ?_;clear hK K));try refine iC ?_)) | refine Cg _ (DX t u) ?_)
    simp only [go_sem,fN,seval,AR,AS.result,AB,AE,AQ]
 ·rw [if_neg h1]
  repeat' (first | (with_reducible first | refine W ?_ | refine Z0 ?_ | ((first | refine Wo fun K hK=>?_ | refine Wp ?_ | refine Wq ?_ | refine Wr ?_);(try simp only [go_sem,fN,seval,eT,iR,h1,dT,dF,nL]);(repeat refine Ai ?_);(try (refine hK _ ?_;clear hK K));try refine iC ?_)) | refine Cg _ (DX t u) ?_)
  simp only [go_sem,fN,seval,AR,AS.result,AB,AE,AQ]
theorem Np {t:Lm} {u most:Int} (h:Dm t u most=0):0≤u∧u≤40∧t.size≤200∧t.chk 0 u=0∧0≤most∧most≤400:=by
 unfold Dm at h
 split at h
 ·rename_i h1
  obtain ⟨a,b,c,d⟩:=Lm.may_ok h1
  split at h
  ·omega
  ·exact ⟨a,b,c,d,by omega,by omega⟩
 ·rename_i h1
  exact absurd h h1
def EC (t:Lm) (u most:Int):Lm × Int × Int:=if Dm t u most=0 then Lm.run most.toNat 0 t else (Lm.nil,0,Dm t u most)
theorem Hi (t:Lm) (u most:Int):AW Tryz.prog 11 [aLm t,Ad u,Ad most] (T5 (EC t u most)):=by
 refine Hp.ac fun C hC=>?_
 unfold ES
 unfold EC
 by_cases h1:Dm t u most=0
 ·rw [if_pos h1]
  obtain ⟨a1,a2,a3,a4,a5,a6⟩:=Np h1
  obtain ⟨m,rfl⟩:∃ m:Nat,most=m:=⟨most.toNat,by omega⟩
  rw [Int.toNat_natCast]
  repeat' (first | (with_reducible first | refine W ?_ | refine Z0 ?_ | ((first | refine Wo fun K hK=>?_ | refine Wp ?_ | refine Wq ?_ | refine Wr ?_);(try simp only [go_sem,fN,seval,eT,iR,h1,dT,dF,nL]);(repeat refine Ai ?_);(try (refine hK _ ?_;clear hK K));try refine iC ?_)) | refine Cg _ (PI t u m) ?_ | refine Cg _ (S6 t m (by omega) (Lm.wf_chk t u a4) (by omega) (Lm.good_chk (by decide) t u 1000000 a1 (by omega) (by decide) a4)) ?_)
  simp only [go_sem,fN,seval,AR,AS.result,AB,AE,AQ]
 ·rw [if_neg h1]
  repeat' (first | (with_reducible first | refine W ?_ | refine Z0 ?_ | ((first | refine Wo fun K hK=>?_ | refine Wp ?_ | refine Wq ?_ | refine Wr ?_);(try simp only [go_sem,fN,seval,eT,iR,h1,dT,dF,nL]);(repeat refine Ai ?_);(try (refine hK _ ?_;clear hK K));try refine iC ?_)) | refine Cg _ (PI t u most) ?_)
  simp only [go_sem,fN,seval,AR,AS.result,AB,AE,AQ,Lm.nil]
  rfl

def Tu:ByteArray:=⟨#[40,92,121,46,121,32,121,41,32,99,49]⟩
def Tx:ByteArray:=⟨#[99,49,32,99,49]⟩
def SA:Lm:=.a (.l (.a (.v 0) (.v 0))) (.mk 4 1 [])
def Ov:Lm:=.a (.mk 4 1 []) (.mk 4 1 [])
theorem Pt:Nl Tu []=(SA,0):=by kernel_rfl
theorem Ry:EC SA 0 5=(Ov,1,0):=by kernel_rfl
theorem Pb:LTx 120 ([]:List ByteArray).length [] Ov Tx:=by
 have h:LTx 120 0 [] Ov (brk (decide ((Lm.mk 4 1 []).kind=2)) (⟨#[99]⟩ ++ Gd 1) ++ ⟨#[32]⟩ ++ brk (decide ((Lm.mk 4 1 []).kind=2 ∨ (Lm.mk 4 1 []).kind=3)) (⟨#[99]⟩ ++ Gd 1)):=.a (.c (i:=1) (by decide)) (.c (i:=1) (by decide))
 have e:brk (decide ((Lm.mk 4 1 []).kind=2)) (⟨#[99]⟩ ++ Gd 1) ++ ⟨#[32]⟩ ++ brk (decide ((Lm.mk 4 1 []).kind=2 ∨ (Lm.mk 4 1 []).kind=3)) (⟨#[99]⟩ ++ Gd 1)=Tx:=by decide +kernel
 rw [e] at h
 exact h
theorem QF:AW Tryz.prog 7 [] (CH true):=by
 have hP:=Ru Tu [] (by decide)
 rw [Pt] at hP
 unfold Ip at hP
 have hN:=Hi SA 0 5
 rw [Ry] at hN
 have hT:=Rm (t:=Ov) (free:=[]) (by decide +kernel) (by decide +kernel) Pb (by decide) (by decide)
 refine EV.ac fun C hC=>?_
 unfold Cu
 repeat' (first | (with_reducible first | refine W ?_ | refine Z0 ?_ | ((first | refine Wo fun K hK=>?_ | refine Wp ?_ | refine Wq ?_ | refine Wr ?_);(try simp only [go_sem,fN,seval,eT,iR,dT,dF,nL]);(repeat refine Ai ?_);(try (refine hK _ ?_;clear hK K));try refine iC ?_)) | refine Cg _ (hP) ?_ | refine Cg _ (hN) ?_ | refine Cg _ (hT) ?_)
 simp only [go_sem,fN,seval,AR,AS.result,AB,AE,AQ]
 rfl
theorem Ob {t:Lm} {u:Int} (h0:0≤u) (h40:u≤40) (hz:t.size≤200) (hc:t.chk 0 u=0):t.may 0 u=0:=by
 unfold Lm.may
 rw [if_neg (by omega),if_neg (by omega)]
 exact hc

theorem RR (t:Lm) (d:Int) (hd:0≤d) (hz:d + t.size≤1000000000):AW Tryz.prog 53 [aLm t,Ad d] (CH (Lm.has d t)):=by
 induction h:SizeOf.sizeOf t using Nat.strongRecOn generalizing t d with
 | _ N ih =>
 subst h
 have hs:=Lm.size_eq t
 have hlen:=Lm.length_le t.subs
 have hu:=JA t.kind d
 rw [Lm.has_eq]
 by_cases k1:t.kind=1
 ·refine GO.ac fun C hC=>?_
  unfold EJ
  repeat' with_reducible first | refine W ?_ | refine Z0 ?_ | ((first | refine Wo fun K hK=>?_ | refine Wp ?_ | refine Wq ?_ | refine Wr ?_);(try simp only [go_sem,fN,seval,eT,iR,k1,dT,dF,nL]);(repeat refine Ai ?_);(try (refine hK _ ?_;clear hK K));try refine iC ?_)
  simp only [go_sem,fN,seval,AR,AS.result,AB,AE,AQ,k1]
 have hcase:t.kind=2 ∨ ¬ t.kind=2:=by omega
 rw [if_neg k1]
 rcases hcase with k2 | k2
 all_goals
  refine GO.ac fun C hC=>?_
  unfold EJ
  repeat' with_reducible first | refine W ?_ | refine Z0 ?_ | ((first | refine Wo fun K hK=>?_ | refine Wp ?_ | refine Wq ?_ | refine Wr ?_);(try simp only [go_sem,fN,seval,eT,iR,k1,k2,dT,dF,nL]);(repeat refine Ai ?_);(try (refine hK _ ?_;clear hK K));try refine iC ?_)
  refine IWP.loopD [6] (fun n s=>∃ k,k≤t.subs.length∧n=t.subs.length - k∧Lm.hass (Aj t.kind d) (t.subs.take k)=false∧s.env 1=Ad (Aj t.kind d)∧s.env 20=UH t.subs∧s.env 21=Ad t.subs.length∧s.env 22=Ad k∧s.S 6=none) t.subs.length ⟨0,Nat.zero_le _,rfl,rfl,by simp only [k1,k2,Aj,Int.reduceEq,↓reduceIte];rfl,rfl,rfl,rfl,rfl⟩ ?_
  rintro n ⟨env,S⟩ ⟨k,hk',rfl,hp,e1,e20,e21,e22,s6⟩
  simp only at e1 e20 e21 e22 s6
  by_cases hlt:(k:Int) < t.subs.length
  ·obtain ⟨a,ha⟩:=Bk (show k < t.subs.length by omega)
   have z3:=Lm.size_mem (Ae ha)
   repeat' with_reducible first | refine W ?_ | refine Z0 ?_ | ((first | refine Wo fun K hK=>?_ | refine Wp ?_ | refine Wq ?_ | refine Wr ?_);(try simp only [go_sem,fN,seval,eT,iR,e1,e20,e21,e22,s6,ha,hlt,dT,dF,nL]);(repeat refine Ai ?_);(try (refine hK _ ?_;clear hK K));try refine iC ?_)
   refine ⟨_,ih _ (Lm.lt_of_sub (Ae ha)) a (Aj t.kind d) (by omega) (by omega) rfl,?_⟩
   by_cases hr:Lm.has (Aj t.kind d) a=true
   ·repeat' with_reducible first | refine W ?_ | refine Z0 ?_ | ((first | refine Wo fun K hK=>?_ | refine Wp ?_ | refine Wq ?_ | refine Wr ?_);(try simp only [go_sem,fN,seval,eT,iR,e1,e20,e21,e22,s6,hr,dT,dF,nL]);(repeat refine Ai ?_);(try (refine hK _ ?_;clear hK K));try refine iC ?_)
    simp only [go_sem,fN,seval,AR,AS.result,AB,AE,AQ]
    try simp only [k2] at hp hr ⊢
    rw [Lm.hass_yes (k:=k + 1) (by rw [Lm.hass_take ha hp,hr])]
   ·have hr':Lm.has (Aj t.kind d) a=false:=by simpa using hr
    repeat' with_reducible first | refine W ?_ | refine Z0 ?_ | ((first | refine Wo fun K hK=>?_ | refine Wp ?_ | refine Wq ?_ | refine Wr ?_);(try simp only [go_sem,fN,seval,eT,iR,e1,e20,e21,e22,s6,hr',dT,dF,nL]);(repeat refine Ai ?_);(try (refine hK _ ?_;clear hK K));try refine iC ?_)
    refine Ag ⟨t.subs.length - (k + 1),by omega,k + 1,by omega,rfl,?_⟩
    simp only [go_sem,fN,seval,AS.drop,CN,AC.clears,AC.clear,AC.highs,AC.high,Bool.not_false,Bool.true_and,Bool.and_self,AV.purge,AV.purges,AC.purge,AU.purge,List.contains_cons,List.contains_nil,Nat.reduceBEq,Bool.or_self,Bool.or_false,Bool.false_or,Bool.or_true,eT,iR,e1,e20,e21,e22,s6]
    exact ⟨by rw [Lm.hass_take ha hp,hr'],by congr 3⟩
  ·repeat' with_reducible first | refine W ?_ | refine Z0 ?_ | ((first | refine Wo fun K hK=>?_ | refine Wp ?_ | refine Wq ?_ | refine Wr ?_);(try simp only [go_sem,fN,seval,eT,iR,e1,e20,e21,e22,s6,hlt,dT,dF,nL]);(repeat refine Ai ?_);(try (refine hK _ ?_;clear hK K));try refine iC ?_)
   simp only [go_sem,fN,seval,AR,AS.result,AB,AE,AQ]
   rw [List.take_of_length_le (by omega)] at hp
   try simp only [k2] at hp ⊢
   rw [hp]
theorem Lm.etaAt_one {b:Lm} (hw:b.wf):(∃ f x,b.kind=3∧b.subs=[f,x]∧x.kind=1∧x.idx=0∧Lm.has 0 f=false∧Lm.etaAt [b]=some (Lm.mv (-1) 0 f)) ∨
  (Lm.etaAt [b]=none∧(b.kind=3→∃ f x,b.subs=[f,x]∧(x.kind=1→x.idx=0→Lm.has 0 f=true))):=by
 by_cases hk:b.kind=3
 ·obtain ⟨f,x,hfx⟩:=Lm.subs2 hw hk
  by_cases hc:x.kind=1∧x.idx=0∧Lm.has 0 f=false
  ·exact Or.inl ⟨f,x,hk,hfx,hc.1,hc.2.1,hc.2.2,by simp [Lm.etaAt,hk,hfx,hc]⟩
  ·refine Or.inr ⟨?_,fun _=>⟨f,x,hfx,fun h1 h2=>?_⟩⟩
   ·simp only [Lm.etaAt,hk,hfx,if_true]
    rw [if_neg hc]
   ·cases hh:Lm.has 0 f with
    | true=>rfl
    | false=>exact absurd ⟨h1,h2,hh⟩ hc
 ·exact Or.inr ⟨by simp [Lm.etaAt,hk],fun e=>absurd e hk⟩
set_option maxRecDepth 10000 in
theorem RN (t:Lm) (hw:t.wf) (hg:t.good 1000000000) (hz:t.size≤1000000000):AW Tryz.prog 25 [aLm t] (aLm t.eta1):=by
 induction h:SizeOf.sizeOf t using Nat.strongRecOn generalizing t with
 | _ N ih =>
 subst h
 have hs:=Lm.size_eq t
 have hlen:=Lm.length_le t.subs
 rw [Lm.eta1_eq]
 refine IQ.ac fun C hC=>?_
 unfold E7
 repeat' with_reducible first | refine W ?_ | refine Z0 ?_ | ((first | refine Wo fun K hK=>?_ | refine Wp ?_ | refine Wq ?_ | refine Wr ?_);(try simp only [go_sem,fN,seval,eT,iR,dT,dF,nL]);(repeat refine Ai ?_);(try (refine hK _ ?_;clear hK K));try refine iC ?_)
 refine IWP.ghost (Am.ownC 3 2 21 25 3 (xs:=([]:List Lm).map Ci) rfl rfl rfl Hm) ?_
 refine IWP.loopD [5] (fun n s=>∃ k,k≤t.subs.length∧n=t.subs.length - k∧s.env 1=.one (.ptr 1 1 0 0)∧s.env 2=.one (.ptr 2 1 0 0)∧s.env 3=.one (.ptr 3 1 0 0)∧s.S 1=some (.box 25 [.st (.int .i64 t.kind),.st (.int .i64 t.idx),.st (.list (t.subs.map Ci))])∧s.S 2=some (.box 25 [.st (.int .i64 0),.st (.int .i64 0),.full []])
   ∧ s.S 3=some (.box 25 [.st (.int .i64 t.kind),.st (.int .i64 t.idx),.row 21 k])∧s.S 21=some (.arow 25 3 (((t.subs.take k).map Lm.eta1).map Ci))∧s.env 13=UH t.subs∧s.env 14=Ad t.subs.length∧s.env 15=Ad k∧s.S 5=none∧s.S 6=none) t.subs.length
   ⟨0,Nat.zero_le _,rfl,rfl,rfl,rfl,rfl,rfl,rfl,rfl,rfl,rfl,rfl,rfl,rfl⟩ ?_
 rintro n ⟨env,S⟩ ⟨k,hk',rfl,e1,e2,e3,s1,s2,s3,s21,e13,e14,e15,s5,s6⟩
 simp only at e1 e2 e3 s1 s2 s3 s21 e13 e14 e15 s5 s6
 have hlk:(t.subs.take k).length=k:=by rw [List.length_take];omega
 by_cases hlt:(k:Int) < t.subs.length
 ·obtain ⟨a,ha⟩:=Bk (show k < t.subs.length by omega)
  have z3:=Lm.size_sub (Ae ha)
  repeat' (first | (with_reducible first | refine W ?_ | refine Z0 ?_ | ((first | refine Wo fun K hK=>?_ | refine Wp ?_ | refine Wq ?_ | refine Wr ?_);(try simp only [go_sem,fN,seval,eT,iR,e1,e2,e3,s1,s2,s3,s21,e13,e14,e15,s5,s6,ha,hlt,hlk,dT,dF,nL]);(repeat refine Ai ?_);(try (refine hK _ ?_;clear hK K));try refine iC ?_)) | refine Cg _ (ih _ (Lm.lt_of_sub (Ae ha)) a (Lm.wf_sub hw (Ae ha)) (Lm.good_sub hg (Ae ha)) (by omega) rfl) ?_)
  refine Ag ⟨t.subs.length - (k + 1),by omega,k + 1,by omega,rfl,?_⟩
  simp only [go_sem,fN,seval,AS.drop,CN,AC.clears,AC.clear,AC.highs,AC.high,Bool.not_false,Bool.true_and,Bool.and_self,AV.purge,AV.purges,AC.purge,AU.purge,List.contains_cons,List.contains_nil,Nat.reduceBEq,Bool.or_self,Bool.or_false,Bool.false_or,Bool.or_true,eT,iR,e1,e2,e3,s1,s2,s3,s21,e13,e14,e15,s5,s6]
  exact ⟨by rw [B7 ha];simp [Bh],by congr 3⟩
 ·have hall:t.subs.take k=t.subs:=List.take_of_length_le (by omega)
  have hkl:k=t.subs.length:=by omega
  rw [hall] at s21 hlk
  by_cases k2:t.kind=2
  ·obtain ⟨a,ha⟩:=Lm.subs1 hw k2
   have ham:a ∈ t.subs:=by rw [ha];simp
   have z3:=Lm.size_sub ham
   obtain ⟨w1,w2,w3⟩:=Lm.eta1_all (c:=1000000000) a (Lm.wf_sub hw ham) (Lm.good_sub hg ham)
   generalize hb:a.eta1=b at *
   have hk1:k=1:=by rw [hkl,ha];rfl
   subst hk1
   replace hlt:¬ (1:Int) < t.subs.length:=by omega
   rw [ha] at s21
   simp only [List.map_cons,List.map_nil,hb,Bh b] at s21
   rw [if_pos k2,ha]
   simp only [List.map_cons,List.map_nil,hb]
   rcases Lm.etaAt_one w1 with ⟨f,x,b1,b2,b3,b4,b5,b6⟩ | ⟨b6,b7⟩
   ·have hf:f ∈ b.subs:=by rw [b2];simp
    have s1':=Lm.size_sub hf
    rw [b6]
    repeat' (first | (with_reducible first | refine W ?_ | refine Z0 ?_ | ((first | refine Wo fun K hK=>?_ | refine Wp ?_ | refine Wq ?_ | refine Wr ?_);(try simp only [go_sem,fN,seval,eT,iR,e1,e2,e3,s1,s2,s3,s21,e13,e14,e15,s5,s6,hlt,k2,b1,b2,b3,b4,b5,dT,dF,nL]);(repeat refine Ai ?_);(try (refine hK _ ?_;clear hK K));try refine iC ?_)) | refine Cg _ (RR f 0 (by decide) (by omega)) ?_ | refine Cg _ (L6 f (-1) 0 (Lm.good_sub w2 hf) (by decide) (by decide) (by omega)) ?_)
    simp only [go_sem,fN,seval,AR,AS.result,AB,AE,AQ,e2]
   ·rw [b6]
    by_cases b1:b.kind=3
    ·obtain ⟨f,x,b2,b8⟩:=b7 b1
     have hf:f ∈ b.subs:=by rw [b2];simp
     have s1':=Lm.size_sub hf
     by_cases b3:x.kind=1
     ·by_cases b4:x.idx=0
      ·have b5:=b8 b3 b4
       repeat' (first | (with_reducible first | refine W ?_ | refine Z0 ?_ | ((first | refine Wo fun K hK=>?_ | refine Wp ?_ | refine Wq ?_ | refine Wr ?_);(try simp only [go_sem,fN,seval,eT,iR,e1,e2,e3,s1,s2,s3,s21,e13,e14,e15,s5,s6,hlt,k2,b1,b2,b3,b4,b5,dT,dF,nL]);(repeat refine Ai ?_);(try (refine hK _ ?_;clear hK K));try refine iC ?_)) | refine Cg _ (RR f 0 (by decide) (by omega)) ?_)
       simp only [go_sem,fN,seval,AR,AS.result,AB,AE,AQ,e2,s21]
       try simp [k2,b1,b2,Bh,Lm.kind_mk,Lm.idx_mk,Lm.subs_mk]
      ·repeat' with_reducible first | refine W ?_ | refine Z0 ?_ | ((first | refine Wo fun K hK=>?_ | refine Wp ?_ | refine Wq ?_ | refine Wr ?_);(try simp only [go_sem,fN,seval,eT,iR,e1,e2,e3,s1,s2,s3,s21,e13,e14,e15,s5,s6,hlt,k2,b1,b2,b3,b4,dT,dF,nL]);(repeat refine Ai ?_);(try (refine hK _ ?_;clear hK K));try refine iC ?_)
       simp only [go_sem,fN,seval,AR,AS.result,AB,AE,AQ,e2,s21]
       try simp [k2,b1,b2,Bh,Lm.kind_mk,Lm.idx_mk,Lm.subs_mk]
     ·repeat' with_reducible first | refine W ?_ | refine Z0 ?_ | ((first | refine Wo fun K hK=>?_ | refine Wp ?_ | refine Wq ?_ | refine Wr ?_);(try simp only [go_sem,fN,seval,eT,iR,e1,e2,e3,s1,s2,s3,s21,e13,e14,e15,s5,s6,hlt,k2,b1,b2,b3,dT,dF,nL]);(repeat refine Ai ?_);(try (refine hK _ ?_;clear hK K));try refine iC ?_)
      simp only [go_sem,fN,seval,AR,AS.result,AB,AE,AQ,e2,s21]
      try simp [k2,b1,b2,Bh,Lm.kind_mk,Lm.idx_mk,Lm.subs_mk]
    ·repeat' with_reducible first | refine W ?_ | refine Z0 ?_ | ((first | refine Wo fun K hK=>?_ | refine Wp ?_ | refine Wq ?_ | refine Wr ?_);(try simp only [go_sem,fN,seval,eT,iR,e1,e2,e3,s1,s2,s3,s21,e13,e14,e15,s5,s6,hlt,k2,b1,dT,dF,nL]);(repeat refine Ai ?_);(try (refine hK _ ?_;clear hK K));try refine iC ?_)
     simp only [go_sem,fN,seval,AR,AS.result,AB,AE,AQ,e2,s21]
     try simp [k2,Bh,Lm.kind_mk,Lm.idx_mk,Lm.subs_mk]
  ·rw [if_neg k2]
   repeat' with_reducible first | refine W ?_ | refine Z0 ?_ | ((first | refine Wo fun K hK=>?_ | refine Wp ?_ | refine Wq ?_ | refine Wr ?_);(try simp only [go_sem,fN,seval,eT,iR,e1,e2,e3,s1,s2,s3,s21,e13,e14,e15,s5,s6,hlt,k2,dT,dF,nL]);(repeat refine Ai ?_);(try (refine hK _ ?_;clear hK K));try refine iC ?_)
   simp only [go_sem,fN,seval,AR,AS.result,AB,AE,AQ,e2,s2,s3,s21,hkl]
   try simp [Lm.kind_mk,Lm.idx_mk,Lm.subs_mk]

set_option maxRecDepth 100000
def KY:IR :=
 (.seq (.ops [.i 4 (.mov (.n 0))]) (.seq (.seq (.ops [.m 5 0,.i 6 (.bin .lss (.t 5) (.n 0))]) (.cond (.t 6) (.ops [.m 7 0,.i 8 (.bin .add (.t 7) (.n 1)),.i 9 (.un .neg (.t 8)),.m 0 9]) .skip)) (.seq (.ops [.m 10 0,.m 11 1,.i 12 (.bin .rem (.t 10) (.t 11)),.m 4 12]) .ret)))
theorem QC:OkF Tryz.prog 5 13 [] KY [.t 4]:=.of Tryz.func5 rfl rfl (by kernel_rfl) rfl
def Mo:IR :=
 (.seq (.ops [.i 4 (.mov (.n 0))]) (.seq (.seq (.ops [.m 5 0,.i 6 (.len false (.t 5)),.i 7 (.bin .eql (.t 6) (.n 0))]) (.cond (.t 7) (.seq (.ops [.m 8 1,.i 9 (.bin .mul (.t 8) (.n 31)),.m 4 9]) .ret) .skip)) (.seq (.ops [.m 10 0,.m 11 1,.m 12 0,.i 13 (.len false (.t 12)),.i 14 (.bin .rem (.t 11) (.t 13)),.i 15 (.indexAddr 1 (.t 10) (.t 14)),.l 16 15,.i 17 (.call 5 [.t 16,.n 1000003]),.m 18 1,.m 19 0,.i 20 (.len false (.t 19)),.i 21 (.bin .quo (.t 18) (.t 20)),.i 22 (.bin .mul (.t 21) (.n 7919)),.i 23 (.bin .add (.t 17) (.t 22)),.m 4 23]) .ret)))
theorem ST:OkF Tryz.prog 26 24 [] Mo [.t 4]:=.of Tryz.func26 rfl rfl (by kernel_rfl) rfl
def BA:IR :=
 (.seq (.ops [.i 10 (.alloc 25 [.st (.int .i64 0),.st (.int .i64 0),.full []]),.i 11 (.mov (.n 0))]) (.seq (.ops [.m 18 0,.m 19 1,.i 20 (.call 26 [.t 18,.t 19]),.m 12 20]) (.seq (.ops [.m 21 1,.i 22 (.bin .add (.t 21) (.n 1)),.m 1 22]) (.seq (.seq (.ops [.m 23 2,.i 24 (.bin .lss (.t 23) (.n 3)),.m 25 24,.mk (some 26) (some (25,false)) (.mov (.t 12)) .no,.mk (some 27) (some (25,false)) (.call 5 [.t 26,.n 6]) .no,.mk (some 28) (some (25,false)) (.bin .eql (.t 27) (.n 0)) .no,.i 29 (.pick (.t 25) (.c (.one (.st (.bool true)))) (.t 28))]) (.cond (.t 29) (.seq (.seq (.ops [.m 30 3,.i 31 (.bin .eql (.t 30) (.n 0)),.m 32 31,.mk (some 33) (some (32,true)) (.mov (.t 4)) .no,.mk (some 34) (some (32,true)) (.bin .eql (.t 33) (.n 0)) .no,.i 35 (.pick (.t 32) (.t 34) (.c (.one (.st (.bool false)))))]) (.cond (.t 35) (.seq (.ops [.i 36 (.call 28 [.n 0]),.i 37 (.call 27 [.t 36]),.m 38 1,.s 3 10 37,.m 11 38]) .ret) .skip)) (.seq (.seq (.ops [.m 39 3,.i 40 (.bin .eql (.t 39) (.n 0)),.m 41 40,.mk (some 42) (some (41,false)) (.mov (.t 4)) .no,.mk (some 43) (some (41,false)) (.bin .gtr (.t 42) (.n 0)) .no,.mk (some 44) (some (41,false)) (.mov (.t 43)) .no,.mk (some 45) (some (44,true)) (.mov (.t 12)) .no,.mk (some 46) (some (44,true)) (.bin .quo (.t 45) (.n 6)) .no,.mk (some 47) (some (44,true)) (.call 5 [.t 46,.n 4]) .no,.mk (some 48) (some (44,true)) (.bin .eql (.t 47) (.n 0)) .no,.mk (some 49) (some (41,false)) (.pick (.t 44) (.t 48) (.c (.one (.st (.bool false))))) .no,.i 50 (.pick (.t 41) (.c (.one (.st (.bool true)))) (.t 49))]) (.cond (.t 50) (.seq (.ops [.m 51 12,.i 52 (.bin .quo (.t 51) (.n 24)),.m 53 4,.i 54 (.call 5 [.t 52,.t 53]),.i 55 (.call 29 [.t 54]),.m 56 1,.s 3 10 55,.m 11 56]) .ret) .skip)) (.seq (.ops [.m 57 12,.i 58 (.bin .quo (.t 57) (.n 6)),.m 59 3,.i 60 (.call 5 [.t 58,.t 59]),.i 61 (.call 28 [.t 60]),.m 62 1,.s 3 10 61,.m 11 62]) .ret))) .skip)) (.seq (.seq (.ops [.m 63 12,.i 64 (.call 5 [.t 63,.n 6]),.i 65 (.bin .lss (.t 64) (.n 3))]) (.cond (.t 65) (.seq (.ops [.m 67 0,.m 68 1,.m 69 2,.i 70 (.bin .sub (.t 69) (.n 1)),.m 71 3,.i 72 (.bin .add (.t 71) (.n 1)),.m 73 4,.i 74 (.call 14 [.t 67,.t 68,.t 70,.t 72,.t 73]),.m 66 74,.i 75 (.extract 0 (.t 66)),.i 76 (.extract 1 (.t 66)),.i 13 (.alloc 25 [.st (.int .i64 0),.st (.int .i64 0),.full []]),.s 3 13 75,.m 14 76]) (.seq (.ops [.L 77 3 13,.i 78 (.call 27 [.t 77]),.m 79 14,.s 3 10 78,.m 11 79]) .ret)) .skip)) (.seq (.ops [.m 81 0,.m 82 1,.m 83 2,.i 84 (.bin .quo (.t 83) (.n 2)),.m 85 3,.m 86 4,.i 87 (.call 14 [.t 81,.t 82,.t 84,.t 85,.t 86]),.m 80 87,.i 88 (.extract 0 (.t 80)),.i 89 (.extract 1 (.t 80)),.i 15 (.alloc 25 [.st (.int .i64 0),.st (.int .i64 0),.full []]),.s 3 15 88,.m 16 89]) (.seq (.ops [.m 91 0,.m 92 16,.m 93 2,.i 94 (.bin .quo (.t 93) (.n 2)),.m 95 3,.m 96 4,.i 97 (.call 14 [.t 91,.t 92,.t 94,.t 95,.t 96]),.m 90 97,.i 98 (.extract 0 (.t 90)),.i 99 (.extract 1 (.t 90)),.i 17 (.alloc 25 [.st (.int .i64 0),.st (.int .i64 0),.full []]),.s 3 17 98,.m 16 99]) (.seq (.ops [.L 100 3 15,.L 101 3 17,.i 102 (.call 30 [.t 100,.t 101]),.m 103 16,.s 3 10 102,.m 11 103]) .ret))))))))
theorem BD:OkF Tryz.prog 14 104 [] BA [.cell 10 true 3,.t 11]:=.of Tryz.func14 rfl rfl (by kernel_rfl) rfl
def GF:IR :=
 (.seq (.ops [.i 10 (.alloc 25 [.st (.int .i64 0),.st (.int .i64 0),.full []])]) (.seq (.ops [.m 14 0,.m 15 1,.m 16 2,.m 17 3,.m 18 4,.i 19 (.call 14 [.t 14,.t 15,.t 16,.t 17,.t 18]),.m 13 19,.i 20 (.extract 0 (.t 13)),.i 21 (.extract 1 (.t 13)),.i 11 (.alloc 25 [.st (.int .i64 0),.st (.int .i64 0),.full []]),.s 3 11 20,.m 12 21]) (.seq (.ops [.L 22 3 11,.s 3 10 22]) .ret)))
theorem KO:OkF Tryz.prog 4 23 [] GF [.cell 10 true 3]:=.of Tryz.func4 rfl rfl (by kernel_rfl) rfl

def FS (c n:Int):Int:=(if c < 0 then -(c + 1) else c) % n
theorem CQ (c n:Int) (hn:1≤n):0≤FS c n∧FS c n < n:=⟨Int.emod_nonneg _ (by omega),Int.emod_lt_of_pos _ (by omega)⟩
theorem Gb {x n:Int} (hx:0≤x) (hn:1≤n):x.tmod n=x % n∧0≤x % n∧x % n < n∧x % n≤x:=by
 rw [Int.tmod_eq_emod_of_nonneg hx]
 refine ⟨rfl,Int.emod_nonneg _ (by omega),Int.emod_lt_of_pos _ (by omega),?_⟩
 by_cases h:x < n
 ·rw [Int.emod_eq_of_lt hx h];exact Int.le_refl _
 ·have:=Int.emod_lt_of_pos x (show 0 < n by omega);omega
theorem Ep {x n:Int} (hx:0≤x) (hn:1≤n):x.tdiv n=x / n∧0≤x / n∧x / n≤x:=by
 rw [Int.tdiv_eq_ediv_of_nonneg hx]
 exact ⟨rfl,Int.ediv_nonneg hx (by omega),Int.ediv_le_self _ hx⟩
theorem HT (c n:Int) (hc:inR .i64 c) (hn:1≤n):AW Tryz.prog 5 [Ad c,Ad n] (Ad (FS c n)):=by
 rw [CO] at hc
 refine QC.ac fun C hC=>?_
 unfold KY
 repeat' with_reducible first | refine W ?_ | refine Z0 ?_ | ((first | refine Wo fun K hK=>?_ | refine Wq ?_ | refine Wr ?_);(try simp only [go_sem,fN,seval,eT,iR]);(repeat refine Ai ?_);(try (refine hK _ ?_;clear hK K)))
 with_reducible refine Wp ?_
 simp only [go_sem,fN,seval,true_implies,false_implies,implies_true,dT,dF,nL]
 (try with_reducible refine iC ?_)
 refine ⟨fun h0=>?_,fun h0=>?_⟩
 ·have h1:=Gb (x:=0 - (c + 1)) (n:=n) (by omega) hn
  repeat' with_reducible first | refine W ?_ | refine Z0 ?_ | ((first | refine Wo fun K hK=>?_ | refine Wq ?_ | refine Wr ?_);(try simp only [go_sem,fN,seval,eT,iR,h1.1]);(repeat refine Ai ?_);(try (refine hK _ ?_;clear hK K)))
  simp only [go_sem,fN,seval,AR,AS.result,AB,AE,AQ]
  unfold FS
  rw [if_pos h0]
  congr 5
  omega
 ·have h1:=Gb (x:=c) (n:=n) (by omega) hn
  repeat' with_reducible first | refine W ?_ | refine Z0 ?_ | ((first | refine Wo fun K hK=>?_ | refine Wq ?_ | refine Wr ?_);(try simp only [go_sem,fN,seval,eT,iR,h1.1]);(repeat refine Ai ?_);(try (refine hK _ ?_;clear hK K)))
  simp only [go_sem,fN,seval,AR,AS.result,AB,AE,AQ]
  unfold FS
  rw [if_neg h0]
def Nx (l:List Int) (i:Nat):Int:=if l.length=0 then i * 31 else FS (l.getD (i % l.length) 0) 1000003 + ((i / l.length:Nat):Int) * 7919
theorem OF (l:List Int) (i:Nat):0≤Nx l i∧Nx l i≤1000003 + i * 7919:=by
 unfold Nx
 split
 ·omega
 ·have:=CQ (l.getD (i % l.length) 0) 1000003 (by omega)
  have h2:i / l.length≤i:=Nat.div_le_self _ _
  generalize i / l.length=q at *
  omega
theorem Ui (l:List Int) (i:Nat) (hi:i≤1000000) (hl:∀ n ∈ l,inR .i64 n) (hm:l.length≤maxLen):AW Tryz.prog 26 [Mc l,Ad i] (Ad (Nx l i)):=by
 rw [CK] at hm
 refine ST.ac fun C hC=>?_
 unfold Mo
 repeat' with_reducible first | refine W ?_ | refine Z0 ?_ | ((first | refine Wo fun K hK=>?_ | refine Wq ?_ | refine Wr ?_);(try simp only [go_sem,fN,seval,eT,iR]);(repeat refine Ai ?_);(try (refine hK _ ?_;clear hK K)))
 with_reducible refine Wp ?_
 simp only [go_sem,fN,seval,true_implies,false_implies,implies_true,dT,dF,nL]
 (try with_reducible refine iC ?_)
 refine ⟨fun h0=>?_,fun h0=>?_⟩
 ·repeat' with_reducible first | refine W ?_ | refine Z0 ?_ | ((first | refine Wo fun K hK=>?_ | refine Wq ?_ | refine Wr ?_);(try simp only [go_sem,fN,seval,eT,iR]);(repeat refine Ai ?_);(try (refine hK _ ?_;clear hK K)))
  simp only [go_sem,fN,seval,AR,AS.result,AB,AE,AQ]
  unfold Nx
  rw [if_pos (by omega)]
 ·have h1:=Gb (x:=(i:Int)) (n:=(l.length:Int)) (by omega) (by omega)
  have h2:=Ep (x:=(i:Int)) (n:=(l.length:Int)) (by omega) (by omega)
  have hlt:i % l.length < l.length:=Nat.mod_lt _ (by omega)
  obtain ⟨a,ha⟩:=Bk hlt
  have e1:((i:Int) % (l.length:Int))=((i % l.length:Nat):Int):=by omega
  have e2:((i:Int) / (l.length:Int))=((i / l.length:Nat):Int):=by omega
  have h3:i / l.length≤i:=Nat.div_le_self _ _
  repeat' with_reducible first | refine W ?_ | refine Z0 ?_ | ((first | refine Wo fun K hK=>?_ | refine Wq ?_ | refine Wr ?_);(try simp only [go_sem,fN,seval,eT,iR,h1.1,h2.1,e1,e2,ha]);(repeat refine Ai ?_);(try (refine hK _ ?_;clear hK K)))
  refine ⟨_,HT a 1000003 (hl a (Ae ha)) (by omega),?_⟩
  have hp:=CQ a 1000003 (by omega)
  repeat' with_reducible first | refine W ?_ | refine Z0 ?_ | ((first | refine Wo fun K hK=>?_ | refine Wq ?_ | refine Wr ?_);(try simp only [go_sem,fN,seval,eT,iR,h1.1,h2.1,e1,e2]);(repeat refine Ai ?_);(try (refine hK _ ?_;clear hK K)))
  simp only [go_sem,fN,seval,AR,AS.result,AB,AE,AQ]
  unfold Nx
  rw [if_neg (by omega),List.getD_eq_getElem?_getD,ha]
  rfl
def Di (l:List Int) (at_:Nat) (most Aj consts:Int) (t:Lm) (n:Nat):Prop :=
 AW Tryz.prog 14 [Mc l,Ad at_,Ad most,Ad Aj,Ad consts] (.tup [aLm t,Ad n])
theorem FM {k i m u:Int} (h:(k=1∧0≤i∧i < u) ∨ (k=4∧0≤i∧i < 40)):(Lm.mk k i []).chk m u=0:=by
 rw [Lm.chk_eq]
 rcases h with ⟨rfl,h1,h2⟩ | ⟨rfl,h1,h2⟩ <;> simp [Lm.kind_mk,Lm.idx_mk,Lm.subs_mk,DU,A3,h1,h2,Lm.chks]
theorem Oj {t:Lm} {m u:Int} (h:t.chk m (u + 1)=0):(Lm.l t).chk m u=0:=by
 rw [Lm.chk_eq]
 simp [Lm.l,Lm.kind_mk,Lm.idx_mk,Lm.subs_mk,DU,A3,Aj,Lm.chks,h]
theorem Tb {f x:Lm} {m u:Int} (h1:f.chk m u=0) (h2:x.chk m u=0):(Lm.a f x).chk m u=0:=by
 rw [Lm.chk_eq]
 simp [Lm.a,Lm.kind_mk,Lm.idx_mk,Lm.subs_mk,DU,A3,Aj,Lm.chks,h1,h2]
theorem Qf (l:List Int) (hl:∀ n ∈ l,inR .i64 n) (hm:l.length≤maxLen) (consts:Int) (hc:0≤consts∧consts≤40):∀ (most:Nat) (at_ Aj:Nat),0≤most→most≤1000→at_ + 3 * most≤900000→Aj + most≤2000 →
  ∃ (t:Lm) (n:Nat),Di l at_ most Aj consts t n∧t.size + 1≤3 * max most 1∧n≤at_ + t.size∧t.chk 0 Aj=0∧(consts=0→t.pure=true):=by
 intro most
 induction most using Nat.strongRecOn with
 | _ most ih =>
 intro at_ Aj h1 h1000 hat hund
 have hraw:=Ui l at_ (by omega) hl hm
 have hr:=OF l at_
 generalize Nx l at_=c at hraw hr
 have d6:=Ep (x:=c) (n:=6) (by omega) (by omega)
 have d24:=Ep (x:=c) (n:=24) (by omega) (by omega)
 have p6:=HT c 6 (by rw [CO];omega) (by omega)
 have q6:=CQ c 6 (by omega)
 have p64:=HT (c / 6) 4 (by rw [CO];omega) (by omega)
 have q64:=CQ (c / 6) 4 (by omega)
 have p24:1≤consts→_:=fun h=>HT (c / 24) consts (by rw [CO];omega) h
 have q24:1≤consts→_:=fun h=>CQ (c / 24) consts h
 have p6u:1≤(Aj:Int)→_:=fun h=>HT (c / 6) Aj (by rw [CO];omega) h
 have q6u:1≤(Aj:Int)→_:=fun h=>CQ (c / 6) Aj h
 generalize FS c 6=x6 at *
 generalize FS (c / 6) 4=x64 at *
 generalize FS (c / 24) consts=x24 at *
 generalize FS (c / 6) Aj=x6u at *
 by_cases hleaf:(most:Int) < 3 ∨ x6=0
 ·by_cases hu0:(Aj:Int)=0
  ·by_cases hc0:consts=0
   ·refine ⟨.l (.v 0),at_ + 1,?_,by simp only [Lm.l,Lm.v,Lm.size,Lm.sizes];omega,by simp only [Lm.l,Lm.v,Lm.size,Lm.sizes];omega,Oj (FM (Or.inl ⟨rfl,by omega,by omega⟩)),fun _=>by simp [Lm.l,Lm.v,Lm.pure,Lm.pures]⟩
    by_cases hm3:(most:Int) < 3
    ·unfold Di
     refine BD.ac fun C hC=>?_
     unfold BA
     repeat' (first | (with_reducible first | refine W ?_ | refine Z0 ?_ | ((first | refine Wo fun K hK=>?_ | refine Wp ?_ | refine Wq ?_ | refine Wr ?_);(try simp only [go_sem,fN,seval,eT,iR,hm3,hu0,hc0,dT,dF,nL]);(repeat refine Ai ?_);(try (refine hK _ ?_;clear hK K));try refine iC ?_)) | refine Cg _ (hraw) ?_ | refine Cg _ (HU 0) ?_ | refine Cg _ (OQ (.v 0)) ?_)
     simp only [go_sem,fN,seval,AR,AS.result,AB,AE,AQ]
     all_goals first | done | rfl | skip
    ·have hx6:x6=0:=by omega
     unfold Di
     refine BD.ac fun C hC=>?_
     unfold BA
     repeat' (first | (with_reducible first | refine W ?_ | refine Z0 ?_ | ((first | refine Wo fun K hK=>?_ | refine Wp ?_ | refine Wq ?_ | refine Wr ?_);(try simp only [go_sem,fN,seval,eT,iR,hm3,hx6,hu0,hc0,dT,dF,nL]);(repeat refine Ai ?_);(try (refine hK _ ?_;clear hK K));try refine iC ?_)) | refine Cg _ (hraw) ?_ | refine Cg _ (p6) ?_ | refine Cg _ (HU 0) ?_ | refine Cg _ (OQ (.v 0)) ?_)
     simp only [go_sem,fN,seval,AR,AS.result,AB,AE,AQ]
     all_goals first | done | rfl | skip
   ·have hc1:1≤consts:=by omega
    have q:=q24 hc1
    refine ⟨.mk 4 x24 [],at_ + 1,?_,by simp only [Lm.size,Lm.sizes];omega,by simp only [Lm.size,Lm.sizes];omega,FM (Or.inr ⟨rfl,by omega,by omega⟩),fun h=>by omega⟩
    by_cases hm3:(most:Int) < 3
    ·unfold Di
     refine BD.ac fun C hC=>?_
     unfold BA
     repeat' (first | (with_reducible first | refine W ?_ | refine Z0 ?_ | ((first | refine Wo fun K hK=>?_ | refine Wp ?_ | refine Wq ?_ | refine Wr ?_);(try simp only [go_sem,fN,seval,eT,iR,hm3,hu0,hc0,d24.1,dT,dF,nL]);(repeat refine Ai ?_);(try (refine hK _ ?_;clear hK K));try refine iC ?_)) | refine Cg _ (hraw) ?_ | refine Cg _ (p24 hc1) ?_ | refine Cg _ (LI x24) ?_)
     simp only [go_sem,fN,seval,AR,AS.result,AB,AE,AQ]
     all_goals first | done | rfl | skip
    ·have hx6:x6=0:=by omega
     unfold Di
     refine BD.ac fun C hC=>?_
     unfold BA
     repeat' (first | (with_reducible first | refine W ?_ | refine Z0 ?_ | ((first | refine Wo fun K hK=>?_ | refine Wp ?_ | refine Wq ?_ | refine Wr ?_);(try simp only [go_sem,fN,seval,eT,iR,hm3,hx6,hu0,hc0,d24.1,dT,dF,nL]);(repeat refine Ai ?_);(try (refine hK _ ?_;clear hK K));try refine iC ?_)) | refine Cg _ (hraw) ?_ | refine Cg _ (p6) ?_ | refine Cg _ (p24 hc1) ?_ | refine Cg _ (LI x24) ?_)
     simp only [go_sem,fN,seval,AR,AS.result,AB,AE,AQ]
     all_goals first | done | rfl | skip
  ·have hu1:1≤(Aj:Int):=by omega
   have qu:=q6u hu1
   by_cases hc0:consts=0
   ·refine ⟨.mk 1 x6u [],at_ + 1,?_,by simp only [Lm.size,Lm.sizes];omega,by simp only [Lm.size,Lm.sizes];omega,FM (Or.inl ⟨rfl,by omega,by omega⟩),fun _=>by simp [Lm.pure,Lm.pures]⟩
    by_cases hm3:(most:Int) < 3
    ·unfold Di
     refine BD.ac fun C hC=>?_
     unfold BA
     repeat' (first | (with_reducible first | refine W ?_ | refine Z0 ?_ | ((first | refine Wo fun K hK=>?_ | refine Wp ?_ | refine Wq ?_ | refine Wr ?_);(try simp only [go_sem,fN,seval,eT,iR,hm3,hu0,hc0,d6.1,dT,dF,nL]);(repeat refine Ai ?_);(try (refine hK _ ?_;clear hK K));try refine iC ?_)) | refine Cg _ (hraw) ?_ | refine Cg _ (p6u hu1) ?_ | refine Cg _ (HU x6u) ?_)
     simp only [go_sem,fN,seval,AR,AS.result,AB,AE,AQ]
     all_goals first | done | rfl | skip
    ·have hx6:x6=0:=by omega
     unfold Di
     refine BD.ac fun C hC=>?_
     unfold BA
     repeat' (first | (with_reducible first | refine W ?_ | refine Z0 ?_ | ((first | refine Wo fun K hK=>?_ | refine Wp ?_ | refine Wq ?_ | refine Wr ?_);(try simp only [go_sem,fN,seval,eT,iR,hm3,hx6,hu0,hc0,d6.1,dT,dF,nL]);(repeat refine Ai ?_);(try (refine hK _ ?_;clear hK K));try refine iC ?_)) | refine Cg _ (hraw) ?_ | refine Cg _ (p6) ?_ | refine Cg _ (p6u hu1) ?_ | refine Cg _ (HU x6u) ?_)
     simp only [go_sem,fN,seval,AR,AS.result,AB,AE,AQ]
     all_goals first | done | rfl | skip
   ·have hc0':0 < consts:=by omega
    have hc1:1≤consts:=by omega
    have q:=q24 hc1
    by_cases hx4:x64=0
    ·refine ⟨.mk 4 x24 [],at_ + 1,?_,by simp only [Lm.size,Lm.sizes];omega,by simp only [Lm.size,Lm.sizes];omega,FM (Or.inr ⟨rfl,by omega,by omega⟩),fun h=>by omega⟩
     by_cases hm3:(most:Int) < 3
     ·unfold Di
      refine BD.ac fun C hC=>?_
      unfold BA
      repeat' (first | (with_reducible first | refine W ?_ | refine Z0 ?_ | ((first | refine Wo fun K hK=>?_ | refine Wp ?_ | refine Wq ?_ | refine Wr ?_);(try simp only [go_sem,fN,seval,eT,iR,hm3,hu0,hc0',d6.1,hx4,d24.1,dT,dF,nL]);(repeat refine Ai ?_);(try (refine hK _ ?_;clear hK K));try refine iC ?_)) | refine Cg _ (hraw) ?_ | refine Cg _ (p64) ?_ | refine Cg _ (p24 hc1) ?_ | refine Cg _ (LI x24) ?_)
      simp only [go_sem,fN,seval,AR,AS.result,AB,AE,AQ]
      all_goals first | done | rfl | skip
     ·have hx6:x6=0:=by omega
      unfold Di
      refine BD.ac fun C hC=>?_
      unfold BA
      repeat' (first | (with_reducible first | refine W ?_ | refine Z0 ?_ | ((first | refine Wo fun K hK=>?_ | refine Wp ?_ | refine Wq ?_ | refine Wr ?_);(try simp only [go_sem,fN,seval,eT,iR,hm3,hx6,hu0,hc0',d6.1,hx4,d24.1,dT,dF,nL]);(repeat refine Ai ?_);(try (refine hK _ ?_;clear hK K));try refine iC ?_)) | refine Cg _ (hraw) ?_ | refine Cg _ (p6) ?_ | refine Cg _ (p64) ?_ | refine Cg _ (p24 hc1) ?_ | refine Cg _ (LI x24) ?_)
      simp only [go_sem,fN,seval,AR,AS.result,AB,AE,AQ]
      all_goals first | done | rfl | skip
    ·refine ⟨.mk 1 x6u [],at_ + 1,?_,by simp only [Lm.size,Lm.sizes];omega,by simp only [Lm.size,Lm.sizes];omega,FM (Or.inl ⟨rfl,by omega,by omega⟩),fun _=>by simp [Lm.pure,Lm.pures]⟩
     by_cases hm3:(most:Int) < 3
     ·unfold Di
      refine BD.ac fun C hC=>?_
      unfold BA
      repeat' (first | (with_reducible first | refine W ?_ | refine Z0 ?_ | ((first | refine Wo fun K hK=>?_ | refine Wp ?_ | refine Wq ?_ | refine Wr ?_);(try simp only [go_sem,fN,seval,eT,iR,hm3,hu0,hc0',d6.1,hx4,dT,dF,nL]);(repeat refine Ai ?_);(try (refine hK _ ?_;clear hK K));try refine iC ?_)) | refine Cg _ (hraw) ?_ | refine Cg _ (p64) ?_ | refine Cg _ (p6u hu1) ?_ | refine Cg _ (HU x6u) ?_)
      simp only [go_sem,fN,seval,AR,AS.result,AB,AE,AQ]
      all_goals first | done | rfl | skip
     ·have hx6:x6=0:=by omega
      unfold Di
      refine BD.ac fun C hC=>?_
      unfold BA
      repeat' (first | (with_reducible first | refine W ?_ | refine Z0 ?_ | ((first | refine Wo fun K hK=>?_ | refine Wp ?_ | refine Wq ?_ | refine Wr ?_);(try simp only [go_sem,fN,seval,eT,iR,hm3,hx6,hu0,hc0',d6.1,hx4,dT,dF,nL]);(repeat refine Ai ?_);(try (refine hK _ ?_;clear hK K));try refine iC ?_)) | refine Cg _ (hraw) ?_ | refine Cg _ (p6) ?_ | refine Cg _ (p64) ?_ | refine Cg _ (p6u hu1) ?_ | refine Cg _ (HU x6u) ?_)
      simp only [go_sem,fN,seval,AR,AS.result,AB,AE,AQ]
      all_goals first | done | rfl | skip
 ·have hm3:¬ (most:Int) < 3:=by omega
  have hx6:¬ x6=0:=by omega
  by_cases h3:x6 < 3
  ·obtain ⟨t,n,ht,hs,hn,hk,hp⟩:=ih (most - 1) (by omega) (at_ + 1) (Aj + 1) (by omega) (by omega) (by omega) (by omega)
   unfold Di at ht
   rw [show (((at_ + 1:Nat):Int))=(at_:Int) + 1 by omega,show (((most - 1:Nat):Int))=(most:Int) - 1 by omega,show (((Aj + 1:Nat):Int))=(Aj:Int) + 1 by omega] at ht
   rw [show (((Aj + 1:Nat):Int))=(Aj:Int) + 1 by omega] at hk
   refine ⟨.l t,n,?_,by simp only [Lm.l,Lm.size,Lm.sizes];omega,by simp only [Lm.l,Lm.size,Lm.sizes];omega,Oj hk,fun h=>by simp [Lm.l,Lm.pure,Lm.pures,hp h]⟩
   unfold Di
   refine BD.ac fun C hC=>?_
   unfold BA
   repeat' (first | (with_reducible first | refine W ?_ | refine Z0 ?_ | ((first | refine Wo fun K hK=>?_ | refine Wp ?_ | refine Wq ?_ | refine Wr ?_);(try simp only [go_sem,fN,seval,eT,iR,hm3,hx6,h3,dT,dF,nL]);(repeat refine Ai ?_);(try (refine hK _ ?_;clear hK K));try refine iC ?_)) | refine Cg _ (hraw) ?_ | refine Cg _ (p6) ?_ | refine Cg _ (ht) ?_ | refine Cg _ (OQ t) ?_)
   simp only [go_sem,fN,seval,AR,AS.result,AB,AE,AQ]
  ·have d2:=Ep (x:=(most:Int)) (n:=2) (by omega) (by omega)
   have e2:(most:Int) / 2=((most / 2:Nat):Int):=by omega
   obtain ⟨t,n,ht,hs,hn,hk,hp⟩:=ih (most / 2) (by omega) (at_ + 1) Aj (by omega) (by omega) (by omega) (by omega)
   obtain ⟨u,n2,hu,hs2,hn2,hk2,hp2⟩:=ih (most / 2) (by omega) n Aj (by omega) (by omega) (by omega) (by omega)
   unfold Di at ht hu
   rw [show (((at_ + 1:Nat):Int))=(at_:Int) + 1 by omega] at ht
   refine ⟨.a t u,n2,?_,by simp only [Lm.a,Lm.size,Lm.sizes];omega,by simp only [Lm.a,Lm.size,Lm.sizes];omega,Tb hk hk2,fun h=>by simp [Lm.a,Lm.pure,Lm.pures,hp h,hp2 h]⟩
   unfold Di
   refine BD.ac fun C hC=>?_
   unfold BA
   repeat' (first | (with_reducible first | refine W ?_ | refine Z0 ?_ | ((first | refine Wo fun K hK=>?_ | refine Wp ?_ | refine Wq ?_ | refine Wr ?_);(try simp only [go_sem,fN,seval,eT,iR,hm3,hx6,h3,d2.1,e2,dT,dF,nL]);(repeat refine Ai ?_);(try (refine hK _ ?_;clear hK K));try refine iC ?_)) | refine Cg _ (hraw) ?_ | refine Cg _ (p6) ?_ | refine Cg _ (ht) ?_ | refine Cg _ (hu) ?_ | refine Cg _ (T_ t u) ?_)
   simp only [go_sem,fN,seval,AR,AS.result,AB,AE,AQ]
theorem N1 (l:List Int) (hl:∀ n ∈ l,inR .i64 n) (hm:l.length≤maxLen) (consts:Int) (hc:0≤consts∧consts≤40) (most Aj:Nat) (h1:0≤most) (h2:most≤1000) (h3:Aj≤1000) :
  ∃ t:Lm,AW Tryz.prog 4 [Mc l,Ad 0,Ad most,Ad Aj,Ad consts] (aLm t)∧t.size + 1≤3 * max most 1∧t.chk 0 Aj=0∧(consts=0→t.pure=true):=by
 obtain ⟨t,n,ht,hs,_,hk,hp⟩:=Qf l hl hm consts hc most 0 Aj h1 h2 (by omega) (by omega)
 refine ⟨t,?_,hs,hk,hp⟩
 unfold Di at ht
 rw [show ((0:Nat):Int)=0 from rfl] at ht
 refine KO.ac fun C hC=>?_
 unfold GF
 repeat' (first | (with_reducible first | refine W ?_ | refine Z0 ?_ | ((first | refine Wo fun K hK=>?_ | refine Wp ?_ | refine Wq ?_ | refine Wr ?_);(try simp only [go_sem,fN,seval,eT,iR,dT,dF,nL]);(repeat refine Ai ?_);(try (refine hK _ ?_;clear hK K));try refine iC ?_)) | refine Cg _ (ht) ?_)
 simp only [go_sem,fN,seval,AR,AS.result,AB,AE,AQ]

def GI:IR :=
 (.seq (.ops [.i 2 (.box 25 (.t 0)),.i 4 (.alloc 25 [.st (.int .i64 0),.st (.int .i64 0),.full []]),.i 5 (.mov (.n 0))]) (.seq (.seq (.ops [.L 7 3 2,.m 8 1,.i 9 (.call 15 [.t 7,.t 8]),.m 6 9]) (.seq (.ops [.m 10 6,.i 11 (.bin .neq (.t 10) (.n 0))]) (.cond (.t 11) (.seq (.ops [.i 12 (.build [.st (.int .i64 0),.st (.int .i64 0),.full []] []),.m 13 6,.s 3 4 12,.m 5 13]) .ret) .skip))) (.seq (.ops [.L 14 3 2,.i 15 (.call 25 [.t 14]),.s 3 4 15,.i 5 (.mov (.n 0))]) .ret)))
theorem KD:OkF Tryz.prog 12 16 [] GI [.cell 4 true 3,.t 5]:=.of Tryz.func12 rfl rfl (by kernel_rfl) rfl
def Ah:IR :=
 (.seq (.ops [.i 4 (.mov (.c (.one (.st (.bool false)))))]) (.seq (.seq (.ops [.m 16 0,.i 17 (.len false (.t 16)),.i 18 (.bin .gtr (.t 17) (.n 256))]) (.cond (.t 18) (.seq (.ops [.i 4 (.mov (.c (.one (.st (.bool true)))))]) .ret) .skip)) (.seq (.ops [.m 19 0,.m 20 1,.i 21 (.call 5 [.t 20,.n 16]),.i 22 (.bin .add (.n 2) (.t 21)),.i 23 (.call 4 [.t 19,.n 0,.t 22,.n 0,.n 2]),.i 5 (.alloc 25 [.st (.int .i64 0),.st (.int .i64 0),.full []]),.s 3 5 23]) (.seq (.ops [.L 25 3 5,.i 26 (.call 6 [.t 25]),.m 24 26,.i 27 (.extract 0 (.t 24)),.i 28 (.extract 1 (.t 24)),.i 6 (.alloc 30 [.st (.str (ByteArray.mk (#[]))),.full []]),.s 2 6 27,.m 7 28]) (.seq (.seq (.ops [.m 29 7,.i 30 (.bin .neq (.t 29) (.n 0))]) (.cond (.t 30) (.seq (.ops [.m 31 7,.i 32 (.bin .eql (.t 31) (.n 8)),.m 33 32,.mk (some 34) (some (33,true)) (.call 7 []) .no,.i 35 (.pick (.t 33) (.t 34) (.c (.one (.st (.bool false))))),.m 4 35]) .ret) .skip)) (.seq (.seq (.ops [.L 36 2 6,.i 37 (.call 8 [.t 36,.n 200]),.i 38 (.bin .gtr (.t 37) (.n 200))]) (.cond (.t 38) (.seq (.ops [.i 39 (.call 7 []),.m 4 39]) .ret) .skip)) (.seq (.ops [.L 41 2 6,.i 42 (.call 9 [.t 41]),.m 40 42,.i 43 (.extract 0 (.t 40)),.i 44 (.extract 1 (.t 40)),.i 8 (.alloc 25 [.st (.int .i64 0),.st (.int .i64 0),.full []]),.s 3 8 43,.m 7 44]) (.seq (.seq (.ops [.m 45 7,.i 46 (.bin .neq (.t 45) (.n 0))]) (.cond (.t 46) (.seq (.ops [.m 47 7,.i 48 (.bin .eql (.t 47) (.n 8)),.m 49 48,.mk (some 50) (some (49,true)) (.call 7 []) .no,.i 51 (.pick (.t 49) (.t 50) (.c (.one (.st (.bool false))))),.m 4 51]) .ret) .skip)) (.seq (.seq (.ops [.L 52 3 8,.i 53 (.call 10 [.t 52,.n 200]),.i 54 (.bin .gtr (.t 53) (.n 200))]) (.cond (.t 54) (.seq (.ops [.i 55 (.call 7 []),.m 4 55]) .ret) .skip)) (.seq (.ops [.L 57 3 5,.i 58 (.call 11 [.t 57,.n 0,.n 100]),.m 56 58,.i 59 (.extract 0 (.t 56)),.i 60 (.extract 1 (.t 56)),.i 61 (.extract 2 (.t 56)),.i 9 (.alloc 25 [.st (.int .i64 0),.st (.int .i64 0),.full []]),.s 3 9 59,.m 10 60,.m 7 61]) (.seq (.ops [.L 63 3 8,.i 64 (.call 11 [.t 63,.n 0,.n 400]),.m 62 64,.i 65 (.extract 0 (.t 62)),.i 66 (.extract 1 (.t 62)),.i 67 (.extract 2 (.t 62)),.i 11 (.alloc 25 [.st (.int .i64 0),.st (.int .i64 0),.full []]),.s 3 11 65,.m 12 66,.m 13 67]) (.seq (.seq (.ops [.m 68 7,.i 69 (.bin .neq (.t 68) (.n 0)),.m 70 69,.mk (some 71) (some (70,false)) (.mov (.t 13)) .no,.mk (some 72) (some (70,false)) (.bin .neq (.t 71) (.n 0)) .no,.i 73 (.pick (.t 70) (.c (.one (.st (.bool true)))) (.t 72)),.m 74 73,.mk (some 75) (some (74,false)) (.load true 3 (.t 9)) .no,.mk (some 76) (some (74,false)) (.call 10 [.t 75,.n 200]) .no,.mk (some 77) (some (74,false)) (.bin .gtr (.t 76) (.n 200)) .no,.i 78 (.pick (.t 74) (.c (.one (.st (.bool true)))) (.t 77)),.m 79 78,.mk (some 80) (some (79,false)) (.load true 3 (.t 11)) .no,.mk (some 81) (some (79,false)) (.call 10 [.t 80,.n 200]) .no,.mk (some 82) (some (79,false)) (.bin .gtr (.t 81) (.n 200)) .no,.i 83 (.pick (.t 79) (.c (.one (.st (.bool true)))) (.t 82))]) (.cond (.t 83) (.seq (.ops [.i 84 (.call 7 []),.m 4 84]) .ret) .skip)) (.seq (.ops [.L 86 3 9,.i 87 (.call 12 [.t 86,.n 0]),.m 85 87,.i 88 (.extract 0 (.t 85)),.i 89 (.extract 1 (.t 85)),.i 14 (.alloc 25 [.st (.int .i64 0),.st (.int .i64 0),.full []]),.s 3 14 88,.m 7 89]) (.seq (.ops [.L 91 3 11,.i 92 (.call 12 [.t 91,.n 0]),.m 90 92,.i 93 (.extract 0 (.t 90)),.i 94 (.extract 1 (.t 90)),.i 15 (.alloc 25 [.st (.int .i64 0),.st (.int .i64 0),.full []]),.s 3 15 93,.m 13 94]) (.seq (.ops [.m 95 7,.i 96 (.bin .eql (.t 95) (.n 0)),.m 97 96,.mk (some 98) (some (97,true)) (.mov (.t 13)) .no,.mk (some 99) (some (97,true)) (.bin .eql (.t 98) (.n 0)) .no,.i 100 (.pick (.t 97) (.t 99) (.c (.one (.st (.bool false))))),.m 101 100,.mk (some 102) (some (101,true)) (.load true 3 (.t 14)) .no,.mk (some 103) (some (101,true)) (.load true 3 (.t 15)) .no,.mk (some 104) (some (101,true)) (.call 13 [.t 102,.t 103]) .no,.i 105 (.pick (.t 101) (.t 104) (.c (.one (.st (.bool false))))),.m 106 105,.mk (some 107) (some (106,true)) (.call 7 []) .no,.i 108 (.pick (.t 106) (.t 107) (.c (.one (.st (.bool false))))),.m 4 108]) .ret)))))))))))))))
theorem Al:OkF Tryz.prog 3 109 [] Ah [.t 4]:=.of Tryz.func3 rfl rfl (by kernel_rfl) rfl

set_option maxHeartbeats 4000000
theorem PB (t:Lm) (h:t.may 0 0=0):AW Tryz.prog 12 [aLm t,Ad 0] (.tup [aLm t.eta1,Ad 0]):=by
 obtain ⟨_,_,hz,hc⟩:=Lm.may_ok h
 have c1:=DX t 0
 rw [h] at c1
 have c2:=RN t (Lm.wf_chk t 0 hc) (Lm.good_chk (by decide) t 0 1000000000 (by decide) (by omega) (by decide) hc) (by omega)
 refine KD.ac fun C hC=>?_
 unfold GI
 repeat' (first | (with_reducible first | refine W ?_ | refine Z0 ?_ | ((first | refine Wo fun K hK=>?_ | refine Wp ?_ | refine Wq ?_ | refine Wr ?_);(try simp only [go_sem,fN,seval,eT,iR,dT,dF,nL]);(repeat refine Ai ?_);(try (refine hK _ ?_;clear hK K));try refine iC ?_)) | refine Cg _ (c1) ?_ | refine Cg _ (c2) ?_)
 simp only [go_sem,fN,seval,AR,AS.result,AB,AE,AQ]
theorem Jr {t:La} {most:Int} (h:(EC t.enc 0 most).2.2=0):∃ u:La,(EC t.enc 0 most).1=u.enc∧Av B1 t u∧(∀ d,¬ B1 u d)∧t.fin 0:=by
 unfold EC at h ⊢
 by_cases ha:Dm t.enc 0 most=0
 ·rw [if_pos ha] at h ⊢
  obtain ⟨u,h1,h2,h3⟩:=PT most.toNat 0 t h
  refine ⟨u,h1,h2,h3,?_⟩
  unfold Dm at ha
  split at ha
  ·rename_i hm
   exact (F_ t 0).1 (Lm.may_ok hm).2.2.2
  ·rename_i hm
   exact absurd ha hm
 ·rw [if_neg ha] at h
  exact absurd h ha
theorem LP (l:List Int) (m1:Int) (hm:l.length≤maxLen) (hl:∀ n ∈ l,inR .i64 n) (h1:inR .i64 m1):AW Tryz.prog 3 [Mc l,Ad m1] (CH true):=by
 have cA:=QF
 have p1:=HT m1 16 h1 (by decide)
 obtain ⟨b1,b2⟩:=CQ m1 16 (by decide)
 generalize FS m1 16=x1 at *
 obtain ⟨x1,rfl⟩:∃ k:Nat,x1=k:=⟨x1.toNat,by omega⟩
 obtain ⟨t,cT,zt,kt,-⟩:=N1 l hl hm 2 (by decide) (2 + x1) 0 (by omega) (by omega) (by omega)
 rw [show ((2 + x1:Nat):Int)=2 + (x1:Int) by omega,show ((0:Nat):Int)=0 from rfl] at cT
 have zt:t.size≤50:=by omega
 by_cases h256:(256:Int) < l.length
 ·refine Al.ac fun C hC=>?_
  unfold Ah
  repeat' with_reducible first | refine W ?_ | refine Z0 ?_ | ((first | refine Wo fun K hK=>?_ | refine Wp ?_ | refine Wq ?_ | refine Wr ?_);(try simp only [go_sem,fN,seval,eT,iR,h256,dT,dF,nL]);(repeat refine Ai ?_);(try (refine hK _ ?_;clear hK K));try refine iC ?_)
  simp only [go_sem,fN,seval,AR,AS.result,AB,AE,AQ]
 have hmay:t.may 0 0=0:=Ob (by decide) (by decide) (by omega) kt
 have cF:=T9 t (fun _=>by omega)
 have hfr:NW t=Lm.toC 0 t:=by unfold NW;rw [if_pos hmay]
 rw [hfr] at cF
 obtain ⟨t0,ht0,hlike⟩:=F8 _ t 0 (Nat.lt_succ_self _) (by omega) kt
 obtain ⟨hcb,herr⟩:=Ia _ t 0 (Nat.lt_succ_self _) (by omega) kt
 rw [show ((0:Nat):Int)=0 from rfl] at hlike hcb herr
 generalize Lm.toC 0 t=C at *
 obtain ⟨c,e⟩:=C
 simp only at cF hlike hcb herr
 rcases herr with rfl | rfl
 case inr =>
  refine Al.ac fun C hC=>?_
  unfold Ah
  repeat' (first | (with_reducible first | refine W ?_ | refine Z0 ?_ | ((first | refine Wo fun K hK=>?_ | refine Wp ?_ | refine Wq ?_ | refine Wr ?_);(try simp only [go_sem,fN,seval,eT,iR,h256,dT,dF,nL]);(repeat refine Ai ?_);(try (refine hK _ ?_;clear hK K));try refine iC ?_)) | refine Cg _ (p1) ?_ | refine Cg _ (cT) ?_ | refine Cg _ (cF) ?_ | refine Cg _ (cA) ?_)
  simp only [go_sem,fN,seval,AR,AS.result,AB,AE,AQ]
 replace hcb:=hcb rfl
 obtain ⟨hfm,hlike⟩:=hlike rfl
 have cZ:=Sy c 200 (by decide) (by decide)
 by_cases hz:(200:Int) < BQ c.size 200
 ·refine Al.ac fun C hC=>?_
  unfold Ah
  repeat' (first | (with_reducible first | refine W ?_ | refine Z0 ?_ | ((first | refine Wo fun K hK=>?_ | refine Wp ?_ | refine Wq ?_ | refine Wr ?_);(try simp only [go_sem,fN,seval,eT,iR,h256,hz,dT,dF,nL]);(repeat refine Ai ?_);(try (refine hK _ ?_;clear hK K));try refine iC ?_)) | refine Cg _ (p1) ?_ | refine Cg _ (cT) ?_ | refine Cg _ (cF) ?_ | refine Cg _ (cZ) ?_ | refine Cg _ (cA) ?_)
  simp only [go_sem,fN,seval,AR,AS.result,AB,AE,AQ]
 have hzc:c.size≤200:=by unfold BQ at hz;split at hz <;> omega
 have hcy:c.may=0:=by
  unfold Tm.may
  rw [if_neg (by omega)]
  exact hcb.chk
 have hcm:Dl c=0:=by
  unfold Dl
  rw [if_pos hcy,hfm]
  rfl
 have hto:toR c=(c.toL.1,0):=by
  unfold toR
  rw [if_pos hcm]
  unfold T2
  rw [if_pos hcb.toL]
  exact Prod.ext rfl hcb.toL
 have cO:=Uw c
 rw [hto,OZ _ c (Nat.lt_succ_self _) hfm hcb.toL] at cO
 generalize c.itp 0=u at *
 simp only at cO
 have cL:=I3 u.enc 200 (by decide) (by decide)
 by_cases hzu:(200:Int) < BQ u.enc.size 200
 ·refine Al.ac fun C hC=>?_
  unfold Ah
  repeat' (first | (with_reducible first | refine W ?_ | refine Z0 ?_ | ((first | refine Wo fun K hK=>?_ | refine Wp ?_ | refine Wq ?_ | refine Wr ?_);(try simp only [go_sem,fN,seval,eT,iR,h256,hz,hzu,dT,dF,nL]);(repeat refine Ai ?_);(try (refine hK _ ?_;clear hK K));try refine iC ?_)) | refine Cg _ (p1) ?_ | refine Cg _ (cT) ?_ | refine Cg _ (cF) ?_ | refine Cg _ (cZ) ?_ | refine Cg _ (cO) ?_ | refine Cg _ (cL) ?_ | refine Cg _ (cA) ?_)
  simp only [go_sem,fN,seval,AR,AS.result,AB,AE,AQ]
 subst ht0
 have cN:=Hi t0.enc 0 100
 have cM:=Hi u.enc 0 400
 have gN:=@Jr t0 100
 have gM:=@Jr u 400
 unfold T5 at cN cM
 generalize EC t0.enc 0 100=RA at *
 obtain ⟨a,na,ea⟩:=RA
 generalize EC u.enc 0 400=RB at *
 obtain ⟨b,nb,eb⟩:=RB
 simp only at cN cM gN gM
 by_cases hea:ea=0
 case neg =>
  refine Al.ac fun C hC=>?_
  unfold Ah
  repeat' (first | (with_reducible first | refine W ?_ | refine Z0 ?_ | ((first | refine Wo fun K hK=>?_ | refine Wp ?_ | refine Wq ?_ | refine Wr ?_);(try simp only [go_sem,fN,seval,eT,iR,h256,hz,hzu,hea,dT,dF,nL]);(repeat refine Ai ?_);(try (refine hK _ ?_;clear hK K));try refine iC ?_)) | refine Cg _ (p1) ?_ | refine Cg _ (cT) ?_ | refine Cg _ (cF) ?_ | refine Cg _ (cZ) ?_ | refine Cg _ (cO) ?_ | refine Cg _ (cL) ?_ | refine Cg _ (cN) ?_ | refine Cg _ (cM) ?_ | refine Cg _ (cA) ?_)
  simp only [go_sem,fN,seval,AR,AS.result,AB,AE,AQ]
 subst hea
 by_cases heb:eb=0
 case neg =>
  refine Al.ac fun C hC=>?_
  unfold Ah
  repeat' (first | (with_reducible first | refine W ?_ | refine Z0 ?_ | ((first | refine Wo fun K hK=>?_ | refine Wp ?_ | refine Wq ?_ | refine Wr ?_);(try simp only [go_sem,fN,seval,eT,iR,h256,hz,hzu,heb,dT,dF,nL]);(repeat refine Ai ?_);(try (refine hK _ ?_;clear hK K));try refine iC ?_)) | refine Cg _ (p1) ?_ | refine Cg _ (cT) ?_ | refine Cg _ (cF) ?_ | refine Cg _ (cZ) ?_ | refine Cg _ (cO) ?_ | refine Cg _ (cL) ?_ | refine Cg _ (cN) ?_ | refine Cg _ (cM) ?_ | refine Cg _ (cA) ?_)
  simp only [go_sem,fN,seval,AR,AS.result,AB,AE,AQ]
 subst heb
 obtain ⟨a0,rfl,ha1,ha2,ha3⟩:=gN rfl
 obtain ⟨b0,rfl,hb1,hb2,hb3⟩:=gM rfl
 have cX:=I3 a0.enc 200 (by decide) (by decide)
 have cY:=I3 b0.enc 200 (by decide) (by decide)
 by_cases hza:(200:Int) < BQ a0.enc.size 200
 ·refine Al.ac fun C hC=>?_
  unfold Ah
  repeat' (first | (with_reducible first | refine W ?_ | refine Z0 ?_ | ((first | refine Wo fun K hK=>?_ | refine Wp ?_ | refine Wq ?_ | refine Wr ?_);(try simp only [go_sem,fN,seval,eT,iR,h256,hz,hzu,hza,dT,dF,nL]);(repeat refine Ai ?_);(try (refine hK _ ?_;clear hK K));try refine iC ?_)) | refine Cg _ (p1) ?_ | refine Cg _ (cT) ?_ | refine Cg _ (cF) ?_ | refine Cg _ (cZ) ?_ | refine Cg _ (cO) ?_ | refine Cg _ (cL) ?_ | refine Cg _ (cN) ?_ | refine Cg _ (cM) ?_ | refine Cg _ (cX) ?_ | refine Cg _ (cY) ?_ | refine Cg _ (cA) ?_)
  simp only [go_sem,fN,seval,AR,AS.result,AB,AE,AQ]
 by_cases hzb:(200:Int) < BQ b0.enc.size 200
 ·refine Al.ac fun C hC=>?_
  unfold Ah
  repeat' (first | (with_reducible first | refine W ?_ | refine Z0 ?_ | ((first | refine Wo fun K hK=>?_ | refine Wp ?_ | refine Wq ?_ | refine Wr ?_);(try simp only [go_sem,fN,seval,eT,iR,h256,hz,hzu,hza,hzb,dT,dF,nL]);(repeat refine Ai ?_);(try (refine hK _ ?_;clear hK K));try refine iC ?_)) | refine Cg _ (p1) ?_ | refine Cg _ (cT) ?_ | refine Cg _ (cF) ?_ | refine Cg _ (cZ) ?_ | refine Cg _ (cO) ?_ | refine Cg _ (cL) ?_ | refine Cg _ (cN) ?_ | refine Cg _ (cM) ?_ | refine Cg _ (cX) ?_ | refine Cg _ (cY) ?_ | refine Cg _ (cA) ?_)
  simp only [go_sem,fN,seval,AR,AS.result,AB,AE,AQ]
 have hsa:a0.enc.size≤200:=by unfold BQ at hza;split at hza <;> omega
 have hsb:b0.enc.size≤200:=by unfold BQ at hzb;split at hzb <;> omega
 have cE:=PB a0.enc (Ob (by decide) (by decide) hsa ((F_ a0 0).2 (NZ ha1 ha3)))
 have cG:=PB b0.enc (Ob (by decide) (by decide) hsb ((F_ b0 0).2 (NZ hb1 hb3)))
 obtain ⟨x0,hx1,hx2,hx3⟩:=Ef a0
 obtain ⟨y0,hy1,hy2,hy3⟩:=Ef b0
 have hxy:x0=y0:=SZ hlike.symm ha1 hb1 ha2 hb2 hx2 hy2 hx3 hy3
 subst hxy
 rw [hx1] at cE
 rw [hy1] at cG
 have cS:=QZ x0.enc
 refine Al.ac fun C hC=>?_
 unfold Ah
 repeat' (first | (with_reducible first | refine W ?_ | refine Z0 ?_ | ((first | refine Wo fun K hK=>?_ | refine Wp ?_ | refine Wq ?_ | refine Wr ?_);(try simp only [go_sem,fN,seval,eT,iR,h256,hz,hzu,hza,hzb,dT,dF,nL]);(repeat refine Ai ?_);(try (refine hK _ ?_;clear hK K));try refine iC ?_)) | refine Cg _ (p1) ?_ | refine Cg _ (cT) ?_ | refine Cg _ (cF) ?_ | refine Cg _ (cZ) ?_ | refine Cg _ (cO) ?_ | refine Cg _ (cL) ?_ | refine Cg _ (cN) ?_ | refine Cg _ (cM) ?_ | refine Cg _ (cX) ?_ | refine Cg _ (cY) ?_ | refine Cg _ (cE) ?_ | refine Cg _ (cG) ?_ | refine Cg _ (cS) ?_ | refine Cg _ (cA) ?_)
 simp only [go_sem,fN,seval,AR,AS.result,AB,AE,AQ]

end Go.Proofs.YtignopbnnaimaaaGreatDoor
