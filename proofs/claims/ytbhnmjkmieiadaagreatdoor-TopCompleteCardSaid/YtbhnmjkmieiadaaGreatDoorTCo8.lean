/-
  Part 8 of the texts. Conditions: none.
-/
import Derived.Test.YtbhnmjkmieiadaaGreatDoorTCo7
import Derived.Shelf.Strconv.Itoa3
import Derived.Shelf.SlSortCmp.WholeK
import Derived.Shelf.SlSortCmp.NoneTotal
import Derived.Test.YtbhnmjkmieiadaaGreatDoorProg
namespace Go.Proofs.YtbhnmjkmieiadaaGreatDoor
open Go Go.RowKit
set_option linter.unusedVariables false
set_option linter.unusedSimpArgs false
set_option maxHeartbeats 800000
def DN (u:Tm) (left:Int):Tm × Int:=if (u.size:Int)≤left then (u,left - u.size) else (Tm.nil,-1)
abbrev I6 (s:List Bd) (left:Int):AK:=.box 150 [.st (.list (s.map Cx)),.st (.int .i64 left)]
theorem EZ {u:Tm} {left:Int} (h:(u.size:Int)≤left):DN u left=(u,left - u.size):=if_pos h
theorem ED {u:Tm} {left:Int} (h:¬ (u.size:Int)≤left):DN u left=(Tm.nil,-1):=if_neg h
theorem OO (s:List Bd) (h40:s.length≤100000) (ho:BN s) (turn:Bool) (f:Tm→Tm) (t:Tm) (hl:turn=true→lookup s t.name=none)
  (ih:∀ a ∈ t.args,∀ (a0:Nat) (left:Int) (S:AA),1000≤a0→0≤left→left≤1000000→S a0=some (I6 s left) →
   Ah Tryz.prog 126 [.one (.ptr a0 1 0 0),aTm a,Ad turn] S (aTm (DN (f a) left).1) (AG S a0 (some (I6 s (DN (f a) left).2))))
  (a0:Nat) (left:Int) (S:AA) (ha0:1000≤a0) (h0:0≤left) (h1:left≤1000000) (hSa:S a0=some (I6 s left)) :
  Ah Tryz.prog 126 [.one (.ptr a0 1 0 0),aTm t,Ad turn] S (aTm (DN (.mk t.name (t.args.map f)) left).1) (AG S a0 (some (I6 s (DN (.mk t.name (t.args.map f)) left).2))):=by
 refine CW.acS fun hS C hC=>?_
 have hu:(Tm.mk t.name (t.args.map f)).size=1 + Tm.sizes (t.args.map f):=rfl
 have hlen:=Tm.length_le (t.args.map f)
 rw [List.length_map] at hlen
 have n4:S 4=none:=AJ hS (by omega)
 have n6:S 6=none:=AJ hS (by omega)
 have n7:S 7=none:=AJ hS (by omega)
 have n9:S 9=none:=AJ hS (by omega)
 have n11:S 11=none:=AJ hS (by omega)
 have n900:S 900=none:=AJ hS (by omega)
 have d4:¬ 4=a0:=by omega
 have d6:¬ 6=a0:=by omega
 have d7:¬ 7=a0:=by omega
 have d9:¬ 9=a0:=by omega
 have d11:¬ 11=a0:=by omega
 have d900:¬ 900=a0:=by omega
 have e4:¬ a0=4:=by omega
 have e6:¬ a0=6:=by omega
 have e7:¬ a0=7:=by omega
 have e9:¬ a0=9:=by omega
 have e11:¬ a0=11:=by omega
 have e900:¬ a0=900:=by omega
 unfold Bf
 cases turn
 case' false =>
  repeat' with_reducible first | refine W ?_ | refine Z0 ?_ | ((first | refine Wo fun K hK=>?_ | refine Wq ?_ | refine Wr ?_);(try simp only [go_sem,fN,seval,eT,iR,hSa,n4,n6,n7,d4,d6,d7,e4,e6,e7]);(repeat refine Ai ?_);(try (refine hK _ ?_;clear hK K)))
  with_reducible refine Wp ?_
  simp only [go_sem,fN,seval,true_implies,false_implies,implies_true,dT,dF,nL]
  (try with_reducible refine iC ?_)
  repeat' with_reducible first | refine W ?_ | refine Z0 ?_ | ((first | refine Wo fun K hK=>?_ | refine Wq ?_ | refine Wr ?_);(try simp only [go_sem,fN,seval,eT,iR,hSa,n4,n6,n7,n9,d4,d6,d7,d9,e4,e6,e7,e9]);(repeat refine Ai ?_);(try (refine hK _ ?_;clear hK K)))
 case' true =>
  have hln:=hl rfl
  repeat' with_reducible first | refine W ?_ | refine Z0 ?_ | ((first | refine Wo fun K hK=>?_ | refine Wq ?_ | refine Wr ?_);(try simp only [go_sem,fN,seval,eT,iR,hSa,n4,n6,n7,d4,d6,d7,e4,e6,e7]);(repeat refine Ai ?_);(try (refine hK _ ?_;clear hK K)))
  with_reducible refine Wp ?_
  simp only [go_sem,fN,seval,true_implies,false_implies,implies_true,dT,dF,nL]
  (try with_reducible refine iC ?_)
  repeat' (first | (with_reducible first | refine W ?_ | refine Z0 ?_ | ((first | refine Wo fun K hK=>?_ | refine Wq ?_ | refine Wr ?_);(try simp only [go_sem,fN,seval,eT,iR,hSa,n4,n6,n7,d4,d6,d7,e4,e6,e7,hln]);(repeat refine Ai ?_);(try (refine hK _ ?_;clear hK K)))) | refine Cg _ (XN s h40 ho t.name) ?_)
  with_reducible refine Wp ?_
  simp only [go_sem,fN,seval,true_implies,false_implies,implies_true,dT,dF,nL]
  (try with_reducible refine iC ?_)
  repeat' with_reducible first | refine W ?_ | refine Z0 ?_ | ((first | refine Wo fun K hK=>?_ | refine Wq ?_ | refine Wr ?_);(try simp only [go_sem,fN,seval,eT,iR,hSa,n4,n6,n7,n9,d4,d6,d7,d9,e4,e6,e7,e9]);(repeat refine Ai ?_);(try (refine hK _ ?_;clear hK K)))
 all_goals
  by_cases hz:left=0
  ·subst hz
   have hno:¬ ((Tm.mk t.name (t.args.map f)).size:Int)≤0:=by rw [hu];omega
   rw [ED hno]
   with_reducible refine Wp ?_
   simp only [go_sem,fN,seval,true_implies,false_implies,implies_true,dT,dF,nL]
   (try with_reducible refine iC ?_)
   repeat' with_reducible first | refine W ?_ | refine Z0 ?_ | ((first | refine Wo fun K hK=>?_ | refine Wq ?_ | refine Wr ?_);(try simp only [go_sem,fN,seval,eT,iR,hSa,n4,n6,n7,n9,d4,d6,d7,d9,e4,e6,e7,e9]);(repeat refine Ai ?_);(try (refine hK _ ?_;clear hK K)))
   refine Bi (.agg [.st (.str ⟨#[]⟩),.full []]) hS ha0 rfl trivial ?_ ?_ ?_ fun i hi hne=>?_
   ·simp only [go_sem,fN,seval,eT,iR,AB,AD,AL,e4,e6,e7,e9,d4,d6,d7,d9]
   ·simp only [go_sem,fN,seval,eT,iR,Tm.nil]
    rfl
   ·simp only [go_sem,fN,seval,eT,iR,e4,e6,e7,e9]
   ·have i4:¬ i=4:=by omega
    have i6:¬ i=6:=by omega
    have i7:¬ i=7:=by omega
    simp only [go_sem,fN,seval,eT,iR,i4,i6,i7,hne]
  have hz':¬ left - 1 < 0:=by omega
  with_reducible refine Wp ?_
  simp only [go_sem,fN,seval,true_implies,false_implies,implies_true,dT,dF,nL,hz']
  (try with_reducible refine iC ?_)
  repeat' with_reducible first | refine W ?_ | refine Z0 ?_ | ((first | refine Wo fun K hK=>?_ | refine Wq ?_ | refine Wr ?_);(try simp only [go_sem,fN,seval,eT,iR,hSa,n4,n6,n7,n9,d4,d6,d7,d9,e4,e6,e7,e9]);(repeat refine Ai ?_);(try (refine hK _ ?_;clear hK K)))
  refine IWP.ghost (Aa.ownC 9 1 900 37 2 (xs:=([]:List Tm).map Ao) (by simp only [go_sem,fN,seval,eT,iR,d9,d4,d6,d7,e9];rfl) rfl (by simp only [go_sem,fN,seval,eT,iR,n900,d900]) Do) ?_
  refine IWP.loopD [11] (fun m x=>∃ k,k≤t.args.length∧m=t.args.length - k∧(Tm.sizes ((t.args.take k).map f):Int)≤left - 1∧x.env 0=.one (.ptr a0 1 0 0)∧x.env 2=Ad _∧x.env 6=.one (.ptr 6 1 0 0)∧x.env 9=.one (.ptr 9 1 0 0)∧x.env 44=.one (.st (.list (t.args.map Ao)))∧x.env 45=AN t.args.length∧x.env 46=AN k ∧
    x.S 6=some (.box 37 [.st (.str ⟨#[]⟩),.full []])∧x.S 9=some (.box 37 [.st (.str t.name),.row 900 k])∧x.S 900=some (.arow 37 2 (((t.args.take k).map f).map Ao))∧x.S 11=none∧x.S a0=some (I6 s (left - 1 - Tm.sizes ((t.args.take k).map f)))∧∀ i,1000≤i→i ≠ a0→x.S i=S i)
   t.args.length ⟨0,Nat.zero_le _,rfl,by show (0:Int)≤_;omega,rfl,rfl,rfl,rfl,rfl,rfl,rfl,by simp only [go_sem,fN,seval,eT,iR,d6,d4,d7,d9,e6],by (simp only [go_sem,fN,seval,eT,iR,d9]);rfl,by simp only [go_sem,fN,seval,eT,iR,e9],by simp only [go_sem,fN,seval,eT,iR,n11,d11],by (simp only [go_sem,fN,seval,eT,iR,e9,e900]);simp [Tm.sizes],fun i hi hne=>?_⟩ ?_
  ·have i4:¬ i=4:=by omega
   have i6:¬ i=6:=by omega
   have i7:¬ i=7:=by omega
   have i9:¬ i=9:=by omega
   have i900:¬ i=900:=by omega
   simp only [go_sem,fN,seval,eT,iR,i4,i6,i7,i9,i900,hne]
  rintro m ⟨env,S1⟩ ⟨k,hk,rfl,hsz,e0,e2,e6',e9',e44,e45,e46,s6,s9,s900,s11,sa,hrest⟩
  simp only at e0 e2 e6' e9' e44 e45 e46 s6 s9 s900 s11 sa hrest
  have hlk:(t.args.take k).length=k:=by rw [List.length_take];omega
  have hle:=Tm.sizes_take_le (t.args.map f) k
  rw [← List.map_take] at hle
  have hkl:=Tm.length_le ((t.args.take k).map f)
  rw [List.length_map,hlk] at hkl
  by_cases hlt:(k:Int) < t.args.length
  ·obtain ⟨a,ha⟩:=Aj (show k < t.args.length by omega)
   have ha':(t.args.map f)[k]?=some (f a):=by rw [List.getElem?_map,ha];rfl
   have z1:=Tm.sizes_take ha'
   have z2:=Tm.sizes_take_le (t.args.map f) (k + 1)
   rw [← List.map_take,← List.map_take] at z1
   rw [← List.map_take] at z2
   repeat' with_reducible first | refine W ?_ | refine Z0 ?_ | ((first | refine Wo fun K hK=>?_ | refine Wq ?_ | refine Wr ?_);(try simp only [go_sem,fN,seval,eT,iR,e0,e2,e6',e9',e44,e45,e46,s6,s9,s900,s11,sa,hlt]);(repeat refine Ai ?_);(try (refine hK _ ?_;clear hK K)))
   with_reducible refine Wp ?_
   simp only [go_sem,fN,seval,true_implies,false_implies,implies_true,dT,dF,nL,hlt]
   (try with_reducible refine iC ?_)
   repeat' with_reducible first | refine W ?_ | refine Z0 ?_ | ((first | refine Wo fun K hK=>?_ | refine Wq ?_ | refine Wr ?_);(try simp only [go_sem,fN,seval,eT,iR,e0,e2,e6',e9',e44,e45,e46,s6,s9,s900,s11,sa,d11,d9,e11,ha]);(repeat refine Ai ?_);(try (refine hK _ ?_;clear hK K)))
   have hcall:=ih a (AU ha) (up1 a0) (left - 1 - Tm.sizes ((t.args.take k).map f)) (upS (AG (AG S1 11 (some (.box 37 [.st (.str ⟨#[]⟩),.full []]))) 11 (some (.box 37 [.st (.str a.name),.st (.list (a.args.map Ao))])))) (Ap a0) (by omega) (by omega) (by rw [At,AF _ e11,AF _ e11,sa];rfl)
   by_cases hfit:((f a).size:Int)≤left - 1 - Tm.sizes ((t.args.take k).map f)
   ·rw [EZ hfit] at hcall
    refine ⟨_,_,hcall,?_⟩
    have hge:¬ left - 1 - Tm.sizes ((t.args.take k).map f) - (f a).size < 0:=by omega
    repeat' with_reducible first | refine W ?_ | refine Z0 ?_ | ((first | refine Wo fun K hK=>?_ | refine Wq ?_ | refine Wr ?_);(try simp only [go_sem,fN,seval,eT,iR,e0,e2,e6',e9',e44,e45,e46,s6,s9,s900,s11,d11,d9,e11,e9,e900,d900,hlk]);(repeat refine Ai ?_);(try (refine hK _ ?_;clear hK K)))
    with_reducible refine Wp ?_
    simp only [go_sem,fN,seval,true_implies,false_implies,implies_true,dT,dF,nL,hge]
    (try with_reducible refine iC ?_)
    repeat' with_reducible first | refine W ?_ | refine Z0 ?_ | ((first | refine Wo fun K hK=>?_ | refine Wq ?_ | refine Wr ?_);(try simp only [go_sem,fN,seval,eT,iR,e0,e2,e6',e9',e44,e45,e46,s6,s9,s900,s11,d11,d9,e11]);(repeat refine Ai ?_);(try (refine hK _ ?_;clear hK K)))
    refine AH ⟨t.args.length - (k + 1),by omega,k + 1,by omega,rfl,?_⟩
    have hib:(a0 == 11)=false:=by simp;omega
    have hzz:((Tm.sizes ((t.args.take (k + 1)).map f):Nat):Int)=Tm.sizes ((t.args.take k).map f) + (f a).size:=by omega
    refine ⟨by omega,?_⟩
    simp only [go_sem,fN,seval,AS.drop,Ac,AC.clears,AC.clear,AC.highs,AC.high,zD,AV.purge,AV.purges,AC.purge,AK.purge,Nat.reduceBEq,eT,iR,e0,e2,e6',e9',e44,e45,s6,s9,s900,d11,d9,e11,e9,e900,d900,d6,hib]
    refine ⟨by congr 3,by rw [Au ha,List.map_append,List.map_append,List.map_cons,List.map_nil,List.map_cons,List.map_nil,An],?_,fun i hi hne=>?_⟩
    ·congr 5
     omega
    ·have i9:¬ i=9:=by omega
     have i11:¬ i=11:=by omega
     have i900:¬ i=900:=by omega
     have i11b:(i == 11)=false:=by simp;omega
     simp only [go_sem,fN,seval,AS.drop,Ac,AC.clears,AC.clear,AC.highs,AC.high,zD,AV.purge,AV.purges,AC.purge,AK.purge,Nat.reduceBEq,eT,iR,i9,i11,i11b,i900,hne]
     rw [hrest i hi hne]
     exact SP (by decide) fun b hb=>(hS i b hb).2
   ·have hno:¬ ((Tm.mk t.name (t.args.map f)).size:Int)≤left:=by rw [hu];omega
    rw [ED hfit] at hcall
    refine ⟨_,_,hcall,?_⟩
    repeat' with_reducible first | refine W ?_ | refine Z0 ?_ | ((first | refine Wo fun K hK=>?_ | refine Wq ?_ | refine Wr ?_);(try simp only [go_sem,fN,seval,eT,iR,e0,e2,e6',e9',e44,e45,e46,s6,s9,s900,s11,d11,d9,e11,e9,e900,d900,hlk]);(repeat refine Ai ?_);(try (refine hK _ ?_;clear hK K)))
    with_reducible refine Wp ?_
    simp only [go_sem,fN,seval,true_implies,false_implies,implies_true,dT,dF,nL]
    (try with_reducible refine iC ?_)
    repeat' with_reducible first | refine W ?_ | refine Z0 ?_ | ((first | refine Wo fun K hK=>?_ | refine Wq ?_ | refine Wr ?_);(try simp only [go_sem,fN,seval,eT,iR,e0,e2,e6',e9',e44,e45,e46,s6,s9,s900,s11,d11,d9,e11,e6,d6,d900,e900]);(repeat refine Ai ?_);(try (refine hK _ ?_;clear hK K)))
    rw [ED hno]
    refine Bi (.agg [.st (.str ⟨#[]⟩),.full []]) hS ha0 rfl trivial ?_ ?_ ?_ fun i hi hne=>?_
    ·simp only [go_sem,fN,seval,eT,iR,AB,AD,AL,e6',s6,e6,e9,e11,e900,d6,d9,d11,d900]
    ·simp only [go_sem,fN,seval,eT,iR,Tm.nil]
     rfl
    ·simp only [go_sem,fN,seval,eT,iR,e6,e9,e11,e900]
    ·have i6:¬ i=6:=by omega
     have i9:¬ i=9:=by omega
     have i11:¬ i=11:=by omega
     have i900:¬ i=900:=by omega
     simp only [go_sem,fN,seval,eT,iR,i6,i9,i11,i900,hne]
     exact hrest i hi hne
  ·have hall:t.args.take k=t.args:=List.take_of_length_le (by omega)
   rw [hall] at hlk s900 hsz sa
   have hyes:((Tm.mk t.name (t.args.map f)).size:Int)≤left:=by rw [hu];omega
   repeat' with_reducible first | refine W ?_ | refine Z0 ?_ | ((first | refine Wo fun K hK=>?_ | refine Wq ?_ | refine Wr ?_);(try simp only [go_sem,fN,seval,eT,iR,e0,e2,e6',e9',e44,e45,e46,s6,s9,s900,s11,sa,hlt]);(repeat refine Ai ?_);(try (refine hK _ ?_;clear hK K)))
   with_reducible refine Wp ?_
   simp only [go_sem,fN,seval,true_implies,false_implies,implies_true,dT,dF,nL,hlt]
   (try with_reducible refine iC ?_)
   repeat' with_reducible first | refine W ?_ | refine Z0 ?_ | ((first | refine Wo fun K hK=>?_ | refine Wq ?_ | refine Wr ?_);(try simp only [go_sem,fN,seval,eT,iR,e0,e2,e6',e9',e44,e45,e46,s6,s9,s900,s11,sa,d6]);(repeat refine Ai ?_);(try (refine hK _ ?_;clear hK K)))
   rw [EZ hyes]
   refine Bi (.agg [.st (.str t.name),.row 900 k]) hS ha0 rfl trivial ?_ ?_ ?_ fun i hi hne=>?_
   ·simp only [go_sem,fN,seval,eT,iR,AB,AD,AL,e6',s6]
   ·simp only [go_sem,fN,seval,eT,iR,s900,hlk]
    rfl
   ·simp only [go_sem,fN,seval,eT,iR,e6,sa,hu]
    rw [show left - 1 - (Tm.sizes (t.args.map f):Int)=left - ((1 + Tm.sizes (t.args.map f):Nat):Int) by omega]
   ·have i6:¬ i=6:=by omega
    simp only [go_sem,fN,seval,eT,iR,i6]
    exact hrest i hi hne
theorem Yw (s:List Bd) (h40:s.length≤100000) (ho:BN s) (t:Tm):∀ (a0:Nat) (left:Int) (S:AA),1000≤a0→0≤left→left≤1000000→S a0=some (I6 s left) →
  Ah Tryz.prog 126 [.one (.ptr a0 1 0 0),aTm t,Ad false] S (aTm (DN t left).1) (AG S a0 (some (I6 s (DN t left).2))):=by
 induction h:SizeOf.sizeOf t using Nat.strongRecOn generalizing t with
 | _ N ih =>
 subst h
 intro a0 left S h1 h2 h3 h4
 have:=OO s h40 ho false id t (fun h=>by cases h) (fun a ha=>ih _ (Tm.lt_of_arg ha) a rfl) a0 left S h1 h2 h3 h4
 rw [List.map_id,Tm.eta] at this
 exact this
theorem Yk (s:List Bd) (h40:s.length≤100000) (ho:BN s) (t:Tm) (hv:∀ b ∈ s,AP b.1=true) (hchk:t.chk=0):∀ (a0:Nat) (left:Int) (S:AA),1000≤a0→0≤left→left≤1000000→S a0=some (I6 s left) →
  Ah Tryz.prog 126 [.one (.ptr a0 1 0 0),aTm t,Ad true] S (aTm (DN (t.on s) left).1) (AG S a0 (some (I6 s (DN (t.on s) left).2))):=by
 induction h:SizeOf.sizeOf t using Nat.strongRecOn generalizing t with
 | _ N ih =>
 subst h
 intro a0 left S ha0 h0 h1 hSa
 obtain ⟨c1,c2⟩:=Tm.chk_args hchk
 cases hl:lookup s t.name with
 | none =>
  have:=OO s h40 ho true (Tm.on s) t (fun _=>hl) (fun a ha=>ih _ (Tm.lt_of_arg ha) a (c2 a ha) rfl) a0 left S ha0 h0 h1 hSa
  rw [← Tm.on_knot (.inl hl)] at this
  exact this
 | some x =>
  obtain ⟨b,hb,hbn,_⟩:=DM hl
  have hargs:=c1 (by rw [← hbn];exact hv b hb)
  rw [Tm.on_leaf hl hargs]
  refine CW.acS fun hS C hC=>?_
  have n4:S 4=none:=AJ hS (by omega)
  have n6:S 6=none:=AJ hS (by omega)
  have n7:S 7=none:=AJ hS (by omega)
  have e4:¬ a0=4:=by omega
  have e6:¬ a0=6:=by omega
  have e7:¬ a0=7:=by omega
  have d4:¬ 4=a0:=by omega
  have d6:¬ 6=a0:=by omega
  have d7:¬ 7=a0:=by omega
  unfold Bf
  repeat' with_reducible first | refine W ?_ | refine Z0 ?_ | ((first | refine Wo fun K hK=>?_ | refine Wq ?_ | refine Wr ?_);(try simp only [go_sem,fN,seval,eT,iR,hSa,n4,n6,n7,d4,d6,d7,e4,e6,e7]);(repeat refine Ai ?_);(try (refine hK _ ?_;clear hK K)))
  with_reducible refine Wp ?_
  simp only [go_sem,fN,seval,true_implies,false_implies,implies_true,dT,dF,nL]
  (try with_reducible refine iC ?_)
  repeat' (first | (with_reducible first | refine W ?_ | refine Z0 ?_ | ((first | refine Wo fun K hK=>?_ | refine Wq ?_ | refine Wr ?_);(try simp only [go_sem,fN,seval,eT,iR,hSa,n4,n6,n7,d4,d6,d7,e4,e6,e7,hl]);(repeat refine Ai ?_);(try (refine hK _ ?_;clear hK K)))) | refine Cg _ (XN s h40 ho t.name) ?_)
  with_reducible refine Wp ?_
  simp only [go_sem,fN,seval,true_implies,false_implies,implies_true,dT,dF,nL]
  (try with_reducible refine iC ?_)
  repeat' with_reducible first | refine W ?_ | refine Z0 ?_ | ((first | refine Wo fun K hK=>?_ | refine Wq ?_ | refine Wr ?_);(try simp only [go_sem,fN,seval,eT,iR,hSa,n4,n6,n7,d4,d6,d7,e4,e6,e7]);(repeat refine Ai ?_);(try (refine hK _ ?_;clear hK K)))
  have hcall:=fun S' h=>Yw s h40 ho x (up1 a0) left S' (Ap a0) h0 h1 h
  refine ⟨_,_,hcall _ (by rw [At];(simp only [go_sem,fN,seval,eT,iR,e4,e6,e7,hSa])),?_⟩
  repeat' with_reducible first | refine W ?_ | refine Z0 ?_ | ((first | refine Wo fun K hK=>?_ | refine Wq ?_ | refine Wr ?_);(try simp only [go_sem,fN,seval,eT,iR,e4,e6,e7,d4,d6,d7]);(repeat refine Ai ?_);(try (refine hK _ ?_;clear hK K)))
  refine Bi (aTm (DN x left).1) hS ha0 rfl trivial ?_ ?_ ?_ fun i hi hne=>?_
  ·simp only [go_sem,fN,seval,eT,iR,AB,AD,AL,e4,e6,e7,d4,d6,d7]
  ·simp only [go_sem,fN,seval,eT,iR]
  ·simp only [go_sem,fN,seval,eT,iR,e4,e6,e7]
  ·have i4:¬ i=4:=by omega
   have i6:¬ i=6:=by omega
   have i7:¬ i=7:=by omega
   simp only [go_sem,fN,seval,eT,iR,i4,i6,i7,hne]
theorem Lg (s:List Bd) (h40:s.length≤100000) (ho:BN s) (t:Tm) (hv:∀ b ∈ s,AP b.1=true) (hchk:t.chk=0):AY Tryz.prog 110 [Ru s,aTm t] (.tup [aTm (BD s t).1,Ad (BD s t).2]):=by
 refine QO.ac fun C hC=>?_
 unfold KE
 repeat' with_reducible first | refine W ?_ | refine Z0 ?_ | ((first | refine Wo fun K hK=>?_ | refine Wq ?_ | refine Wr ?_);(try simp only [go_sem,fN,seval,eT,iR]);(repeat refine Ai ?_);(try (refine hK _ ?_;clear hK K)))
 have hcall:=fun S' h=>Yk s h40 ho t hv hchk (up1 10) 2000 S' (Ap 10) (by omega) (by omega) h
 refine ⟨_,_,hcall _ (by rw [At];rfl),?_⟩
 by_cases hfit:((t.on s).size:Int)≤2000
 ·have e:BD s t=(t.on s,true):=by
   unfold BD
   rw [if_pos (by omega)]
  rw [EZ hfit]
  have hge:(0:Int)≤2000 - (t.on s).size:=by omega
  repeat' with_reducible first | refine W ?_ | refine Z0 ?_ | ((first | refine Wo fun K hK=>?_ | refine Wq ?_ | refine Wr ?_);(try simp only [go_sem,fN,seval,eT,iR,hge]);(repeat refine Ai ?_);(try (refine hK _ ?_;clear hK K)))
  rw [e]
  simp only [go_sem,fN,seval,AR,AS.result,AB,AD,AL]
 ·have e:BD s t=(Tm.nil,false):=by
   unfold BD
   rw [if_neg (by omega)]
  rw [ED hfit]
  repeat' with_reducible first | refine W ?_ | refine Z0 ?_ | ((first | refine Wo fun K hK=>?_ | refine Wq ?_ | refine Wr ?_);(try simp only [go_sem,fN,seval,eT,iR]);(repeat refine Ai ?_);(try (refine hK _ ?_;clear hK K)))
  rw [e]
  simp only [go_sem,fN,seval,AR,AS.result,AB,AD,AL]

set_option maxRecDepth 100000
def Av:IR :=
 (.seq (.ops [.i 6 (.mov (.n 0)),.i 7 (.mov (.c (.one (.st (.bool false)))))]) (.seq (.ops [.m 12 0,.i 13 (.len false (.t 12)),.m 8 13]) (.seq (.ops [.m 14 8,.i 9 (.mov (.n 0)),.m 10 14]) (.seq (.block 0 (.loop (.seq (.seq (.ops [.m 15 9,.m 16 10,.i 17 (.bin .lss (.t 15) (.t 16))]) (.cond (.t 17) .skip (.exit 0))) (.block 1 (.seq (.ops [.m 18 9,.m 19 10,.i 20 (.bin .add (.t 18) (.t 19)),.i 21 (.conv .u64 (.t 20)),.i 22 (.bin .shr (.t 21) (.c (.one (.st (.int .u64 1))))),.i 23 (.conv .i64 (.t 22)),.m 11 23]) (.seq (.ops [.m 24 2,.m 25 0,.m 26 11,.i 27 (.indexAddr 3 (.t 25) (.t 26)),.L 28 3 27,.m 29 1,.i 30 (.callV (.t 24) [.t 28,.t 29]),.i 31 (.bin .lss (.t 30) (.n 0))]) (.cond (.t 31) (.ops [.m 32 11,.i 33 (.bin .add (.t 32) (.n 1)),.m 9 33]) (.ops [.m 34 11,.m 10 34])))))))) (.seq (.ops [.m 35 9,.m 36 9,.m 37 8,.i 38 (.bin .lss (.t 36) (.t 37)),.m 39 38,.mk (some 40) (some (39,true)) (.mov (.t 2)) .no,.mk (some 41) (some (39,true)) (.mov (.t 0)) .no,.mk (some 42) (some (39,true)) (.mov (.t 9)) .no,.mk (some 43) (some (39,true)) (.indexAddr 3 (.t 41) (.t 42)) .no,.mk (some 44) (some (39,true)) (.load true 3 (.t 43)) .no,.mk (some 45) (some (39,true)) (.mov (.t 1)) .no,.mk (some 46) (some (39,true)) (.callV (.t 40) [.t 44,.t 45]) .no,.mk (some 47) (some (39,true)) (.bin .eql (.t 46) (.n 0)) .no,.i 48 (.pick (.t 39) (.t 47) (.c (.one (.st (.bool false))))),.m 6 35,.m 7 48]) .ret)))))
theorem BH:OkF Tryz.prog 142 49 [] Av [.t 6,.t 7]:=.of Tryz.func142 rfl rfl (by kernel_rfl) rfl
def Gw:IR :=
 (.seq (.ops [.i 4 (.alloc 37 [.st (.str (ByteArray.mk (#[]))),.full []]),.i 5 (.mov (.c (.one (.st (.bool false)))))]) (.seq (.ops [.m 9 0,.m 10 1,.i 11 (.callR 142 [.t 9,.t 10,.c (.one (.fn 143 []))]),.m 8 11,.i 12 (.extract 0 (.t 8)),.i 13 (.extract 1 (.t 8)),.m 6 12,.m 7 13]) (.seq (.seq (.ops [.m 14 7,.i 15 (.un .not (.t 14))]) (.cond (.t 15) (.seq (.ops [.i 16 (.build [.st (.str (ByteArray.mk (#[]))),.full []] []),.s 2 4 16,.i 5 (.mov (.c (.one (.st (.bool false)))))]) .ret) .skip)) (.seq (.ops [.m 17 0,.m 18 6,.i 19 (.indexAddr 3 (.t 17) (.t 18)),.f 20 1 19,.L 21 2 20,.s 2 4 21,.i 5 (.mov (.c (.one (.st (.bool true)))))]) .ret))))
theorem L8:OkF Tryz.prog 135 22 [40000011] Gw [.cell 4 true 2,.t 5]:=.of Tryz.func135 rfl rfl (by kernel_rfl) rfl
def BY:IR :=
 (.seq (.ops [.i 4 (.box 37 (.t 1)),.i 6 (.alloc 37 [.st (.str (ByteArray.mk (#[]))),.full []])]) (.seq (.seq (.ops [.m 12 2]) (.cond (.t 12) (.seq (.ops [.m 14 0,.i 15 (.nilCheck (.t 14)),.f 16 0 15,.l 17 16,.f 18 0 4,.l 19 18,.i 20 (.callR 135 [.t 17,.t 19]),.m 13 20,.i 21 (.extract 0 (.t 13)),.i 22 (.extract 1 (.t 13)),.i 7 (.alloc 37 [.st (.str (ByteArray.mk (#[]))),.full []]),.s 2 7 21,.m 8 22]) (.seq (.ops [.m 23 8]) (.cond (.t 23) (.seq (.ops [.m 24 0,.L 25 2 7,.i 26 (.callS 126 [.t 24,.t 25,.c (.one (.st (.bool false)))]),.s 2 6 26]) .ret) .skip))) .skip)) (.seq (.seq (.ops [.m 27 0,.i 28 (.nilCheck (.t 27)),.f 29 1 28,.l 30 29,.i 31 (.bin .sub (.t 30) (.n 1)),.i 32 (.nilCheck (.t 27)),.f 33 1 32,.s 1 33 31]) (.seq (.ops [.m 34 0,.i 35 (.nilCheck (.t 34)),.f 36 1 35,.l 37 36,.i 38 (.bin .lss (.t 37) (.n 0))]) (.cond (.t 38) (.seq (.ops [.i 39 (.build [.st (.str (ByteArray.mk (#[]))),.full []] []),.s 2 6 39]) .ret) .skip))) (.seq (.ops [.f 40 0 4,.l 41 40,.i 42 (.build [.st (.str (ByteArray.mk (#[]))),.full []] [(0,1,.t 41)]),.i 9 (.alloc 37 [.st (.str (ByteArray.mk (#[]))),.full []]),.s 2 9 42]) (.seq (.seq (.ops [.f 43 1 4,.l 44 43,.i 45 (.len false (.t 44)),.i 46 (.mov (.n 0))]) (.block 0 (.loop (.seq (.ops [.i 47 (.bin .lss (.t 46) (.t 45))]) (.seq (.cond (.t 47) .skip (.exit 0)) (.seq (.block 1 (.seq (.ops [.i 48 (.indexAddr 2 (.t 44) (.t 46)),.L 49 2 48,.i 11 (.alloc 37 [.st (.str (ByteArray.mk (#[]))),.full []]),.s 2 11 49]) (.seq (.ops [.mk (some 50) none (.fieldAddr 1 (.t 9)) (.onb 9),.mk (some 51) none (.load false 1 (.t 50)) (.onb 9),.m 52 0,.L 53 2 11,.m 54 2,.mk (some 55) none (.callS 126 [.t 52,.t 53,.t 54]) (.keeps [9,9]),.i 56 (.buildSlice false 37 2 [.t 55]),.i 57 (.append false 37 2 40 (.t 51) (.t 56)),.f 58 1 9,.s 1 58 57]) (.seq (.ops [.m 59 0,.i 60 (.nilCheck (.t 59)),.f 61 1 60,.l 62 61,.i 63 (.bin .lss (.t 62) (.n 0))]) (.cond (.t 63) (.seq (.ops [.i 64 (.build [.st (.str (ByteArray.mk (#[]))),.full []] []),.s 2 6 64]) .ret) .skip))))) (.ops [.i 65 (.bin .add (.t 46) (.n 1)),.m 46 65]))))))) (.seq (.ops [.L 66 2 9,.s 2 6 66]) .ret))))))
theorem CL:OkF Tryz.prog 126 67 [40000020,26,55] BY [.cell 6 true 2]:=.of Tryz.func126 rfl rfl (by kernel_rfl) rfl
def JR:IR :=
 (.seq (.ops [.i 3 (.box 37 (.t 1)),.i 4 (.alloc 37 [.st (.str (ByteArray.mk (#[]))),.full []]),.i 5 (.mov (.c (.one (.st (.bool false)))))]) (.seq (.ops [.m 8 0,.i 9 (.build [.full [],.st (.int .i64 0)] [(0,1,.t 8),(1,1,.n 2000)]),.i 10 (.box 150 (.t 9)),.m 6 10]) (.seq (.ops [.m 11 6,.L 12 2 3,.i 13 (.callS 126 [.t 11,.t 12,.c (.one (.st (.bool true)))]),.i 7 (.alloc 37 [.st (.str (ByteArray.mk (#[]))),.full []]),.s 2 7 13]) (.seq (.ops [.L 14 2 7,.m 15 6,.mk (some 16) none (.nilCheck (.t 15)) (.onb 10),.mk (some 17) none (.fieldAddr 1 (.t 16)) (.onb 10),.mk (some 18) none (.load false 1 (.t 17)) (.onb 10),.i 19 (.bin .geq (.t 18) (.n 0)),.mk none none (.store 2 (.t 4) (.t 14)) (.onb 4),.m 5 19]) .ret))))
theorem O4:OkF Tryz.prog 110 20 [13,10060010] JR [.cell 4 true 2,.t 5]:=.of Tryz.func110 rfl rfl (by kernel_rfl) rfl

abbrev BW (l:List Bd):AK:=.mrow 82 3 (l.map Cx)

theorem XA (l:List Bd) (n:ByteArray) (i0:Nat) (hi0:i0≤l.length) (h40:l.length≤100000) (hlo:∀ k b,l[k]?=some b→k < i0→sLt b.1 n=true) (hhi:∀ k b,l[k]?=some b→i0≤k→sLt b.1 n=false) (r:Nat) (hr:1000≤r) (S:AA) (sr:S r=some (BW l)) :
  Ah Tryz.prog 142 [.one (.row r l.length),Bo n,.one (.fn 143 [])] S (.tup [AN i0,Ad (CZ l n i0)]) S:=by
 have hplain:B6 Tryz.prog 143=true:=by kernel_rfl
 refine BH.acS fun hS C hC=>?_
 unfold Av
 repeat' with_reducible first | refine W ?_ | refine Z0 ?_ | ((first | refine Wo fun K hK=>?_ | refine Wq ?_ | refine Wr ?_);(try simp only [go_sem,fN,seval,eT,iR,sr]);(repeat refine Ai ?_);(try (refine hK _ ?_;clear hK K)))
 refine IWP.loop (fun m s=>∃ i j:Nat,i≤i0∧i0≤j∧j≤l.length∧m=j - i∧s.env 0=.one (.row r l.length)∧s.env 1=Bo n∧s.env 2=.one (.fn 143 [])∧s.env 8=AN l.length∧s.env 9=AN i∧s.env 10=AN j∧s.S=S) l.length ⟨0,l.length,Nat.zero_le _,hi0,Nat.le_refl _,rfl,rfl,rfl,rfl,rfl,rfl,rfl,rfl⟩ ?_
 rintro m ⟨env,S1⟩ ⟨i,j,hi,hj,hjl,rfl,e0,e1,e2,e8,e9,e10,hS1⟩
 simp only at e0 e1 e2 e8 e9 e10 hS1
 subst hS1
 by_cases hlt:(i:Int) < j
 ·obtain ⟨z1,z2,z3⟩:=AAB (show i < j by omega)
  obtain ⟨b,hb⟩:=Aj (show (i + j) / 2 < l.length by omega)
  repeat' with_reducible first | refine W ?_ | refine Z0 ?_ | ((first | refine Wo fun K hK=>?_ | refine Wq ?_ | refine Wr ?_);(try simp only [go_sem,fN,seval,eT,iR,e0,e1,e2,e8,e9,e10,hlt,sr]);(repeat refine Ai ?_);(try (refine hK _ ?_;clear hK K)))
  with_reducible refine Wp ?_
  simp only [go_sem,fN,seval,true_implies,false_implies,implies_true,dT,dF,nL,hlt]
  (try with_reducible refine iC ?_)
  have hbits:(1:Nat)≤IntKind.u64.bits:=by show 1≤64;omega
  have hz0:(0:Int)≤(((i + j) / 2:Nat):Int):=Int.natCast_nonneg _
  repeat' with_reducible first | refine W ?_ | refine Z0 ?_ | ((first | refine Wo fun K hK=>?_ | refine Wq ?_ | refine Wr ?_);(try simp only [go_sem,fN,seval,eT,iR,e0,e1,e2,e8,e9,e10,hlt,z1,z3,HK,hbits,hb,Cx,hplain,sr]);(repeat refine Ai ?_);(try (refine hK _ ?_;clear hK K)))
  refine ⟨_,_,Kz b n _,?_⟩
  cases hc:sLt b.1 n with
  | true =>
   have hneg:D_ b.1 n < 0:=Cd.2 hc
   repeat' with_reducible first | refine W ?_ | refine Z0 ?_ | ((first | refine Wo fun K hK=>?_ | refine Wq ?_ | refine Wr ?_);(try simp only [go_sem,fN,seval,eT,iR,hneg]);(repeat refine Ai ?_);(try (refine hK _ ?_;clear hK K)))
   with_reducible refine Wp ?_
   simp only [go_sem,fN,seval,true_implies,false_implies,implies_true,dT,dF,nL,hneg]
   (try with_reducible refine iC ?_)
   repeat' with_reducible first | refine W ?_ | refine Z0 ?_ | ((first | refine Wo fun K hK=>?_ | refine Wq ?_ | refine Wr ?_);(try simp only [go_sem,fN,seval,eT,iR,e0,e1,e2,e8,e9,e10]);(repeat refine Ai ?_);(try (refine hK _ ?_;clear hK K)))
   refine AH ⟨j - ((i + j) / 2 + 1),by omega,(i + j) / 2 + 1,j,?_,hj,hjl,rfl,?_⟩
   ·rcases Nat.lt_or_ge ((i + j) / 2) i0 with h | h
    ·omega
    ·rw [hhi _ b hb h] at hc;cases hc
   ·simp only [go_sem,fN,seval,eT,iR,e0,e1,e2,e8,e9,e10]
    congr 3
  | false =>
   have hneg:¬ D_ b.1 n < 0:=fun h=>by rw [Cd.1 h] at hc;cases hc
   repeat' with_reducible first | refine W ?_ | refine Z0 ?_ | ((first | refine Wo fun K hK=>?_ | refine Wq ?_ | refine Wr ?_);(try simp only [go_sem,fN,seval,eT,iR,hneg]);(repeat refine Ai ?_);(try (refine hK _ ?_;clear hK K)))
   with_reducible refine Wp ?_
   simp only [go_sem,fN,seval,true_implies,false_implies,implies_true,dT,dF,nL,hneg]
   (try with_reducible refine iC ?_)
   repeat' with_reducible first | refine W ?_ | refine Z0 ?_ | ((first | refine Wo fun K hK=>?_ | refine Wq ?_ | refine Wr ?_);(try simp only [go_sem,fN,seval,eT,iR,e0,e1,e2,e8,e9,e10]);(repeat refine Ai ?_);(try (refine hK _ ?_;clear hK K)))
   refine AH ⟨(i + j) / 2 - i,by omega,i,(i + j) / 2,hi,?_,by omega,rfl,?_⟩
   ·rcases Nat.lt_or_ge ((i + j) / 2) i0 with h | h
    ·rw [hlo _ b hb h] at hc;cases hc
    ·omega
   ·simp only [go_sem,fN,seval,eT,iR,e0,e1,e2,e8,e9,e10]
 ·have hii:i=i0:=by omega
  subst hii
  have hjj:j=i:=by omega
  subst hjj
  repeat' with_reducible first | refine W ?_ | refine Z0 ?_ | ((first | refine Wo fun K hK=>?_ | refine Wq ?_ | refine Wr ?_);(try simp only [go_sem,fN,seval,eT,iR,e0,e1,e2,e8,e9,e10,hlt,sr]);(repeat refine Ai ?_);(try (refine hK _ ?_;clear hK K)))
  with_reducible refine Wp ?_
  simp only [go_sem,fN,seval,true_implies,false_implies,implies_true,dT,dF,nL,hlt]
  (try with_reducible refine iC ?_)
  by_cases hil:(j:Int) < l.length
  ·have hil':j < l.length:=by omega
   obtain ⟨b,hb⟩:=Aj hil'
   repeat' with_reducible first | refine W ?_ | refine Z0 ?_ | ((first | refine Wo fun K hK=>?_ | refine Wq ?_ | refine Wr ?_);(try simp only [go_sem,fN,seval,eT,iR,e0,e1,e2,e8,e9,e10,hil,hil',hb,Cx,hplain,sr]);(repeat refine Ai ?_);(try (refine hK _ ?_;clear hK K)))
   refine ⟨_,_,Kz b n _,?_⟩
   repeat' with_reducible first | refine W ?_ | refine Z0 ?_ | ((first | refine Wo fun K hK=>?_ | refine Wq ?_ | refine Wr ?_);(try simp only [go_sem,fN,seval,eT,iR]);(repeat refine Ai ?_);(try (refine hK _ ?_;clear hK K)))
   refine Ay (.tup [AN j,Ad (CZ l n j)]) hS trivial ?_ ?_ fun _ _=>rfl
   ·simp only [go_sem,fN,seval,eT,iR,AB,AD,AL,e9,e10]
    unfold CZ
    rw [hb]
    simp only [NS]
   ·rfl
  ·repeat' with_reducible first | refine W ?_ | refine Z0 ?_ | ((first | refine Wo fun K hK=>?_ | refine Wq ?_ | refine Wr ?_);(try simp only [go_sem,fN,seval,eT,iR,e0,e1,e2,e8,e9,e10,hil]);(repeat refine Ai ?_);(try (refine hK _ ?_;clear hK K)))
   refine Ay (.tup [AN j,Ad (CZ l n j)]) hS trivial ?_ ?_ fun _ _=>rfl
   ·simp only [go_sem,fN,seval,eT,iR,AB,AD,AL,e9,e10]
    unfold CZ
    rw [List.getElem?_eq_none (by omega)]
   ·rfl
theorem X7 (l:List Bd) (h40:l.length≤100000) (ho:BN l) (n:ByteArray) (r:Nat) (hr:1000≤r) (S:AA) (sr:S r=some (BW l)):Ah Tryz.prog 135 [.one (.row r l.length),Bo n] S (.tup [aTm ((lookup l n).getD Tm.nil),Ad (lookup l n).isSome]) S:=by
 obtain ⟨i,hi,hlo,hhi,_⟩:=RL l h40 ho n
 refine L8.acS fun hS C hC=>?_
 unfold Gw
 have n4:S 4=none:=AJ hS (by omega)
 have r4:¬ r=4:=by omega
 repeat' with_reducible first | refine W ?_ | refine Z0 ?_ | ((first | refine Wo fun K hK=>?_ | refine Wq ?_ | refine Wr ?_);(try simp only [go_sem,fN,seval,eT,iR,n4]);(repeat refine Ai ?_);(try (refine hK _ ?_;clear hK K)))
 refine ⟨_,[(r,BW l)],BV (by (simp only [go_sem,fN,seval,eT,iR,r4,sr])),fun T hT=>XA l n i hi h40 hlo hhi (up1 r) (Ap r) (upS T) (by rw [At,hT _ (List.mem_singleton.2 rfl)];rfl),?_⟩
 rcases JA hlo hhi ho with ⟨b,hb,he,hl⟩ | ⟨hf,hl⟩
 ·have hf:CZ l n i=true:=by unfold CZ;rw [hb];exact decide_eq_true he
  have hil:=Cf hb
  repeat' with_reducible first | refine W ?_ | refine Z0 ?_ | ((first | refine Wo fun K hK=>?_ | refine Wq ?_ | refine Wr ?_);(try simp only [go_sem,fN,seval,eT,iR,hf]);(repeat refine Ai ?_);(try (refine hK _ ?_;clear hK K)))
  with_reducible refine Wp ?_
  simp only [go_sem,fN,seval,true_implies,false_implies,implies_true,dT,dF,nL,hf]
  (try with_reducible refine iC ?_)
  repeat' with_reducible first | refine W ?_ | refine Z0 ?_ | ((first | refine Wo fun K hK=>?_ | refine Wq ?_ | refine Wr ?_);(try simp only [go_sem,fN,seval,eT,iR,hb,Cx,sr,r4,hil]);(repeat refine Ai ?_);(try (refine hK _ ?_;clear hK K)))
  refine Ay (.tup [aTm b.2,Ad true]) hS trivial ?_ ?_ fun k hk=>?_
  ·simp only [go_sem,fN,seval,eT,iR,AB,AD,AL]
  ·simp only [go_sem,fN,seval,eT,iR]
   rw [hl]
   rfl
  ·have k4:¬ k=4:=by omega
   simp only [go_sem,fN,seval,eT,iR,k4]
 ·repeat' with_reducible first | refine W ?_ | refine Z0 ?_ | ((first | refine Wo fun K hK=>?_ | refine Wq ?_ | refine Wr ?_);(try simp only [go_sem,fN,seval,eT,iR,hf]);(repeat refine Ai ?_);(try (refine hK _ ?_;clear hK K)))
  with_reducible refine Wp ?_
  simp only [go_sem,fN,seval,true_implies,false_implies,implies_true,dT,dF,nL,hf]
  (try with_reducible refine iC ?_)
  repeat' with_reducible first | refine W ?_ | refine Z0 ?_ | ((first | refine Wo fun K hK=>?_ | refine Wq ?_ | refine Wr ?_);(try simp only [go_sem,fN,seval,eT,iR]);(repeat refine Ai ?_);(try (refine hK _ ?_;clear hK K)))
  refine Ay (.tup [.agg [.st (.str ⟨#[]⟩),.full []],Ad false]) hS trivial ?_ ?_ fun k hk=>?_
  ·simp only [go_sem,fN,seval,eT,iR,AB,AD,AL]
  ·simp only [go_sem,fN,seval,eT,iR]
   rw [hl]
   rfl
  ·have k4:¬ k=4:=by omega
   simp only [go_sem,fN,seval,eT,iR,k4]
abbrev Ep (r n:Nat) (left:Int):AK:=.box 150 [.row r n,.st (.int .i64 left)]
theorem MG (s:List Bd) (h40:s.length≤100000) (ho:BN s) (turn:Bool) (f:Tm→Tm) (t:Tm) (hl:turn=true→lookup s t.name=none)
  (ih:∀ a ∈ t.args,∀ (a0 r:Nat) (left:Int) (S:AA),1000≤a0→1000≤r→¬ r=a0→0≤left→left≤1000000→S a0=some (Ep r s.length left)→S r=some (BW s) →
   Ah Tryz.prog 126 [.one (.ptr a0 1 0 0),aTm a,Ad turn] S (aTm (DN (f a) left).1) (AG S a0 (some (Ep r s.length (DN (f a) left).2))))
  (a0 r:Nat) (left:Int) (S:AA) (ha0:1000≤a0) (hr0:1000≤r) (hra:¬ r=a0) (h0:0≤left) (h1:left≤1000000) (hSa:S a0=some (Ep r s.length left)) (hSr:S r=some (BW s)) :
  Ah Tryz.prog 126 [.one (.ptr a0 1 0 0),aTm t,Ad turn] S (aTm (DN (.mk t.name (t.args.map f)) left).1) (AG S a0 (some (Ep r s.length (DN (.mk t.name (t.args.map f)) left).2))):=by
 refine CL.acS fun hS C hC=>?_
 have hu:(Tm.mk t.name (t.args.map f)).size=1 + Tm.sizes (t.args.map f):=rfl
 have hlen:=Tm.length_le (t.args.map f)
 rw [List.length_map] at hlen
 have hhigh:∀ left,(Ep r s.length left).high=true:=fun left=>by
  show ((AC.row r s.length).high && AC.highs [.st (.int .i64 left)])=true
  rw [Gc hr0]
  rfl
 have n4:S 4=none:=AJ hS (by omega)
 have n6:S 6=none:=AJ hS (by omega)
 have n7:S 7=none:=AJ hS (by omega)
 have n9:S 9=none:=AJ hS (by omega)
 have n11:S 11=none:=AJ hS (by omega)
 have n900:S 900=none:=AJ hS (by omega)
 have d4:¬ 4=a0:=by omega
 have d6:¬ 6=a0:=by omega
 have d7:¬ 7=a0:=by omega
 have d9:¬ 9=a0:=by omega
 have d11:¬ 11=a0:=by omega
 have d900:¬ 900=a0:=by omega
 have e4:¬ a0=4:=by omega
 have e6:¬ a0=6:=by omega
 have e7:¬ a0=7:=by omega
 have e9:¬ a0=9:=by omega
 have e11:¬ a0=11:=by omega
 have e900:¬ a0=900:=by omega
 have f4:¬ r=4:=by omega
 have f6:¬ r=6:=by omega
 have f7:¬ r=7:=by omega
 have f9:¬ r=9:=by omega
 have f11:¬ r=11:=by omega
 have f900:¬ r=900:=by omega
 unfold BY
 cases turn
 case' false =>
  repeat' with_reducible first | refine W ?_ | refine Z0 ?_ | ((first | refine Wo fun K hK=>?_ | refine Wq ?_ | refine Wr ?_);(try simp only [go_sem,fN,seval,eT,iR,hSa,n4,n6,n7,d4,d6,d7,e4,e6,e7]);(repeat refine Ai ?_);(try (refine hK _ ?_;clear hK K)))
  with_reducible refine Wp ?_
  simp only [go_sem,fN,seval,true_implies,false_implies,implies_true,dT,dF,nL]
  (try with_reducible refine iC ?_)
  repeat' with_reducible first | refine W ?_ | refine Z0 ?_ | ((first | refine Wo fun K hK=>?_ | refine Wq ?_ | refine Wr ?_);(try simp only [go_sem,fN,seval,eT,iR,hSa,n4,n6,n7,n9,d4,d6,d7,d9,e4,e6,e7,e9]);(repeat refine Ai ?_);(try (refine hK _ ?_;clear hK K)))
 case' true =>
  have hln:=hl rfl
  repeat' with_reducible first | refine W ?_ | refine Z0 ?_ | ((first | refine Wo fun K hK=>?_ | refine Wq ?_ | refine Wr ?_);(try simp only [go_sem,fN,seval,eT,iR,hSa,n4,n6,n7,d4,d6,d7,e4,e6,e7]);(repeat refine Ai ?_);(try (refine hK _ ?_;clear hK K)))
  with_reducible refine Wp ?_
  simp only [go_sem,fN,seval,true_implies,false_implies,implies_true,dT,dF,nL]
  (try with_reducible refine iC ?_)
  repeat' with_reducible first | refine W ?_ | refine Z0 ?_ | ((first | refine Wo fun K hK=>?_ | refine Wq ?_ | refine Wr ?_);(try simp only [go_sem,fN,seval,eT,iR,hSa,n4,n6,n7,d4,d6,d7,e4,e6,e7]);(repeat refine Ai ?_);(try (refine hK _ ?_;clear hK K)))
  refine ⟨_,[(r,BW s)],BV (by (simp only [go_sem,fN,seval,eT,iR,f4,f6,f7,hSr])),fun T hT=>X7 s h40 ho t.name (up1 r) (Ap r) (upS T) (by rw [At,hT _ (List.mem_singleton.2 rfl)];rfl),?_⟩
  repeat' with_reducible first | refine W ?_ | refine Z0 ?_ | ((first | refine Wo fun K hK=>?_ | refine Wq ?_ | refine Wr ?_);(try simp only [go_sem,fN,seval,eT,iR,hln,n7]);(repeat refine Ai ?_);(try (refine hK _ ?_;clear hK K)))
  with_reducible refine Wp ?_
  simp only [go_sem,fN,seval,true_implies,false_implies,implies_true,dT,dF,nL]
  (try with_reducible refine iC ?_)
  repeat' with_reducible first | refine W ?_ | refine Z0 ?_ | ((first | refine Wo fun K hK=>?_ | refine Wq ?_ | refine Wr ?_);(try simp only [go_sem,fN,seval,eT,iR,hSa,n4,n6,n7,n9,d4,d6,d7,d9,e4,e6,e7,e9]);(repeat refine Ai ?_);(try (refine hK _ ?_;clear hK K)))
 all_goals
  by_cases hz:left=0
  ·subst hz
   have hno:¬ ((Tm.mk t.name (t.args.map f)).size:Int)≤0:=by rw [hu];omega
   rw [ED hno]
   with_reducible refine Wp ?_
   simp only [go_sem,fN,seval,true_implies,false_implies,implies_true,dT,dF,nL]
   (try with_reducible refine iC ?_)
   repeat' with_reducible first | refine W ?_ | refine Z0 ?_ | ((first | refine Wo fun K hK=>?_ | refine Wq ?_ | refine Wr ?_);(try simp only [go_sem,fN,seval,eT,iR,hSa,n4,n6,n7,n9,d4,d6,d7,d9,e4,e6,e7,e9]);(repeat refine Ai ?_);(try (refine hK _ ?_;clear hK K)))
   refine Bi (.agg [.st (.str ⟨#[]⟩),.full []]) hS ha0 (hhigh _) trivial ?_ ?_ ?_ fun i hi hne=>?_
   ·simp only [go_sem,fN,seval,eT,iR,AB,AD,AL,e4,e6,e7,e9,d4,d6,d7,d9]
   ·simp only [go_sem,fN,seval,eT,iR,Tm.nil]
    rfl
   ·simp only [go_sem,fN,seval,eT,iR,e4,e6,e7,e9]
   ·have i4:¬ i=4:=by omega
    have i6:¬ i=6:=by omega
    have i7:¬ i=7:=by omega
    simp only [go_sem,fN,seval,eT,iR,i4,i6,i7,hne]
  have hz':¬ left - 1 < 0:=by omega
  with_reducible refine Wp ?_
  simp only [go_sem,fN,seval,true_implies,false_implies,implies_true,dT,dF,nL,hz']
  (try with_reducible refine iC ?_)
  repeat' with_reducible first | refine W ?_ | refine Z0 ?_ | ((first | refine Wo fun K hK=>?_ | refine Wq ?_ | refine Wr ?_);(try simp only [go_sem,fN,seval,eT,iR,hSa,n4,n6,n7,n9,d4,d6,d7,d9,e4,e6,e7,e9]);(repeat refine Ai ?_);(try (refine hK _ ?_;clear hK K)))
  refine IWP.ghost (Aa.ownC 9 1 900 37 2 (xs:=([]:List Tm).map Ao) (by simp only [go_sem,fN,seval,eT,iR,d9,d4,d6,d7,e9];rfl) rfl (by simp only [go_sem,fN,seval,eT,iR,n900,d900]) Do) ?_
  refine IWP.loopD [11] (fun m x=>∃ k,k≤t.args.length∧m=t.args.length - k∧(Tm.sizes ((t.args.take k).map f):Int)≤left - 1∧x.env 0=.one (.ptr a0 1 0 0)∧x.env 2=Ad _∧x.env 6=.one (.ptr 6 1 0 0)∧x.env 9=.one (.ptr 9 1 0 0)∧x.env 44=.one (.st (.list (t.args.map Ao)))∧x.env 45=AN t.args.length∧x.env 46=AN k ∧
    x.S 6=some (.box 37 [.st (.str ⟨#[]⟩),.full []])∧x.S 9=some (.box 37 [.st (.str t.name),.row 900 k])∧x.S 900=some (.arow 37 2 (((t.args.take k).map f).map Ao))∧x.S 11=none∧x.S a0=some (Ep r s.length (left - 1 - Tm.sizes ((t.args.take k).map f)))∧∀ i,1000≤i→i ≠ a0→x.S i=S i)
   t.args.length ⟨0,Nat.zero_le _,rfl,by show (0:Int)≤_;omega,rfl,rfl,rfl,rfl,rfl,rfl,rfl,by simp only [go_sem,fN,seval,eT,iR,d6,d4,d7,d9,e6],by (simp only [go_sem,fN,seval,eT,iR,d9]);rfl,by simp only [go_sem,fN,seval,eT,iR,e9],by simp only [go_sem,fN,seval,eT,iR,n11,d11],by (simp only [go_sem,fN,seval,eT,iR,e9,e900]);simp [Tm.sizes],fun i hi hne=>?_⟩ ?_
  ·have i4:¬ i=4:=by omega
   have i6:¬ i=6:=by omega
   have i7:¬ i=7:=by omega
   have i9:¬ i=9:=by omega
   have i900:¬ i=900:=by omega
   simp only [go_sem,fN,seval,eT,iR,i4,i6,i7,i9,i900,hne]
  rintro m ⟨env,S1⟩ ⟨k,hk,rfl,hsz,e0,e2,e6',e9',e44,e45,e46,s6,s9,s900,s11,sa,hrest⟩
  simp only at e0 e2 e6' e9' e44 e45 e46 s6 s9 s900 s11 sa hrest
  have hlk:(t.args.take k).length=k:=by rw [List.length_take];omega
  have hle:=Tm.sizes_take_le (t.args.map f) k
  rw [← List.map_take] at hle
  have hkl:=Tm.length_le ((t.args.take k).map f)
  rw [List.length_map,hlk] at hkl
  have hSr1:S1 r=some (BW s):=(hrest r hr0 hra).trans hSr
  by_cases hlt:(k:Int) < t.args.length
  ·obtain ⟨a,ha⟩:=Aj (show k < t.args.length by omega)
   have ha':(t.args.map f)[k]?=some (f a):=by rw [List.getElem?_map,ha];rfl
   have z1:=Tm.sizes_take ha'
   have z2:=Tm.sizes_take_le (t.args.map f) (k + 1)
   rw [← List.map_take,← List.map_take] at z1
   rw [← List.map_take] at z2
   repeat' with_reducible first | refine W ?_ | refine Z0 ?_ | ((first | refine Wo fun K hK=>?_ | refine Wq ?_ | refine Wr ?_);(try simp only [go_sem,fN,seval,eT,iR,e0,e2,e6',e9',e44,e45,e46,s6,s9,s900,s11,sa,hlt]);(repeat refine Ai ?_);(try (refine hK _ ?_;clear hK K)))
   with_reducible refine Wp ?_
   simp only [go_sem,fN,seval,true_implies,false_implies,implies_true,dT,dF,nL,hlt]
   (try with_reducible refine iC ?_)
   repeat' with_reducible first | refine W ?_ | refine Z0 ?_ | ((first | refine Wo fun K hK=>?_ | refine Wq ?_ | refine Wr ?_);(try simp only [go_sem,fN,seval,eT,iR,e0,e2,e6',e9',e44,e45,e46,s6,s9,s900,s11,sa,d11,d9,e11,ha]);(repeat refine Ai ?_);(try (refine hK _ ?_;clear hK K)))
   have hcall:=ih a (AU ha) (up1 a0) (up1 r) (left - 1 - Tm.sizes ((t.args.take k).map f)) (upS (AG (AG S1 11 (some (.box 37 [.st (.str ⟨#[]⟩),.full []]))) 11 (some (.box 37 [.st (.str a.name),.st (.list (a.args.map Ao))])))) (Ap a0) (Ap r) (by unfold up1;omega) (by omega) (by omega) (by rw [At,AF _ e11,AF _ e11,sa];rfl) (by rw [At,AF _ f11,AF _ f11,hSr1];rfl)
   by_cases hfit:((f a).size:Int)≤left - 1 - Tm.sizes ((t.args.take k).map f)
   ·rw [EZ hfit] at hcall
    refine ⟨_,_,hcall,?_⟩
    have hge:¬ left - 1 - Tm.sizes ((t.args.take k).map f) - (f a).size < 0:=by omega
    repeat' with_reducible first | refine W ?_ | refine Z0 ?_ | ((first | refine Wo fun K hK=>?_ | refine Wq ?_ | refine Wr ?_);(try simp only [go_sem,fN,seval,eT,iR,e0,e2,e6',e9',e44,e45,e46,s6,s9,s900,s11,d11,d9,e11,e9,e900,d900,hlk]);(repeat refine Ai ?_);(try (refine hK _ ?_;clear hK K)))
    with_reducible refine Wp ?_
    simp only [go_sem,fN,seval,true_implies,false_implies,implies_true,dT,dF,nL,hge]
    (try with_reducible refine iC ?_)
    repeat' with_reducible first | refine W ?_ | refine Z0 ?_ | ((first | refine Wo fun K hK=>?_ | refine Wq ?_ | refine Wr ?_);(try simp only [go_sem,fN,seval,eT,iR,e0,e2,e6',e9',e44,e45,e46,s6,s9,s900,s11,d11,d9,e11]);(repeat refine Ai ?_);(try (refine hK _ ?_;clear hK K)))
    refine AH ⟨t.args.length - (k + 1),by omega,k + 1,by omega,rfl,?_⟩
    have hib:(a0 == 11)=false:=by simp;omega
    have hrb:(r == 11)=false:=by simp;omega
    have hzz:((Tm.sizes ((t.args.take (k + 1)).map f):Nat):Int)=Tm.sizes ((t.args.take k).map f) + (f a).size:=by omega
    refine ⟨by omega,?_⟩
    simp only [go_sem,fN,seval,AS.drop,Ac,AC.clears,AC.clear,AC.highs,AC.high,zD,AV.purge,AV.purges,AC.purge,AK.purge,Nat.reduceBEq,eT,iR,e0,e2,e6',e9',e44,e45,s6,s9,s900,d11,d9,e11,e9,e900,d900,d6,hib,hrb]
    refine ⟨by congr 3,by rw [Au ha,List.map_append,List.map_append,List.map_cons,List.map_nil,List.map_cons,List.map_nil,An],?_,fun i hi hne=>?_⟩
    ·congr 5
     omega
    ·have i9:¬ i=9:=by omega
     have i11:¬ i=11:=by omega
     have i900:¬ i=900:=by omega
     have i11b:(i == 11)=false:=by simp;omega
     simp only [go_sem,fN,seval,AS.drop,Ac,AC.clears,AC.clear,AC.highs,AC.high,zD,AV.purge,AV.purges,AC.purge,AK.purge,Nat.reduceBEq,eT,iR,i9,i11,i11b,i900,hne]
     rw [hrest i hi hne]
     exact SP (by decide) fun b hb=>(hS i b hb).2
   ·have hno:¬ ((Tm.mk t.name (t.args.map f)).size:Int)≤left:=by rw [hu];omega
    rw [ED hfit] at hcall
    refine ⟨_,_,hcall,?_⟩
    repeat' with_reducible first | refine W ?_ | refine Z0 ?_ | ((first | refine Wo fun K hK=>?_ | refine Wq ?_ | refine Wr ?_);(try simp only [go_sem,fN,seval,eT,iR,e0,e2,e6',e9',e44,e45,e46,s6,s9,s900,s11,d11,d9,e11,e9,e900,d900,hlk]);(repeat refine Ai ?_);(try (refine hK _ ?_;clear hK K)))
    with_reducible refine Wp ?_
    simp only [go_sem,fN,seval,true_implies,false_implies,implies_true,dT,dF,nL]
    (try with_reducible refine iC ?_)
    repeat' with_reducible first | refine W ?_ | refine Z0 ?_ | ((first | refine Wo fun K hK=>?_ | refine Wq ?_ | refine Wr ?_);(try simp only [go_sem,fN,seval,eT,iR,e0,e2,e6',e9',e44,e45,e46,s6,s9,s900,s11,d11,d9,e11,e6,d6,d900,e900]);(repeat refine Ai ?_);(try (refine hK _ ?_;clear hK K)))
    rw [ED hno]
    refine Bi (.agg [.st (.str ⟨#[]⟩),.full []]) hS ha0 (hhigh _) trivial ?_ ?_ ?_ fun i hi hne=>?_
    ·simp only [go_sem,fN,seval,eT,iR,AB,AD,AL,e6',s6,e6,e9,e11,e900,d6,d9,d11,d900]
    ·simp only [go_sem,fN,seval,eT,iR,Tm.nil]
     rfl
    ·simp only [go_sem,fN,seval,eT,iR,e6,e9,e11,e900]
    ·have i6:¬ i=6:=by omega
     have i9:¬ i=9:=by omega
     have i11:¬ i=11:=by omega
     have i900:¬ i=900:=by omega
     simp only [go_sem,fN,seval,eT,iR,i6,i9,i11,i900,hne]
     exact hrest i hi hne
  ·have hall:t.args.take k=t.args:=List.take_of_length_le (by omega)
   rw [hall] at hlk s900 hsz sa
   have hyes:((Tm.mk t.name (t.args.map f)).size:Int)≤left:=by rw [hu];omega
   repeat' with_reducible first | refine W ?_ | refine Z0 ?_ | ((first | refine Wo fun K hK=>?_ | refine Wq ?_ | refine Wr ?_);(try simp only [go_sem,fN,seval,eT,iR,e0,e2,e6',e9',e44,e45,e46,s6,s9,s900,s11,sa,hlt]);(repeat refine Ai ?_);(try (refine hK _ ?_;clear hK K)))
   with_reducible refine Wp ?_
   simp only [go_sem,fN,seval,true_implies,false_implies,implies_true,dT,dF,nL,hlt]
   (try with_reducible refine iC ?_)
   repeat' with_reducible first | refine W ?_ | refine Z0 ?_ | ((first | refine Wo fun K hK=>?_ | refine Wq ?_ | refine Wr ?_);(try simp only [go_sem,fN,seval,eT,iR,e0,e2,e6',e9',e44,e45,e46,s6,s9,s900,s11,sa,d6]);(repeat refine Ai ?_);(try (refine hK _ ?_;clear hK K)))
   rw [EZ hyes]
   refine Bi (.agg [.st (.str t.name),.row 900 k]) hS ha0 (hhigh _) trivial ?_ ?_ ?_ fun i hi hne=>?_
   ·simp only [go_sem,fN,seval,eT,iR,AB,AD,AL,e6',s6]
   ·simp only [go_sem,fN,seval,eT,iR,s900,hlk]
    rfl
   ·simp only [go_sem,fN,seval,eT,iR,e6,sa,hu]
    rw [show left - 1 - (Tm.sizes (t.args.map f):Int)=left - ((1 + Tm.sizes (t.args.map f):Nat):Int) by omega]
   ·have i6:¬ i=6:=by omega
    simp only [go_sem,fN,seval,eT,iR,i6]
    exact hrest i hi hne
theorem Yq (s:List Bd) (h40:s.length≤100000) (ho:BN s) (t:Tm):∀ (a0 r:Nat) (left:Int) (S:AA),1000≤a0→1000≤r→¬ r=a0→0≤left→left≤1000000→S a0=some (Ep r s.length left)→S r=some (BW s) →
  Ah Tryz.prog 126 [.one (.ptr a0 1 0 0),aTm t,Ad false] S (aTm (DN t left).1) (AG S a0 (some (Ep r s.length (DN t left).2))):=by
 induction h:SizeOf.sizeOf t using Nat.strongRecOn generalizing t with
 | _ N ih =>
 subst h
 intro a0 r left S h1 h1' h1'' h2 h3 h4 h5
 have:=MG s h40 ho false id t (fun h=>by cases h) (fun a ha=>ih _ (Tm.lt_of_arg ha) a rfl) a0 r left S h1 h1' h1'' h2 h3 h4 h5
 rw [List.map_id,Tm.eta] at this
 exact this
theorem Y0 (s:List Bd) (h40:s.length≤100000) (ho:BN s) (t:Tm) (hv:∀ b ∈ s,AP b.1=true) (hchk:t.chk=0):∀ (a0 r:Nat) (left:Int) (S:AA),1000≤a0→1000≤r→¬ r=a0→0≤left→left≤1000000→S a0=some (Ep r s.length left)→S r=some (BW s) →
  Ah Tryz.prog 126 [.one (.ptr a0 1 0 0),aTm t,Ad true] S (aTm (DN (t.on s) left).1) (AG S a0 (some (Ep r s.length (DN (t.on s) left).2))):=by
 induction h:SizeOf.sizeOf t using Nat.strongRecOn generalizing t with
 | _ N ih =>
 subst h
 intro a0 r left S ha0 hr0 hra h0 h1 hSa hSr
 obtain ⟨c1,c2⟩:=Tm.chk_args hchk
 cases hl:lookup s t.name with
 | none =>
  have:=MG s h40 ho true (Tm.on s) t (fun _=>hl) (fun a ha=>ih _ (Tm.lt_of_arg ha) a (c2 a ha) rfl) a0 r left S ha0 hr0 hra h0 h1 hSa hSr
  rw [← Tm.on_knot (.inl hl)] at this
  exact this
 | some x =>
  obtain ⟨b,hb,hbn,_⟩:=DM hl
  have hargs:=c1 (by rw [← hbn];exact hv b hb)
  rw [Tm.on_leaf hl hargs]
  refine CL.acS fun hS C hC=>?_
  have n4:S 4=none:=AJ hS (by omega)
  have n6:S 6=none:=AJ hS (by omega)
  have n7:S 7=none:=AJ hS (by omega)
  have e4:¬ a0=4:=by omega
  have e6:¬ a0=6:=by omega
  have e7:¬ a0=7:=by omega
  have d4:¬ 4=a0:=by omega
  have d6:¬ 6=a0:=by omega
  have d7:¬ 7=a0:=by omega
  have f4:¬ r=4:=by omega
  have f6:¬ r=6:=by omega
  have f7:¬ r=7:=by omega
  have hhigh:∀ left,(Ep r s.length left).high=true:=fun left=>by
   show ((AC.row r s.length).high && AC.highs [.st (.int .i64 left)])=true
   rw [Gc hr0]
   rfl
  unfold BY
  repeat' with_reducible first | refine W ?_ | refine Z0 ?_ | ((first | refine Wo fun K hK=>?_ | refine Wq ?_ | refine Wr ?_);(try simp only [go_sem,fN,seval,eT,iR,hSa,n4,n6,n7,d4,d6,d7,e4,e6,e7]);(repeat refine Ai ?_);(try (refine hK _ ?_;clear hK K)))
  with_reducible refine Wp ?_
  simp only [go_sem,fN,seval,true_implies,false_implies,implies_true,dT,dF,nL]
  (try with_reducible refine iC ?_)
  repeat' with_reducible first | refine W ?_ | refine Z0 ?_ | ((first | refine Wo fun K hK=>?_ | refine Wq ?_ | refine Wr ?_);(try simp only [go_sem,fN,seval,eT,iR,hSa,n4,n6,n7,d4,d6,d7,e4,e6,e7]);(repeat refine Ai ?_);(try (refine hK _ ?_;clear hK K)))
  refine ⟨_,[(r,BW s)],BV (by (simp only [go_sem,fN,seval,eT,iR,f4,f6,f7,hSr])),fun T hT=>X7 s h40 ho t.name (up1 r) (Ap r) (upS T) (by rw [At,hT _ (List.mem_singleton.2 rfl)];rfl),?_⟩
  repeat' with_reducible first | refine W ?_ | refine Z0 ?_ | ((first | refine Wo fun K hK=>?_ | refine Wq ?_ | refine Wr ?_);(try simp only [go_sem,fN,seval,eT,iR,hl,n7]);(repeat refine Ai ?_);(try (refine hK _ ?_;clear hK K)))
  with_reducible refine Wp ?_
  simp only [go_sem,fN,seval,true_implies,false_implies,implies_true,dT,dF,nL]
  (try with_reducible refine iC ?_)
  repeat' with_reducible first | refine W ?_ | refine Z0 ?_ | ((first | refine Wo fun K hK=>?_ | refine Wq ?_ | refine Wr ?_);(try simp only [go_sem,fN,seval,eT,iR,hSa,n4,n6,n7,d4,d6,d7,e4,e6,e7]);(repeat refine Ai ?_);(try (refine hK _ ?_;clear hK K)))
  have hcall:=fun S' h h'=>Yq s h40 ho x (up1 a0) (up1 r) left S' (Ap a0) (Ap r) (by unfold up1;omega) h0 h1 h h'
  refine ⟨_,_,hcall _ (by rw [At];(simp only [go_sem,fN,seval,eT,iR,e4,e6,e7,hSa])) (by rw [At];(simp only [go_sem,fN,seval,eT,iR,f4,f6,f7,hSr])),?_⟩
  repeat' with_reducible first | refine W ?_ | refine Z0 ?_ | ((first | refine Wo fun K hK=>?_ | refine Wq ?_ | refine Wr ?_);(try simp only [go_sem,fN,seval,eT,iR,e4,e6,e7,d4,d6,d7]);(repeat refine Ai ?_);(try (refine hK _ ?_;clear hK K)))
  refine Bi (aTm (DN x left).1) hS ha0 (hhigh _) trivial ?_ ?_ ?_ fun i hi hne=>?_
  ·simp only [go_sem,fN,seval,eT,iR,AB,AD,AL,e4,e6,e7,d4,d6,d7]
  ·simp only [go_sem,fN,seval,eT,iR]
  ·simp only [go_sem,fN,seval,eT,iR,e4,e6,e7]
  ·have i4:¬ i=4:=by omega
   have i6:¬ i=6:=by omega
   have i7:¬ i=7:=by omega
   simp only [go_sem,fN,seval,eT,iR,i4,i6,i7,hne]
theorem AAG (s:List Bd) (h40:s.length≤100000) (ho:BN s) (t:Tm) (hv:∀ b ∈ s,AP b.1=true) (hchk:t.chk=0) (r:Nat) (hr:1000≤r) (S:AA) (sr:S r=some (BW s)) :
  Ah Tryz.prog 110 [.one (.row r s.length),aTm t] S (.tup [aTm (BD s t).1,Ad (BD s t).2]) S:=by
 refine O4.acS fun hS C hC=>?_
 unfold JR
 have n3:S 3=none:=AJ hS (by omega)
 have n4:S 4=none:=AJ hS (by omega)
 have n7:S 7=none:=AJ hS (by omega)
 have n10:S 10=none:=AJ hS (by omega)
 have r3:¬ r=3:=by omega
 have r4:¬ r=4:=by omega
 have r7:¬ r=7:=by omega
 have r10:¬ r=10:=by omega
 repeat' with_reducible first | refine W ?_ | refine Z0 ?_ | ((first | refine Wo fun K hK=>?_ | refine Wq ?_ | refine Wr ?_);(try simp only [go_sem,fN,seval,eT,iR,n3,n4,n7,n10]);(repeat refine Ai ?_);(try (refine hK _ ?_;clear hK K)))
 have hcall:=fun S' h h'=>Y0 s h40 ho t hv hchk (up1 10) (up1 r) 2000 S' (Ap 10) (Ap r) (by unfold up1;omega) (by omega) (by omega) h h'
 refine ⟨_,_,hcall _ (by rw [At];rfl) (by rw [At];(simp only [go_sem,fN,seval,eT,iR,r3,r4,r10,sr])),?_⟩
 by_cases hfit:((t.on s).size:Int)≤2000
 ·have e:BD s t=(t.on s,true):=by
   unfold BD
   rw [if_pos (by omega)]
  rw [EZ hfit]
  have hge:(0:Int)≤2000 - (t.on s).size:=by omega
  repeat' with_reducible first | refine W ?_ | refine Z0 ?_ | ((first | refine Wo fun K hK=>?_ | refine Wq ?_ | refine Wr ?_);(try simp only [go_sem,fN,seval,eT,iR,hge,n7]);(repeat refine Ai ?_);(try (refine hK _ ?_;clear hK K)))
  rw [e]
  refine Ay (.tup [aTm (t.on s),Ad true]) hS trivial ?_ ?_ fun k hk=>?_
  ·simp only [go_sem,fN,seval,eT,iR,AB,AD,AL]
  ·simp only [go_sem,fN,seval,eT,iR]
  ·have k3:¬ k=3:=by omega
   have k4:¬ k=4:=by omega
   have k7:¬ k=7:=by omega
   have k10:¬ k=10:=by omega
   simp only [go_sem,fN,seval,eT,iR,k3,k4,k7,k10]
 ·have e:BD s t=(Tm.nil,false):=by
   unfold BD
   rw [if_neg (by omega)]
  rw [ED hfit]
  repeat' with_reducible first | refine W ?_ | refine Z0 ?_ | ((first | refine Wo fun K hK=>?_ | refine Wq ?_ | refine Wr ?_);(try simp only [go_sem,fN,seval,eT,iR,n7]);(repeat refine Ai ?_);(try (refine hK _ ?_;clear hK K)))
  rw [e]
  refine Ay (.tup [aTm Tm.nil,Ad false]) hS trivial ?_ ?_ fun k hk=>?_
  ·simp only [go_sem,fN,seval,eT,iR,AB,AD,AL]
  ·simp only [go_sem,fN,seval,eT,iR]
  ·have k3:¬ k=3:=by omega
   have k4:¬ k=4:=by omega
   have k7:¬ k=7:=by omega
   have k10:¬ k=10:=by omega
   simp only [go_sem,fN,seval,eT,iR,k3,k4,k7,k10]

open Go.Proofs Go.Shelf
def Tryz.laysM171_ren:Go.Shelf.Ren:=⟨fun | 171=>123 | 243=>134 | 246=>141 | 283=>155 | 284=>156 | 285=>157 | 286=>158 | 129=>153 | 317=>164 | 318=>165 | 319=>166 | 320=>167 | 337=>169 | 338=>170 | n=>n,fun | 3=>3 | 9=>9 | 2=>2 | 4=>4 | 171=>178 | 0=>0 | 53=>176 | 37=>122 | 5=>5 | 173=>180 | 212=>190 | 51=>174 | 20=>20 | 213=>191 | 46=>160 | 232=>195 | 233=>196 | n=>n,fun | 17=>0 | 18=>1 | 19=>2 | n=>n⟩
theorem Tryz.laysM171:Go.Proofs.LaysM.n171 Tryz.prog Tryz.laysM171_ren:={
 mixed:=by kernel_rfl
 f129:=Tryz.func153.trans (congrArg some (by kernel_rfl))
 f171:=Tryz.func123.trans (congrArg some (by kernel_rfl))
 f243:=Tryz.func134.trans (congrArg some (by kernel_rfl))
 f246:=Tryz.func141.trans (congrArg some (by kernel_rfl))
 f283:=Tryz.func155.trans (congrArg some (by kernel_rfl))
 f284:=Tryz.func156.trans (congrArg some (by kernel_rfl))
 f285:=Tryz.func157.trans (congrArg some (by kernel_rfl))
 f286:=Tryz.func158.trans (congrArg some (by kernel_rfl))
 f317:=Tryz.func164.trans (congrArg some (by kernel_rfl))
 f318:=Tryz.func165.trans (congrArg some (by kernel_rfl))
 f319:=Tryz.func166.trans (congrArg some (by kernel_rfl))
 f320:=Tryz.func167.trans (congrArg some (by kernel_rfl))
 f337:=Tryz.func169.trans (congrArg some (by kernel_rfl))
 f338:=Tryz.func170.trans (congrArg some (by kernel_rfl))
 t0:=Tryz.underlying0
 a0:=Tryz.isAgg0
 z0:=Tryz.sizeOf0
 v0:=Tryz.zeroValue0
 t2:=Tryz.underlying2
 a2:=Tryz.isAgg2
 z2:=Tryz.sizeOf2
 v2:=Tryz.zeroValue2
 t3:=Tryz.underlying3
 a3:=Tryz.isAgg3
 z3:=Tryz.sizeOf3
 v3:=Tryz.zeroValue3
 t4:=Tryz.underlying4
 a4:=Tryz.isAgg4
 z4:=Tryz.sizeOf4
 v4:=Tryz.zeroValue4
 t5:=Tryz.underlying5
 a5:=Tryz.isAgg5
 z5:=Tryz.sizeOf5
 v5:=Tryz.zeroValue5
 t9:=Tryz.underlying9
 a9:=Tryz.isAgg9
 z9:=Tryz.sizeOf9
 v9:=Tryz.zeroValue9
 t20:=Tryz.underlying20
 a20:=Tryz.isAgg20
 z20:=Tryz.sizeOf20
 v20:=Tryz.zeroValue20
 t37:=Tryz.underlying122
 a37:=Tryz.isAgg122
 z37:=Tryz.sizeOf122
 v37:=Tryz.zeroValue122
 t46:=Tryz.underlying160
 a46:=Tryz.isAgg160
 z46:=Tryz.sizeOf160
 v46:=Tryz.zeroValue160
 t51:=Tryz.underlying174
 a51:=Tryz.isAgg174
 z51:=Tryz.sizeOf174
 v51:=Tryz.zeroValue174
 t53:=Tryz.underlying176
 a53:=Tryz.isAgg176
 z53:=Tryz.sizeOf176
 v53:=Tryz.zeroValue176
 t171:=Tryz.underlying178
 a171:=Tryz.isAgg178
 z171:=Tryz.sizeOf178
 v171:=Tryz.zeroValue178
 t173:=Tryz.underlying180
 a173:=Tryz.isAgg180
 z173:=Tryz.sizeOf180
 v173:=Tryz.zeroValue180
 t212:=Tryz.underlying190
 a212:=Tryz.isAgg190
 z212:=Tryz.sizeOf190
 v212:=Tryz.zeroValue190
 t213:=Tryz.underlying191
 a213:=Tryz.isAgg191
 z213:=Tryz.sizeOf191
 t232:=Tryz.underlying195
 a232:=Tryz.isAgg195
 z232:=Tryz.sizeOf195
 v232:=Tryz.zeroValue195
 t233:=Tryz.underlying196
 a233:=Tryz.isAgg196
 z233:=Tryz.sizeOf196
 v233:=Tryz.zeroValue196
 g17:=by kernel_rfl
 g18:=by kernel_rfl
 g19:=by kernel_rfl
 i0:=by kernel_rfl
 i2:=by kernel_rfl
 i3:=by kernel_rfl
 i4:=by kernel_rfl
 i5:=by kernel_rfl
 i9:=by kernel_rfl
 i20:=by kernel_rfl
 i37:=by kernel_rfl
 i46:=by kernel_rfl
 i51:=by kernel_rfl
 i53:=by kernel_rfl
 i171:=by kernel_rfl
 i173:=by kernel_rfl
 i212:=by kernel_rfl
 i232:=by kernel_rfl
 i233:=by kernel_rfl
 m17:=by kernel_rfl
 m18:=by kernel_rfl
 m19:=by kernel_rfl }
def Tryz.sortBd_ren:Go.Shelf.Ren:=⟨fun | 6=>130 | 15=>137 | 14=>136 | 28=>152 | 29=>153 | 20=>144 | 21=>145 | 22=>146 | 23=>147 | 24=>148 | 25=>149 | 26=>150 | 27=>151 | 46=>159 | 47=>160 | 48=>161 | 49=>162 | 50=>163 | 57=>168 | n=>n,fun | 22=>78 | 24=>82 | 25=>156 | 3=>3 | 39=>160 | 0=>0 | 53=>174 | 55=>176 | 4=>4 | 46=>168 | 45=>167 | 50=>163 | 5=>5 | 9=>9 | 66=>182 | 70=>186 | 76=>192 | 77=>193 | n=>n,fun | n=>n⟩
theorem Tryz.sortBd:Go.Proofs.SlLaysF0.n6 Tryz.prog Tryz.sortBd_ren:={
 mixed:=by kernel_rfl
 f6:=⟨Tryz.f130.name,by decide,Tryz.func130.trans (congrArg some (by kernel_rfl))⟩
 f14:=⟨Tryz.f136.name,by decide,Tryz.func136.trans (congrArg some (by kernel_rfl))⟩
 f15:=Tryz.func137.trans (congrArg some (by kernel_rfl))
 f20:=⟨Tryz.f144.name,by decide,Tryz.func144.trans (congrArg some (by kernel_rfl))⟩
 f21:=⟨Tryz.f145.name,by decide,Tryz.func145.trans (congrArg some (by kernel_rfl))⟩
 f22:=⟨Tryz.f146.name,by decide,Tryz.func146.trans (congrArg some (by kernel_rfl))⟩
 f23:=⟨Tryz.f147.name,by decide,Tryz.func147.trans (congrArg some (by kernel_rfl))⟩
 f24:=⟨Tryz.f148.name,by decide,Tryz.func148.trans (congrArg some (by kernel_rfl))⟩
 f25:=⟨Tryz.f149.name,by decide,Tryz.func149.trans (congrArg some (by kernel_rfl))⟩
 f26:=⟨Tryz.f150.name,by decide,Tryz.func150.trans (congrArg some (by kernel_rfl))⟩
 f27:=⟨Tryz.f151.name,by decide,Tryz.func151.trans (congrArg some (by kernel_rfl))⟩
 f28:=Tryz.func152.trans (congrArg some (by kernel_rfl))
 f29:=Tryz.func153.trans (congrArg some (by kernel_rfl))
 f46:=⟨Tryz.f159.name,by decide,Tryz.func159.trans (congrArg some (by kernel_rfl))⟩
 f47:=Tryz.func160.trans (congrArg some (by kernel_rfl))
 f48:=Tryz.func161.trans (congrArg some (by kernel_rfl))
 f49:=⟨Tryz.f162.name,by decide,Tryz.func162.trans (congrArg some (by kernel_rfl))⟩
 f50:=⟨Tryz.f163.name,by decide,Tryz.func163.trans (congrArg some (by kernel_rfl))⟩
 f57:=⟨Tryz.f168.name,by decide,Tryz.func168.trans (congrArg some (by kernel_rfl))⟩
 t0:=Tryz.underlying0
 a0:=Tryz.isAgg0
 z0:=Tryz.sizeOf0
 v0:=Tryz.zeroValue0
 t3:=Tryz.underlying3
 a3:=Tryz.isAgg3
 z3:=Tryz.sizeOf3
 v3:=Tryz.zeroValue3
 t4:=Tryz.underlying4
 a4:=Tryz.isAgg4
 z4:=Tryz.sizeOf4
 v4:=Tryz.zeroValue4
 t5:=Tryz.underlying5
 a5:=Tryz.isAgg5
 z5:=Tryz.sizeOf5
 v5:=Tryz.zeroValue5
 t9:=Tryz.underlying9
 a9:=Tryz.isAgg9
 z9:=Tryz.sizeOf9
 v9:=Tryz.zeroValue9
 t22:=Tryz.underlying78
 a22:=Tryz.isAgg78
 z22:=Tryz.sizeOf78
 v22:=Tryz.zeroValue78
 t25:=Tryz.underlying156
 a25:=Tryz.isAgg156
 z25:=Tryz.sizeOf156
 v25:=Tryz.zeroValue156
 t39:=Tryz.underlying160
 a39:=Tryz.isAgg160
 z39:=Tryz.sizeOf160
 v39:=Tryz.zeroValue160
 t45:=Tryz.underlying167
 a45:=Tryz.isAgg167
 z45:=Tryz.sizeOf167
 v45:=Tryz.zeroValue167
 t46:=Tryz.underlying168
 a46:=Tryz.isAgg168
 z46:=Tryz.sizeOf168
 v46:=Tryz.zeroValue168
 t50:=Tryz.underlying163
 a50:=Tryz.isAgg163
 z50:=Tryz.sizeOf163
 v50:=Tryz.zeroValue163
 t53:=Tryz.underlying174
 a53:=Tryz.isAgg174
 z53:=Tryz.sizeOf174
 v53:=Tryz.zeroValue174
 t55:=Tryz.underlying176
 a55:=Tryz.isAgg176
 z55:=Tryz.sizeOf176
 v55:=Tryz.zeroValue176
 t66:=Tryz.underlying182
 a66:=Tryz.isAgg182
 z66:=Tryz.sizeOf182
 v66:=Tryz.zeroValue182
 t70:=Tryz.underlying186
 a70:=Tryz.isAgg186
 z70:=Tryz.sizeOf186
 v70:=Tryz.zeroValue186
 t76:=Tryz.underlying192
 a76:=Tryz.isAgg192
 z76:=Tryz.sizeOf192
 v76:=Tryz.zeroValue192
 t77:=Tryz.underlying193
 a77:=Tryz.isAgg193
 z77:=Tryz.sizeOf193
 v77:=Tryz.zeroValue193 }

def Gm:IR :=
 (.seq (.ops [.i 2 (.mov (.c (.one (.full []))))]) (.seq (.ops [.m 3 0,.i 4 (.callS 130 [.t 3,.c (.one (.fn 131 []))])]) (.seq (.ops [.m 5 0,.m 2 5]) .ret)))
theorem Md:OkF Tryz.prog 117 6 [4] Gm [.t 2]:=.of Tryz.func117 rfl rfl (by kernel_rfl) rfl

open Go.Lib Go.Sort
set_option maxHeartbeats 1000000
theorem Ym {P:Program} {w:World} (t:TypeId) (x y:ByteArray):(binOp .gtr t (.string x) (.string y)).run P w=.ok (.bool (!(sLt x y || decide (x=y)))) w:=by
 simp only [binOp,Op.stringOp,C1]
 rfl
attribute [go_sem] Ym
theorem Yu (s:ByteArray) (W:World):Calls Tryz.prog 138 #[.string s] W fun e w'=>e=.returned (.bool false)∧w'=W:=by
 go_enter Tryz.func138,Tryz.ntmps138
 go_wp2_with fail
 go_ret
 exact ⟨rfl,rfl⟩
theorem U4 (a b:ByteArray) (W:World):Calls Tryz.prog 132 #[.string a,.string b] W fun e w'=>e=.returned (.int .i64 (D_ a b))∧w'=W:=by
 have h1:=Yu
 have hl:sLt a b=Op.bytesLess a.toList b.toList:=rfl
 have hc:D_ a b=if sLt a b=true then -1 else if a=b then 0 else 1:=rfl
 generalize D_ a b=r at hc ⊢
 go_enter Tryz.func132,Tryz.ntmps132
 go_wp2_with (go_at_call 138;refine (h1 _ _).mono ?_;rintro e w' ⟨rfl,rfl⟩)
 all_goals go_ret
 all_goals refine ⟨?_,rfl⟩
 all_goals simp_all
abbrev Ez:=ByteArray × ByteArray × Option Addr × Nat × Nat
def Cn (x:Ez):List Value:=[.string x.1,.string x.2.1,.slice x.2.2.1 x.2.2.2.1 x.2.2.2.2]
theorem YP (x y:Ez) (W:World):Calls Tryz.prog 131 #[.agg (Cn x).toArray,.agg (Cn y).toArray] W fun e w'=>e=.returned (.int .i64 (D_ x.1 y.1))∧∃ q os',w'=grow (W.drewN q) os':=by
 have hcon:=fun W'=>U4 x.1 y.1 W'
 generalize D_ x.1 y.1=r at hcon ⊢
 unfold Cn
 go_enter Tryz.func131,Tryz.ntmps131
 go_wp2_with (go_at_call 132;refine (hcon _).mono ?_;rintro e w' ⟨rfl,rfl⟩)
 go_ret
 exact ⟨rfl,0,_,by rw [alloc_eq_grow,alloc_eq_grow,grow_grow];rfl⟩
theorem U1:SWO (ltOf fun x y:Ez=>D_ x.1 y.1) where
 irrefl x:=by
  simp only [ltOf,decide_eq_false_iff_not]
  intro h
  have:=Cd.1 h
  rw [DE] at this
  cases this
 trans x y z h k:=by
  simp only [ltOf,decide_eq_true_eq] at *
  exact Cd.2 (FX (Cd.1 h) (Cd.1 k))
 ntrans x y z h k:=by
  simp only [ltOf,decide_eq_false_iff_not] at *
  intro e
  have e:=Cd.1 e
  have h:sLt x.1 y.1=false:=by
   cases hx:sLt x.1 y.1 with
   | false=>rfl
   | true=>exact absurd (Cd.2 hx) h
  have k:sLt y.1 z.1=false:=by
   cases hx:sLt y.1 z.1 with
   | false=>rfl
   | true=>exact absurd (Cd.2 hx) k
  rcases Jg y.1 z.1 with q | q | q
  ·rw [q] at k;cases k
  ·rw [q] at h;rw [e] at h;cases h
  ·have:=FX e q
   rw [this] at h
   cases h
def XD (σ:Sto) (x:Ez) (b:Bd):Prop:=x.1=b.1∧Af (A5 σ) (Cn x) (Cx b)
theorem Uq {α β:Type} {R:α→β→Prop} {l1 l2:List α} (hp:l1.Perm l2):∀ {m1:List β},Af R l1 m1→∃ m2,Af R l2 m2∧m1.Perm m2:=by
 induction hp with
 | nil=>intro m1 h;exact ⟨m1,h,List.Perm.refl _⟩
 | cons x _ ih =>
  intro m1 h
  cases h with
  | cons h1 h2 =>
   obtain ⟨m2,q1,q2⟩:=ih h2
   exact ⟨_ :: m2,.cons h1 q1,q2.cons _⟩
 | swap x y l =>
  intro m1 h
  cases h with
  | cons h1 h2 =>
   cases h2 with
   | cons h2 h3=>exact ⟨_,.cons h2 (.cons h1 h3),List.Perm.swap _ _ _⟩
 | trans _ _ ih1 ih2 =>
  intro m1 h
  obtain ⟨m2,q1,q2⟩:=ih1 h
  obtain ⟨m3,q3,q4⟩:=ih2 q1
  exact ⟨m3,q3,q2.trans q4⟩
theorem ZF {σ:Sto} {b:Bd} {v1 v2 v3:Value} (h1:A5 σ v1 (.str b.1)) (h2:A5 σ v2 (.str b.2.name)) (h3:A5 σ v3 (.list (b.2.args.map Ao))):∃ x:Ez,[v1,v2,v3]=Cn x∧XD σ x b:=by
 have e1:=(Ed (S:=noS) (ι:=noH) (.one (.st h1))).1
 have e2:=(Ed (S:=noS) (ι:=noH) (.one (.st h2))).1
 obtain ⟨p,cap,e3,_⟩:=Ca h3
 subst e1 e2 e3
 exact ⟨(b.1,b.2.name,p,_,cap),rfl,rfl,.cons h1 (.cons h2 (.cons h3 .nil))⟩
theorem MH {σ:Sto} {vs:Array Value}:∀ (l:List Bd) (base:Nat),(∀ k b,l[k]?=some b→∀ j a,(Cx b)[j]?=some a→∃ v,vs[base + k * 3 + j]?=some v∧A5 σ v a) →
  ∃ d:List Ez,Af (XD σ) d l∧∀ k x j v,d[k]?=some x→(Cn x)[j]?=some v→vs[base + k * 3 + j]?=some v
 | [],base,_=>⟨[],.nil,by simp⟩
 | b :: l,base,h=>by
  obtain ⟨d,d1,d2⟩:=MH l (base + 3) (fun k c hc j a ha=>by
   obtain ⟨v,v1,v2⟩:=h (k + 1) c (by simpa using hc) j a ha
   exact ⟨v,by rw [← v1];congr 1;omega,v2⟩)
  obtain ⟨u1,p1,q1⟩:=h 0 b rfl 0 _ rfl
  obtain ⟨u2,p2,q2⟩:=h 0 b rfl 1 _ rfl
  obtain ⟨u3,p3,q3⟩:=h 0 b rfl 2 _ rfl
  obtain ⟨x,x1,x2⟩:=ZF q1 q2 q3
  refine ⟨x :: d,.cons x2 d1,fun k y j v hy hv=>?_⟩
  cases k with
  | zero =>
   simp only [List.getElem?_cons_zero,Option.some.injEq] at hy
   subst hy
   rw [← x1] at hv
   match j,hv with
   | 0,hv=>cases hv;exact p1
   | 1,hv=>cases hv;exact p2
   | 2,hv=>cases hv;exact p3
   | j + 3,hv=>simp at hv
  | succ k =>
   have:=d2 k y j v (by simpa using hy) hv
   rw [← this]
   congr 1
   omega
theorem Jk (x:Ez):(Cn x).length=3:=rfl
theorem P5 {d:Array Ez} {t:Nat} (h:t < d.size * 3):∃ x v,d[t / 3]?=some x∧(Cn x)[t % 3]?=some v∧(flatK Cn 3 d)[t]! = v:=by
 have hk:t / 3 < d.size:=by omega
 have hj:t % 3 < (Cn d[t / 3]).length:=by rw [Jk];omega
 refine ⟨d[t / 3],(Cn d[t / 3])[t % 3],Array.getElem?_eq_getElem hk,List.getElem?_eq_getElem hj,?_⟩
 rw [get_flatK _ _ _ _ h,getElem!_pos d (t / 3) hk,getElem!_pos (Cn d[t / 3]) (t % 3) hj]
theorem UN (w:World) (g n:Nat) (d:Array Ez) (os:Array Obj) (vs:Array Value) (e:TypeId) (hg:w.heap[g]?=some (.cells vs e (0,0))) :
  (sortWorldK Cn 3 w g 0 n d os).heap[g]?=some (.cells (putCells id 0 (flatK Cn 3 d) vs) e (0,0))∧(∀ k,k < w.heap.size→k ≠ g→(sortWorldK Cn 3 w g 0 n d os).heap[k]?=w.heap[k]?)∧w.heap.size≤(sortWorldK Cn 3 w g 0 n d os).heap.size:=by
 have hlt:=(Array.getElem?_eq_some_iff.1 hg).1
 have hsz:(putRowK Cn 3 (Sort.ahead w n) g 0 d).heap.size=w.heap.size:=by simp [putRowK,putRow,mapBlock,Sort.ahead]
 refine ⟨?_,fun k hk hne=>?_,?_⟩
 ·unfold sortWorldK
  rw [heap_grow_old _ _ (by rw [hsz];exact hlt)]
  simp [putRowK,putRow,mapBlock,Sort.ahead,Array.getElem?_modify,hg,onCells]
 ·unfold sortWorldK
  rw [heap_grow_old _ _ (by rw [hsz];exact hk)]
  simp [putRowK,putRow,mapBlock,Sort.ahead,Array.getElem?_modify,Ne.symm hne]
 ·unfold sortWorldK
  rw [Go.Sort.size_grow,hsz]
  omega
theorem Yn {d:Array Ez} {vs:Array Value} (hs:d.size * 3≤vs.size) {k:Nat} {x:Ez} {j:Nat} {v:Value} (hx:d[k]?=some x) (hv:(Cn x)[j]?=some v):(putCells id 0 (flatK Cn 3 d) vs)[k * 3 + j]?=some v:=by
 have hk:=(Array.getElem?_eq_some_iff.1 hx).1
 have hj:j < 3:=by have:=(List.getElem?_eq_some_iff.1 hv).1;rw [Jk] at this;exact this
 have hlt:k * 3 + j < d.size * 3:=by omega
 obtain ⟨y,u,h1,h2,h3⟩:=P5 hlt
 have e1:(k * 3 + j) / 3=k:=by omega
 have e2:(k * 3 + j) % 3=j:=by omega
 rw [e1,hx] at h1
 cases h1
 rw [e2,hv] at h2
 cases h2
 unfold putCells
 rw [Array.getElem?_mapIdx,Array.getElem?_eq_getElem (by omega),Option.map_some,if_pos (by rw [size_flatK];omega)]
 simp only [Nat.sub_zero,id,h3]
theorem X0 (d:Array Ez) (vs:Array Value):(putCells id 0 (flatK Cn 3 d) vs).size=vs.size:=by simp [putCells]
theorem ZG {S:AA} {r:Nat} {b:AK} (h:S r=some b):AG S r (some b)=S:=by
 funext k
 unfold AG
 split
 ·rename_i e;rw [e,h]
 ·rfl
theorem U7 {d:Array Ez} {vs:Array Value} {t:Nat} (h:d.size * 3≤t):(putCells id 0 (flatK Cn 3 d) vs)[t]?=vs[t]?:=by
 unfold putCells
 rw [Array.getElem?_mapIdx]
 cases hv:vs[t]? with
 | none=>rfl
 | some v=>rw [Option.map_some,if_neg (by rw [size_flatK];omega)]
abbrev GJ (l:List Bd) (ys:List (List SV)):AK:=.mrow 82 3 (l.map Cx ++ ys)
theorem Vb (l:List Bd) (ys:List (List SV)) (hys:∀ y ∈ ys,y.length=3) (hn:Bp l) (hl:l.length≤100000) (r:Nat) (hr:1000≤r) (S:AA) (sr:S r=some (GJ l ys)) (hS:Am S) (σ:Sto) (w:World) (ι:Ax) (hF:Fit σ w) (hO:Cz σ S ι w) :
  Calls Tryz.prog 130 #[.slice (ι r).p l.length (ι r).cap,.func (.func 131) #[] #[]] w fun e w'=>∃ v σ' ι',e=.returned v∧Am (AG S r (some (GJ (Bb l) ys)))∧Upd S ι (AG S r (some (GJ (Bb l) ys))) ι'∧Cz σ' (AG S r (some (GJ (Bb l) ys))) ι' w'∧AQ σ' (AG S r (some (GJ (Bb l) ys))) ι' v (.tup [])∧Fit σ' w'∧(∀ p x,σ p=some x→σ' p=some x) ∧
   (∀ p:Addr,p.block < w.heap.size→Bh S ι p.block→σ' p=σ p)∧(w'.os=w.os∧w'.tape=w.tape∧w'.output=w.output)∧w.heap.size≤w'.heap.size ∧
   (∀ g,g < w.heap.size→Bh S ι g→w'.heap[g]?=w.heap[g]?)∧(∀ id b g,AG S r (some (GJ (Bb l) ys)) id=some b→(ι' id).g=some g→w.heap.size≤g ∨ ¬ Bh S ι g):=by
 have hS':Am (AG S r (some (GJ (Bb l) ys))):=BP hS hr rfl
 have hb:Bm σ S ι w (ι r) (.mrow 82 3 (l.map Cx ++ ys)):=hO.1 r _ sr
 generalize hxs:l.map Cx ++ ys=xs at hb
 have hlen:xs.length=l.length + ys.length:=by rw [← hxs,List.length_append,List.length_map]
 generalize hh:ι r=hd at hb
 cases hb with
 | mnil k1 k2 =>
  obtain ⟨hl0,hy0⟩:l=[]∧ys=[]:=by simpa using hxs
  subst hl0 hy0
  refine (AnyF.slices_SortFunc_none Tryz.sortBd hd.p hd.cap _ w).mono fun e w' ⟨he,hw⟩=>?_
  subst hw
  have hid:AG S r (some (GJ (Bb []) []))=S:=ZG sr
  rw [hid]
  exact ⟨_,σ,ι,he,hS,Upd.refl _ _,hO,.tup (fun _=>undef) rfl (by simp) (by simp),hF,fun _ _ h=>h,fun _ _ _=>rfl,⟨rfl,rfl,rfl⟩,Nat.le_refl _,fun _ _ _=>rfl,fun id b g h1 h2=>.inr fun hno=>hno id b h1 h2⟩
 | @mrow _ _ _ g cs k1 k2 k3 k4 k5 k6 k7 k8 k9 =>
  subst hxs
  obtain ⟨d,d1,d2⟩:=MH (σ:=σ) (vs:=cs) l 0 (fun k b hb j a ha=>by
   obtain ⟨v,v1,v2⟩:=k8 k (Cx b) j a (by rw [List.getElem?_append_left (by rw [List.length_map];exact Cf hb),List.getElem?_map,hb];rfl) ha
   exact ⟨v,by rw [Nat.zero_add];exact v1,v2⟩)
  have dlen:d.length=l.length:=d1.len
  have hcap:l.length≤hd.cap:=by omega
  have hfits:d.toArray.size * 3≤cs.size:=by
   rw [k6]
   simp only [List.size_toArray,dlen]
   exact Nat.mul_le_mul_right 3 hcap
  have hH:HoldsK Cn 3 w g 0 d.toArray:=fun j hj=>by
   rw [size_flatK] at hj
   obtain ⟨x,v,q1,q2,q3⟩:=P5 hj
   have q1:d[j / 3]?=some x:=by simpa using q1
   have hc:=d2 _ _ _ _ q1 q2
   have e:0 + j / 3 * 3 + j % 3=j:=by omega
   rw [e] at hc
   refine ⟨?_,?_⟩
   ·rw [cell_of_row w g _ _ _ _ k3,Nat.zero_add,hc,q3]
    rfl
   ·exact Blk.frozen k3 _
  have eg:∀ args w,(callFunc 131 args).run Tryz.prog w=.ok (.enter 131 args) w:=enters_of Tryz.func131 (by kernel_rfl) rfl
  have hgl:g < w.heap.size:=(Array.getElem?_eq_some_iff.1 k3).1
  have hcon:=AnyQ.slices_SortFunc Tryz.sortBd 3 Tryz.isAgg82 Tryz.sizeOf82 Cn Jk (fun x v hv=>by simp [Cn] at hv;rcases hv with rfl | rfl | rfl <;> rfl) (fun x y:Ez=>D_ x.1 y.1) U1 131 #[] g 0 hd.cap d.toArray w eg (fun _ _ _ _ x y=>YP x y _) hH hgl (by simp [dlen];omega)
  rw [show d.toArray.size=l.length by simp [dlen]] at hcon
  rw [k2,show (l.length)=l.length from rfl]
  refine Calls.mono hcon fun e w' ⟨he,d',n,os,hp,hs,hw⟩=>?_
  obtain ⟨hp1,hp2,hp3⟩:=hp
  have hd'l:d'.size=l.length:=by rw [hp1];simp [dlen]
  have hperm:d.Perm d'.toList:=by
   have e1:d'.extract 0 l.length=d':=by rw [← hd'l];exact Array.extract_size
   have e2:d.toArray.extract 0 l.length=d.toArray:=by
    rw [show l.length=d.toArray.size by simp [dlen]]
    exact Array.extract_size
   rw [e1,e2] at hp3
   exact hp3.symm
  obtain ⟨l',l1,l2⟩:=Uq hperm d1
  have hl'len:l'.length=l.length:=l2.length_eq.symm
  have hord:BN l':=by
   unfold BN
   rw [List.pairwise_iff_getElem]
   intro i j hi hj hij
   obtain ⟨x,x1,x2,_⟩:=l1.get (List.getElem?_eq_getElem hi)
   obtain ⟨y,y1,y2,_⟩:=l1.get (List.getElem?_eq_getElem hj)
   have hso:=hs i j (Nat.zero_le _) hij (by omega)
   have e1:d'[i]! = x:=by
    rw [Array.getElem?_toList] at x1
    rw [getElem!_def,x1]
   have e2:d'[j]! = y:=by
    rw [Array.getElem?_toList] at y1
    rw [getElem!_def,y1]
   rw [e1,e2] at hso
   simp only [ltOf,decide_eq_false_iff_not] at hso
   have hno:sLt l'[j].1 l'[i].1=false:=by
    cases hx:sLt l'[j].1 l'[i].1 with
    | false=>rfl
    | true=>exact absurd (Cd.2 (by rw [x2,y2];exact hx)) hso
   have hdiff:l'[i].1 ≠ l'[j].1:=by
    have hn':=Ef l2 hn
    unfold Bp at hn'
    rw [List.nodup_iff_pairwise_ne,List.pairwise_map,List.pairwise_iff_getElem] at hn'
    exact hn' i j hi hj hij
   rcases Jg l'[i].1 l'[j].1 with q | q | q
   ·exact q
   ·exact absurd q hdiff
   ·rw [q] at hno;cases hno
  have hl':l'=Bb l:=Eg hord (Bz hn) ((l2.symm).trans (Cr l).symm)
  subst hl'
  obtain ⟨w1,w2,w3⟩:=UN w g n d' os cs _ k3
  rw [← hw] at w1 w2 w3
  have hfits':d'.size * 3≤cs.size:=by rw [hd'l];rw [← dlen];simpa using hfits
  have hupd:Upd S ι (AG S r (some (GJ (Bb l) ys))) ι:=fun id b hb=>by
   by_cases e:id=r
   ·subst e
    rw [sr] at hb
    cases hb
    exact ⟨_,AE _ _ _,by simp [AK.len,Bc],fun _=>⟨rfl,rfl⟩⟩
   ·exact ⟨b,by rw [AF _ e];exact hb,Nat.le_refl _,fun _=>⟨rfl,rfl⟩⟩
  have hotherg:∀ id b g',id ≠ r→S id=some b→(ι id).g=some g'→g' ≠ g:=fun id b g' hne hb hg' e=>by
   subst e
   exact hne (hO.2 id r b _ g' hb sr hg' (by rw [hh];exact k1))
  have hFit:Fit σ w':=fun p x hp=>by
   have hlt:=hF.lt hp
   by_cases e:p.block=g
   ·rw [k9 p e] at hp;cases hp
   ·exact (C5 (w2 _ hlt e)).trans (hF p x hp)
  refine ⟨_,σ,ι,he,hS',hupd,⟨fun id b hb=>?_,fun id id' b b' g' q1 q2 q3 q4=>?_⟩,.tup (fun _=>undef) rfl (by simp) (by simp),hFit,fun _ _ h=>h,fun _ _ _=>rfl,?_,w3,fun g' q1 q2=>?_,fun id b g' q1 q2=>?_⟩
  ·by_cases e:id=r
   ·subst e
    rw [AE] at hb
    cases hb
    rw [hh]
    have hlen':((Bb l).map Cx ++ ys).length=l.length + ys.length:=by rw [List.length_append,List.length_map,Bc]
    refine .mrow k1 k2 w1 (by rw [hlen',← hlen];exact k4) k5 (by rw [X0];exact k6) (fun x hx=>?_) (fun k x j a hx ha=>?_) k9
    ·rcases List.mem_append.1 hx with hx | hx
     ·exact Vm x hx
     ·exact hys x hx
    rcases Nat.lt_or_ge k l.length with hk | hk
    ·rw [List.getElem?_append_left (by rw [List.length_map,Bc];exact hk),List.getElem?_map,Option.map_eq_some_iff] at hx
     obtain ⟨b,hb,rfl⟩:=hx
     obtain ⟨y,y1,y2,y3⟩:=l1.get hb
     obtain ⟨v,v1,v2⟩:=y3.get ha
     exact ⟨v,Yn hfits' (by simpa using y1) v1,v2⟩
    ·rw [List.getElem?_append_right (by rw [List.length_map,Bc];exact hk),List.length_map,Bc] at hx
     obtain ⟨v,v1,v2⟩:=k8 k x j a (by rw [List.getElem?_append_right (by rw [List.length_map];exact hk),List.length_map];exact hx) ha
     exact ⟨v,by rw [U7 (by rw [hd'l];omega)];exact v1,v2⟩
   ·rw [AF _ e] at hb
    refine (hO.1 id b hb).mono (fun _ _ h=>h) hupd (fun g' hg'=>w2 g' ((hO.1 id b hb).gsome hg') (hotherg id b g' e hb hg')) (fun _ _ _ _=>rfl)
  ·have back:∀ i c,AG S r (some (GJ (Bb l) ys)) i=some c→∃ c',S i=some c':=fun i c hc=>by
    by_cases e:i=r
    ·subst e;exact ⟨_,sr⟩
    ·rw [AF _ e] at hc;exact ⟨c,hc⟩
   obtain ⟨c1,c1'⟩:=back _ _ q1
   obtain ⟨c2,c2'⟩:=back _ _ q2
   exact hO.2 _ _ _ _ _ c1' c2' q3 q4
  ·rw [hw]
   exact ⟨rfl,rfl,rfl⟩
  ·exact w2 g' q1 fun e=>q2 r _ sr (by rw [hh,e];exact k1)
  ·refine .inr fun hno=>?_
   by_cases e:id=r
   ·subst e;exact hno id _ sr q2
   ·rw [AF _ e] at q1;exact hno id _ q1 q2
theorem SB (l:List Bd) (hn:Bp l) (hl:l.length≤100000) (r:Nat) (hr:1000≤r) (S:AA) (sr:S r=some (BW l)) :
  Ah Tryz.prog 130 [.one (.row r l.length),.one (.fn 131 [])] S (.tup []) (AG S r (some (BW (Bb l)))):=by
 intro hS σ w vs ι hG hF hO hv
 cases hv with
 | @cons v1 _ _ _ h1 hv =>
 cases hv with
 | @cons v2 _ _ _ h2 hv =>
 cases hv
 obtain ⟨b,b1,b2,b3⟩:=Cq (AW h1)
 rw [sr] at b1
 cases b1
 have hv1:=b3 (by simp [AK.len])
 subst hv1
 have hv2:v2=.func (.func 131) #[] #[]:=by
  cases AW h2 with
  | @fn _ vs _ c q1 q2 q3 =>
   have e:vs=#[]:=Array.eq_empty_of_size_eq_zero (by simpa using q1)
   rw [e]
 subst hv2
 have e:∀ m:List Bd,BW m=GJ m []:=fun m=>by rw [GJ,List.append_nil]
 rw [e] at sr ⊢
 exact Vb l [] (by simp) hn hl r hr S sr hS σ w ι hF hO
theorem SN (l:List Bd) (hn:Bp l) (hl:l.length≤100000) (r:Nat) (hr:1000≤r) (S:AA) (sr:S r=some (BW l)) :
  Ah Tryz.prog 117 [.one (.row r l.length)] S (.one (.row r l.length)) (AG S r (some (BW (Bb l)))):=by
 refine Md.acS fun hS C hC=>?_
 unfold Gm
 repeat' with_reducible first | refine W ?_ | refine Z0 ?_ | ((first | refine Wo fun K hK=>?_ | refine Wq ?_ | refine Wr ?_);(try simp only [go_sem,fN,seval,eT,iR]);(repeat refine Ai ?_);(try (refine hK _ ?_;clear hK K)))
 refine ⟨_,_,SB l hn hl (up1 r) (Ap r) (upS S) (by rw [At,sr];rfl),?_⟩
 repeat' with_reducible first | refine W ?_ | refine Z0 ?_ | ((first | refine Wo fun K hK=>?_ | refine Wq ?_ | refine Wr ?_);(try simp only [go_sem,fN,seval,eT,iR]);(repeat refine Ai ?_);(try (refine hK _ ?_;clear hK K)))
 have hc:=BP (b:=BW (Bb l)) hS hr rfl
 refine U9 trivial ?_ (Gc (n:=l.length) hr) (fun i b _ h=>(hc i b h).2) (IX hc) hc
 simp only [go_sem,fN,seval,eT,iR,AB,AD,AL]



def Gv:IR :=
 (.seq (.ops [.i 2 (.mov (.n 0))]) (.seq (.seq (.ops [.m 8 0,.i 9 (.len false (.t 8)),.i 10 (.bin .gtr (.t 9) (.n 40))]) (.cond (.t 10) (.seq (.ops [.i 2 (.mov (.n 3))]) .ret) .skip)) (.seq (.seq (.ops [.m 11 0,.i 12 (.len false (.t 11)),.i 13 (.mov (.n 0))]) (.block 0 (.loop (.seq (.ops [.i 14 (.bin .lss (.t 13) (.t 12))]) (.seq (.cond (.t 14) .skip (.exit 0)) (.seq (.block 1 (.seq (.ops [.i 15 (.indexAddr 4 (.t 11) (.t 13)),.L 16 4 15,.i 4 (.alloc 40 [.st (.str (ByteArray.mk (#[]))),.full [],.st (.str (ByteArray.mk (#[]))),.full []]),.s 4 4 16]) (.seq (.ops [.f 17 0 4,.L 18 2 17,.f 19 2 4,.L 20 2 19,.i 21 (.buildSlice false 37 2 [.t 18,.t 20]),.i 22 (.len false (.t 21)),.i 23 (.mov (.n 0))]) (.block 2 (.loop (.seq (.ops [.i 24 (.bin .lss (.t 23) (.t 22))]) (.seq (.cond (.t 24) .skip (.exit 2)) (.seq (.block 3 (.seq (.ops [.i 25 (.indexAddr 2 (.t 21) (.t 23)),.L 26 2 25,.i 6 (.alloc 37 [.st (.str (ByteArray.mk (#[]))),.full []]),.s 2 6 26]) (.seq (.ops [.L 27 2 6,.i 28 (.call 46 [.t 27]),.m 7 28]) (.seq (.ops [.m 29 7,.i 30 (.bin .neq (.t 29) (.n 0))]) (.cond (.t 30) (.seq (.ops [.m 31 7,.m 2 31]) .ret) .skip))))) (.ops [.i 32 (.bin .add (.t 23) (.n 1)),.m 23 32]))))))))) (.ops [.i 33 (.bin .add (.t 13) (.n 1)),.m 13 33]))))))) (.seq (.ops [.i 2 (.mov (.n 0))]) .ret))))
theorem ME:OkF Tryz.prog 32 34 [] Gv [.t 2]:=.of Tryz.func32 rfl rfl (by kernel_rfl) rfl
def GI:IR :=
 (.seq (.ops [.i 3 (.box 37 (.t 1)),.i 4 (.mov (.c (.one (.st (.bool false)))))]) (.seq (.seq (.ops [.f 7 0 3,.l 8 7,.m 9 0,.i 10 (.bin .eql (.t 8) (.t 9))]) (.cond (.t 10) (.seq (.ops [.i 4 (.mov (.c (.one (.st (.bool true)))))]) .ret) .skip)) (.seq (.seq (.ops [.f 11 1 3,.l 12 11,.i 13 (.len false (.t 12)),.i 14 (.mov (.n 0))]) (.block 0 (.loop (.seq (.ops [.i 15 (.bin .lss (.t 14) (.t 13))]) (.seq (.cond (.t 15) .skip (.exit 0)) (.seq (.block 1 (.seq (.ops [.i 16 (.indexAddr 2 (.t 12) (.t 14)),.L 17 2 16,.i 6 (.alloc 37 [.st (.str (ByteArray.mk (#[]))),.full []]),.s 2 6 17]) (.seq (.ops [.m 18 0,.L 19 2 6,.i 20 (.call 116 [.t 18,.t 19])]) (.cond (.t 20) (.seq (.ops [.i 4 (.mov (.c (.one (.st (.bool true)))))]) .ret) .skip)))) (.ops [.i 21 (.bin .add (.t 14) (.n 1)),.m 14 21]))))))) (.seq (.ops [.i 4 (.mov (.c (.one (.st (.bool false)))))]) .ret))))
theorem Kf:OkF Tryz.prog 116 22 [] GI [.t 4]:=.of Tryz.func116 rfl rfl (by kernel_rfl) rfl
def Gj:IR :=
 (.seq (.ops [.i 2 (.mov (.c (.one (.full [])))),.i 3 (.mov (.n 0))]) (.seq (.ops [.i 4 (.mov (.c (.one (.full []))))]) (.seq (.ops [.i 5 (.mov (.c (.one (.full []))))]) (.seq (.seq (.ops [.m 15 0,.i 16 (.len false (.t 15)),.i 17 (.bin .sub (.t 16) (.n 1)),.m 6 17]) (.block 0 (.loop (.seq (.seq (.ops [.m 18 6,.i 19 (.bin .geq (.t 18) (.n 0))]) (.cond (.t 19) .skip (.exit 0))) (.seq (.block 1 (.ops [.m 22 5,.m 23 0,.m 24 6,.i 25 (.indexAddr 4 (.t 23) (.t 24)),.L 26 4 25,.i 27 (.buildSlice false 40 4 [.t 26]),.i 28 (.appP 40 4 80 (.t 22) (.t 27)),.m 5 28])) (.ops [.m 20 6,.i 21 (.bin .sub (.t 20) (.n 1)),.m 6 21])))))) (.seq (.block 2 (.loop (.seq (.seq (.ops [.m 29 5,.i 30 (.len false (.t 29)),.i 31 (.bin .gtr (.t 30) (.n 0))]) (.cond (.t 31) .skip (.exit 2))) (.block 3 (.seq (.ops [.m 32 5,.m 33 5,.i 34 (.len false (.t 33)),.i 35 (.bin .sub (.t 34) (.n 1)),.i 36 (.indexP 4 (.t 32) (.t 35)),.L 37 4 36,.i 7 (.alloc 40 [.st (.str (ByteArray.mk (#[]))),.full [],.st (.str (ByteArray.mk (#[]))),.full []]),.s 4 7 37]) (.seq (.ops [.m 38 5,.m 39 5,.i 40 (.len false (.t 39)),.i 41 (.bin .sub (.t 40) (.n 1)),.i 42 (.cutP 4 (.t 38) (.t 41)),.m 5 42]) (.seq (.ops [.m 44 4,.f 45 0 7,.L 46 2 45,.i 47 (.callR 110 [.t 44,.t 46]),.m 43 47,.i 48 (.extract 0 (.t 43)),.i 49 (.extract 1 (.t 43)),.i 8 (.alloc 37 [.st (.str (ByteArray.mk (#[]))),.full []]),.s 2 8 48,.m 9 49]) (.seq (.ops [.m 51 4,.f 52 2 7,.L 53 2 52,.i 54 (.callR 110 [.t 51,.t 53]),.m 50 54,.i 55 (.extract 0 (.t 50)),.i 56 (.extract 1 (.t 50)),.i 10 (.alloc 37 [.st (.str (ByteArray.mk (#[]))),.full []]),.s 2 10 55,.m 11 56]) (.seq (.seq (.ops [.m 57 9,.i 58 (.un .not (.t 57)),.m 59 58,.mk (some 60) (some (59,false)) (.mov (.t 11)) .no,.mk (some 61) (some (59,false)) (.un .not (.t 60)) .no,.i 62 (.pick (.t 59) (.c (.one (.st (.bool true)))) (.t 61))]) (.cond (.t 62) (.seq (.ops [.i 2 (.mov (.c (.one (.full [])))),.i 3 (.mov (.n 8))]) .ret) .skip)) (.block 4 (.seq (.ops [.f 86 0 8,.l 87 86,.i 88 (.call 67 [.t 87]),.m 89 88,.mk (some 90) (some (89,true)) (.fieldAddr 0 (.t 8)) .no,.mk (some 91) (some (89,true)) (.load false 1 (.t 90)) .no,.mk (some 92) (some (89,true)) (.fieldAddr 0 (.t 10)) .no,.mk (some 93) (some (89,true)) (.load false 1 (.t 92)) .no,.mk (some 94) (some (89,true)) (.bin .eql (.t 91) (.t 93)) .no,.i 95 (.pick (.t 89) (.t 94) (.c (.one (.st (.bool false))))),.m 85 95]) (.cond (.t 85) .skip (.seq (.ops [.f 97 0 8,.l 98 97,.i 99 (.call 67 [.t 98]),.m 100 99,.mk (some 101) (some (100,false)) (.fieldAddr 0 (.t 10)) .no,.mk (some 102) (some (100,false)) (.load false 1 (.t 101)) .no,.mk (some 103) (some (100,false)) (.call 67 [.t 102]) .no,.i 104 (.pick (.t 100) (.c (.one (.st (.bool true)))) (.t 103)),.m 96 104]) (.cond (.t 96) (.seq (.seq (.ops [.f 105 0 8,.l 106 105,.i 107 (.call 67 [.t 106]),.i 108 (.un .not (.t 107))]) (.cond (.t 108) (.ops [.L 109 2 10,.L 110 2 8,.s 2 8 109,.s 2 10 110]) .skip)) (.seq (.seq (.ops [.f 111 0 8,.l 112 111,.L 113 2 10,.i 114 (.call 116 [.t 112,.t 113])]) (.cond (.t 114) (.seq (.ops [.i 2 (.mov (.c (.one (.full [])))),.i 3 (.mov (.n 6))]) .ret) .skip)) (.seq (.ops [.f 115 0 8,.l 116 115,.L 117 2 10,.i 118 (.build [.st (.str (ByteArray.mk (#[]))),.st (.str (ByteArray.mk (#[]))),.full []] [(0,1,.t 116),(1,2,.t 117)]),.i 119 (.buildSlice false 82 3 [.t 118]),.m 12 119]) (.seq (.seq (.ops [.m 120 4,.i 121 (.len false (.t 120)),.i 122 (.mov (.n 0))]) (.block 7 (.loop (.seq (.ops [.i 123 (.bin .lss (.t 122) (.t 121))]) (.seq (.cond (.t 123) .skip (.exit 7)) (.seq (.block 8 (.seq (.ops [.m 124 122,.m 13 124]) (.seq (.ops [.m 126 4,.m 127 13,.m 128 12,.m 129 4,.m 130 13,.i 131 (.indexAddr 3 (.t 129) (.t 130)),.f 132 1 131,.L 133 2 132,.i 134 (.call 110 [.t 128,.t 133]),.m 125 134,.i 135 (.extract 0 (.t 125)),.i 136 (.extract 1 (.t 125)),.i 137 (.indexAddr 3 (.t 126) (.t 127)),.f 138 1 137,.s 2 138 135,.m 9 136]) (.seq (.ops [.m 139 9,.i 140 (.un .not (.t 139))]) (.cond (.t 140) (.seq (.ops [.i 2 (.mov (.c (.one (.full [])))),.i 3 (.mov (.n 8))]) .ret) .skip))))) (.ops [.i 141 (.bin .add (.t 122) (.n 1)),.m 122 141]))))))) (.ops [.m 142 4,.m 143 12,.i 144 (.indexAddr 3 (.t 143) (.n 0)),.L 145 3 144,.i 146 (.buildSlice false 82 3 [.t 145]),.i 147 (.append false 82 3 56 (.t 142) (.t 146)),.i 148 (.callS 117 [.t 147]),.m 4 148]))))) (.seq (.ops [.f 150 0 8,.l 151 150,.f 152 0 10,.l 153 152,.i 154 (.bin .neq (.t 151) (.t 153)),.m 155 154,.mk (some 156) (some (155,false)) (.fieldAddr 1 (.t 8)) .no,.mk (some 157) (some (155,false)) (.load false 1 (.t 156)) .no,.mk (some 158) (some (155,false)) (.len false (.t 157)) .no,.mk (some 159) (some (155,false)) (.fieldAddr 1 (.t 10)) .no,.mk (some 160) (some (155,false)) (.load false 1 (.t 159)) .no,.mk (some 161) (some (155,false)) (.len false (.t 160)) .no,.mk (some 162) (some (155,false)) (.bin .neq (.t 158) (.t 161)) .no,.i 163 (.pick (.t 155) (.c (.one (.st (.bool true)))) (.t 162)),.m 149 163]) (.cond (.t 149) (.seq (.ops [.i 2 (.mov (.c (.one (.full [])))),.i 3 (.mov (.n 5))]) .ret) (.seq (.ops [.f 63 1 8,.l 64 63,.i 65 (.len false (.t 64)),.i 66 (.bin .sub (.t 65) (.n 1)),.m 14 66]) (.block 5 (.loop (.seq (.seq (.ops [.m 67 14,.i 68 (.bin .geq (.t 67) (.n 0))]) (.cond (.t 68) .skip (.exit 5))) (.seq (.block 6 (.ops [.m 71 5,.f 72 1 8,.l 73 72,.m 74 14,.i 75 (.indexAddr 2 (.t 73) (.t 74)),.L 76 2 75,.f 77 1 10,.l 78 77,.m 79 14,.i 80 (.indexAddr 2 (.t 78) (.t 79)),.L 81 2 80,.i 82 (.build [.st (.str (ByteArray.mk (#[]))),.full [],.st (.str (ByteArray.mk (#[]))),.full []] [(0,2,.t 76),(2,2,.t 81)]),.i 83 (.buildSlice false 40 4 [.t 82]),.i 84 (.appP 40 4 80 (.t 71) (.t 83)),.m 5 84])) (.ops [.m 69 14,.i 70 (.bin .sub (.t 69) (.n 1)),.m 14 70])))))))))))))))))))))) (.seq (.ops [.m 164 4,.m 2 164,.i 3 (.mov (.n 0))]) .ret))))))
theorem L6:OkF Tryz.prog 86 165 [30000028,30000036,30000042,30000084,40000047,40000054,148] Gj [.t 2,.t 3]:=.of Tryz.func86 rfl rfl (by kernel_rfl) rfl
def G_:IR :=
 (.seq (.ops [.i 2 (.mov (.c (.one (.full [])))),.i 3 (.mov (.n 0))]) (.seq (.seq (.ops [.m 5 0,.i 6 (.call 32 [.t 5]),.m 4 6]) (.seq (.ops [.m 7 4,.i 8 (.bin .neq (.t 7) (.n 0))]) (.cond (.t 8) (.seq (.ops [.m 9 4,.i 2 (.mov (.c (.one (.full [])))),.m 3 9]) .ret) .skip))) (.seq (.ops [.m 10 0,.i 11 (.call 86 [.t 10]),.i 12 (.extract 0 (.t 11)),.i 13 (.extract 1 (.t 11)),.m 2 12,.m 3 13]) .ret)))
theorem MW:OkF Tryz.prog 48 14 [] G_ [.t 2,.t 3]:=.of Tryz.func48 rfl rfl (by kernel_rfl) rfl



theorem YJ (x:ByteArray) (t:Tm):AY Tryz.prog 116 [Bo x,aTm t] (Ad (occ x t)):=by
 induction h:SizeOf.sizeOf t using Nat.strongRecOn generalizing t with
 | _ N ih =>
 subst h
 rw [SD]
 refine Kf.ac fun C hC=>?_
 unfold GI
 refine IWP.learn 1 (by omega) fun hkn=>?_
 have hkn:=Lb hkn
 by_cases hn:t.name=x
 ·repeat' with_reducible first | refine W ?_ | refine Z0 ?_ | ((first | refine Wo fun K hK=>?_ | refine Wp ?_ | refine Wq ?_ | refine Wr ?_);(try simp only [go_sem,fN,seval,eT,iR,hn,dT,dF,nL]);(repeat refine Ai ?_);(try (refine hK _ ?_;clear hK K));try refine iC ?_)
  simp only [go_sem,fN,seval,AR,AS.result,AB,AD,AL]
  rw [Bool.true_or]
 rw [decide_eq_false hn,Bool.false_or]
 repeat' with_reducible first | refine W ?_ | refine Z0 ?_ | ((first | refine Wo fun K hK=>?_ | refine Wp ?_ | refine Wq ?_ | refine Wr ?_);(try simp only [go_sem,fN,seval,eT,iR,hn,dT,dF,nL]);(repeat refine Ai ?_);(try (refine hK _ ?_;clear hK K));try refine iC ?_)
 refine IWP.loopD [6] (fun m s=>∃ k,k≤t.args.length∧m=t.args.length - k∧(t.args.take k).any (occ x)=false∧s.env 0=Bo x∧s.env 12=.one (.st (.list (t.args.map Ao)))∧s.env 13=AN t.args.length∧s.env 14=AN k∧s.S 6=none) t.args.length ⟨0,Nat.zero_le _,rfl,rfl,rfl,rfl,rfl,rfl,rfl⟩ ?_
 rintro m ⟨env,S⟩ ⟨k,hk,rfl,h0,e0,e12,e13,e14,s6⟩
 simp only at e0 e12 e13 e14 s6
 by_cases hlt:(k:Int) < t.args.length
 ·obtain ⟨a,ha⟩:=Aj (show k < t.args.length by omega)
  repeat' with_reducible first | refine W ?_ | refine Z0 ?_ | ((first | refine Wo fun K hK=>?_ | refine Wp ?_ | refine Wq ?_ | refine Wr ?_);(try simp only [go_sem,fN,seval,eT,iR,e0,e12,e13,e14,s6,hlt,ha,dT,dF,nL]);(repeat refine Ai ?_);(try (refine hK _ ?_;clear hK K));try refine iC ?_)
  refine ⟨_,ih _ (Tm.lt_of_arg (AU ha)) a rfl,?_⟩
  cases hc:occ x a with
  | true =>
   repeat' with_reducible first | refine W ?_ | refine Z0 ?_ | ((first | refine Wo fun K hK=>?_ | refine Wp ?_ | refine Wq ?_ | refine Wr ?_);(try simp only [go_sem,fN,seval,eT,iR,hc,dT,dF,nL]);(repeat refine Ai ?_);(try (refine hK _ ?_;clear hK K));try refine iC ?_)
   simp only [go_sem,fN,seval,AR,AS.result,AB,AD,AL]
   have:t.args.any (occ x)=true:=List.any_eq_true.2 ⟨a,AU ha,hc⟩
   rw [this]
  | false =>
   repeat' with_reducible first | refine W ?_ | refine Z0 ?_ | ((first | refine Wo fun K hK=>?_ | refine Wp ?_ | refine Wq ?_ | refine Wr ?_);(try simp only [go_sem,fN,seval,eT,iR,hc,e0,e12,e13,e14,s6,dT,dF,nL]);(repeat refine Ai ?_);(try (refine hK _ ?_;clear hK K));try refine iC ?_)
   refine AH ⟨t.args.length - (k + 1),by omega,k + 1,by omega,rfl,by rw [Au ha,List.any_append,h0];simp [hc],?_⟩
   simp only [go_sem,fN,seval,AS.drop,Ac,AC.clears,AC.clear,AC.highs,AC.high,zD,AV.purge,AV.purges,AC.purge,AK.purge,Nat.reduceBEq,eT,iR,e0,e12,e13,e14,s6]
   congr 3
 ·repeat' with_reducible first | refine W ?_ | refine Z0 ?_ | ((first | refine Wo fun K hK=>?_ | refine Wp ?_ | refine Wq ?_ | refine Wr ?_);(try simp only [go_sem,fN,seval,eT,iR,e0,e12,e13,e14,s6,hlt,dT,dF,nL]);(repeat refine Ai ?_);(try (refine hK _ ?_;clear hK K));try refine iC ?_)
  simp only [go_sem,fN,seval,AR,AS.result,AB,AD,AL]
  rw [List.take_of_length_le (by omega)] at h0
  rw [h0]
def BO:List Pr→Int
 | []=>0
 | p :: l=>if BS p.1 p.2=0 then BO l else BS p.1 p.2
def Bg (l:List Pr):Int:=if 40 < l.length then 3 else BO l
theorem EH:∀ (xs ys:List Pr),BO (xs ++ ys)=if BO xs=0 then BO ys else BO xs
 | [],ys=>by simp [BO]
 | p :: xs,ys=>by
  simp only [List.cons_append,BO]
  by_cases h:BS p.1 p.2=0
  ·simp only [h,if_true,EH]
  ·simp only [h,if_false]
theorem Oq {xs:List Pr} {k:Nat} {p:Pr} (h:xs[k]?=some p) (h0:BO (xs.take k)=0):(BS p.1 p.2=0→BO (xs.take (k + 1))=0)∧(BS p.1 p.2 ≠ 0→BO xs=BS p.1 p.2):=by
 constructor
 ·intro hb
  rw [Au h,EH,if_pos h0]
  simp [BO,hb]
 ·intro hb
  have e:BO xs=BO (xs.take k ++ xs.drop k):=by rw [List.take_append_drop]
  rw [e,EH,if_pos h0,BQ h]
  simp [BO,hb]
theorem Mp {l:List Pr} (h:Bg l=0):l.length≤40∧∀ p ∈ l,p.1.may=0∧p.2.may=0:=by
 unfold Bg at h
 split at h
 ·cases h
 ·refine ⟨by omega,?_⟩
  have key:∀ {l:List Pr},BO l=0→∀ p ∈ l,p.1.may=0∧p.2.may=0:=by
   intro l
   induction l with
   | nil=>simp
   | cons p l ih =>
    intro h q hq
    simp only [BO] at h
    split at h
    ·rename_i h2
     rcases List.mem_cons.1 hq with rfl | hq
     ·unfold BS at h2
      split at h2
      ·exact ⟨by assumption,h2⟩
      ·rename_i h3;exact absurd h2 h3
     ·exact ih h q hq
    ·rename_i h2;exact absurd h h2
  exact key h
theorem JE (l:List Pr):AY Tryz.prog 32 [CI l] (AN (Bg l)):=by
 have hm:Bg l=if 40 < l.length then 3 else BO l:=rfl
 refine ME.ac fun C hC=>?_
 unfold Gv
 by_cases h40:(40:Int) < l.length
 ·repeat' with_reducible first | refine W ?_ | refine Z0 ?_ | ((first | refine Wo fun K hK=>?_ | refine Wp ?_ | refine Wq ?_ | refine Wr ?_);(try simp only [go_sem,fN,seval,eT,iR,h40,dT,dF,nL]);(repeat refine Ai ?_);(try (refine hK _ ?_;clear hK K));try refine iC ?_)
  simp only [go_sem,fN,seval,AR,AS.result,AB,AD,AL]
  rw [hm,if_pos (by omega)]
 rw [if_neg (by omega)] at hm
 repeat' with_reducible first | refine W ?_ | refine Z0 ?_ | ((first | refine Wo fun K hK=>?_ | refine Wp ?_ | refine Wq ?_ | refine Wr ?_);(try simp only [go_sem,fN,seval,eT,iR,h40,dT,dF,nL]);(repeat refine Ai ?_);(try (refine hK _ ?_;clear hK K));try refine iC ?_)
 refine IWP.loopD [4,6] (fun m s=>∃ k,k≤l.length∧m=l.length - k∧BO (l.take k)=0∧s.env 11=CI l∧s.env 12=AN l.length∧s.env 13=AN k∧s.S 4=none∧s.S 6=none) l.length ⟨0,Nat.zero_le _,rfl,rfl,rfl,rfl,rfl,rfl,rfl⟩ ?_
 rintro m ⟨env,S⟩ ⟨k,hk,rfl,h0,e11,e12,e13,s4,s6⟩
 simp only at e11 e12 e13 s4 s6
 by_cases hlt:(k:Int) < l.length
 ·obtain ⟨p,hp⟩:=Aj (show k < l.length by omega)
  obtain ⟨g1,g2⟩:=Oq hp h0
  repeat' with_reducible first | refine W ?_ | refine Z0 ?_ | ((first | refine Wo fun K hK=>?_ | refine Wp ?_ | refine Wq ?_ | refine Wr ?_);(try simp only [go_sem,fN,seval,eT,iR,e11,e12,e13,s4,s6,hlt,hp,As,dT,dF,nL]);(repeat refine Ai ?_);(try (refine hK _ ?_;clear hK K));try refine iC ?_)
  refine IWP.loopD [6] (fun m s=>∃ i,i≤2∧m=2 - i∧(0 < i→p.1.may=0)∧(1 < i→p.2.may=0)∧s.env 11=CI l∧s.env 12=AN l.length∧s.env 13=AN k∧s.env 21=.one (.full [Ao p.1,Ao p.2])∧s.env 22=AN 2∧s.env 23=AN i∧s.S 6=none) 2 ⟨0,by omega,rfl,by simp,by simp,?_⟩ ?_
  ·simp only [go_sem,fN,seval,eT,iR,e11,e12,e13,s4,s6]
  rintro m ⟨env2,S2⟩ ⟨i,hi,rfl,q1,q2,e11,e12,e13,e21,e22,e23,s6⟩
  simp only at e11 e12 e13 e21 e22 e23 s6
  match i,hi,q1,q2,e23 with
  | 0,_,_,_,e23 =>
   repeat' with_reducible first | refine W ?_ | refine Z0 ?_ | ((first | refine Wo fun K hK=>?_ | refine Wp ?_ | refine Wq ?_ | refine Wr ?_);(try simp only [go_sem,fN,seval,eT,iR,e21,e22,e23,s6,dT,dF,nL]);(repeat refine Ai ?_);(try (refine hK _ ?_;clear hK K));try refine iC ?_)
   refine ⟨_,DT p.1,?_⟩
   by_cases hz:p.1.may=0
   ·repeat' with_reducible first | refine W ?_ | refine Z0 ?_ | ((first | refine Wo fun K hK=>?_ | refine Wp ?_ | refine Wq ?_ | refine Wr ?_);(try simp only [go_sem,fN,seval,eT,iR,hz,e11,e12,e13,e21,e22,e23,s6,dT,dF,nL]);(repeat refine Ai ?_);(try (refine hK _ ?_;clear hK K));try refine iC ?_)
    refine AH ⟨1,by omega,1,by omega,rfl,?_⟩
    simp only [go_sem,fN,seval,AS.drop,Ac,AC.clears,AC.clear,AC.highs,AC.high,zD,AV.purge,AV.purges,AC.purge,AK.purge,Nat.reduceBEq,eT,iR,e11,e12,e13,e21,e22,e23,s6]
   ·repeat' with_reducible first | refine W ?_ | refine Z0 ?_ | ((first | refine Wo fun K hK=>?_ | refine Wp ?_ | refine Wq ?_ | refine Wr ?_);(try simp only [go_sem,fN,seval,eT,iR,hz,dT,dF,nL]);(repeat refine Ai ?_);(try (refine hK _ ?_;clear hK K));try refine iC ?_)
    simp only [go_sem,fN,seval,AR,AS.result,AB,AD,AL]
    have ht:BS p.1 p.2=p.1.may:=if_neg hz
    rw [hm,g2 (by rw [ht];exact hz),ht]
  | 1,_,q1,_,e23 =>
   have q1:=q1 (by omega)
   have ht:BS p.1 p.2=p.2.may:=if_pos q1
   repeat' with_reducible first | refine W ?_ | refine Z0 ?_ | ((first | refine Wo fun K hK=>?_ | refine Wp ?_ | refine Wq ?_ | refine Wr ?_);(try simp only [go_sem,fN,seval,eT,iR,e21,e22,e23,s6,dT,dF,nL]);(repeat refine Ai ?_);(try (refine hK _ ?_;clear hK K));try refine iC ?_)
   refine ⟨_,DT p.2,?_⟩
   by_cases hz:p.2.may=0
   ·repeat' with_reducible first | refine W ?_ | refine Z0 ?_ | ((first | refine Wo fun K hK=>?_ | refine Wp ?_ | refine Wq ?_ | refine Wr ?_);(try simp only [go_sem,fN,seval,eT,iR,hz,e11,e12,e13,e21,e22,e23,s6,dT,dF,nL]);(repeat refine Ai ?_);(try (refine hK _ ?_;clear hK K));try refine iC ?_)
    refine AH ⟨0,by omega,2,by omega,rfl,?_⟩
    simp only [go_sem,fN,seval,AS.drop,Ac,AC.clears,AC.clear,AC.highs,AC.high,zD,AV.purge,AV.purges,AC.purge,AK.purge,Nat.reduceBEq,eT,iR,e11,e12,e13,e21,e22,e23,s6]
    exact q1
   ·repeat' with_reducible first | refine W ?_ | refine Z0 ?_ | ((first | refine Wo fun K hK=>?_ | refine Wp ?_ | refine Wq ?_ | refine Wr ?_);(try simp only [go_sem,fN,seval,eT,iR,hz,dT,dF,nL]);(repeat refine Ai ?_);(try (refine hK _ ?_;clear hK K));try refine iC ?_)
    simp only [go_sem,fN,seval,AR,AS.result,AB,AD,AL]
    rw [hm,g2 (by rw [ht];exact hz),ht]
  | 2,_,q1,q2,e23 =>
   have hz:BS p.1 p.2=0:=by unfold BS;rw [if_pos (q1 (by omega))];exact q2 (by omega)
   repeat' with_reducible first | refine W ?_ | refine Z0 ?_ | ((first | refine Wo fun K hK=>?_ | refine Wp ?_ | refine Wq ?_ | refine Wr ?_);(try simp only [go_sem,fN,seval,eT,iR,e11,e12,e13,e21,e22,e23,s6,dT,dF,nL]);(repeat refine Ai ?_);(try (refine hK _ ?_;clear hK K));try refine iC ?_)
   refine AH ⟨l.length - (k + 1),by omega,k + 1,by omega,rfl,g1 hz,?_⟩
   simp only [go_sem,fN,seval,AS.drop,Ac,AC.clears,AC.clear,AC.highs,AC.high,zD,AV.purge,AV.purges,AC.purge,AK.purge,Nat.reduceBEq,eT,iR,e11,e12,e13,s6]
   congr 3
  | i + 3,hi,_,_,_=>omega
 ·repeat' with_reducible first | refine W ?_ | refine Z0 ?_ | ((first | refine Wo fun K hK=>?_ | refine Wp ?_ | refine Wq ?_ | refine Wr ?_);(try simp only [go_sem,fN,seval,eT,iR,e11,e12,e13,hlt,dT,dF,nL]);(repeat refine Ai ?_);(try (refine hK _ ?_;clear hK K));try refine iC ?_)
  simp only [go_sem,fN,seval,AR,AS.result,AB,AD,AL]
  rw [List.take_of_length_le (by omega)] at h0
  rw [hm,h0]

theorem VH {m:Nat} {s:List Bd} {p:Pr} {l:List Pr} {r:List Bd × Int} (h:C3 m s (p :: l) r):(∃ e,CU s p=.err e∧r=([],e)) ∨ ∃ s' ps n,CU s p=.go s' ps∧n < m∧C3 n s' (ps ++ l) r:=by
 cases h with
 | err h=>exact .inl ⟨_,h,rfl⟩
 | go h1 h2=>exact .inr ⟨_,_,_,h1,by omega,h2⟩
structure QE (U:List ByteArray) (s:List Bd) (t:Tm):Prop where
 chk:t.chk=0
 siz:t.size≤2000
 free:Ln s t
 inU:∀ y,occ y t=true→y ∈ U
abbrev Yl (t:Tm):AK:=.box 37 [.st (.str t.name),.st (.list (t.args.map Ao))]
def Pk (U:List ByteArray) (s:List Bd) (p:Pr) (u t:Tm):Prop:=QE U s u∧QE U s t ∧
 ((AP u.name=true∧CU s p=EQ s u.name t) ∨ (AP u.name=false∧CU s p=if u.name=t.name∧u.args.length=t.args.length then .go s (u.args.zip t.args) else .err 5))
theorem YG {U:List ByteArray} {s:List Bd} {p:Pr} (ha:QE U s (p.1.on s)) (hb:QE U s (p.2.on s)) (hne:¬ (AP (p.1.on s).name=true∧(p.1.on s).name=(p.2.on s).name)) (hv:AP (p.1.on s).name=true ∨ AP (p.2.on s).name=false):Pk U s p (p.1.on s) (p.2.on s):=by
 have h0:¬ (2000 < (p.1.on s).size ∨ 2000 < (p.2.on s).size):=by have:=ha.siz;have:=hb.siz;omega
 refine ⟨ha,hb,?_⟩
 cases h1:AP (p.1.on s).name with
 | true =>
  refine .inl ⟨rfl,?_⟩
  unfold CU
  rw [if_neg h0,if_neg hne,if_pos h1]
 | false =>
  have h2:AP (p.2.on s).name=false:=hv.resolve_left (by rw [h1];simp)
  refine .inr ⟨rfl,?_⟩
  unfold CU
  rw [if_neg h0,if_neg hne,if_neg (by rw [h1];simp),if_neg (by rw [h2];simp)]
theorem YK {U:List ByteArray} {s:List Bd} {p:Pr} (ha:QE U s (p.1.on s)) (hb:QE U s (p.2.on s)) (h1:AP (p.1.on s).name=false) (h2:AP (p.2.on s).name=true):Pk U s p (p.2.on s) (p.1.on s):=by
 have h0:¬ (2000 < (p.1.on s).size ∨ 2000 < (p.2.on s).size):=by have:=ha.siz;have:=hb.siz;omega
 refine ⟨hb,ha,.inl ⟨h2,?_⟩⟩
 unfold CU
 rw [if_neg h0,if_neg (by rw [h1];simp),if_neg (by rw [h1];simp),if_pos h2]

end Go.Proofs.YtbhnmjkmieiadaaGreatDoor
