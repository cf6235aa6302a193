/-
  Part 8 of the texts. Conditions: none.
-/
import Derived.Test.YtignopbnnaimaaaGreatDoorTWi7
import Derived.Shelf.Strconv.Atoi
import Derived.Shelf.Strconv.AtoiErr
import Derived.Shelf.Strconv.ErrVar
import Derived.Shelf.Strconv.Itoa3
import Derived.Test.YtignopbnnaimaaaGreatDoorProg
import Derived.Lib.AppendIntMem
import Derived.Lib.ItoaLen
namespace Go.Proofs.YtignopbnnaimaaaGreatDoor
open Go Go.RowKit
set_option linter.unusedVariables false
set_option linter.unusedSimpArgs false
set_option maxHeartbeats 400000
theorem He (i:Int):AW Tryz.prog 73 [Ad i] (aLm (.mk 1 i [])):=by
 refine MO.ac fun C hC=>?_
 unfold H3
 repeat' with_reducible first | refine W ?_ | refine Z0 ?_ | ((first | refine Wo fun K hK=>?_ | refine Wp ?_ | refine Wq ?_ | refine Wr ?_);(try simp only [go_sem,fN,seval,eT,iR,dT,dF,nL]);(repeat refine Ai ?_);(try (refine hK _ ?_;clear hK K));try refine iC ?_)
 simp only [go_sem,fN,seval,AR,AS.result,AB,AE,AQ]
 rfl
theorem HU (i:Int):AW Tryz.prog 28 [Ad i] (aLm (.mk 1 i [])):=by
 refine Sp.ac fun C hC=>?_
 unfold My
 repeat' with_reducible first | refine W ?_ | refine Z0 ?_ | ((first | refine Wo fun K hK=>?_ | refine Wp ?_ | refine Wq ?_ | refine Wr ?_);(try simp only [go_sem,fN,seval,eT,iR,dT,dF,nL]);(repeat refine Ai ?_);(try (refine hK _ ?_;clear hK K));try refine iC ?_)
 simp only [go_sem,fN,seval,AR,AS.result,AB,AE,AQ]
 rfl
theorem L6 (t:Lm) (b d:Int) (hg:t.good 1000000000) (hb:-1≤b∧b≤1000000000) (hd:0≤d) (hz:d + t.size≤1000000000):AW Tryz.prog 54 [aLm t,Ad b,Ad d] (aLm (Lm.mv b d t)):=by
 induction h:SizeOf.sizeOf t using Nat.strongRecOn generalizing t d with
 | _ N ih =>
 subst h
 have hs:=Lm.size_eq t
 have hlen:=Lm.length_le t.subs
 obtain ⟨g1,g2,g3,g4⟩:=(Lm.good_eq _ _).1 hg
 have hu2:Aj t.kind d≤d + 1∧0≤Aj t.kind d:=by unfold Aj;split <;> omega
 rw [Lm.mv_eq]
 have hcase:(t.kind=1∧d≤t.idx) ∨ (t.kind=1∧¬ d≤t.idx) ∨ (¬ t.kind=1∧t.kind=2) ∨ (¬ t.kind=1∧¬ t.kind=2):=by omega
 rcases hcase with ⟨k1,k2⟩ | ⟨k1,k2⟩ | ⟨k1,k2⟩ | ⟨k1,k2⟩
 all_goals
  refine Jd.ac fun C hC=>?_
  unfold Fs
  repeat' with_reducible first | refine W ?_ | refine Z0 ?_ | ((first | refine Wo fun K hK=>?_ | refine Wp ?_ | refine Wq ?_ | refine Wr ?_);(try simp only [go_sem,fN,seval,eT,iR,k1,k2,dT,dF,nL]);(repeat refine Ai ?_);(try (refine hK _ ?_;clear hK K));try refine iC ?_)
  refine IWP.ghost (Am.ownC 7 2 21 25 3 (xs:=([]:List Lm).map Ci) rfl rfl rfl Hm) ?_
  refine IWP.loopD [9] (fun n s=>∃ k,k≤t.subs.length∧n=t.subs.length - k∧s.env 1=Ad b∧s.env 2=Ad (Aj t.kind d)∧s.env 6=.one (.ptr 6 1 0 0)∧s.env 7=.one (.ptr 7 1 0 0)∧s.S 6=some (.box 25 [.st (.int .i64 0),.st (.int .i64 0),.full []])
   ∧ s.S 7=some (.box 25 [.st (.int .i64 t.kind),.st (.int .i64 (if t.kind=1∧d≤t.idx then t.idx + b else t.idx)),.row 21 k])∧s.S 21=some (.arow 25 3 (((t.subs.take k).map (Lm.mv b (Aj t.kind d))).map Ci))∧s.env 33=.one (.st (.list (t.subs.map Ci)))∧s.env 34=Ad t.subs.length∧s.env 35=Ad k∧s.S 9=none) t.subs.length
   ⟨0,Nat.zero_le _,rfl,rfl,by simp only [k1,k2,Aj,Int.reduceEq,↓reduceIte];rfl,rfl,rfl,rfl,by simp only [k1,k2,and_self,and_false,and_true,true_and,false_and,if_true,if_false,not_false_eq_true,Int.reduceEq,↓reduceIte];rfl,rfl,rfl,rfl,rfl,rfl⟩ ?_
  rintro n ⟨env,S⟩ ⟨k,hk',rfl,e1,e2,e6,e7,s6,s7,s21,e33,e34,e35,s9⟩
  simp only at e1 e2 e6 e7 s6 s7 s21 e33 e34 e35 s9
  have hlk:(t.subs.take k).length=k:=by rw [List.length_take];omega
  by_cases hlt:(k:Int) < t.subs.length
  ·obtain ⟨a,ha⟩:=Bk (show k < t.subs.length by omega)
   have z3:=Lm.size_mem (Ae ha)
   repeat' (first | (with_reducible first | refine W ?_ | refine Z0 ?_ | ((first | refine Wo fun K hK=>?_ | refine Wp ?_ | refine Wq ?_ | refine Wr ?_);(try simp only [go_sem,fN,seval,eT,iR,e1,e2,e6,e7,s6,s7,s21,e33,e34,e35,s9,ha,hlt,hlk,dT,dF,nL]);(repeat refine Ai ?_);(try (refine hK _ ?_;clear hK K));try refine iC ?_)) | refine Cg _ (ih _ (Lm.lt_of_sub (Ae ha)) a (Aj t.kind d) (Lm.good_sub hg (Ae ha)) hu2.2 (by omega) rfl) ?_)
   refine Ag ⟨t.subs.length - (k + 1),by omega,k + 1,by omega,rfl,?_⟩
   simp only [go_sem,fN,seval,AS.drop,CN,AC.clears,AC.clear,AC.highs,AC.high,Bool.not_false,Bool.true_and,Bool.and_self,AV.purge,AV.purges,AC.purge,AU.purge,List.contains_cons,List.contains_nil,Nat.reduceBEq,Bool.or_self,Bool.or_false,Bool.false_or,Bool.or_true,eT,iR,e1,e2,e6,e7,s6,s7,s21,e33,e34,e35,s9]
   exact ⟨by rw [B7 ha];simp [Bh],by congr 3⟩
  ·repeat' with_reducible first | refine W ?_ | refine Z0 ?_ | ((first | refine Wo fun K hK=>?_ | refine Wp ?_ | refine Wq ?_ | refine Wr ?_);(try simp only [go_sem,fN,seval,eT,iR,e1,e2,e6,e7,s6,s7,s21,e33,e34,e35,s9,hlt,dT,dF,nL]);(repeat refine Ai ?_);(try (refine hK _ ?_;clear hK K));try refine iC ?_)
   have hall:t.subs.take k=t.subs:=List.take_of_length_le (by omega)
   rw [hall] at s21
   have hkl:k=t.subs.length:=by omega
   simp only [go_sem,fN,seval,AR,AS.result,AB,AE,AQ,e6,s6,s7,s21,hkl]
   simp [k1,k2,Lm.kind_mk,Lm.idx_mk,Lm.subs_mk]
theorem TH (t x:Lm) (d:Int) (hg:t.good 1000000000) (hx:x.good 1000000000) (hxz:x.size≤1000000000) (hd:0≤d) (hz:d + t.size≤1000000000):AW Tryz.prog 90 [aLm t,aLm x,Ad d] (aLm (Lm.put x d t)):=by
 induction h:SizeOf.sizeOf t using Nat.strongRecOn generalizing t d with
 | _ N ih =>
 subst h
 have hs:=Lm.size_eq t
 have hlen:=Lm.length_le t.subs
 obtain ⟨g1,g2,g3,g4⟩:=(Lm.good_eq _ _).1 hg
 have hu2:Aj t.kind d≤d + 1∧0≤Aj t.kind d:=by unfold Aj;split <;> omega
 rw [Lm.put_eq]
 by_cases k1:t.kind=1
 ·have g1:=g1 k1
  by_cases k2:t.idx=d
  ·refine C7.ac fun C hC=>?_
   unfold CV
   repeat' (first | (with_reducible first | refine W ?_ | refine Z0 ?_ | ((first | refine Wo fun K hK=>?_ | refine Wp ?_ | refine Wq ?_ | refine Wr ?_);(try simp only [go_sem,fN,seval,eT,iR,k1,k2,dT,dF,nL]);(repeat refine Ai ?_);(try (refine hK _ ?_;clear hK K));try refine iC ?_)) | refine Cg _ (L6 x d 0 hx (by omega) (by omega) (by omega)) ?_)
   simp only [go_sem,fN,seval,AR,AS.result,AB,AE,AQ]
   try simp [k1,k2]
  ·by_cases k3:d < t.idx
   ·refine C7.ac fun C hC=>?_
    unfold CV
    repeat' (first | (with_reducible first | refine W ?_ | refine Z0 ?_ | ((first | refine Wo fun K hK=>?_ | refine Wp ?_ | refine Wq ?_ | refine Wr ?_);(try simp only [go_sem,fN,seval,eT,iR,k1,k2,k3,dT,dF,nL]);(repeat refine Ai ?_);(try (refine hK _ ?_;clear hK K));try refine iC ?_)) | refine Cg _ (He (t.idx - 1)) ?_)
    simp only [go_sem,fN,seval,AR,AS.result,AB,AE,AQ]
    simp [k1,k2,k3,Lm.kind_mk,Lm.idx_mk,Lm.subs_mk]
   ·refine C7.ac fun C hC=>?_
    unfold CV
    repeat' (first | (with_reducible first | refine W ?_ | refine Z0 ?_ | ((first | refine Wo fun K hK=>?_ | refine Wp ?_ | refine Wq ?_ | refine Wr ?_);(try simp only [go_sem,fN,seval,eT,iR,k1,k2,k3,dT,dF,nL]);(repeat refine Ai ?_);(try (refine hK _ ?_;clear hK K));try refine iC ?_)) | refine Cg _ (He t.idx) ?_)
    simp only [go_sem,fN,seval,AR,AS.result,AB,AE,AQ]
    simp [k1,k2,k3,Lm.kind_mk,Lm.idx_mk,Lm.subs_mk]
 have hcase:t.kind=2 ∨ ¬ t.kind=2:=by omega
 rcases hcase with k2 | k2
 all_goals
  refine C7.ac fun C hC=>?_
  unfold CV
  repeat' with_reducible first | refine W ?_ | refine Z0 ?_ | ((first | refine Wo fun K hK=>?_ | refine Wp ?_ | refine Wq ?_ | refine Wr ?_);(try simp only [go_sem,fN,seval,eT,iR,k1,k2,dT,dF,nL]);(repeat refine Ai ?_);(try (refine hK _ ?_;clear hK K));try refine iC ?_)
  refine IWP.ghost (Am.ownC 7 2 21 25 3 (xs:=([]:List Lm).map Ci) rfl rfl rfl Hm) ?_
  refine IWP.loopD [9] (fun n s=>∃ k,k≤t.subs.length∧n=t.subs.length - k∧s.env 2=Ad (Aj t.kind d)∧s.env 4=.one (.ptr 4 1 0 0)∧s.env 6=.one (.ptr 6 1 0 0)∧s.env 7=.one (.ptr 7 1 0 0)∧s.S 4=some (.box 25 [.st (.int .i64 x.kind),.st (.int .i64 x.idx),.st (.list (x.subs.map Ci))])∧s.S 6=some (.box 25 [.st (.int .i64 0),.st (.int .i64 0),.full []])
   ∧ s.S 7=some (.box 25 [.st (.int .i64 t.kind),.st (.int .i64 t.idx),.row 21 k])∧s.S 21=some (.arow 25 3 (((t.subs.take k).map (Lm.put x (Aj t.kind d))).map Ci))∧s.env 44=.one (.st (.list (t.subs.map Ci)))∧s.env 45=Ad t.subs.length∧s.env 46=Ad k∧s.S 9=none) t.subs.length
   ⟨0,Nat.zero_le _,rfl,by simp only [k1,k2,Aj,Int.reduceEq,↓reduceIte];rfl,rfl,rfl,rfl,rfl,rfl,by first | rfl | (simp only [k1,k2];rfl),rfl,rfl,rfl,rfl,rfl⟩ ?_
  rintro n ⟨env,S⟩ ⟨k,hk',rfl,e2,e4,e6,e7,s4,s6,s7,s21,e44,e45,e46,s9⟩
  simp only at e2 e4 e6 e7 s4 s6 s7 s21 e44 e45 e46 s9
  have hlk:(t.subs.take k).length=k:=by rw [List.length_take];omega
  by_cases hlt:(k:Int) < t.subs.length
  ·obtain ⟨a,ha⟩:=Bk (show k < t.subs.length by omega)
   have z3:=Lm.size_mem (Ae ha)
   repeat' (first | (with_reducible first | refine W ?_ | refine Z0 ?_ | ((first | refine Wo fun K hK=>?_ | refine Wp ?_ | refine Wq ?_ | refine Wr ?_);(try simp only [go_sem,fN,seval,eT,iR,e2,e4,e6,e7,s4,s6,s7,s21,e44,e45,e46,s9,ha,hlt,hlk,dT,dF,nL]);(repeat refine Ai ?_);(try (refine hK _ ?_;clear hK K));try refine iC ?_)) | refine Cg _ (ih _ (Lm.lt_of_sub (Ae ha)) a (Aj t.kind d) (Lm.good_sub hg (Ae ha)) hu2.2 (by omega) rfl) ?_)
   refine Ag ⟨t.subs.length - (k + 1),by omega,k + 1,by omega,rfl,?_⟩
   simp only [go_sem,fN,seval,AS.drop,CN,AC.clears,AC.clear,AC.highs,AC.high,Bool.not_false,Bool.true_and,Bool.and_self,AV.purge,AV.purges,AC.purge,AU.purge,List.contains_cons,List.contains_nil,Nat.reduceBEq,Bool.or_self,Bool.or_false,Bool.false_or,Bool.or_true,eT,iR,e2,e4,e6,e7,s4,s6,s7,s21,e44,e45,e46,s9]
   exact ⟨by rw [B7 ha];simp [Bh],by congr 3⟩
  ·repeat' with_reducible first | refine W ?_ | refine Z0 ?_ | ((first | refine Wo fun K hK=>?_ | refine Wp ?_ | refine Wq ?_ | refine Wr ?_);(try simp only [go_sem,fN,seval,eT,iR,e2,e4,e6,e7,s4,s6,s7,s21,e44,e45,e46,s9,hlt,dT,dF,nL]);(repeat refine Ai ?_);(try (refine hK _ ?_;clear hK K));try refine iC ?_)
   have hall:t.subs.take k=t.subs:=List.take_of_length_le (by omega)
   rw [hall] at s21
   have hkl:k=t.subs.length:=by omega
   simp only [go_sem,fN,seval,AR,AS.result,AB,AE,AQ,e6,s6,s7,s21,hkl]
   simp [k1,k2,Lm.kind_mk,Lm.idx_mk,Lm.subs_mk]
theorem Td (t x:Lm) (hg:t.good 1000000000) (hx:x.good 1000000000) (hxz:x.size≤1000000000) (hz:t.size≤1000000000):AW Tryz.prog 76 [aLm t,aLm x] (aLm (Lm.put x 0 t)):=by
 refine JG.ac fun C hC=>?_
 unfold FP
 repeat' (first | (with_reducible first | refine W ?_ | refine Z0 ?_ | ((first | refine Wo fun K hK=>?_ | refine Wp ?_ | refine Wq ?_ | refine Wr ?_);(try simp only [go_sem,fN,seval,eT,iR,dT,dF,nL]);(repeat refine Ai ?_);(try (refine hK _ ?_;clear hK K));try refine iC ?_)) | refine Cg _ (TH t x 0 hg hx hxz (by decide) (by omega)) ?_)
 simp only [go_sem,fN,seval,AR,AS.result,AB,AE,AQ]

theorem QZ (t:Lm):AW Tryz.prog 13 [aLm t,aLm t] (CH true):=by
 induction h:SizeOf.sizeOf t using Nat.strongRecOn generalizing t with
 | _ N ih =>
 subst h
 refine LE.ac fun C hC=>?_
 unfold HM
 refine IWP.learn 0 (by omega) fun hkn=>?_
 have hkn:=(I4 hkn).2.2
 repeat' with_reducible first | refine W ?_ | refine Z0 ?_ | ((first | refine Wo fun K hK=>?_ | refine Wp ?_ | refine Wq ?_ | refine Wr ?_);(try simp only [go_sem,fN,seval,eT,iR,dT,dF,nL]);(repeat refine Ai ?_);(try (refine hK _ ?_;clear hK K));try refine iC ?_)
 refine IWP.loop (fun n s=>∃ k,k≤t.subs.length∧n=t.subs.length - k∧s.env 2=.one (.ptr 2 1 0 0)∧s.env 3=.one (.ptr 3 1 0 0)∧s.S 2=some (.box 25 [.st (.int .i64 t.kind),.st (.int .i64 t.idx),.st (.list (t.subs.map Ci))])∧s.S 3=some (.box 25 [.st (.int .i64 t.kind),.st (.int .i64 t.idx),.st (.list (t.subs.map Ci))])∧s.env 5=Ad k) t.subs.length ⟨0,Nat.zero_le _,rfl,rfl,rfl,rfl,rfl,rfl⟩ ?_
 rintro n ⟨env,S⟩ ⟨k,hk',rfl,e2,e3,s2,s3,e5⟩
 simp only at e2 e3 s2 s3 e5
 by_cases hlt:(k:Int) < t.subs.length
 ·obtain ⟨a,ha⟩:=Bk (show k < t.subs.length by omega)
  repeat' (first | (with_reducible first | refine W ?_ | refine Z0 ?_ | ((first | refine Wo fun K hK=>?_ | refine Wp ?_ | refine Wq ?_ | refine Wr ?_);(try simp only [go_sem,fN,seval,eT,iR,e2,e3,s2,s3,e5,ha,hlt,dT,dF,nL]);(repeat refine Ai ?_);(try (refine hK _ ?_;clear hK K));try refine iC ?_)) | refine Cg _ (ih _ (Lm.lt_of_sub (Ae ha)) a rfl) ?_)
  refine Ag ⟨t.subs.length - (k + 1),by omega,k + 1,by omega,rfl,?_⟩
  simp only [go_sem,fN,seval,eT,iR,e2,e3,s2,s3,e5]
  congr 3
 ·repeat' with_reducible first | refine W ?_ | refine Z0 ?_ | ((first | refine Wo fun K hK=>?_ | refine Wp ?_ | refine Wq ?_ | refine Wr ?_);(try simp only [go_sem,fN,seval,eT,iR,e2,e3,s2,s3,e5,hlt,dT,dF,nL]);(repeat refine Ai ?_);(try (refine hK _ ?_;clear hK K));try refine iC ?_)
  simp only [go_sem,fN,seval,AR,AS.result,AB,AE,AQ]

set_option maxHeartbeats 1000000
theorem MM (n:Nat) (h:n < 100):AW Tryz.prog 77 [Ad n,Ad 10] (CM (BT n)):=by
 have h0:(0:Int)≤n:=by omega
 have h1:(n:Int) < 100:=by omega
 refine DZ.ac fun C hC=>?_
 unfold CB
 repeat' (first | (with_reducible first | refine W ?_ | refine Z0 ?_ | ((first | refine Wo fun K hK=>?_ | refine Wp ?_ | refine Wq ?_ | refine Wr ?_);(try simp only [go_sem,fN,seval,eT,iR,h0,h1,dT,dF,nL]);(repeat refine Ai ?_);(try (refine hK _ ?_;clear hK K));try refine iC ?_)) | refine Cg _ (Su n h) ?_)
 simp only [go_sem,fN,seval,AR,AS.result,AB,AE,AQ]
theorem Tf (n:Nat) (h:n < 100):AW Tryz.prog 57 [Ad n] (CM (BT n)):=by
 refine EG.ac fun C hC=>?_
 unfold Cd
 repeat' (first | (with_reducible first | refine W ?_ | refine Z0 ?_ | ((first | refine Wo fun K hK=>?_ | refine Wp ?_ | refine Wq ?_ | refine Wr ?_);(try simp only [go_sem,fN,seval,eT,iR,dT,dF,nL]);(repeat refine Ai ?_);(try (refine hK _ ?_;clear hK K));try refine iC ?_)) | refine Cg _ (MM n h) ?_)
 simp only [go_sem,fN,seval,AR,AS.result,AB,AE,AQ]
theorem N8 (n:Nat) (h:n < 100):AW Tryz.prog 33 [Ad n] (CM (BT n)):=by
 refine IF.ac fun C hC=>?_
 unfold E8
 repeat' (first | (with_reducible first | refine W ?_ | refine Z0 ?_ | ((first | refine Wo fun K hK=>?_ | refine Wp ?_ | refine Wq ?_ | refine Wr ?_);(try simp only [go_sem,fN,seval,eT,iR,dT,dF,nL]);(repeat refine Ai ?_);(try (refine hK _ ?_;clear hK K));try refine iC ?_)) | refine Cg _ (Tf n h) ?_)
 simp only [go_sem,fN,seval,AR,AS.result,AB,AE,AQ]
def vS:ByteArray:=⟨#[86]⟩
def cS:ByteArray:=⟨#[99]⟩
def Qo:Tm:=.mk ⟨#[]⟩ []
def GS (d:Int):List (Tm × Int)→Tm × Int
 | []=>(Qo,0)
 | [r]=>if r.2=0 then FG (r.1.br (vS ++ BT d.toNat)) else (Qo,r.2)
 | r :: q :: _=>if r.2=0 then (if q.2=0 then FG (ap2 r.1 q.1) else (Qo,q.2)) else (Qo,r.2)
mutual
def Lm.toC:Int→Lm→Tm × Int
 | d,.mk k i xs=>if k=1 then (BB (vS ++ BT (d - 1 - i).toNat),0) else if k=4 then (BB (cS ++ BT i.toNat),0) else GS d (Lm.toCs (Aj k d) xs)
def Lm.toCs:Int→List Lm→List (Tm × Int)
 | _,[]=>[]
 | d,t :: ts=>Lm.toC d t :: Lm.toCs d ts
end
theorem Lm.toC_eq (d:Int) (t:Lm):Lm.toC d t=if t.kind=1 then (BB (vS ++ BT (d - 1 - t.idx).toNat),0) else if t.kind=4 then (BB (cS ++ BT t.idx.toNat),0) else GS d (Lm.toCs (Aj t.kind d) t.subs):=by
 cases t
 rw [Lm.toC]
 rfl
theorem Oq {t:Tm} (hf:t.fm=true) (h:(FG t).2=0):(FG t).1.fm=true∧(FG t).1.size≤2000:=by
 unfold FG at h ⊢
 split at h
 ·cases h
 ·rename_i hz
  rw [if_neg hz]
  exact ⟨hf,Nat.le_of_not_lt hz⟩
theorem Lm.toC_ok:∀ (N:Nat) (d:Int) (t:Lm),SizeOf.sizeOf t < N→(Lm.toC d t).2=0→(Lm.toC d t).1.fm=true∧(Lm.toC d t).1.size≤2000:=by
 intro N
 induction N with
 | zero=>intro d t h;omega
 | succ N ih =>
  intro d t hN h
  have leaf:∀ n:ByteArray,(BB n).fm=true∧(BB n).size≤2000:=fun n=>⟨DO n,by rw [D8];omega⟩
  rw [Lm.toC_eq] at h ⊢
  split at h
  ·rename_i h1
   rw [if_pos h1]
   exact leaf _
  ·rename_i h1
   rw [if_neg h1]
   split at h
   ·rename_i h4
    rw [if_pos h4]
    exact leaf _
   ·rename_i h4
    rw [if_neg h4]
    match hx:t.subs,h with
    | [],_=>exact leaf _
    | [s],h =>
     have hs:SizeOf.sizeOf s < SizeOf.sizeOf t:=Lm.lt_of_sub (by rw [hx];simp)
     simp only [Lm.toCs,GS] at h ⊢
     split at h
     ·rename_i hr
      rw [if_pos hr]
      obtain ⟨a1,a2⟩:=ih _ s (by omega) hr
      exact Oq (Tm.br_all _ _ _ (Nat.lt_succ_self _) a1).1 h
     ·rename_i hr
      exact absurd h hr
    | s :: u :: r,h =>
     have hs:SizeOf.sizeOf s < SizeOf.sizeOf t:=Lm.lt_of_sub (by rw [hx];simp)
     have hu:SizeOf.sizeOf u < SizeOf.sizeOf t:=Lm.lt_of_sub (by rw [hx];simp)
     simp only [Lm.toCs,GS] at h ⊢
     split at h
     ·rename_i hr
      rw [if_pos hr]
      split at h
      ·rename_i hq
       rw [if_pos hq]
       exact Oq (Hq (ih _ s (by omega) hr).1 (ih _ u (by omega) hq).1) h
      ·rename_i hq
       exact absurd h hq
     ·rename_i hr
      exact absurd h hr
theorem PN (n:Nat):(BT n).size≤2:=by
 unfold BT
 split
 ·exact Nat.le_succ 1
 ·rw [ByteArray.size_append]
  exact Nat.le_refl 2
theorem T1 (n:Nat):(#[86]:Array UInt8).size + (BT n).size≤maxLen:=by
 have h1:=PN n
 have h2:(#[86]:Array UInt8).size=1:=rfl
 rw [CK,h2]
 omega
theorem Uk (n:Nat):(#[99]:Array UInt8).size + (BT n).size≤maxLen:=by
 have h1:=PN n
 have h2:(#[99]:Array UInt8).size=1:=rfl
 rw [CK,h2]
 omega
theorem Ub {s:Lm} {u:Int} (h:Lm.chks 0 [s] u=0):s.chk 0 u=0:=by
 simp only [Lm.chks] at h
 split at h
 ·assumption
 ·exact h
theorem Uq {s r:Lm} {u:Int} (h:Lm.chks 0 [s,r] u=0):s.chk 0 u=0∧r.chk 0 u=0:=by
 simp only [Lm.chks] at h
 split at h
 ·rename_i h1
  split at h
  ·exact ⟨h1,by assumption⟩
  ·exact ⟨h1,h⟩
 ·rename_i h1
  exact absurd h h1
theorem UV (t:Lm) (d:Int) (hd:0≤d) (hz:d + t.size≤90) (hc:t.chk 0 d=0):AW Tryz.prog 16 [aLm t,Ad d] (.tup [aTm (Lm.toC d t).1,Ad (Lm.toC d t).2]):=by
 induction h:SizeOf.sizeOf t using Nat.strongRecOn generalizing t d with
 | _ N ih =>
 subst h
 have hs:=Lm.size_eq t
 have hw:=Lm.wf_chk t d hc
 rw [Lm.chk_eq] at hc
 split at hc
 case isFalse=>omega
 case isTrue hk =>
 split at hc
 case isFalse=>omega
 case isTrue hi =>
 obtain ⟨i1,i2⟩:=hi
 have hk5:=MH ⟨hk.1,hk.2.1⟩
 rcases hk5 with k1 | k1 | k1 | k1 | k1
 ·-- bound
  have hi2:t.idx < d:=by simpa [A3,k1] using i2
  obtain ⟨n,hn⟩:∃ n:Nat,d - 1 - t.idx=n:=⟨(d - 1 - t.idx).toNat,by omega⟩
  rw [Lm.toC_eq,if_pos k1,hn,Int.toNat_natCast]
  refine CD.ac fun C hC=>?_
  unfold Br
  have hv:=T1 n
  repeat' (first | (with_reducible first | refine W ?_ | refine Z0 ?_ | ((first | refine Wo fun K hK=>?_ | refine Wp ?_ | refine Wq ?_ | refine Wr ?_);(try simp only [go_sem,fN,seval,eT,iR,k1,hn,hv,dT,dF,nL]);(repeat refine Ai ?_);(try (refine hK _ ?_;clear hK K));try refine iC ?_)) | refine Cg _ (N8 n (by omega)) ?_ | refine Cg _ (Fv (vS ++ BT n)) ?_)
  simp only [go_sem,fN,seval,AR,AS.result,AB,AE,AQ]
 ·-- lambda
  obtain ⟨s,ha⟩:=Lm.subs1 hw k1
  have hsm:s ∈ t.subs:=by rw [ha];simp
  have ss:=Lm.size_sub hsm
  have hu:Aj t.kind d=d + 1:=by simp [Aj,k1]
  rw [ha,hu] at hc
  have hc':=Ub hc
  have ihs:=ih _ (Lm.lt_of_sub hsm) s (d + 1) (by omega) (by omega) hc' rfl
  have hok:=Lm.toC_ok _ (d + 1) s (Nat.lt_succ_self _)
  rw [Lm.toC_eq,if_neg (by omega),if_neg (by omega),hu,ha,Lm.toCs,Lm.toCs]
  generalize Lm.toC (d + 1) s=R at *
  obtain ⟨x,e⟩:=R
  simp only [GS] at ihs hok ⊢
  obtain ⟨n,rfl⟩:∃ n:Nat,d=n:=⟨d.toNat,by omega⟩
  rw [Int.toNat_natCast]
  by_cases he:e=0
  ·obtain ⟨f1,f2⟩:=hok he
   rw [if_pos he]
   have hv:=T1 n
   have hb:=(Tm.br_all _ (vS ++ BT n) x (Nat.lt_succ_self _) f1).2
   refine CD.ac fun C hC=>?_
   unfold Br
   repeat' (first | (with_reducible first | refine W ?_ | refine Z0 ?_ | ((first | refine Wo fun K hK=>?_ | refine Wp ?_ | refine Wq ?_ | refine Wr ?_);(try simp only [go_sem,fN,seval,eT,iR,k1,ha,he,hv,dT,dF,nL]);(repeat refine Ai ?_);(try (refine hK _ ?_;clear hK K));try refine iC ?_)) | refine Cg _ (ihs) ?_ | refine Cg _ (N8 n (by omega)) ?_ | refine Cg _ (QY (vS ++ BT n) x f1 (by omega)) ?_ | refine Cg _ (Tv _ (by omega)) ?_)
   simp only [go_sem,fN,seval,AR,AS.result,AB,AE,AQ]
  ·rw [if_neg he]
   refine CD.ac fun C hC=>?_
   unfold Br
   repeat' (first | (with_reducible first | refine W ?_ | refine Z0 ?_ | ((first | refine Wo fun K hK=>?_ | refine Wp ?_ | refine Wq ?_ | refine Wr ?_);(try simp only [go_sem,fN,seval,eT,iR,k1,ha,he,dT,dF,nL]);(repeat refine Ai ?_);(try (refine hK _ ?_;clear hK K));try refine iC ?_)) | refine Cg _ (ihs) ?_)
   simp only [go_sem,fN,seval,AR,AS.result,AB,AE,AQ]
   rfl
 ·-- one put to another
  obtain ⟨s,r,ha⟩:=Lm.subs2 hw k1
  have hsm:s ∈ t.subs:=by rw [ha];simp
  have hrm:r ∈ t.subs:=by rw [ha];simp
  have ss:=Lm.size_sub hsm
  have sr:=Lm.size_sub hrm
  have hu:Aj t.kind d=d:=by simp [Aj,k1]
  rw [ha,hu] at hc
  obtain ⟨hc1,hc2⟩:=Uq hc
  have ihs:=ih _ (Lm.lt_of_sub hsm) s d (by omega) (by omega) hc1 rfl
  have ihr:=ih _ (Lm.lt_of_sub hrm) r d (by omega) (by omega) hc2 rfl
  have hok:=Lm.toC_ok _ d s (Nat.lt_succ_self _)
  have hok2:=Lm.toC_ok _ d r (Nat.lt_succ_self _)
  rw [Lm.toC_eq,if_neg (by omega),if_neg (by omega),hu,ha,Lm.toCs,Lm.toCs,Lm.toCs]
  generalize Lm.toC d s=R at *
  generalize Lm.toC d r=R2 at *
  obtain ⟨x,e⟩:=R
  obtain ⟨x2,e2⟩:=R2
  simp only [GS] at ihs ihr hok hok2 ⊢
  by_cases he:e=0
  ·obtain ⟨f1,f2⟩:=hok he
   rw [if_pos he]
   by_cases he2:e2=0
   ·obtain ⟨g1,g2⟩:=hok2 he2
    rw [if_pos he2]
    have hsz:=HQ x x2
    refine CD.ac fun C hC=>?_
    unfold Br
    repeat' (first | (with_reducible first | refine W ?_ | refine Z0 ?_ | ((first | refine Wo fun K hK=>?_ | refine Wp ?_ | refine Wq ?_ | refine Wr ?_);(try simp only [go_sem,fN,seval,eT,iR,k1,ha,he,he2,dT,dF,nL]);(repeat refine Ai ?_);(try (refine hK _ ?_;clear hK K));try refine iC ?_)) | refine Cg _ (ihs) ?_ | refine Cg _ (ihr) ?_ | refine Cg _ (Kg x x2) ?_ | refine Cg _ (Tv (ap2 x x2) (by omega)) ?_)
    simp only [go_sem,fN,seval,AR,AS.result,AB,AE,AQ]
   ·rw [if_neg he2]
    refine CD.ac fun C hC=>?_
    unfold Br
    repeat' (first | (with_reducible first | refine W ?_ | refine Z0 ?_ | ((first | refine Wo fun K hK=>?_ | refine Wp ?_ | refine Wq ?_ | refine Wr ?_);(try simp only [go_sem,fN,seval,eT,iR,k1,ha,he,he2,dT,dF,nL]);(repeat refine Ai ?_);(try (refine hK _ ?_;clear hK K));try refine iC ?_)) | refine Cg _ (ihs) ?_ | refine Cg _ (ihr) ?_)
    simp only [go_sem,fN,seval,AR,AS.result,AB,AE,AQ]
    rfl
  ·rw [if_neg he]
   refine CD.ac fun C hC=>?_
   unfold Br
   repeat' (first | (with_reducible first | refine W ?_ | refine Z0 ?_ | ((first | refine Wo fun K hK=>?_ | refine Wp ?_ | refine Wq ?_ | refine Wr ?_);(try simp only [go_sem,fN,seval,eT,iR,k1,ha,he,dT,dF,nL]);(repeat refine Ai ?_);(try (refine hK _ ?_;clear hK K));try refine iC ?_)) | refine Cg _ (ihs) ?_)
   simp only [go_sem,fN,seval,AR,AS.result,AB,AE,AQ]
   rfl
 ·-- constant
  have hi2:t.idx < 40:=by simpa [A3,k1] using i2
  obtain ⟨n,hn⟩:∃ n:Nat,t.idx=n:=⟨t.idx.toNat,by omega⟩
  rw [Lm.toC_eq,if_neg (by omega),if_pos k1,hn,Int.toNat_natCast]
  have hv:=Uk n
  refine CD.ac fun C hC=>?_
  unfold Br
  repeat' (first | (with_reducible first | refine W ?_ | refine Z0 ?_ | ((first | refine Wo fun K hK=>?_ | refine Wp ?_ | refine Wq ?_ | refine Wr ?_);(try simp only [go_sem,fN,seval,eT,iR,k1,hn,hv,dT,dF,nL]);(repeat refine Ai ?_);(try (refine hK _ ?_;clear hK K));try refine iC ?_)) | refine Cg _ (N8 n (by omega)) ?_ | refine Cg _ (Fv (cS ++ BT n)) ?_)
  simp only [go_sem,fN,seval,AR,AS.result,AB,AE,AQ]
 ·-- unknown: none may be
  have hi2:t.idx < 0:=by simpa [A3,k1] using i2
  omega
def NW (t:Lm):Tm × Int:=if t.may 0 0=0 then Lm.toC 0 t else (Qo,t.may 0 0)
theorem T9 (t:Lm) (hz:t.may 0 0=0→t.size≤80):AW Tryz.prog 6 [aLm t] (.tup [aTm (NW t).1,Ad (NW t).2]):=by
 refine Lb.ac fun C hC=>?_
 unfold HJ
 unfold NW
 by_cases h:t.may 0 0=0
 ·obtain ⟨_,_,_,a4⟩:=Lm.may_ok h
  have hz:=hz h
  rw [if_pos h]
  repeat' (first | (with_reducible first | refine W ?_ | refine Z0 ?_ | ((first | refine Wo fun K hK=>?_ | refine Wp ?_ | refine Wq ?_ | refine Wr ?_);(try simp only [go_sem,fN,seval,eT,iR,h,dT,dF,nL]);(repeat refine Ai ?_);(try (refine hK _ ?_;clear hK K));try refine iC ?_)) | refine Cg _ (DX t 0) ?_ | refine Cg _ (UV t 0 (by decide) (by omega) a4) ?_)
  simp only [go_sem,fN,seval,AR,AS.result,AB,AE,AQ]
 ·rw [if_neg h]
  repeat' (first | (with_reducible first | refine W ?_ | refine Z0 ?_ | ((first | refine Wo fun K hK=>?_ | refine Wp ?_ | refine Wq ?_ | refine Wr ?_);(try simp only [go_sem,fN,seval,eT,iR,h,dT,dF,nL]);(repeat refine Ai ?_);(try (refine hK _ ?_;clear hK K));try refine iC ?_)) | refine Cg _ (DX t 0) ?_)
  simp only [go_sem,fN,seval,AR,AS.result,AB,AE,AQ]
  rfl

abbrev iA:La:=.l (.v 0)
abbrev kA:La:=.l (.l (.v 1))
abbrev sA:La:=.l (.l (.l (.a (.a (.v 2) (.v 0)) (.a (.v 1) (.v 0)))))
abbrev vN (j:Nat):ByteArray:=vS ++ BT j
def C1 (d:Nat) (n:ByteArray):La:=if n=iS then iA else if n=kS then kA else if n=sS then sA else match (List.range d).find? (fun j=>decide (n=vN j)) with
 | some j=>.v (d - 1 - j)
 | none=>.c 4 (BJ n)
def RK (z:La):List La→La
 | f :: x :: _=>.a f x
 | _=>z
mutual
def Tm.itp (d:Nat):Tm→La
 | .mk n xs=>RK (C1 d n) (Tm.itps d xs)
def Tm.itps (d:Nat):List Tm→List La
 | []=>[]
 | t :: ts=>t.itp d :: Tm.itps d ts
end
theorem Dv {d:Nat} {t:Tm} (h:t.args=[]):t.itp d=C1 d t.name:=by
 cases t
 rw [Tm.args_mk] at h
 subst h
 rw [Tm.itp,Tm.itps,RK]
 ·rfl
 ·intros;simp_all
theorem Ho {d:Nat} {t f x:Tm} (h:t.args=[f,x]):t.itp d=.a (f.itp d) (x.itp d):=by
 cases t
 rw [Tm.args_mk] at h
 subst h
 rw [Tm.itp,Tm.itps,Tm.itps,RK]
theorem Mf:∀ a < 100,∀ b < 100,BT a=BT b→a=b:=by decide +kernel
theorem IW (j:Nat):(vN j).data.toList=86 :: (BT j).data.toList:=by
 unfold vN
 rw [ByteArray.data_append]
 simp [vS]
theorem T6 {a b:Nat} (ha:a < 100) (hb:b < 100) (h:vN a=vN b):a=b:=by
 have h1:=IW a
 rw [h,IW b] at h1
 simp only [List.cons.injEq,true_and] at h1
 exact Mf a ha b hb (LF h1.symm)
theorem N5 {j:Nat}:vN j ≠ iS∧vN j ≠ kS∧vN j ≠ sS∧vN j ≠ apS:=by
 refine ⟨fun h=>?_,fun h=>?_,fun h=>?_,fun h=>?_⟩ <;>
 ·have h1:=IW j
  rw [h] at h1
  revert h1
  simp [iS,kS,sS,apS]
theorem Ts (j:Nat):(cS ++ BT j).data.toList=99 :: (BT j).data.toList:=by
 rw [ByteArray.data_append]
 simp [cS]
theorem O0 {d j:Nat} (hj:j < d) (hd:d≤100):C1 d (vN j)=.v (d - 1 - j):=by
 obtain ⟨n1,n2,n3,n4⟩:=@N5 j
 unfold C1
 rw [if_neg n1,if_neg n2,if_neg n3]
 cases hf:(List.range d).find? (fun i=>decide (vN j=vN i)) with
 | none =>
  have:=List.find?_eq_none.1 hf j (List.mem_range.2 hj)
  simp at this
 | some i =>
  have h1:=List.find?_some hf
  have h2:=List.mem_of_find?_eq_some hf
  simp only [decide_eq_true_eq] at h1
  rw [List.mem_range] at h2
  rw [T6 (by omega) (by omega) h1]
theorem PF {d i:Nat} (hi:i < 40):C1 d (cS ++ BT i)=.c 4 i:=by
 have hl:=Ts i
 have n1:cS ++ BT i ≠ iS:=fun h=>by rw [h] at hl;revert hl;simp [iS]
 have n2:cS ++ BT i ≠ kS:=fun h=>by rw [h] at hl;revert hl;simp [kS]
 have n3:cS ++ BT i ≠ sS:=fun h=>by rw [h] at hl;revert hl;simp [sS]
 unfold C1
 rw [if_neg n1,if_neg n2,if_neg n3]
 cases hf:(List.range d).find? (fun j=>decide (cS ++ BT i=vN j)) with
 | some j =>
  have h1:=List.find?_some hf
  simp only [decide_eq_true_eq] at h1
  have h2:=IW j
  rw [← h1,hl] at h2
  simp at h2
 | none =>
  have hc:BJ (cS ++ BT i)=i:=by
   unfold BJ
   cases hf:(List.range 40).find? (fun k=>decide (cS ++ BT i=cNm ++ BT k)) with
   | none =>
    have:=List.find?_eq_none.1 hf i (List.mem_range.2 hi)
    simp [cS,cNm] at this
   | some k =>
    have h1:=List.find?_some hf
    have h2:=List.mem_of_find?_eq_some hf
    simp only [decide_eq_true_eq] at h1
    rw [List.mem_range] at h2
    have h3:BT i=BT k:=by rw [← EU i,← EU k];exact congrArg Bf h1
    rw [Ms i hi k h2 h3]
  rw [hc]
theorem Qw {d:Nat} {n:ByteArray} (h:n ≠ vN d):C1 (d + 1) n=(C1 d n).ren Nat.succ:=by
 unfold C1
 split
 ·rfl
 split
 ·rfl
 split
 ·rfl
 have e:(List.range (d + 1)).find? (fun j=>decide (n=vN j))=(List.range d).find? (fun j=>decide (n=vN j)):=by
  rw [List.range_succ,List.find?_append]
  cases (List.range d).find? (fun j=>decide (n=vN j)) with
  | some j=>rfl
  | none=>simp [h]
 rw [e]
 cases hf:(List.range d).find? (fun j=>decide (n=vN j)) with
 | none=>rfl
 | some j =>
  have h2:=List.mem_of_find?_eq_some hf
  rw [List.mem_range] at h2
  show La.v (d + 1 - 1 - j)=La.v (d - 1 - j + 1)
  congr 1
  omega
theorem Lv {d:Nat}:∀ (N:Nat) (t:Tm),SizeOf.sizeOf t < N→t.fm=true→t.hasN (vN d)=false→t.itp (d + 1)=(t.itp d).ren Nat.succ
 | 0,t,h,_,_=>absurd h (Nat.not_lt_zero _)
 | N + 1,t,hN,hf,hh=>by
  rw [Tm.hasN_eq,Bool.or_eq_false_iff] at hh
  rcases Tm.fm_cases hf with h0 | ⟨f,x,_,ha,hf1,hx1⟩
  ·rw [Dv h0,Dv h0]
   exact Qw (by simpa using hh.1)
  ·rw [Ho ha,Ho ha]
   have h2:=hh.2
   rw [ha,Tm.hasNs,Tm.hasNs,Tm.hasNs,Bool.or_false,Bool.or_eq_false_iff] at h2
   rw [Lv N f (by have:=Tm.lt_of_arg (a:=f) (t:=t) (by rw [ha];simp);omega) hf1 h2.1,Lv N x (by have:=Tm.lt_of_arg (a:=x) (t:=t) (by rw [ha];simp);omega) hx1 h2.2]
   rfl
theorem Nb {d:Nat} (hd:d < 100) {t:Tm} (hf:t.fm=true) (hn:t.name=vN d):t.itp (d + 1)=.v 0:=by
 have h0:t.args=[]:=by
  rcases Tm.fm_cases hf with h0 | ⟨f,x,hap,_⟩
  ·exact h0
  ·exact absurd (hn.symm.trans hap) N5.2.2.2
 rw [Dv h0,hn,O0 (by omega) (by omega)]
 congr 1
 omega
theorem UK (x:La):B9 (.a kA x) (.l (x.ren Nat.succ)):=F2 _ _
theorem Tq (t:La):(t.ren (upr Nat.succ)).sub (Dw (.v 0))=t:=by
 rw [La.ren_sub]
 have h:(fun n=>Dw (.v 0) (upr Nat.succ n))=La.v:=by
  funext n;cases n <;> rfl
 rw [h,La.sub_v]
theorem Ox {F f:La} (h:B9 F (.l f)):B9 (.a (F.ren Nat.succ) (.v 0)) f:=by
 have h1:=(h.ren Nat.succ).a (B9.refl (.v 0))
 refine h1.trans ?_
 have h2:=F2 (f.ren (upr Nat.succ)) (.v 0)
 rw [Tq] at h2
 exact h2
theorem T4 (F X:La):B9 (.a (.a sA F) X) (.l (.a (.a (F.ren Nat.succ) (.v 0)) (.a (X.ren Nat.succ) (.v 0)))):=by
 have h1:B9 (.a (.a sA F) X) (.a (.l (.l (.a (.a ((F.ren Nat.succ).ren Nat.succ) (.v 0)) (.a (.v 1) (.v 0))))) X):=(F2 _ F).a (B9.refl X)
 refine h1.trans ?_
 have h2:=F2 (.l (.a (.a ((F.ren Nat.succ).ren Nat.succ) (.v 0)) (.a (.v 1) (.v 0)))) X
 have e:((F.ren Nat.succ).ren Nat.succ).sub (ups (Dw X))=F.ren Nat.succ:=by
  rw [La.ren_sub,La.ren_sub,La.ren_is]
  congr 1
 rw [La.sub,La.sub,La.sub,e] at h2
 exact h2
theorem L2 {d:Nat} (hd:d < 100):∀ (N:Nat) (t:Tm),SizeOf.sizeOf t < N→t.fm=true→B9 ((t.br (vN d)).itp d) (.l (t.itp (d + 1)))
 | 0,t,h,_=>absurd h (Nat.not_lt_zero _)
 | N + 1,t,hN,hf=>by
  have hap2:∀ (f x:Tm),(ap2 f x).itp d=.a (f.itp d) (x.itp d):=fun f x=>Ho rfl
  have hleaf:∀ n:ByteArray,(BB n).itp d=C1 d n:=fun n=>Dv rfl
  have hkI:C1 d kS=kA:=by
   unfold C1
   rw [if_neg (by decide),if_pos rfl]
  have hsI:C1 d sS=sA:=by
   unfold C1
   rw [if_neg (by decide),if_neg (by decide),if_pos rfl]
  by_cases h:t.hasN (vN d)=true
  ·by_cases hn:t.name=vN d
   ·rw [Tm.br_self h hn,hleaf,Nb hd hf hn]
    unfold C1
    rw [if_pos rfl]
    exact B9.refl _
   ·rcases Tm.fm_cases hf with h0 | ⟨f,x,_,ha,hf1,hx1⟩
    ·exact absurd h0 (JO h hn)
    ·rw [Tm.br_ap h hn ha,Ho ha]
     have l1:=Tm.lt_of_arg (a:=f) (t:=t) (by rw [ha];simp)
     have l2:=Tm.lt_of_arg (a:=x) (t:=t) (by rw [ha];simp)
     by_cases hc:x.name=vN d∧f.hasN (vN d)=false
     ·rw [if_pos hc,Nb hd hx1 hc.1,Lv N f (by omega) hf1 hc.2]
      exact (SP _).symm
     ·rw [if_neg hc,hap2,hap2,hleaf,hsI]
      refine (T4 _ _).trans (B9.l (B9.a ?_ ?_))
      ·exact Ox (L2 hd N f (by omega) hf1)
      ·exact Ox (L2 hd N x (by omega) hx1)
  ·have h':t.hasN (vN d)=false:=by simpa using h
   rw [Tm.br_none h',hap2,hleaf,hkI,Lv (N + 1) t hN hf h']
   exact UK _
theorem F8:∀ (N:Nat) (t:Lm) (d:Nat),SizeOf.sizeOf t < N→d + t.size≤100→t.chk 0 d=0→∃ t0:La,t=t0.enc∧((Lm.toC d t).2=0→(Lm.toC d t).1.fm=true∧B9 ((Lm.toC d t).1.itp d) t0)
 | 0,t,d,h,_,_=>absurd h (Nat.not_lt_zero _)
 | N + 1,.mk k i xs,d,hN,hz,h=>by
  rw [Lm.chk] at h
  rw [Lm.size] at hz
  by_cases h1:1≤k∧k≤5∧(xs.length:Int)=DU k
  case neg =>
   rw [if_neg h1] at h
   exact absurd h (by decide)
  rw [if_pos h1] at h
  by_cases h2:0≤i∧i < A3 k d 0
  case neg =>
   rw [if_neg h2] at h
   exact absurd h (by decide)
  rw [if_pos h2] at h
  obtain ⟨p1,p2,p3⟩:=h1
  have hk:k=1 ∨ k=2 ∨ k=3 ∨ k=4 ∨ k=5:=by omega
  rcases hk with rfl | rfl | rfl | rfl | rfl
  ·have hx:xs=[]:=List.length_eq_zero_iff.1 (by unfold DU at p3;simp at p3;simpa using p3)
   subst hx
   have hi:i < d:=by unfold A3 at h2;simpa using h2.2
   refine ⟨.v i.toNat,by rw [La.enc];congr 1;omega,fun _=>?_⟩
   rw [Lm.toC,if_pos rfl]
   refine ⟨DO _,?_⟩
   obtain ⟨m,rfl⟩:∃ m:Nat,i=m:=⟨i.toNat,by omega⟩
   have e:((d:Int) - 1 - (m:Int)).toNat=d - 1 - m:=by omega
   rw [e]
   show B9 ((BB (vN (d - 1 - m))).itp d) _
   rw [Dv rfl]
   show B9 (C1 d (vN (d - 1 - m))) _
   rw [O0 (by omega) (by omega),show d - 1 - (d - 1 - m)=m by omega]
   exact B9.refl _
  ·obtain ⟨b,rfl⟩:=LN (show (xs.length:Int)=1 by rw [p3];rfl)
   have hi:i=0:=by unfold A3 at h2;simp at h2;omega
   subst hi
   rw [Lm.chks] at h
   have hb:b.chk 0 (Aj 2 d)=0:=by
    split at h
    ·assumption
    ·rename_i hne;exact absurd h hne
   rw [EF] at hb
   simp only [Lm.sizes] at hz
   obtain ⟨b0,rfl,hb1⟩:=F8 N b (d + 1) (by have:=Lm.lt_of_mem (a:=b) (k:=2) (i:=0) (xs:=[b]) (by simp);omega) (by omega) hb
   refine ⟨.l b0,rfl,fun he=>?_⟩
   rw [Lm.toC,if_neg (by decide),if_neg (by decide),Lm.toCs,Lm.toCs,EF,GS] at he ⊢
   split at he
   case isFalse=>rename_i hne;exact absurd he hne
   rename_i h0
   rw [if_pos h0]
   obtain ⟨q1,q2⟩:=hb1 h0
   have hdn:(d:Int).toNat=d:=by omega
   rw [hdn] at he ⊢
   generalize hc:(Lm.toC ((d + 1:Nat):Int) b0.enc).1=c at *
   have hfit:(FG (c.br (vS ++ BT d))).1=c.br (vS ++ BT d):=by
    unfold FG at he ⊢
    split at he
    ·cases he
    ·rename_i hz2;rw [if_neg hz2]
   rw [hfit]
   have hall:=Tm.br_all _ (vN d) c (Nat.lt_succ_self _) q1
   refine ⟨hall.1,?_⟩
   exact (L2 (by omega) _ c (Nat.lt_succ_self _) q1).trans q2.l
  ·obtain ⟨f,x,rfl⟩:=L9 (show (xs.length:Int)=2 by rw [p3];rfl)
   have hi:i=0:=by unfold A3 at h2;simp at h2;omega
   subst hi
   rw [Lm.chks,Lm.chks] at h
   have hf:f.chk 0 (Aj 3 d)=0∧x.chk 0 (Aj 3 d)=0:=by
    split at h
    ·rename_i hf
     refine ⟨hf,?_⟩
     split at h
     ·assumption
     ·rename_i hne;exact absurd h hne
    ·rename_i hne;exact absurd h hne
   rw [EK] at hf
   simp only [Lm.sizes] at hz
   obtain ⟨f0,rfl,hf1⟩:=F8 N f d (by have:=Lm.lt_of_mem (a:=f) (k:=3) (i:=0) (xs:=[f,x]) (by simp);omega) (by omega) hf.1
   obtain ⟨x0,rfl,hx1⟩:=F8 N x d (by have:=Lm.lt_of_mem (a:=x) (k:=3) (i:=0) (xs:=[f0.enc,x]) (by simp);omega) (by omega) hf.2
   refine ⟨.a f0 x0,rfl,fun he=>?_⟩
   rw [Lm.toC,if_neg (by decide),if_neg (by decide),Lm.toCs,Lm.toCs,Lm.toCs,EK,GS] at he ⊢
   split at he
   case isFalse=>rename_i hne;exact absurd he hne
   rename_i h0
   rw [if_pos h0]
   split at he
   case isFalse=>rename_i hne;exact absurd he hne
   rename_i h0'
   rw [if_pos h0']
   obtain ⟨q1,q2⟩:=hf1 h0
   obtain ⟨r1,r2⟩:=hx1 h0'
   have hfit:(FG (ap2 (Lm.toC d f0.enc).1 (Lm.toC d x0.enc).1)).1=ap2 (Lm.toC d f0.enc).1 (Lm.toC d x0.enc).1:=by
    unfold FG at he ⊢
    split at he
    ·cases he
    ·rename_i hz2;rw [if_neg hz2]
   rw [hfit]
   refine ⟨Hq q1 r1,?_⟩
   rw [Ho rfl]
   exact q2.a r2
  ·have hx:xs=[]:=List.length_eq_zero_iff.1 (by unfold DU at p3;simp at p3;simpa using p3)
   subst hx
   have hi:i < 40:=by unfold A3 at h2;simpa using h2.2
   refine ⟨.c 4 i,rfl,fun _=>?_⟩
   rw [Lm.toC,if_neg (by decide),if_pos rfl]
   refine ⟨DO _,?_⟩
   obtain ⟨m,rfl⟩:∃ m:Nat,i=m:=⟨i.toNat,by omega⟩
   rw [Dv rfl]
   show B9 (C1 d (cS ++ BT m)) _
   rw [PF (by omega)]
   exact B9.refl _
  ·exfalso
   unfold A3 at h2
   simp at h2
   omega
theorem OZ:∀ (N:Nat) (t:Tm),SizeOf.sizeOf t < N→t.fm=true→t.toL.2=0→t.toL.1=(t.itp 0).enc
 | 0,t,h,_,_=>absurd h (Nat.not_lt_zero _)
 | N + 1,t,hN,hf,he=>by
  rcases Tm.fm_cases hf with h0 | ⟨f,x,_,ha,hf1,hx1⟩
  ·rw [Tm.toL_leaf h0] at he ⊢
   rw [Dv h0]
   unfold Dg at he ⊢
   unfold C1
   split at he
   ·rename_i e;rw [if_pos e,if_pos e];rfl
   rename_i n1
   rw [if_neg n1,if_neg n1]
   split at he
   ·rename_i e;rw [if_pos e,if_pos e];rfl
   rename_i n2
   rw [if_neg n2,if_neg n2]
   split at he
   ·rename_i e;rw [if_pos e,if_pos e];rfl
   rename_i n3
   rw [if_neg n3,if_neg n3]
   split at he
   ·cases he
   rename_i n4
   rw [if_neg n4]
   split at he
   ·cases he
   rename_i n5
   rw [if_neg n5]
   rfl
  ·rw [Tm.toL_ap ha] at he ⊢
   split at he
   case isFalse=>rename_i hne;exact absurd he hne
   rename_i h0
   rw [if_pos h0,Ho ha,La.enc]
   rw [OZ N f (by have:=Tm.lt_of_arg (a:=f) (t:=t) (by rw [ha];simp);omega) hf1 h0,OZ N x (by have:=Tm.lt_of_arg (a:=x) (t:=t) (by rw [ha];simp);omega) hx1 he]
   rfl

open Go.Proofs Go.Shelf
def Tryz.lays172_ren:Go.Shelf.Ren:=⟨fun | 172=>46 | 244=>74 | 245=>75 | 247=>85 | 279=>86 | 280=>87 | 281=>88 | 282=>89 | 287=>98 | 316=>99 | 171=>33 | 205=>100 | 321=>107 | 322=>108 | 243=>57 | 246=>77 | 283=>91 | 284=>92 | 285=>93 | 286=>94 | 129=>102 | 317=>101 | 318=>103 | 319=>104 | 320=>105 | 337=>109 | 338=>110 | n=>n,fun | 9=>9 | 3=>3 | 75=>79 | 76=>80 | 4=>4 | 5=>5 | 167=>113 | 37=>95 | 0=>0 | 85=>114 | 2=>2 | 168=>116 | 53=>121 | 175=>128 | 46=>130 | 210=>133 | 127=>112 | 145=>147 | 143=>145 | 21=>21 | 171=>120 | 173=>124 | 212=>137 | 51=>138 | 20=>20 | 213=>139 | 232=>149 | 233=>150 | 80=>91 | n=>n,fun | 15=>1 | 16=>2 | 17=>3 | 18=>4 | 19=>5 | n=>n⟩
theorem Tryz.lays172:Go.Proofs.Lays.n172 Tryz.prog Tryz.lays172_ren:={
 mixed:=by kernel_rfl
 f129:=Tryz.func102.trans (congrArg some (by kernel_rfl))
 f171:=Tryz.func33.trans (congrArg some (by kernel_rfl))
 f172:=Tryz.func46.trans (congrArg some (by kernel_rfl))
 f205:=Tryz.func100.trans (congrArg some (by kernel_rfl))
 f243:=Tryz.func57.trans (congrArg some (by kernel_rfl))
 f244:=Tryz.func74.trans (congrArg some (by kernel_rfl))
 f245:=Tryz.func75.trans (congrArg some (by kernel_rfl))
 f246:=Tryz.func77.trans (congrArg some (by kernel_rfl))
 f247:=Tryz.func85.trans (congrArg some (by kernel_rfl))
 f279:=Tryz.func86.trans (congrArg some (by kernel_rfl))
 f280:=Tryz.func87.trans (congrArg some (by kernel_rfl))
 f281:=Tryz.func88.trans (congrArg some (by kernel_rfl))
 f282:=Tryz.func89.trans (congrArg some (by kernel_rfl))
 f283:=Tryz.func91.trans (congrArg some (by kernel_rfl))
 f284:=Tryz.func92.trans (congrArg some (by kernel_rfl))
 f285:=Tryz.func93.trans (congrArg some (by kernel_rfl))
 f286:=Tryz.func94.trans (congrArg some (by kernel_rfl))
 f287:=Tryz.func98.trans (congrArg some (by kernel_rfl))
 f316:=Tryz.func99.trans (congrArg some (by kernel_rfl))
 f317:=Tryz.func101.trans (congrArg some (by kernel_rfl))
 f318:=Tryz.func103.trans (congrArg some (by kernel_rfl))
 f319:=Tryz.func104.trans (congrArg some (by kernel_rfl))
 f320:=Tryz.func105.trans (congrArg some (by kernel_rfl))
 f321:=Tryz.func107.trans (congrArg some (by kernel_rfl))
 f322:=Tryz.func108.trans (congrArg some (by kernel_rfl))
 f337:=Tryz.func109.trans (congrArg some (by kernel_rfl))
 f338:=Tryz.func110.trans (congrArg some (by kernel_rfl))
 t0:=Tryz.underlying0
 a0:=Tryz.isAgg0
 z0:=Tryz.sizeOf0
 v0:=Tryz.zeroValue0
 t2:=Tryz.underlying2
 a2:=Tryz.isAgg2
 z2:=Tryz.sizeOf2
 v2:=Tryz.zeroValue2
 t3:=Tryz.underlying3
 a3:=Tryz.isAgg3
 z3:=Tryz.sizeOf3
 v3:=Tryz.zeroValue3
 t4:=Tryz.underlying4
 a4:=Tryz.isAgg4
 z4:=Tryz.sizeOf4
 v4:=Tryz.zeroValue4
 t5:=Tryz.underlying5
 a5:=Tryz.isAgg5
 z5:=Tryz.sizeOf5
 v5:=Tryz.zeroValue5
 t9:=Tryz.underlying9
 a9:=Tryz.isAgg9
 z9:=Tryz.sizeOf9
 v9:=Tryz.zeroValue9
 t20:=Tryz.underlying20
 a20:=Tryz.isAgg20
 z20:=Tryz.sizeOf20
 v20:=Tryz.zeroValue20
 t21:=Tryz.underlying21
 a21:=Tryz.isAgg21
 z21:=Tryz.sizeOf21
 v21:=Tryz.zeroValue21
 t37:=Tryz.underlying95
 a37:=Tryz.isAgg95
 z37:=Tryz.sizeOf95
 v37:=Tryz.zeroValue95
 t46:=Tryz.underlying130
 a46:=Tryz.isAgg130
 z46:=Tryz.sizeOf130
 v46:=Tryz.zeroValue130
 t51:=Tryz.underlying138
 a51:=Tryz.isAgg138
 z51:=Tryz.sizeOf138
 v51:=Tryz.zeroValue138
 t53:=Tryz.underlying121
 a53:=Tryz.isAgg121
 z53:=Tryz.sizeOf121
 v53:=Tryz.zeroValue121
 t75:=Tryz.underlying79
 a75:=Tryz.isAgg79
 z75:=Tryz.sizeOf79
 v75:=Tryz.zeroValue79
 t76:=Tryz.underlying80
 a76:=Tryz.isAgg80
 z76:=Tryz.sizeOf80
 v76:=Tryz.zeroValue80
 t85:=Tryz.underlying114
 a85:=Tryz.isAgg114
 z85:=Tryz.sizeOf114
 v85:=Tryz.zeroValue114
 t127:=Tryz.underlying112
 a127:=Tryz.isAgg112
 z127:=Tryz.sizeOf112
 v127:=Tryz.zeroValue112
 t143:=Tryz.underlying145
 a143:=Tryz.isAgg145
 z143:=Tryz.sizeOf145
 v143:=Tryz.zeroValue145
 t145:=Tryz.underlying147
 a145:=Tryz.isAgg147
 z145:=Tryz.sizeOf147
 v145:=Tryz.zeroValue147
 t167:=Tryz.underlying113
 a167:=Tryz.isAgg113
 z167:=Tryz.sizeOf113
 v167:=Tryz.zeroValue113
 t168:=Tryz.underlying116
 a168:=Tryz.isAgg116
 z168:=Tryz.sizeOf116
 v168:=Tryz.zeroValue116
 t171:=Tryz.underlying120
 a171:=Tryz.isAgg120
 z171:=Tryz.sizeOf120
 v171:=Tryz.zeroValue120
 t173:=Tryz.underlying124
 a173:=Tryz.isAgg124
 z173:=Tryz.sizeOf124
 v173:=Tryz.zeroValue124
 t175:=Tryz.underlying128
 a175:=Tryz.isAgg128
 z175:=Tryz.sizeOf128
 v175:=Tryz.zeroValue128
 t210:=Tryz.underlying133
 a210:=Tryz.isAgg133
 z210:=Tryz.sizeOf133
 v210:=Tryz.zeroValue133
 t212:=Tryz.underlying137
 a212:=Tryz.isAgg137
 z212:=Tryz.sizeOf137
 v212:=Tryz.zeroValue137
 t213:=Tryz.underlying139
 a213:=Tryz.isAgg139
 z213:=Tryz.sizeOf139
 t232:=Tryz.underlying149
 a232:=Tryz.isAgg149
 z232:=Tryz.sizeOf149
 v232:=Tryz.zeroValue149
 t233:=Tryz.underlying150
 a233:=Tryz.isAgg150
 z233:=Tryz.sizeOf150
 v233:=Tryz.zeroValue150
 g15:=by kernel_rfl
 g16:=by kernel_rfl
 g17:=by kernel_rfl
 g18:=by kernel_rfl
 g19:=by kernel_rfl }
def Tryz.laysC172_ren:Go.Shelf.Ren:=⟨fun | 172=>46 | 244=>74 | 245=>75 | 247=>85 | 279=>86 | 280=>87 | 281=>88 | 282=>89 | 287=>98 | 316=>99 | 171=>33 | 205=>100 | 321=>107 | 322=>108 | 243=>57 | 246=>77 | 283=>91 | 284=>92 | 285=>93 | 286=>94 | 129=>102 | 317=>101 | 318=>103 | 319=>104 | 320=>105 | 337=>109 | 338=>110 | n=>n,fun | 9=>9 | 3=>3 | 75=>79 | 76=>80 | 4=>4 | 5=>5 | 167=>113 | 37=>95 | 0=>0 | 85=>114 | 2=>2 | 168=>116 | 53=>121 | 175=>128 | 46=>130 | 210=>133 | 127=>112 | 145=>147 | 143=>145 | 21=>21 | 171=>120 | 173=>124 | 212=>137 | 51=>138 | 20=>20 | 213=>139 | 232=>149 | 233=>150 | 80=>91 | n=>n,fun | 15=>1 | 16=>2 | 17=>3 | 18=>4 | 19=>5 | n=>n⟩
theorem Tryz.laysC172:Go.Proofs.LaysC.n172 Tryz.prog Tryz.laysC172_ren:={
 mixed:=by kernel_rfl
 f129:=Tryz.func102.trans (congrArg some (by kernel_rfl))
 f171:=Tryz.func33.trans (congrArg some (by kernel_rfl))
 f172:=Tryz.func46.trans (congrArg some (by kernel_rfl))
 f205:=Tryz.func100.trans (congrArg some (by kernel_rfl))
 f243:=Tryz.func57.trans (congrArg some (by kernel_rfl))
 f244:=Tryz.func74.trans (congrArg some (by kernel_rfl))
 f245:=Tryz.func75.trans (congrArg some (by kernel_rfl))
 f246:=Tryz.func77.trans (congrArg some (by kernel_rfl))
 f247:=Tryz.func85.trans (congrArg some (by kernel_rfl))
 f279:=Tryz.func86.trans (congrArg some (by kernel_rfl))
 f280:=Tryz.func87.trans (congrArg some (by kernel_rfl))
 f281:=Tryz.func88.trans (congrArg some (by kernel_rfl))
 f282:=Tryz.func89.trans (congrArg some (by kernel_rfl))
 f283:=Tryz.func91.trans (congrArg some (by kernel_rfl))
 f284:=Tryz.func92.trans (congrArg some (by kernel_rfl))
 f285:=Tryz.func93.trans (congrArg some (by kernel_rfl))
 f286:=Tryz.func94.trans (congrArg some (by kernel_rfl))
 f287:=Tryz.func98.trans (congrArg some (by kernel_rfl))
 f316:=Tryz.func99.trans (congrArg some (by kernel_rfl))
 f317:=Tryz.func101.trans (congrArg some (by kernel_rfl))
 f318:=Tryz.func103.trans (congrArg some (by kernel_rfl))
 f319:=Tryz.func104.trans (congrArg some (by kernel_rfl))
 f320:=Tryz.func105.trans (congrArg some (by kernel_rfl))
 f321:=Tryz.func107.trans (congrArg some (by kernel_rfl))
 f322:=Tryz.func108.trans (congrArg some (by kernel_rfl))
 f337:=Tryz.func109.trans (congrArg some (by kernel_rfl))
 f338:=Tryz.func110.trans (congrArg some (by kernel_rfl))
 t0:=Tryz.underlying0
 a0:=Tryz.isAgg0
 z0:=Tryz.sizeOf0
 v0:=Tryz.zeroValue0
 t2:=Tryz.underlying2
 a2:=Tryz.isAgg2
 z2:=Tryz.sizeOf2
 v2:=Tryz.zeroValue2
 t3:=Tryz.underlying3
 a3:=Tryz.isAgg3
 z3:=Tryz.sizeOf3
 v3:=Tryz.zeroValue3
 t4:=Tryz.underlying4
 a4:=Tryz.isAgg4
 z4:=Tryz.sizeOf4
 v4:=Tryz.zeroValue4
 t5:=Tryz.underlying5
 a5:=Tryz.isAgg5
 z5:=Tryz.sizeOf5
 v5:=Tryz.zeroValue5
 t9:=Tryz.underlying9
 a9:=Tryz.isAgg9
 z9:=Tryz.sizeOf9
 v9:=Tryz.zeroValue9
 t20:=Tryz.underlying20
 a20:=Tryz.isAgg20
 z20:=Tryz.sizeOf20
 v20:=Tryz.zeroValue20
 t21:=Tryz.underlying21
 a21:=Tryz.isAgg21
 z21:=Tryz.sizeOf21
 v21:=Tryz.zeroValue21
 t37:=Tryz.underlying95
 a37:=Tryz.isAgg95
 z37:=Tryz.sizeOf95
 v37:=Tryz.zeroValue95
 t46:=Tryz.underlying130
 a46:=Tryz.isAgg130
 z46:=Tryz.sizeOf130
 v46:=Tryz.zeroValue130
 t51:=Tryz.underlying138
 a51:=Tryz.isAgg138
 z51:=Tryz.sizeOf138
 v51:=Tryz.zeroValue138
 t53:=Tryz.underlying121
 a53:=Tryz.isAgg121
 z53:=Tryz.sizeOf121
 v53:=Tryz.zeroValue121
 t75:=Tryz.underlying79
 a75:=Tryz.isAgg79
 z75:=Tryz.sizeOf79
 v75:=Tryz.zeroValue79
 t76:=Tryz.underlying80
 a76:=Tryz.isAgg80
 z76:=Tryz.sizeOf80
 v76:=Tryz.zeroValue80
 t85:=Tryz.underlying114
 a85:=Tryz.isAgg114
 z85:=Tryz.sizeOf114
 v85:=Tryz.zeroValue114
 t127:=Tryz.underlying112
 a127:=Tryz.isAgg112
 z127:=Tryz.sizeOf112
 v127:=Tryz.zeroValue112
 t143:=Tryz.underlying145
 a143:=Tryz.isAgg145
 z143:=Tryz.sizeOf145
 v143:=Tryz.zeroValue145
 t145:=Tryz.underlying147
 a145:=Tryz.isAgg147
 z145:=Tryz.sizeOf147
 v145:=Tryz.zeroValue147
 t167:=Tryz.underlying113
 a167:=Tryz.isAgg113
 z167:=Tryz.sizeOf113
 v167:=Tryz.zeroValue113
 t168:=Tryz.underlying116
 a168:=Tryz.isAgg116
 z168:=Tryz.sizeOf116
 v168:=Tryz.zeroValue116
 t171:=Tryz.underlying120
 a171:=Tryz.isAgg120
 z171:=Tryz.sizeOf120
 v171:=Tryz.zeroValue120
 t173:=Tryz.underlying124
 a173:=Tryz.isAgg124
 z173:=Tryz.sizeOf124
 v173:=Tryz.zeroValue124
 t175:=Tryz.underlying128
 a175:=Tryz.isAgg128
 z175:=Tryz.sizeOf128
 v175:=Tryz.zeroValue128
 t210:=Tryz.underlying133
 a210:=Tryz.isAgg133
 z210:=Tryz.sizeOf133
 v210:=Tryz.zeroValue133
 t212:=Tryz.underlying137
 a212:=Tryz.isAgg137
 z212:=Tryz.sizeOf137
 v212:=Tryz.zeroValue137
 t213:=Tryz.underlying139
 a213:=Tryz.isAgg139
 z213:=Tryz.sizeOf139
 t232:=Tryz.underlying149
 a232:=Tryz.isAgg149
 z232:=Tryz.sizeOf149
 v232:=Tryz.zeroValue149
 t233:=Tryz.underlying150
 a233:=Tryz.isAgg150
 z233:=Tryz.sizeOf150
 v233:=Tryz.zeroValue150
 g15:=by kernel_rfl
 g16:=by kernel_rfl
 g17:=by kernel_rfl
 g18:=by kernel_rfl
 g19:=by kernel_rfl
 t80:=Tryz.underlying91
 a80:=Tryz.isAgg91
 z80:=Tryz.sizeOf91
 v80:=Tryz.zeroValue91
 i0:=by kernel_rfl
 i2:=by kernel_rfl
 i3:=by kernel_rfl
 i4:=by kernel_rfl
 i5:=by kernel_rfl
 i9:=by kernel_rfl
 i20:=by kernel_rfl
 i21:=by kernel_rfl
 i37:=by kernel_rfl
 i46:=by kernel_rfl
 i51:=by kernel_rfl
 i53:=by kernel_rfl
 i75:=by kernel_rfl
 i76:=by kernel_rfl
 i80:=by kernel_rfl
 i85:=by kernel_rfl
 i127:=by kernel_rfl
 i143:=by kernel_rfl
 i145:=by kernel_rfl
 i167:=by kernel_rfl
 i168:=by kernel_rfl
 i171:=by kernel_rfl
 i173:=by kernel_rfl
 i175:=by kernel_rfl
 i210:=by kernel_rfl
 i212:=by kernel_rfl
 i232:=by kernel_rfl
 i233:=by kernel_rfl
 m15:=by kernel_rfl
 m16:=by kernel_rfl
 m17:=by kernel_rfl
 m18:=by kernel_rfl
 m19:=by kernel_rfl
 c0:=by kernel_rfl
 c2:=by kernel_rfl
 c3:=by kernel_rfl
 c4:=by kernel_rfl
 c5:=by kernel_rfl
 c9:=by kernel_rfl
 c20:=by kernel_rfl
 c21:=by kernel_rfl
 c37:=by kernel_rfl
 c46:=by kernel_rfl
 c51:=by kernel_rfl
 c53:=by kernel_rfl
 c75:=by kernel_rfl
 c76:=by kernel_rfl
 c80:=by kernel_rfl
 c85:=by kernel_rfl
 c127:=by kernel_rfl
 c143:=by kernel_rfl
 c145:=by kernel_rfl
 c167:=by kernel_rfl
 c168:=by kernel_rfl
 c171:=by kernel_rfl
 c173:=by kernel_rfl
 c175:=by kernel_rfl
 c210:=by kernel_rfl
 c212:=by kernel_rfl
 c213:=by kernel_rfl
 c232:=by kernel_rfl
 c233:=by kernel_rfl }
def Tryz.laysM171_ren:Go.Shelf.Ren:=⟨fun | 171=>33 | 243=>57 | 246=>77 | 283=>91 | 284=>92 | 285=>93 | 286=>94 | 129=>102 | 317=>101 | 318=>103 | 319=>104 | 320=>105 | 337=>109 | 338=>110 | n=>n,fun | 3=>3 | 9=>9 | 2=>2 | 4=>4 | 171=>120 | 0=>0 | 53=>121 | 37=>95 | 5=>5 | 173=>124 | 212=>137 | 51=>138 | 20=>20 | 213=>139 | 46=>130 | 232=>149 | 233=>150 | n=>n,fun | 17=>3 | 18=>4 | 19=>5 | n=>n⟩
theorem Tryz.laysM171:Go.Proofs.LaysM.n171 Tryz.prog Tryz.laysM171_ren:={
 mixed:=by kernel_rfl
 f129:=Tryz.func102.trans (congrArg some (by kernel_rfl))
 f171:=Tryz.func33.trans (congrArg some (by kernel_rfl))
 f243:=Tryz.func57.trans (congrArg some (by kernel_rfl))
 f246:=Tryz.func77.trans (congrArg some (by kernel_rfl))
 f283:=Tryz.func91.trans (congrArg some (by kernel_rfl))
 f284:=Tryz.func92.trans (congrArg some (by kernel_rfl))
 f285:=Tryz.func93.trans (congrArg some (by kernel_rfl))
 f286:=Tryz.func94.trans (congrArg some (by kernel_rfl))
 f317:=Tryz.func101.trans (congrArg some (by kernel_rfl))
 f318:=Tryz.func103.trans (congrArg some (by kernel_rfl))
 f319:=Tryz.func104.trans (congrArg some (by kernel_rfl))
 f320:=Tryz.func105.trans (congrArg some (by kernel_rfl))
 f337:=Tryz.func109.trans (congrArg some (by kernel_rfl))
 f338:=Tryz.func110.trans (congrArg some (by kernel_rfl))
 t0:=Tryz.underlying0
 a0:=Tryz.isAgg0
 z0:=Tryz.sizeOf0
 v0:=Tryz.zeroValue0
 t2:=Tryz.underlying2
 a2:=Tryz.isAgg2
 z2:=Tryz.sizeOf2
 v2:=Tryz.zeroValue2
 t3:=Tryz.underlying3
 a3:=Tryz.isAgg3
 z3:=Tryz.sizeOf3
 v3:=Tryz.zeroValue3
 t4:=Tryz.underlying4
 a4:=Tryz.isAgg4
 z4:=Tryz.sizeOf4
 v4:=Tryz.zeroValue4
 t5:=Tryz.underlying5
 a5:=Tryz.isAgg5
 z5:=Tryz.sizeOf5
 v5:=Tryz.zeroValue5
 t9:=Tryz.underlying9
 a9:=Tryz.isAgg9
 z9:=Tryz.sizeOf9
 v9:=Tryz.zeroValue9
 t20:=Tryz.underlying20
 a20:=Tryz.isAgg20
 z20:=Tryz.sizeOf20
 v20:=Tryz.zeroValue20
 t37:=Tryz.underlying95
 a37:=Tryz.isAgg95
 z37:=Tryz.sizeOf95
 v37:=Tryz.zeroValue95
 t46:=Tryz.underlying130
 a46:=Tryz.isAgg130
 z46:=Tryz.sizeOf130
 v46:=Tryz.zeroValue130
 t51:=Tryz.underlying138
 a51:=Tryz.isAgg138
 z51:=Tryz.sizeOf138
 v51:=Tryz.zeroValue138
 t53:=Tryz.underlying121
 a53:=Tryz.isAgg121
 z53:=Tryz.sizeOf121
 v53:=Tryz.zeroValue121
 t171:=Tryz.underlying120
 a171:=Tryz.isAgg120
 z171:=Tryz.sizeOf120
 v171:=Tryz.zeroValue120
 t173:=Tryz.underlying124
 a173:=Tryz.isAgg124
 z173:=Tryz.sizeOf124
 v173:=Tryz.zeroValue124
 t212:=Tryz.underlying137
 a212:=Tryz.isAgg137
 z212:=Tryz.sizeOf137
 v212:=Tryz.zeroValue137
 t213:=Tryz.underlying139
 a213:=Tryz.isAgg139
 z213:=Tryz.sizeOf139
 t232:=Tryz.underlying149
 a232:=Tryz.isAgg149
 z232:=Tryz.sizeOf149
 v232:=Tryz.zeroValue149
 t233:=Tryz.underlying150
 a233:=Tryz.isAgg150
 z233:=Tryz.sizeOf150
 v233:=Tryz.zeroValue150
 g17:=by kernel_rfl
 g18:=by kernel_rfl
 g19:=by kernel_rfl
 i0:=by kernel_rfl
 i2:=by kernel_rfl
 i3:=by kernel_rfl
 i4:=by kernel_rfl
 i5:=by kernel_rfl
 i9:=by kernel_rfl
 i20:=by kernel_rfl
 i37:=by kernel_rfl
 i46:=by kernel_rfl
 i51:=by kernel_rfl
 i53:=by kernel_rfl
 i171:=by kernel_rfl
 i173:=by kernel_rfl
 i212:=by kernel_rfl
 i232:=by kernel_rfl
 i233:=by kernel_rfl
 m17:=by kernel_rfl
 m18:=by kernel_rfl
 m19:=by kernel_rfl }


def S8:AV:=.one (.st .err)
def MU:AV:=.one (.st (.lit .nilIface))
theorem Ud {σ:Sto} {a b:Value} {x y:AV} (ha:AN σ noS noH a x) (hb:AN σ noS noH b y):AN σ noS noH (.tuple #[a,b]) (.tup [x,y]) :=
 .tup (fun j=>if j=0 then a else b) rfl (fun j u hj=>by
  match j,hj with
  | 0,_=>rfl
  | 1,_=>rfl
  | j + 2,hj=>simp at hj) (fun j u hj=>by
  match j,hj with
  | 0,hj=>cases hj;exact ha
  | 1,hj=>cases hj;exact hb
  | j + 2,hj=>simp at hj)
theorem L5 {σ:Sto} {vs:List Value} {x:AV} (h:Af (AN σ noS noH) vs [x]):∃ v,vs=[v]∧AN σ noS noH v x:=by
 cases h with
 | cons h1 h2 =>
  cases h2
  exact ⟨_,rfl,h1⟩
theorem Rk (s:ByteArray) (n:Int) (hz:s.size≤18) (h:Lib.atoi s.data.toList=some n):AW Tryz.prog 46 [CM s] (.tup [Ad n,MU]):=by
 intro σ w vs hG hF hv
 obtain ⟨v,rfl,h1⟩:=L5 hv
 obtain ⟨rfl,_⟩:=Ds h1
 refine (Any.strconv_Atoi Tryz.lays172 s n hz h w).mono fun e w' ⟨he,t,hw⟩=>?_
 have hb:Below w.heap.size w w':=by
  rw [hw]
  exact Lib.bytesWorld_below _ _ _
 have hr:=ON hz h
 exact ⟨_,σ,he,Ud (.one (.st (.int (by rw [CO];exact hr)))) (.one (.st (.lit rfl))),hF.below hb,Ext.refl _ _,hb⟩
theorem O2 (s:ByteArray) (hz:s.size≤18) (h:Lib.atoi s.data.toList=none):AW Tryz.prog 46 [CM s] (.tup [Ad 0,S8]):=by
 intro σ w vs hG hF hv
 obtain ⟨v,rfl,h1⟩:=L5 hv
 obtain ⟨rfl,_⟩:=Ds h1
 obtain ⟨ev,h2,h3⟩:=hG.cell hF (g:=1) (a:=.err) (by kernel_rfl)
 obtain ⟨te,pe,rfl⟩:∃ te pe,ev=.iface te pe:=by
  cases h3
  exact ⟨_,_,rfl⟩
 refine (Any.strconv_Atoi_err Tryz.laysC172 s hz h _ w h2 (Or.inr ⟨te,pe,rfl⟩)).mono fun e w' ⟨N,he,_,_,hb⟩=>?_
 exact ⟨_,σ,he,Ud (.one (.st (.int (by rw [CO];omega)))) (.one (.st .err)),hF.below hb,Ext.refl _ _,hb⟩
theorem Hj (n:Int):AW Tryz.prog 33 [Ad n] (CM ⟨(Lib.itoa n).toArray⟩):=by
 intro σ w vs hG hF hv
 obtain ⟨v,rfl,h1⟩:=L5 hv
 obtain ⟨rfl,hn⟩:=A7 h1
 rw [CO] at hn
 have ht : Lib.TabIs Tryz.prog w "internal/strconv.uint64pow10" .u64 Lib.pow10Tab := hG.ints hF (g := 3) (by kernel_rfl) (by kernel_rfl)
 refine (Any.strconv_Itoa Tryz.laysM171 n hn.1 hn.2 w ht).mono fun e w' ⟨he,k,os,hw⟩=>?_
 have hb:Below w.heap.size w w':=by
  rw [hw]
  exact Lib.below_grow _ _ (Nat.le_refl _) _ _
 refine ⟨_,σ,he,.one (.st (.str ?_)),hF.below hb,Ext.refl _ _,hb⟩
 have hl:=Lib.itoa_length_le n hn.1 hn.2
 have hs:(⟨(Lib.itoa n).toArray⟩:ByteArray).size=(Lib.itoa n).length:=by simp [ByteArray.size]
 rw [hs,CK]
 omega

set_option maxRecDepth 100000
def H7:IR :=
 (.seq (.ops [.i 2 (.alloc 25 [.st (.int .i64 0),.st (.int .i64 0),.full []])]) (.seq (.ops [.m 3 0,.i 4 (.build [.st (.int .i64 0),.st (.int .i64 0),.full []] [(0,1,.n 4),(1,1,.t 3)]),.s 3 2 4]) .ret))
theorem M9:OkF Tryz.prog 47 5 [] H7 [.cell 2 true 3]:=.of Tryz.func47 rfl rfl (by kernel_rfl) rfl
def Ce:IR :=
 (.seq (.ops [.i 2 (.alloc 25 [.st (.int .i64 0),.st (.int .i64 0),.full []]),.i 3 (.mov (.c (.one (.st (.bool false)))))]) (.seq (.ops [.i 4 (.mov (.c (.one (.fn 73 [])))),.i 5 (.mov (.c (.one (.fn 67 [])))),.i 6 (.mov (.c (.one (.fn 48 []))))]) (.seq (.seq (.ops [.m 7 0]) (.block 0 (.seq (.ops [.i 9 (.bin .eql (.t 7) (.c (.one (.st (.str (ByteArray.mk (#[105]))))))),.m 8 9]) (.cond (.t 8) (.seq (.ops [.m 10 5,.m 11 4,.i 12 (.callV (.t 11) [.n 0]),.i 13 (.callV (.t 10) [.t 12]),.s 3 2 13,.i 3 (.mov (.c (.one (.st (.bool true)))))]) .ret) (.seq (.ops [.i 15 (.bin .eql (.t 7) (.c (.one (.st (.str (ByteArray.mk (#[107]))))))),.m 14 15]) (.cond (.t 14) (.seq (.ops [.m 16 5,.m 17 5,.m 18 4,.i 19 (.callV (.t 18) [.n 1]),.i 20 (.callV (.t 17) [.t 19]),.i 21 (.callV (.t 16) [.t 20]),.s 3 2 21,.i 3 (.mov (.c (.one (.st (.bool true)))))]) .ret) (.seq (.ops [.i 23 (.bin .eql (.t 7) (.c (.one (.st (.str (ByteArray.mk (#[115]))))))),.m 22 23]) (.cond (.t 22) (.seq (.ops [.m 24 5,.m 25 5,.m 26 5,.m 27 6,.m 28 6,.m 29 4,.i 30 (.callV (.t 29) [.n 2]),.m 31 4,.i 32 (.callV (.t 31) [.n 0]),.i 33 (.callV (.t 28) [.t 30,.t 32]),.m 34 6,.m 35 4,.i 36 (.callV (.t 35) [.n 1]),.m 37 4,.i 38 (.callV (.t 37) [.n 0]),.i 39 (.callV (.t 34) [.t 36,.t 38]),.i 40 (.callV (.t 27) [.t 33,.t 39]),.i 41 (.callV (.t 26) [.t 40]),.i 42 (.callV (.t 25) [.t 41]),.i 43 (.callV (.t 24) [.t 42]),.s 3 2 43,.i 3 (.mov (.c (.one (.st (.bool true)))))]) .ret) .skip)))))))) (.seq (.ops [.i 44 (.build [.st (.int .i64 0),.st (.int .i64 0),.full []] []),.s 3 2 44,.i 3 (.mov (.c (.one (.st (.bool false)))))]) .ret))))
theorem DQ:OkF Tryz.prog 44 45 [] Ce [.cell 2 true 3,.t 3]:=.of Tryz.func44 rfl rfl (by kernel_rfl) rfl
def Bg:IR :=
 (.seq (.ops [.i 1 (.box 30 (.t 0)),.i 2 (.alloc 25 [.st (.int .i64 0),.st (.int .i64 0),.full []]),.i 3 (.mov (.n 0))]) (.seq (.seq (.ops [.f 11 1 1,.l 12 11,.i 13 (.len false (.t 12)),.i 14 (.bin .eql (.t 13) (.n 0))]) (.cond (.t 14) (.seq (.seq (.ops [.f 16 0 1,.l 17 16,.i 18 (.call 44 [.t 17]),.m 15 18,.i 19 (.extract 0 (.t 15)),.i 20 (.extract 1 (.t 15)),.i 4 (.alloc 25 [.st (.int .i64 0),.st (.int .i64 0),.full []]),.s 3 4 19,.m 5 20]) (.seq (.ops [.m 21 5]) (.cond (.t 21) (.seq (.ops [.L 22 3 4,.s 3 2 22,.i 3 (.mov (.n 0))]) .ret) .skip))) (.seq (.seq (.ops [.f 23 0 1,.l 24 23,.i 25 (.call 45 [.t 24])]) (.cond (.t 25) (.seq (.ops [.i 26 (.build [.st (.int .i64 0),.st (.int .i64 0),.full []] []),.s 3 2 26,.i 3 (.mov (.n 15))]) .ret) .skip)) (.seq (.ops [.f 28 0 1,.l 29 28,.i 30 (.sliceS (.t 29) (some (.n 1)) none),.i 31 (.call 46 [.t 30]),.m 27 31,.i 32 (.extract 0 (.t 27)),.i 33 (.extract 1 (.t 27)),.m 6 32,.m 7 33]) (.seq (.seq (.ops [.f 34 0 1,.l 35 34,.i 36 (.indexStr (.t 35) (.n 0)),.i 37 (.bin .neq (.t 36) (.c (.one (.st (.int .u8 99))))),.m 38 37,.mk (some 39) (some (38,false)) (.mov (.t 7)) .no,.mk (some 40) (some (38,false)) (.eqE true (.t 39)) .no,.i 41 (.pick (.t 38) (.c (.one (.st (.bool true)))) (.t 40)),.m 42 41,.mk (some 43) (some (42,false)) (.mov (.t 6)) .no,.mk (some 44) (some (42,false)) (.call 33 [.t 43]) .no,.mk (some 45) (some (42,false)) (.fieldAddr 0 (.t 1)) .no,.mk (some 46) (some (42,false)) (.load false 1 (.t 45)) .no,.mk (some 47) (some (42,false)) (.sliceS (.t 46) (some (.n 1)) none) .no,.mk (some 48) (some (42,false)) (.bin .neq (.t 44) (.t 47)) .no,.i 49 (.pick (.t 42) (.c (.one (.st (.bool true)))) (.t 48)),.m 50 49,.mk (some 51) (some (50,false)) (.mov (.t 6)) .no,.mk (some 52) (some (50,false)) (.bin .geq (.t 51) (.n 40)) .no,.i 53 (.pick (.t 50) (.c (.one (.st (.bool true)))) (.t 52))]) (.cond (.t 53) (.seq (.ops [.i 54 (.build [.st (.int .i64 0),.st (.int .i64 0),.full []] []),.s 3 2 54,.i 3 (.mov (.n 1))]) .ret) .skip)) (.seq (.ops [.m 55 6,.i 56 (.call 47 [.t 55]),.s 3 2 56,.i 3 (.mov (.n 0))]) .ret))))) .skip)) (.seq (.ops [.f 58 1 1,.l 59 58,.i 60 (.indexAddr 2 (.t 59) (.n 0)),.L 61 2 60,.i 62 (.call 20 [.t 61]),.m 57 62,.i 63 (.extract 0 (.t 57)),.i 64 (.extract 1 (.t 57)),.i 8 (.alloc 25 [.st (.int .i64 0),.st (.int .i64 0),.full []]),.s 3 8 63,.m 9 64]) (.seq (.seq (.ops [.m 65 9,.i 66 (.bin .neq (.t 65) (.n 0))]) (.cond (.t 66) (.seq (.ops [.i 67 (.build [.st (.int .i64 0),.st (.int .i64 0),.full []] []),.m 68 9,.s 3 2 67,.m 3 68]) .ret) .skip)) (.seq (.ops [.f 70 1 1,.l 71 70,.i 72 (.indexAddr 2 (.t 71) (.n 1)),.L 73 2 72,.i 74 (.call 20 [.t 73]),.m 69 74,.i 75 (.extract 0 (.t 69)),.i 76 (.extract 1 (.t 69)),.i 10 (.alloc 25 [.st (.int .i64 0),.st (.int .i64 0),.full []]),.s 3 10 75,.m 9 76]) (.seq (.ops [.L 77 3 8,.L 78 3 10,.i 79 (.call 48 [.t 77,.t 78]),.m 80 9,.s 3 2 79,.m 3 80]) .ret))))))
theorem Bu:OkF Tryz.prog 20 81 [] Bg [.cell 2 true 3,.t 3]:=.of Tryz.func20 rfl rfl (by kernel_rfl) rfl
def Es:IR :=
 (.seq (.ops [.i 1 (.box 30 (.t 0)),.i 2 (.alloc 25 [.st (.int .i64 0),.st (.int .i64 0),.full []]),.i 3 (.mov (.n 0))]) (.seq (.seq (.ops [.L 7 2 1,.i 8 (.call 19 [.t 7]),.m 4 8]) (.seq (.ops [.m 9 4,.i 10 (.bin .neq (.t 9) (.n 0))]) (.cond (.t 10) (.seq (.ops [.i 11 (.build [.st (.int .i64 0),.st (.int .i64 0),.full []] []),.m 12 4,.s 3 2 11,.m 3 12]) .ret) .skip))) (.seq (.ops [.L 14 2 1,.i 15 (.call 20 [.t 14]),.m 13 15,.i 16 (.extract 0 (.t 13)),.i 17 (.extract 1 (.t 13)),.i 5 (.alloc 25 [.st (.int .i64 0),.st (.int .i64 0),.full []]),.s 3 5 16,.m 6 17]) (.seq (.seq (.ops [.m 18 6,.i 19 (.bin .eql (.t 18) (.n 0)),.m 20 19,.mk (some 21) (some (20,true)) (.load true 3 (.t 5)) .no,.mk (some 22) (some (20,true)) (.call 21 [.t 21]) .no,.mk (some 23) (some (20,true)) (.bin .gtr (.t 22) (.n 2000)) .no,.i 24 (.pick (.t 20) (.t 23) (.c (.one (.st (.bool false)))))]) (.cond (.t 24) (.ops [.i 6 (.mov (.n 8))]) .skip)) (.seq (.seq (.ops [.m 25 6,.i 26 (.bin .neq (.t 25) (.n 0))]) (.cond (.t 26) (.seq (.ops [.i 27 (.build [.st (.int .i64 0),.st (.int .i64 0),.full []] []),.m 28 6,.s 3 2 27,.m 3 28]) .ret) .skip)) (.seq (.ops [.L 29 3 5,.s 3 2 29,.i 3 (.mov (.n 0))]) .ret))))))
theorem Gl:OkF Tryz.prog 9 30 [] Es [.cell 2 true 3,.t 3]:=.of Tryz.func9 rfl rfl (by kernel_rfl) rfl

def IE:IR :=
 (.seq (.ops [.i 2 (.box 25 (.t 0)),.i 3 (.box 25 (.t 1)),.i 4 (.alloc 25 [.st (.int .i64 0),.st (.int .i64 0),.full []])]) (.seq (.ops [.L 5 3 2,.L 6 3 3,.i 7 (.buildSlice false 25 3 [.t 5,.t 6]),.i 8 (.build [.st (.int .i64 0),.st (.int .i64 0),.full []] [(0,1,.n 3),(2,1,.t 7)]),.s 3 4 8]) .ret))
theorem NC:OkF Tryz.prog 48 9 [] IE [.cell 4 true 3]:=.of Tryz.func48 rfl rfl (by kernel_rfl) rfl
def Hv:IR :=
 (.seq (.ops [.i 1 (.box 25 (.t 0)),.i 2 (.alloc 25 [.st (.int .i64 0),.st (.int .i64 0),.full []])]) (.seq (.ops [.L 3 3 1,.i 4 (.buildSlice false 25 3 [.t 3]),.i 5 (.build [.st (.int .i64 0),.st (.int .i64 0),.full []] [(0,1,.n 2),(2,1,.t 4)]),.s 3 2 5]) .ret))
theorem NF:OkF Tryz.prog 67 6 [] Hv [.cell 2 true 3]:=.of Tryz.func67 rfl rfl (by kernel_rfl) rfl
def FL:IR :=
 (.seq (.ops [.i 1 (.box 25 (.t 0)),.i 2 (.alloc 25 [.st (.int .i64 0),.st (.int .i64 0),.full []])]) (.seq (.ops [.L 3 3 1,.i 4 (.call 54 [.t 3,.n 0,.n 0]),.s 3 2 4]) .ret))
theorem Jz:OkF Tryz.prog 49 5 [] FL [.cell 2 true 3]:=.of Tryz.func49 rfl rfl (by kernel_rfl) rfl
def FD:IR :=
 (.seq (.ops [.i 1 (.box 25 (.t 0)),.i 2 (.mov (.c (.one (.st (.bool false)))))]) (.seq (.ops [.f 3 0 1,.l 4 3,.i 5 (.bin .eql (.t 4) (.n 3)),.m 6 5,.mk (some 7) (some (6,true)) (.fieldAddr 2 (.t 1)) .no,.mk (some 8) (some (6,true)) (.load false 1 (.t 7)) .no,.mk (some 9) (some (6,true)) (.indexAddr 3 (.t 8) (.n 0)) .no,.mk (some 10) (some (6,true)) (.fieldAddr 0 (.t 9)) .no,.mk (some 11) (some (6,true)) (.load false 1 (.t 10)) .no,.mk (some 12) (some (6,true)) (.bin .eql (.t 11) (.n 2)) .no,.i 13 (.pick (.t 6) (.t 12) (.c (.one (.st (.bool false))))),.m 2 13]) .ret))
theorem IP:OkF Tryz.prog 50 14 [] FD [.t 2]:=.of Tryz.func50 rfl rfl (by kernel_rfl) rfl
def GM:IR :=
 (.seq (.ops [.i 1 (.box 25 (.t 0)),.i 2 (.alloc 25 [.st (.int .i64 0),.st (.int .i64 0),.full []])]) (.seq (.ops [.f 3 2 1,.l 4 3,.i 5 (.indexAddr 3 (.t 4) (.n 0)),.f 6 2 5,.l 7 6,.i 8 (.indexAddr 3 (.t 7) (.n 0)),.L 9 3 8,.f 10 2 1,.l 11 10,.i 12 (.indexAddr 3 (.t 11) (.n 1)),.L 13 3 12,.i 14 (.call 76 [.t 9,.t 13]),.s 3 2 14]) .ret))
theorem J9:OkF Tryz.prog 51 15 [] GM [.cell 2 true 3]:=.of Tryz.func51 rfl rfl (by kernel_rfl) rfl
def Fe:IR :=
 (.seq (.ops [.i 3 (.box 25 (.t 0)),.i 5 (.box 25 (.t 2)),.i 6 (.alloc 25 [.st (.int .i64 0),.st (.int .i64 0),.full []])]) (.seq (.ops [.mk (some 8) none (.fieldAddr 0 (.t 3)) (.onb 3),.mk (some 9) none (.load false 1 (.t 8)) (.onb 3),.mk (some 10) none (.fieldAddr 1 (.t 3)) (.onb 3),.mk (some 11) none (.load false 1 (.t 10)) (.onb 3),.i 12 (.buildSlice false 25 3 []),.f 13 2 3,.l 14 13,.mk (some 15) none (.append true 25 3 40 (.t 12) (.t 14)) (.keeps [3,3,3,3]),.i 16 (.build [.st (.int .i64 0),.st (.int .i64 0),.full []] [(0,1,.t 9),(1,1,.t 11),(2,1,.t 15)]),.i 7 (.alloc 25 [.st (.int .i64 0),.st (.int .i64 0),.full []]),.s 3 7 16]) (.seq (.ops [.f 17 2 7,.l 18 17,.m 19 1,.L 20 3 5,.i 21 (.indexAddr 3 (.t 18) (.t 19)),.s 3 21 20]) (.seq (.ops [.L 22 3 7,.s 3 6 22]) .ret))))
theorem Ix:OkF Tryz.prog 52 23 [15] Fe [.cell 6 true 3]:=.of Tryz.func52 rfl rfl (by kernel_rfl) rfl
def Db:IR :=
 (.seq (.ops [.i 1 (.box 25 (.t 0)),.i 2 (.alloc 25 [.st (.int .i64 0),.st (.int .i64 0),.full []]),.i 3 (.mov (.c (.one (.st (.bool false)))))]) (.seq (.seq (.ops [.L 8 3 1,.i 9 (.call 50 [.t 8])]) (.cond (.t 9) (.seq (.ops [.L 10 3 1,.i 11 (.call 51 [.t 10]),.s 3 2 11,.i 3 (.mov (.c (.one (.st (.bool true)))))]) .ret) .skip)) (.seq (.seq (.ops [.f 12 2 1,.l 13 12,.i 14 (.len false (.t 13)),.i 15 (.mov (.n 0))]) (.block 0 (.loop (.seq (.ops [.i 16 (.bin .lss (.t 15) (.t 14))]) (.seq (.cond (.t 16) .skip (.exit 0)) (.seq (.block 1 (.seq (.ops [.m 17 15,.i 18 (.indexAddr 3 (.t 13) (.t 15)),.L 19 3 18,.i 5 (.alloc 25 [.st (.int .i64 0),.st (.int .i64 0),.full []]),.m 4 17,.s 3 5 19]) (.seq (.ops [.L 21 3 5,.i 22 (.call 24 [.t 21]),.m 20 22,.i 23 (.extract 0 (.t 20)),.i 24 (.extract 1 (.t 20)),.i 6 (.alloc 25 [.st (.int .i64 0),.st (.int .i64 0),.full []]),.s 3 6 23,.m 7 24]) (.seq (.ops [.m 25 7]) (.cond (.t 25) (.seq (.ops [.L 26 3 1,.m 27 4,.L 28 3 6,.i 29 (.call 52 [.t 26,.t 27,.t 28]),.s 3 2 29,.i 3 (.mov (.c (.one (.st (.bool true)))))]) .ret) .skip))))) (.ops [.i 30 (.bin .add (.t 15) (.n 1)),.m 15 30]))))))) (.seq (.ops [.L 31 3 1,.s 3 2 31,.i 3 (.mov (.c (.one (.st (.bool false)))))]) .ret))))
theorem FC:OkF Tryz.prog 24 32 [] Db [.cell 2 true 3,.t 3]:=.of Tryz.func24 rfl rfl (by kernel_rfl) rfl
def FY:IR :=
 (.seq (.ops [.i 3 (.box 25 (.t 0)),.i 6 (.alloc 25 [.st (.int .i64 0),.st (.int .i64 0),.full []]),.i 7 (.mov (.n 0)),.i 8 (.mov (.n 0))]) (.seq (.ops [.i 9 (.mov (.n 0))]) (.block 0 (.loop (.seq (.block 1 (.seq (.ops [.m 15 2,.L 16 3 3,.i 17 (.callV (.t 15) [.t 16]),.m 14 17,.i 18 (.extract 0 (.t 14)),.i 19 (.extract 1 (.t 14)),.i 10 (.alloc 25 [.st (.int .i64 0),.st (.int .i64 0),.full []]),.s 3 10 18,.m 11 19]) (.seq (.seq (.ops [.m 20 11,.i 21 (.un .not (.t 20))]) (.cond (.t 21) (.seq (.ops [.L 22 3 3,.i 23 (.call 49 [.t 22]),.m 24 9,.s 3 6 23,.m 7 24,.i 8 (.mov (.n 0))]) .ret) .skip)) (.seq (.seq (.ops [.m 25 9,.m 26 1,.i 27 (.bin .eql (.t 25) (.t 26))]) (.cond (.t 27) (.seq (.ops [.i 28 (.build [.st (.int .i64 0),.st (.int .i64 0),.full []] []),.s 3 6 28,.i 7 (.mov (.n 0)),.i 8 (.mov (.n 9))]) .ret) .skip)) (.seq (.ops [.L 29 3 10,.s 3 3 29]) (.seq (.ops [.L 30 3 3,.i 31 (.call 21 [.t 30]),.i 32 (.bin .gtr (.t 31) (.n 2000))]) (.cond (.t 32) (.seq (.ops [.i 33 (.build [.st (.int .i64 0),.st (.int .i64 0),.full []] []),.s 3 6 33,.i 7 (.mov (.n 0)),.i 8 (.mov (.n 8))]) .ret) .skip))))))) (.ops [.m 12 9,.i 13 (.bin .add (.t 12) (.n 1)),.m 9 13]))))))
theorem Iz:OkF Tryz.prog 23 34 [] FY [.cell 6 true 3,.t 7,.t 8]:=.of Tryz.func23 rfl rfl (by kernel_rfl) rfl
def FN:IR :=
 (.seq (.ops [.i 3 (.box 25 (.t 0)),.i 6 (.mov (.n 0))]) (.seq (.ops [.L 8 3 3,.m 9 1,.i 10 (.call 15 [.t 8,.t 9]),.m 7 10]) (.seq (.seq (.ops [.m 11 7,.i 12 (.bin .eql (.t 11) (.n 0)),.m 13 12,.mk (some 14) (some (13,true)) (.mov (.t 2)) .no,.mk (some 15) (some (13,true)) (.bin .lss (.t 14) (.n 0)) .no,.mk (some 16) (some (13,true)) (.mov (.t 15)) .no,.mk (some 17) (some (16,false)) (.mov (.t 2)) .no,.mk (some 18) (some (16,false)) (.bin .gtr (.t 17) (.n 400)) .no,.mk (some 19) (some (13,true)) (.pick (.t 16) (.c (.one (.st (.bool true)))) (.t 18)) .no,.i 20 (.pick (.t 13) (.t 19) (.c (.one (.st (.bool false)))))]) (.cond (.t 20) (.ops [.i 7 (.mov (.n 3))]) .skip)) (.seq (.ops [.m 21 7,.m 6 21]) .ret))))
theorem JU:OkF Tryz.prog 22 22 [] FN [.t 6]:=.of Tryz.func22 rfl rfl (by kernel_rfl) rfl
def ES:IR :=
 (.seq (.ops [.i 3 (.box 25 (.t 0)),.i 6 (.alloc 25 [.st (.int .i64 0),.st (.int .i64 0),.full []]),.i 7 (.mov (.n 0)),.i 8 (.mov (.n 0))]) (.seq (.seq (.ops [.L 10 3 3,.m 11 1,.m 12 2,.i 13 (.call 22 [.t 10,.t 11,.t 12]),.m 9 13]) (.seq (.ops [.m 14 9,.i 15 (.bin .neq (.t 14) (.n 0))]) (.cond (.t 15) (.seq (.ops [.i 16 (.build [.st (.int .i64 0),.st (.int .i64 0),.full []] []),.m 17 9,.s 3 6 16,.i 7 (.mov (.n 0)),.m 8 17]) .ret) .skip))) (.seq (.ops [.L 18 3 3,.m 19 2,.i 20 (.call 23 [.t 18,.t 19,.c (.one (.fn 24 []))]),.i 21 (.extract 0 (.t 20)),.i 22 (.extract 1 (.t 20)),.i 23 (.extract 2 (.t 20)),.s 3 6 21,.m 7 22,.m 8 23]) .ret)))
theorem Hp:OkF Tryz.prog 11 24 [] ES [.cell 6 true 3,.t 7,.t 8]:=.of Tryz.func11 rfl rfl (by kernel_rfl) rfl
def EJ:IR :=
 (.seq (.ops [.i 2 (.box 25 (.t 0)),.i 4 (.mov (.c (.one (.st (.bool false)))))]) (.seq (.seq (.ops [.f 7 0 2,.l 8 7,.i 9 (.bin .eql (.t 8) (.n 1))]) (.cond (.t 9) (.seq (.ops [.f 10 1 2,.l 11 10,.m 12 1,.i 13 (.bin .eql (.t 11) (.t 12)),.m 4 13]) .ret) .skip)) (.seq (.seq (.ops [.f 14 0 2,.l 15 14,.i 16 (.bin .eql (.t 15) (.n 2))]) (.cond (.t 16) (.ops [.m 17 1,.i 18 (.bin .add (.t 17) (.n 1)),.m 1 18]) .skip)) (.seq (.seq (.ops [.f 19 2 2,.l 20 19,.i 21 (.len false (.t 20)),.i 22 (.mov (.n 0))]) (.block 0 (.loop (.seq (.ops [.i 23 (.bin .lss (.t 22) (.t 21))]) (.seq (.cond (.t 23) .skip (.exit 0)) (.seq (.block 1 (.seq (.ops [.i 24 (.indexAddr 3 (.t 20) (.t 22)),.L 25 3 24,.i 6 (.alloc 25 [.st (.int .i64 0),.st (.int .i64 0),.full []]),.s 3 6 25]) (.seq (.ops [.L 26 3 6,.m 27 1,.i 28 (.call 53 [.t 26,.t 27])]) (.cond (.t 28) (.seq (.ops [.i 4 (.mov (.c (.one (.st (.bool true)))))]) .ret) .skip)))) (.ops [.i 29 (.bin .add (.t 22) (.n 1)),.m 22 29]))))))) (.seq (.ops [.i 4 (.mov (.c (.one (.st (.bool false)))))]) .ret)))))
theorem GO:OkF Tryz.prog 53 30 [] EJ [.t 4]:=.of Tryz.func53 rfl rfl (by kernel_rfl) rfl
def E7:IR :=
 (.seq (.ops [.i 1 (.box 25 (.t 0)),.i 2 (.alloc 25 [.st (.int .i64 0),.st (.int .i64 0),.full []])]) (.seq (.ops [.f 7 0 1,.l 8 7,.f 9 1 1,.l 10 9,.i 11 (.build [.st (.int .i64 0),.st (.int .i64 0),.full []] [(0,1,.t 8),(1,1,.t 10)]),.i 3 (.alloc 25 [.st (.int .i64 0),.st (.int .i64 0),.full []]),.s 3 3 11]) (.seq (.seq (.ops [.f 12 2 1,.l 13 12,.i 14 (.len false (.t 13)),.i 15 (.mov (.n 0))]) (.block 0 (.loop (.seq (.ops [.i 16 (.bin .lss (.t 15) (.t 14))]) (.seq (.cond (.t 16) .skip (.exit 0)) (.seq (.block 1 (.seq (.ops [.i 17 (.indexAddr 3 (.t 13) (.t 15)),.L 18 3 17,.i 5 (.alloc 25 [.st (.int .i64 0),.st (.int .i64 0),.full []]),.s 3 5 18]) (.ops [.f 19 2 3,.l 20 19,.L 21 3 5,.i 22 (.call 25 [.t 21]),.i 23 (.buildSlice false 25 3 [.t 22]),.i 24 (.append false 25 3 40 (.t 20) (.t 23)),.f 25 2 3,.s 1 25 24]))) (.ops [.i 26 (.bin .add (.t 15) (.n 1)),.m 15 26]))))))) (.seq (.seq (.ops [.f 27 0 1,.l 28 27,.i 29 (.bin .neq (.t 28) (.n 2))]) (.cond (.t 29) (.seq (.ops [.L 30 3 3,.s 3 2 30]) .ret) .skip)) (.seq (.seq (.ops [.f 31 2 3,.l 32 31,.i 33 (.indexAddr 3 (.t 32) (.n 0)),.L 34 3 33,.i 6 (.alloc 25 [.st (.int .i64 0),.st (.int .i64 0),.full []]),.s 3 6 34]) (.seq (.ops [.f 35 0 6,.l 36 35,.i 37 (.bin .eql (.t 36) (.n 3)),.m 38 37,.mk (some 39) (some (38,true)) (.fieldAddr 2 (.t 6)) .no,.mk (some 40) (some (38,true)) (.load false 1 (.t 39)) .no,.mk (some 41) (some (38,true)) (.indexAddr 3 (.t 40) (.n 1)) .no,.mk (some 42) (some (38,true)) (.fieldAddr 0 (.t 41)) .no,.mk (some 43) (some (38,true)) (.load false 1 (.t 42)) .no,.mk (some 44) (some (38,true)) (.bin .eql (.t 43) (.n 1)) .no,.i 45 (.pick (.t 38) (.t 44) (.c (.one (.st (.bool false))))),.m 46 45,.mk (some 47) (some (46,true)) (.fieldAddr 2 (.t 6)) .no,.mk (some 48) (some (46,true)) (.load false 1 (.t 47)) .no,.mk (some 49) (some (46,true)) (.indexAddr 3 (.t 48) (.n 1)) .no,.mk (some 50) (some (46,true)) (.fieldAddr 1 (.t 49)) .no,.mk (some 51) (some (46,true)) (.load false 1 (.t 50)) .no,.mk (some 52) (some (46,true)) (.bin .eql (.t 51) (.n 0)) .no,.i 53 (.pick (.t 46) (.t 52) (.c (.one (.st (.bool false))))),.m 54 53,.mk (some 55) (some (54,true)) (.fieldAddr 2 (.t 6)) .no,.mk (some 56) (some (54,true)) (.load false 1 (.t 55)) .no,.mk (some 57) (some (54,true)) (.indexAddr 3 (.t 56) (.n 0)) .no,.mk (some 58) (some (54,true)) (.load true 3 (.t 57)) .no,.mk (some 59) (some (54,true)) (.call 53 [.t 58,.n 0]) .no,.mk (some 60) (some (54,true)) (.un .not (.t 59)) .no,.i 61 (.pick (.t 54) (.t 60) (.c (.one (.st (.bool false)))))]) (.cond (.t 61) (.seq (.ops [.f 62 2 6,.l 63 62,.i 64 (.indexAddr 3 (.t 63) (.n 0)),.L 65 3 64,.i 66 (.call 54 [.t 65,.c (.one (.st (.int .i64 (-1)))),.n 0]),.s 3 2 66]) .ret) .skip))) (.seq (.ops [.L 67 3 3,.s 3 2 67]) .ret))))))
theorem IQ:OkF Tryz.prog 25 68 [] E7 [.cell 2 true 3]:=.of Tryz.func25 rfl rfl (by kernel_rfl) rfl
def NV:IR :=
 (.seq (.ops [.i 2 (.box 25 (.t 0)),.i 3 (.box 25 (.t 1)),.i 4 (.alloc 25 [.st (.int .i64 0),.st (.int .i64 0),.full []])]) (.seq (.ops [.L 5 3 2,.L 6 3 3,.i 7 (.buildSlice false 25 3 [.t 5,.t 6]),.i 8 (.build [.st (.int .i64 0),.st (.int .i64 0),.full []] [(0,1,.n 3),(2,1,.t 7)]),.s 3 4 8]) .ret))
theorem Rr:OkF Tryz.prog 30 9 [] NV [.cell 4 true 3]:=.of Tryz.func30 rfl rfl (by kernel_rfl) rfl
def Mv:IR :=
 (.seq (.ops [.i 1 (.box 25 (.t 0)),.i 2 (.alloc 25 [.st (.int .i64 0),.st (.int .i64 0),.full []])]) (.seq (.ops [.L 3 3 1,.i 4 (.buildSlice false 25 3 [.t 3]),.i 5 (.build [.st (.int .i64 0),.st (.int .i64 0),.full []] [(0,1,.n 2),(2,1,.t 4)]),.s 3 2 5]) .ret))
theorem RL:OkF Tryz.prog 27 6 [] Mv [.cell 2 true 3]:=.of Tryz.func27 rfl rfl (by kernel_rfl) rfl

theorem Mu (f x:Lm):AW Tryz.prog 48 [aLm f,aLm x] (aLm (Lm.a f x)):=by
 refine NC.ac fun C hC=>?_
 unfold IE
 repeat' with_reducible first | refine W ?_ | refine Z0 ?_ | ((first | refine Wo fun K hK=>?_ | refine Wp ?_ | refine Wq ?_ | refine Wr ?_);(try simp only [go_sem,fN,seval,eT,iR,dT,dF,nL]);(repeat refine Ai ?_);(try (refine hK _ ?_;clear hK K));try refine iC ?_)
 simp only [go_sem,fN,seval,AR,AS.result,AB,AE,AQ]
 simp [Lm.a,Lm.kind_mk,Lm.idx_mk,Lm.subs_mk,Bh]
theorem T_ (f x:Lm):AW Tryz.prog 30 [aLm f,aLm x] (aLm (Lm.a f x)):=by
 refine Rr.ac fun C hC=>?_
 unfold NV
 repeat' with_reducible first | refine W ?_ | refine Z0 ?_ | ((first | refine Wo fun K hK=>?_ | refine Wp ?_ | refine Wq ?_ | refine Wr ?_);(try simp only [go_sem,fN,seval,eT,iR,dT,dF,nL]);(repeat refine Ai ?_);(try (refine hK _ ?_;clear hK K));try refine iC ?_)
 simp only [go_sem,fN,seval,AR,AS.result,AB,AE,AQ]
 simp [Lm.a,Lm.kind_mk,Lm.idx_mk,Lm.subs_mk,Bh]
theorem Hd (t:Lm):AW Tryz.prog 67 [aLm t] (aLm (Lm.l t)):=by
 refine NF.ac fun C hC=>?_
 unfold Hv
 repeat' with_reducible first | refine W ?_ | refine Z0 ?_ | ((first | refine Wo fun K hK=>?_ | refine Wp ?_ | refine Wq ?_ | refine Wr ?_);(try simp only [go_sem,fN,seval,eT,iR,dT,dF,nL]);(repeat refine Ai ?_);(try (refine hK _ ?_;clear hK K));try refine iC ?_)
 simp only [go_sem,fN,seval,AR,AS.result,AB,AE,AQ]
 simp [Lm.l,Lm.kind_mk,Lm.idx_mk,Lm.subs_mk,Bh]
theorem OQ (t:Lm):AW Tryz.prog 27 [aLm t] (aLm (Lm.l t)):=by
 refine RL.ac fun C hC=>?_
 unfold Mv
 repeat' with_reducible first | refine W ?_ | refine Z0 ?_ | ((first | refine Wo fun K hK=>?_ | refine Wp ?_ | refine Wq ?_ | refine Wr ?_);(try simp only [go_sem,fN,seval,eT,iR,dT,dF,nL]);(repeat refine Ai ?_);(try (refine hK _ ?_;clear hK K));try refine iC ?_)
 simp only [go_sem,fN,seval,AR,AS.result,AB,AE,AQ]
 simp [Lm.l,Lm.kind_mk,Lm.idx_mk,Lm.subs_mk,Bh]
theorem TP (t:Lm) (hg:t.good 1000000000) (hz:t.size≤1000000000):AW Tryz.prog 49 [aLm t] (aLm t):=by
 have e:=Lm.mv_zero 0 t
 refine Jz.ac fun C hC=>?_
 unfold FL
 repeat' (first | (with_reducible first | refine W ?_ | refine Z0 ?_ | ((first | refine Wo fun K hK=>?_ | refine Wp ?_ | refine Wq ?_ | refine Wr ?_);(try simp only [go_sem,fN,seval,eT,iR,e,dT,dF,nL]);(repeat refine Ai ?_);(try (refine hK _ ?_;clear hK K));try refine iC ?_)) | refine Cg _ (L6 t 0 0 hg (by decide) (by decide) (by omega)) ?_)
 simp only [go_sem,fN,seval,AR,AS.result,AB,AE,AQ,e]
def Lm.isRed (t:Lm):Bool:=(Lm.top t.kind t.subs).isSome
theorem MP (t:Lm) (hw:t.wf):AW Tryz.prog 50 [aLm t] (CH t.isRed):=by
 refine IP.ac fun C hC=>?_
 unfold FD
 unfold Lm.isRed
 rcases Lm.top_cases hw with ⟨f,x,b,h1,h2,h3,h4,h5⟩ | ⟨h5,h6⟩
 ·rw [h5]
  repeat' with_reducible first | refine W ?_ | refine Z0 ?_ | ((first | refine Wo fun K hK=>?_ | refine Wp ?_ | refine Wq ?_ | refine Wr ?_);(try simp only [go_sem,fN,seval,eT,iR,h1,h2,h3,dT,dF,nL]);(repeat refine Ai ?_);(try (refine hK _ ?_;clear hK K));try refine iC ?_)
  simp only [go_sem,fN,seval,AR,AS.result,AB,AE,AQ]
 ·rw [h5]
  by_cases h1:t.kind=3
  ·obtain ⟨f,x,h2,h3⟩:=h6 h1
   repeat' with_reducible first | refine W ?_ | refine Z0 ?_ | ((first | refine Wo fun K hK=>?_ | refine Wp ?_ | refine Wq ?_ | refine Wr ?_);(try simp only [go_sem,fN,seval,eT,iR,h1,h2,h3,dT,dF,nL]);(repeat refine Ai ?_);(try (refine hK _ ?_;clear hK K));try refine iC ?_)
   simp only [go_sem,fN,seval,AR,AS.result,AB,AE,AQ]
  ·repeat' with_reducible first | refine W ?_ | refine Z0 ?_ | ((first | refine Wo fun K hK=>?_ | refine Wp ?_ | refine Wq ?_ | refine Wr ?_);(try simp only [go_sem,fN,seval,eT,iR,h1,dT,dF,nL]);(repeat refine Ai ?_);(try (refine hK _ ?_;clear hK K));try refine iC ?_)
   simp only [go_sem,fN,seval,AR,AS.result,AB,AE,AQ]
theorem US (t f x b:Lm) (h2:t.subs=[f,x]) (h4:f.subs=[b]) (hb:b.good 1000000000) (hx:x.good 1000000000) (hbz:b.size≤1000000000) (hxz:x.size≤1000000000):AW Tryz.prog 51 [aLm t] (aLm (Lm.put x 0 b)):=by
 refine J9.ac fun C hC=>?_
 unfold GM
 repeat' (first | (with_reducible first | refine W ?_ | refine Z0 ?_ | ((first | refine Wo fun K hK=>?_ | refine Wp ?_ | refine Wq ?_ | refine Wr ?_);(try simp only [go_sem,fN,seval,eT,iR,h2,h4,dT,dF,nL]);(repeat refine Ai ?_);(try (refine hK _ ?_;clear hK K));try refine iC ?_)) | refine Cg _ (Td b x hb hx hxz hbz) ?_)
 simp only [go_sem,fN,seval,AR,AS.result,AB,AE,AQ]
theorem TC (t x:Lm) (i:Nat) (hi:i < t.subs.length) (hz:t.subs.length≤1000000000):AW Tryz.prog 52 [aLm t,Ad i,aLm x] (aLm (.mk t.kind t.idx (t.subs.set i x))):=by
 obtain ⟨a,ha⟩:=Bk hi
 have hne:¬ t.subs=[]:=fun e=>by rw [e] at hi;simp at hi
 refine Ix.ac fun C hC=>?_
 unfold Fe
 repeat' with_reducible first | refine W ?_ | refine Z0 ?_ | ((first | refine Wo fun K hK=>?_ | refine Wp ?_ | refine Wq ?_ | refine Wr ?_);(try simp only [go_sem,fN,seval,eT,iR,hi,hne,dT,dF,nL]);(repeat refine Ai ?_);(try (refine hK _ ?_;clear hK K));try refine iC ?_)
 simp only [go_sem,fN,seval,eT,iR,ha]
 refine hK _ ?_
 clear hK K
 refine Hz ?_
 refine IWP.ghost (Am.share (id:=15) rfl) ?_
 repeat' with_reducible first | refine W ?_ | refine Z0 ?_ | ((first | refine Wo fun K hK=>?_ | refine Wp ?_ | refine Wq ?_ | refine Wr ?_);(try simp only [go_sem,fN,seval,eT,iR,dT,dF,nL]);(repeat refine Ai ?_);(try (refine hK _ ?_;clear hK K));try refine iC ?_)
 simp only [go_sem,fN,seval,AR,AS.result,AB,AE,AQ]
 simp [Bh,Lm.kind_mk,Lm.idx_mk,Lm.subs_mk]

def Mr:IR :=
 (.seq (.ops [.i 2 (.alloc 25 [.st (.int .i64 0),.st (.int .i64 0),.full []])]) (.seq (.ops [.m 3 0,.i 4 (.build [.st (.int .i64 0),.st (.int .i64 0),.full []] [(0,1,.n 4),(1,1,.t 3)]),.s 3 2 4]) .ret))
theorem RT:OkF Tryz.prog 29 5 [] Mr [.cell 2 true 3]:=.of Tryz.func29 rfl rfl (by kernel_rfl) rfl

theorem LI (i:Int):AW Tryz.prog 29 [Ad i] (aLm (.mk 4 i [])):=by
 refine RT.ac fun C hC=>?_
 unfold Mr
 repeat' with_reducible first | refine W ?_ | refine Z0 ?_ | ((first | refine Wo fun K hK=>?_ | refine Wp ?_ | refine Wq ?_ | refine Wr ?_);(try simp only [go_sem,fN,seval,eT,iR,dT,dF,nL]);(repeat refine Ai ?_);(try (refine hK _ ?_;clear hK K));try refine iC ?_)
 simp only [go_sem,fN,seval,AR,AS.result,AB,AE,AQ]
 simp [Lm.kind_mk,Lm.idx_mk,Lm.subs_mk,Bh]

theorem Ug (i:Int):AW Tryz.prog 47 [Ad i] (aLm (.mk 4 i [])):=by
 refine M9.ac fun C hC=>?_
 unfold H7
 repeat' with_reducible first | refine W ?_ | refine Z0 ?_ | ((first | refine Wo fun K hK=>?_ | refine Wp ?_ | refine Wq ?_ | refine Wr ?_);(try simp only [go_sem,fN,seval,eT,iR,dT,dF,nL]);(repeat refine Ai ?_);(try (refine hK _ ?_;clear hK K));try refine iC ?_)
 simp only [go_sem,fN,seval,AR,AS.result,AB,AE,AQ]
 simp [Lm.kind_mk,Lm.idx_mk,Lm.subs_mk,Bh]
theorem ne1:¬ ((⟨#[107]⟩:ByteArray)=⟨#[105]⟩):=by decide
theorem ne2:¬ ((⟨#[115]⟩:ByteArray)=⟨#[105]⟩):=by decide
theorem ne3:¬ ((⟨#[115]⟩:ByteArray)=⟨#[107]⟩):=by decide
theorem TA:AW Tryz.prog 44 [CM ⟨#[105]⟩] (.tup [aLm iL,CH true]):=by
 refine DQ.ac fun C hC=>?_
 unfold Ce
 repeat' (first | (with_reducible first | refine W ?_ | refine Z0 ?_ | ((first | refine Wo fun K hK=>?_ | refine Wp ?_ | refine Wq ?_ | refine Wr ?_);(try simp only [go_sem,fN,seval,eT,iR,dT,dF,nL]);(repeat refine Ai ?_);(try (refine hK _ ?_;clear hK K));try refine iC ?_)) | (first | refine ⟨by kernel_rfl,_,_,(He 0).toS rfl,?_⟩ | refine ⟨_,_,(He 0).toS rfl,?_⟩) | (first | refine ⟨by kernel_rfl,_,_,(Hd (.v 0)).toS rfl,?_⟩ | refine ⟨_,_,(Hd (.v 0)).toS rfl,?_⟩))
 simp only [go_sem,fN,seval,AR,AS.result,AB,AE,AQ]
 rfl
theorem TI:AW Tryz.prog 44 [CM ⟨#[107]⟩] (.tup [aLm kL,CH true]):=by
 refine DQ.ac fun C hC=>?_
 unfold Ce
 repeat' (first | (with_reducible first | refine W ?_ | refine Z0 ?_ | ((first | refine Wo fun K hK=>?_ | refine Wp ?_ | refine Wq ?_ | refine Wr ?_);(try simp only [go_sem,fN,seval,eT,iR,ne1,dT,dF,nL]);(repeat refine Ai ?_);(try (refine hK _ ?_;clear hK K));try refine iC ?_)) | (first | refine ⟨by kernel_rfl,_,_,(He 1).toS rfl,?_⟩ | refine ⟨_,_,(He 1).toS rfl,?_⟩) | (first | refine ⟨by kernel_rfl,_,_,(Hd (.v 1)).toS rfl,?_⟩ | refine ⟨_,_,(Hd (.v 1)).toS rfl,?_⟩) | (first | refine ⟨by kernel_rfl,_,_,(Hd (.l (.v 1))).toS rfl,?_⟩ | refine ⟨_,_,(Hd (.l (.v 1))).toS rfl,?_⟩))
 simp only [go_sem,fN,seval,AR,AS.result,AB,AE,AQ]
 rfl
theorem Te:AW Tryz.prog 44 [CM ⟨#[115]⟩] (.tup [aLm sL,CH true]):=by
 refine DQ.ac fun C hC=>?_
 unfold Ce
 repeat' (first | (with_reducible first | refine W ?_ | refine Z0 ?_ | ((first | refine Wo fun K hK=>?_ | refine Wp ?_ | refine Wq ?_ | refine Wr ?_);(try simp only [go_sem,fN,seval,eT,iR,ne2,ne3,dT,dF,nL]);(repeat refine Ai ?_);(try (refine hK _ ?_;clear hK K));try refine iC ?_)) | (first | refine ⟨by kernel_rfl,_,_,(He 2).toS rfl,?_⟩ | refine ⟨_,_,(He 2).toS rfl,?_⟩) | (first | refine ⟨by kernel_rfl,_,_,(He 0).toS rfl,?_⟩ | refine ⟨_,_,(He 0).toS rfl,?_⟩) | (first | refine ⟨by kernel_rfl,_,_,(Mu (.v 2) (.v 0)).toS rfl,?_⟩ | refine ⟨_,_,(Mu (.v 2) (.v 0)).toS rfl,?_⟩) | (first | refine ⟨by kernel_rfl,_,_,(He 1).toS rfl,?_⟩ | refine ⟨_,_,(He 1).toS rfl,?_⟩) | (first | refine ⟨by kernel_rfl,_,_,(Mu (.v 1) (.v 0)).toS rfl,?_⟩ | refine ⟨_,_,(Mu (.v 1) (.v 0)).toS rfl,?_⟩) | (first | refine ⟨by kernel_rfl,_,_,(Mu (.a (.v 2) (.v 0)) (.a (.v 1) (.v 0))).toS rfl,?_⟩ | refine ⟨_,_,(Mu (.a (.v 2) (.v 0)) (.a (.v 1) (.v 0))).toS rfl,?_⟩) | (first | refine ⟨by kernel_rfl,_,_,(Hd (.a (.a (.v 2) (.v 0)) (.a (.v 1) (.v 0)))).toS rfl,?_⟩ | refine ⟨_,_,(Hd (.a (.a (.v 2) (.v 0)) (.a (.v 1) (.v 0)))).toS rfl,?_⟩) | (first | refine ⟨by kernel_rfl,_,_,(Hd (.l (.a (.a (.v 2) (.v 0)) (.a (.v 1) (.v 0))))).toS rfl,?_⟩ | refine ⟨_,_,(Hd (.l (.a (.a (.v 2) (.v 0)) (.a (.v 1) (.v 0))))).toS rfl,?_⟩) | (first | refine ⟨by kernel_rfl,_,_,(Hd (.l (.l (.a (.a (.v 2) (.v 0)) (.a (.v 1) (.v 0)))))).toS rfl,?_⟩ | refine ⟨_,_,(Hd (.l (.l (.a (.a (.v 2) (.v 0)) (.a (.v 1) (.v 0)))))).toS rfl,?_⟩))
 simp only [go_sem,fN,seval,AR,AS.result,AB,AE,AQ]
 rfl
theorem Sf (n:ByteArray) (h1:¬ n=⟨#[105]⟩) (h2:¬ n=⟨#[107]⟩) (h3:¬ n=⟨#[115]⟩):AW Tryz.prog 44 [CM n] (.tup [aLm Lm.nil,CH false]):=by
 refine DQ.ac fun C hC=>?_
 unfold Ce
 repeat' with_reducible first | refine W ?_ | refine Z0 ?_ | ((first | refine Wo fun K hK=>?_ | refine Wp ?_ | refine Wq ?_ | refine Wr ?_);(try simp only [go_sem,fN,seval,eT,iR,h1,h2,h3,dT,dF,nL]);(repeat refine Ai ?_);(try (refine hK _ ?_;clear hK K));try refine iC ?_)
 simp only [go_sem,fN,seval,AR,AS.result,AB,AE,AQ]
 rfl


theorem OT {n:ByteArray} (h:n=iS ∨ n=kS ∨ n=sS):∃ x,Dg n=(x,0)∧AW Tryz.prog 44 [CM n] (.tup [aLm x,CH true]):=by
 rcases h with rfl | rfl | rfl
 ·exact ⟨iL,if_pos rfl,TA⟩
 ·exact ⟨kL,by unfold Dg;rw [if_neg (by decide),if_pos rfl],TI⟩
 ·exact ⟨sL,by unfold Dg;rw [if_neg (by decide),if_neg (by decide),if_pos rfl],Te⟩
theorem RG (t:Tm) (ha:t.args=[]) (h:t.name=iS ∨ t.name=kS ∨ t.name=sS):AW Tryz.prog 20 [aTm t] (.tup [aLm (Dg t.name).1,Ad (Dg t.name).2]):=by
 obtain ⟨x,e,c⟩:=OT h
 rw [e]
 refine Bu.ac fun C hC=>?_
 unfold Bg
 repeat' (first | (with_reducible first | refine W ?_ | refine Z0 ?_ | ((first | refine Wo fun K hK=>?_ | refine Wp ?_ | refine Wq ?_ | refine Wr ?_);(try simp only [go_sem,fN,seval,eT,iR,ha,Int.cast_ofNat_Int,dT,dF,nL]);(repeat refine Ai ?_);(try (refine hK _ ?_;clear hK K));try refine iC ?_)) | refine Cg _ (c) ?_)
 simp only [go_sem,fN,seval,AR,AS.result,AB,AE,AQ]
theorem Tl (t:Tm) (ha:t.args=[]) (hn:A9 t.name=true):AW Tryz.prog 20 [aTm t] (.tup [aLm (Dg t.name).1,Ad (Dg t.name).2]):=by
 by_cases hk:t.name=iS ∨ t.name=kS ∨ t.name=sS
 ·exact RG t ha hk
 have h1:¬ t.name=⟨#[105]⟩:=fun h=>hk (Or.inl h)
 have h2:¬ t.name=⟨#[107]⟩:=fun h=>hk (Or.inr (Or.inl h))
 have h3:¬ t.name=⟨#[115]⟩:=fun h=>hk (Or.inr (Or.inr h))
 have hl:Dg t.name=if D0 t.name=true then (Lm.nil,15) else if BJ t.name < 0 then (Lm.nil,1) else (.mk 4 (BJ t.name) [],0):=by
  unfold Dg iS kS sS
  rw [if_neg h1,if_neg h2,if_neg h3]
 have hKn:=Sf t.name h1 h2 h3
 obtain ⟨n1,n8,nl⟩:=E3 hn
 have n0:0 < t.name.size:=n1
 have n1':(1:Int)≤t.name.size:=by omega
 have hz:(Bf t.name).size≤18:=by rw [JB];omega
 rw [hl]
 by_cases hv:D0 t.name=true
 ·rw [if_pos hv]
  refine Bu.ac fun C hC=>?_
  unfold Bg
  repeat' (first | (with_reducible first | refine W ?_ | refine Z0 ?_ | ((first | refine Wo fun K hK=>?_ | refine Wp ?_ | refine Wq ?_ | refine Wr ?_);(try simp only [go_sem,fN,seval,eT,iR,ha,Int.cast_ofNat_Int,hv,dT,dF,nL]);(repeat refine Ai ?_);(try (refine hK _ ?_;clear hK K));try refine iC ?_)) | refine Cg _ (hKn) ?_ | refine Cg _ (CT t.name) ?_)
  simp only [go_sem,fN,seval,AR,AS.result,AB,AE,AQ]
  rfl
 rw [if_neg hv]
 have hat0:=@O2 (Bf t.name) hz
 have hat:=fun n=>@Rk (Bf t.name) n hz
 cases hq:Lib.atoi (Bf t.name).data.toList with
 | none =>
  have hc:BJ t.name=-1:=CU fun ⟨_,n,h,_⟩=>by rw [hq] at h;cases h
  rw [hc,if_pos (by decide)]
  have hA:=hat0 hq
  unfold Bf at hA
  by_cases h99:Ac t.name 0=99
  ·refine Bu.ac fun C hC=>?_
   unfold Bg
   repeat' (first | (with_reducible first | refine W ?_ | refine Z0 ?_ | ((first | refine Wo fun K hK=>?_ | refine Wp ?_ | refine Wq ?_ | refine Wr ?_);(try simp only [go_sem,fN,seval,eT,iR,ha,Int.cast_ofNat_Int,hv,n1,n1',n0,BG,h99,S8,dT,dF,nL]);(repeat refine Ai ?_);(try (refine hK _ ?_;clear hK K));try refine iC ?_)) | refine Cg _ (hKn) ?_ | refine Cg _ (CT t.name) ?_ | refine Cg _ (hA) ?_)
   simp only [go_sem,fN,seval,AR,AS.result,AB,AE,AQ]
   rfl
  ·refine Bu.ac fun C hC=>?_
   unfold Bg
   repeat' (first | (with_reducible first | refine W ?_ | refine Z0 ?_ | ((first | refine Wo fun K hK=>?_ | refine Wp ?_ | refine Wq ?_ | refine Wr ?_);(try simp only [go_sem,fN,seval,eT,iR,ha,Int.cast_ofNat_Int,hv,n1,n1',n0,BG,h99,dT,dF,nL]);(repeat refine Ai ?_);(try (refine hK _ ?_;clear hK K));try refine iC ?_)) | refine Cg _ (hKn) ?_ | refine Cg _ (CT t.name) ?_ | refine Cg _ (hA) ?_)
   simp only [go_sem,fN,seval,AR,AS.result,AB,AE,AQ]
   rfl
 | some n =>
  have hA:=hat n hq
  have hI:=Hj n
  unfold Bf at hA
  by_cases h99:Ac t.name 0=99
  case neg =>
   have hc:BJ t.name=-1:=CU fun ⟨h,_⟩=>h99 h
   rw [hc,if_pos (by decide)]
   refine Bu.ac fun C hC=>?_
   unfold Bg
   repeat' (first | (with_reducible first | refine W ?_ | refine Z0 ?_ | ((first | refine Wo fun K hK=>?_ | refine Wp ?_ | refine Wq ?_ | refine Wr ?_);(try simp only [go_sem,fN,seval,eT,iR,ha,Int.cast_ofNat_Int,hv,n1,n1',n0,BG,h99,dT,dF,nL]);(repeat refine Ai ?_);(try (refine hK _ ?_;clear hK K));try refine iC ?_)) | refine Cg _ (hKn) ?_ | refine Cg _ (CT t.name) ?_ | refine Cg _ (hA) ?_)
   simp only [go_sem,fN,seval,AR,AS.result,AB,AE,AQ]
   rfl
  case pos =>
  by_cases hr:(⟨(Lib.itoa n).toArray⟩:ByteArray)=Bf t.name
  case neg =>
   have hc:BJ t.name=-1:=CU fun ⟨_,m,h1,h2,_⟩=>by
    rw [hq] at h1
    cases h1
    exact hr h2
   rw [hc,if_pos (by decide)]
   unfold Bf at hr
   refine Bu.ac fun C hC=>?_
   unfold Bg
   repeat' (first | (with_reducible first | refine W ?_ | refine Z0 ?_ | ((first | refine Wo fun K hK=>?_ | refine Wp ?_ | refine Wq ?_ | refine Wr ?_);(try simp only [go_sem,fN,seval,eT,iR,ha,Int.cast_ofNat_Int,hv,n1,n1',n0,BG,h99,hr,dT,dF,nL]);(repeat refine Ai ?_);(try (refine hK _ ?_;clear hK K));try refine iC ?_)) | refine Cg _ (hKn) ?_ | refine Cg _ (CT t.name) ?_ | refine Cg _ (hA) ?_ | refine Cg _ (hI) ?_)
   simp only [go_sem,fN,seval,AR,AS.result,AB,AE,AQ]
   rfl
  case pos =>
  by_cases h40:n < 40
  ·obtain ⟨c1,c2⟩:=ID n1 nl h99 hr h40
   rw [c1,if_neg (by omega)]
   have g40:¬ 40≤n:=by omega
   unfold Bf at hr
   refine Bu.ac fun C hC=>?_
   unfold Bg
   repeat' (first | (with_reducible first | refine W ?_ | refine Z0 ?_ | ((first | refine Wo fun K hK=>?_ | refine Wp ?_ | refine Wq ?_ | refine Wr ?_);(try simp only [go_sem,fN,seval,eT,iR,ha,Int.cast_ofNat_Int,hv,n1,n1',n0,BG,h99,hr,g40,dT,dF,nL]);(repeat refine Ai ?_);(try (refine hK _ ?_;clear hK K));try refine iC ?_)) | refine Cg _ (hKn) ?_ | refine Cg _ (CT t.name) ?_ | refine Cg _ (hA) ?_ | refine Cg _ (hI) ?_ | refine Cg _ (Ug n) ?_)
   simp only [go_sem,fN,seval,AR,AS.result,AB,AE,AQ]
   simp [Lm.kind_mk,Lm.idx_mk,Lm.subs_mk,Bh]
  ·have hc:BJ t.name=-1:=CU fun ⟨_,m,h1,_,h3⟩=>by
    rw [hq] at h1
    cases h1
    exact h40 h3
   have g40:40≤n:=by omega
   rw [hc,if_pos (by decide)]
   unfold Bf at hr
   refine Bu.ac fun C hC=>?_
   unfold Bg
   repeat' (first | (with_reducible first | refine W ?_ | refine Z0 ?_ | ((first | refine Wo fun K hK=>?_ | refine Wp ?_ | refine Wq ?_ | refine Wr ?_);(try simp only [go_sem,fN,seval,eT,iR,ha,Int.cast_ofNat_Int,hv,n1,n1',n0,BG,h99,hr,g40,dT,dF,nL]);(repeat refine Ai ?_);(try (refine hK _ ?_;clear hK K));try refine iC ?_)) | refine Cg _ (hKn) ?_ | refine Cg _ (CT t.name) ?_ | refine Cg _ (hA) ?_ | refine Cg _ (hI) ?_)
   simp only [go_sem,fN,seval,AR,AS.result,AB,AE,AQ]
   rfl
theorem Us (t:Tm) (hf:t.fm=true) (hc:t.chk=0):AW Tryz.prog 20 [aTm t] (.tup [aLm t.toL.1,Ad t.toL.2]):=by
 induction h:SizeOf.sizeOf t using Nat.strongRecOn generalizing t with
 | _ N ih =>
 subst h
 obtain ⟨hn,hcs⟩:=Tm.chk_name hc
 rcases Tm.fm_cases hf with ha | ⟨f,x,_,ha,hf1,hx1⟩
 ·rw [Tm.toL_leaf ha]
  exact Tl t ha hn
 have ihf:=ih _ (Tm.lt_of_arg (by rw [ha];simp)) f hf1 (Tm.chkL_mem hcs f (by rw [ha];simp)) rfl
 have ihx:=ih _ (Tm.lt_of_arg (by rw [ha];simp)) x hx1 (Tm.chkL_mem hcs x (by rw [ha];simp)) rfl
 rw [Tm.toL_ap ha]
 generalize f.toL=R at *
 generalize x.toL=R2 at *
 obtain ⟨y,e⟩:=R
 obtain ⟨y2,e2⟩:=R2
 by_cases he:e=0
 ·simp only [he,if_true] at ihf ⊢
  refine Bu.ac fun C hC=>?_
  unfold Bg
  repeat' (first | (with_reducible first | refine W ?_ | refine Z0 ?_ | ((first | refine Wo fun K hK=>?_ | refine Wp ?_ | refine Wq ?_ | refine Wr ?_);(try simp only [go_sem,fN,seval,eT,iR,ha,Int.cast_ofNat_Int,dT,dF,nL]);(repeat refine Ai ?_);(try (refine hK _ ?_;clear hK K));try refine iC ?_)) | refine Cg _ (ihf) ?_ | refine Cg _ (ihx) ?_ | refine Cg _ (Mu y y2) ?_)
  simp only [go_sem,fN,seval,AR,AS.result,AB,AE,AQ]
 ·simp only [he,if_false] at ihf ⊢
  refine Bu.ac fun C hC=>?_
  unfold Bg
  repeat' (first | (with_reducible first | refine W ?_ | refine Z0 ?_ | ((first | refine Wo fun K hK=>?_ | refine Wp ?_ | refine Wq ?_ | refine Wr ?_);(try simp only [go_sem,fN,seval,eT,iR,ha,Int.cast_ofNat_Int,he,dT,dF,nL]);(repeat refine Ai ?_);(try (refine hK _ ?_;clear hK K));try refine iC ?_)) | refine Cg _ (ihf) ?_)
  simp only [go_sem,fN,seval,AR,AS.result,AB,AE,AQ]
  rfl
theorem OG {t:Tm} (h:Dl t=0):t.fm=true∧t.chk=0∧t.size≤200:=by
 unfold Dl at h
 split at h
 ·rename_i h1
  have h2:=Si h1
  unfold Tm.may at h1
  rw [if_neg (by omega)] at h1
  refine ⟨?_,h1,h2⟩
  unfold IB at h
  split at h
  ·assumption
  ·cases h
 ·contradiction
def toR (t:Tm):Lm × Int:=if Dl t=0 then T2 t.toL else (Lm.nil,Dl t)
theorem Uw (t:Tm):AW Tryz.prog 9 [aTm t] (.tup [aLm (toR t).1,Ad (toR t).2]):=by
 unfold toR
 by_cases h:Dl t=0
 ·obtain ⟨hf,hc,hz⟩:=OG h
  rw [if_pos h]
  have hT:=Us t hf hc
  have hS:=Tm.toL_size _ t (Nat.lt_succ_self _) hf
  generalize t.toL=R at *
  obtain ⟨y,e⟩:=R
  unfold T2
  by_cases he:e=0
  ·simp only [he,if_true] at hT hS ⊢
   have hb:¬ (2000:Int) < y.size:=by omega
   refine Gl.ac fun C hC=>?_
   unfold Es
   repeat' (first | (with_reducible first | refine W ?_ | refine Z0 ?_ | ((first | refine Wo fun K hK=>?_ | refine Wp ?_ | refine Wq ?_ | refine Wr ?_);(try simp only [go_sem,fN,seval,eT,iR,h,hb,dT,dF,nL]);(repeat refine Ai ?_);(try (refine hK _ ?_;clear hK K));try refine iC ?_)) | refine Cg _ (Fj t) ?_ | refine Cg _ (hT) ?_ | refine Cg _ (Lr y (by omega)) ?_)
   simp only [go_sem,fN,seval,AR,AS.result,AB,AE,AQ]
  ·simp only [he,if_false] at hT ⊢
   refine Gl.ac fun C hC=>?_
   unfold Es
   repeat' (first | (with_reducible first | refine W ?_ | refine Z0 ?_ | ((first | refine Wo fun K hK=>?_ | refine Wp ?_ | refine Wq ?_ | refine Wr ?_);(try simp only [go_sem,fN,seval,eT,iR,h,he,dT,dF,nL]);(repeat refine Ai ?_);(try (refine hK _ ?_;clear hK K));try refine iC ?_)) | refine Cg _ (Fj t) ?_ | refine Cg _ (hT) ?_)
   simp only [go_sem,fN,seval,AR,AS.result,AB,AE,AQ]
   rfl
 ·rw [if_neg h]
  refine Gl.ac fun C hC=>?_
  unfold Es
  repeat' (first | (with_reducible first | refine W ?_ | refine Z0 ?_ | ((first | refine Wo fun K hK=>?_ | refine Wp ?_ | refine Wq ?_ | refine Wr ?_);(try simp only [go_sem,fN,seval,eT,iR,h,dT,dF,nL]);(repeat refine Ai ?_);(try (refine hK _ ?_;clear hK K));try refine iC ?_)) | refine Cg _ (Fj t) ?_)
  simp only [go_sem,fN,seval,AR,AS.result,AB,AE,AQ]
  rfl

inductive Cb (d:Nat):Tm→Prop
 | leaf (n:ByteArray) (h:n=iS ∨ n=kS ∨ n=sS ∨ (∃ j,j < 40∧n=cS ++ BT j) ∨ ∃ j,j < d∧n=vN j):Cb d (BB n)
 | ap {f x:Tm} (hf:Cb d f) (hx:Cb d x):Cb d (ap2 f x)
theorem Cb.fm {d:Nat} {t:Tm} (h:Cb d t):t.fm=true:=by
 induction h with
 | leaf n _=>exact DO n
 | ap _ _ ih1 ih2=>exact Hq ih1 ih2
theorem TF (v:ByteArray) (f x:Tm):(ap2 f x).hasN v=(decide (apS=v) || (f.hasN v || x.hasN v)):=by
 rw [ap2,Tm.hasN,Tm.hasNs,Tm.hasNs,Tm.hasNs,Bool.or_false]
theorem Ja (v n:ByteArray):(BB n).hasN v=decide (n=v):=by
 rw [BB,Tm.hasN,Tm.hasNs,Bool.or_false]
theorem Cb.down {d:Nat} {t:Tm} (h:Cb (d + 1) t):t.hasN (vN d)=false→Cb d t:=by
 induction h with
 | leaf n h =>
  intro hh
  rw [Ja] at hh
  simp only [decide_eq_false_iff_not] at hh
  refine .leaf n ?_
  rcases h with h | h | h | h | ⟨j,hj,rfl⟩
  ·exact .inl h
  ·exact .inr (.inl h)
  ·exact .inr (.inr (.inl h))
  ·exact .inr (.inr (.inr (.inl h)))
  ·refine .inr (.inr (.inr (.inr ⟨j,?_,rfl⟩)))
   rcases Nat.lt_or_ge j d with q | q
   ·exact q
   ·exact absurd (by rw [show j=d by omega]) hh
 | ap _ _ ih1 ih2 =>
  intro hh
  rw [TF,Bool.or_eq_false_iff,Bool.or_eq_false_iff] at hh
  exact .ap (ih1 hh.2.1) (ih2 hh.2.2)
theorem Uc {d:Nat}:Cb d (BB kS):=.leaf _ (.inr (.inl rfl))
theorem Ux {d:Nat}:Cb d (BB sS):=.leaf _ (.inr (.inr (.inl rfl)))
theorem Cb.br {d:Nat} {t:Tm} (h:Cb (d + 1) t):Cb d (t.br (vN d)):=by
 induction h with
 | leaf n h =>
  by_cases hh:(BB n).hasN (vN d)=true
  ·have hn:(BB n).name=vN d:=by
    rw [Ja] at hh
    exact of_decide_eq_true hh
   rw [Tm.br_self hh hn]
   exact .leaf _ (.inl rfl)
  ·rw [Bool.not_eq_true] at hh
   rw [Tm.br_none hh]
   exact .ap Uc ((Cb.leaf n h).down hh)
 | @ap f x hf hx ih1 ih2 =>
  by_cases hh:(ap2 f x).hasN (vN d)=true
  ·have hn:¬ (ap2 f x).name=vN d:=fun e=>N5.2.2.2 e.symm
   rw [Tm.br_ap hh hn rfl]
   split
   ·rename_i hc
    exact hf.down hc.2
   ·exact .ap (.ap Ux ih1) ih2
  ·rw [Bool.not_eq_true] at hh
   rw [Tm.br_none hh]
   exact .ap Uc ((Cb.ap hf hx).down hh)
theorem Ok:∀ j < 40,A9 (cS ++ BT j)=true∧D0 (cS ++ BT j)=false:=by decide +kernel
theorem Cb.chk {t:Tm} (h:Cb 0 t):t.chk=0:=by
 induction h with
 | leaf n h =>
  have hn:A9 n=true:=by
   rcases h with rfl | rfl | rfl | ⟨j,hj,rfl⟩ | ⟨j,hj,_⟩
   ·decide +kernel
   ·decide +kernel
   ·decide +kernel
   ·exact (Ok j hj).1
   ·omega
  have h1:FZ (BB n)=0:=by
   show (if A9 n=true then (if D0 n=true∧0 < ([]:List Tm).length then (2:Int) else 0) else 1)=0
   rw [if_pos hn,if_neg (fun h=>Nat.lt_irrefl 0 h.2)]
  rw [BB] at h1 ⊢
  rw [Tm.chk,if_pos h1,Tm.chkL]
 | @ap f x _ _ ih1 ih2 =>
  have h1:FZ (ap2 f x)=0:=by
   show (if A9 apS=true then (if D0 apS=true∧0 < [f,x].length then (2:Int) else 0) else 1)=0
   have e1:A9 apS=true:=by decide +kernel
   have e2:D0 apS=false:=by decide +kernel
   rw [if_pos e1,if_neg (fun h=>by rw [e2] at h;exact absurd h.1 (by decide))]
  rw [ap2] at h1 ⊢
  rw [Tm.chk,if_pos h1,Tm.chkL,if_pos ih1,Tm.chkL,if_pos ih2,Tm.chkL]
theorem Cb.toL {t:Tm} (h:Cb 0 t):t.toL.2=0:=by
 induction h with
 | leaf n h =>
  rw [Tm.toL_leaf rfl]
  show (Dg n).2=0
  unfold Dg
  split
  ·rfl
  split
  ·rfl
  split
  ·rfl
  rename_i n1 n2 n3
  rcases h with h | h | h | ⟨j,hj,rfl⟩ | ⟨j,hj,_⟩
  ·exact absurd h n1
  ·exact absurd h n2
  ·exact absurd h n3
  ·rw [if_neg (by rw [(Ok j hj).2];decide)]
   have hc:=PF (d:=0) hj
   unfold C1 at hc
   rw [if_neg n1,if_neg n2,if_neg n3] at hc
   simp only [List.range_zero,List.find?_nil,La.c.injEq,true_and] at hc
   rw [hc,if_neg (by omega)]
  ·omega
 | @ap f x _ _ ih1 ih2 =>
  rw [Tm.toL_ap rfl,if_pos ih1]
  exact ih2
theorem Ia:∀ (N:Nat) (t:Lm) (d:Nat),SizeOf.sizeOf t < N→d + t.size≤100→t.chk 0 d=0→((Lm.toC d t).2=0→Cb d (Lm.toC d t).1)∧((Lm.toC d t).2=0 ∨ (Lm.toC d t).2=8)
 | 0,t,d,h,_,_=>absurd h (Nat.not_lt_zero _)
 | N + 1,.mk k i xs,d,hN,hz,h=>by
  have hfit:∀ c:Tm,((FG c).2=0→(FG c).1=c)∧((FG c).2=0 ∨ (FG c).2=8):=fun c=>by
   unfold FG
   split
   ·exact ⟨fun h=>(absurd h (by decide)),.inr rfl⟩
   ·exact ⟨fun _=>rfl,.inl rfl⟩
  rw [Lm.chk] at h
  rw [Lm.size] at hz
  by_cases h1:1≤k∧k≤5∧(xs.length:Int)=DU k
  case neg =>
   rw [if_neg h1] at h
   exact absurd h (by decide)
  rw [if_pos h1] at h
  by_cases h2:0≤i∧i < A3 k d 0
  case neg =>
   rw [if_neg h2] at h
   exact absurd h (by decide)
  rw [if_pos h2] at h
  obtain ⟨p1,p2,p3⟩:=h1
  have hk:k=1 ∨ k=2 ∨ k=3 ∨ k=4 ∨ k=5:=by omega
  rcases hk with rfl | rfl | rfl | rfl | rfl
  ·have hi:i < d:=by unfold A3 at h2;simpa using h2.2
   obtain ⟨m,rfl⟩:∃ m:Nat,i=m:=⟨i.toNat,by omega⟩
   have e:((d:Int) - 1 - (m:Int)).toNat=d - 1 - m:=by omega
   rw [Lm.toC,if_pos rfl,e]
   exact ⟨fun _=>.leaf _ (.inr (.inr (.inr (.inr ⟨d - 1 - m,by omega,rfl⟩)))),.inl rfl⟩
  ·obtain ⟨b,rfl⟩:=LN (show (xs.length:Int)=1 by rw [p3];rfl)
   rw [Lm.chks] at h
   have hb:b.chk 0 (Aj 2 d)=0:=by
    split at h
    ·assumption
    ·rename_i hne;exact absurd h hne
   rw [EF] at hb
   simp only [Lm.sizes] at hz
   obtain ⟨g1,g2⟩:=Ia N b (d + 1) (by have:=Lm.lt_of_mem (a:=b) (k:=2) (i:=i) (xs:=[b]) (by simp);omega) (by omega) hb
   have hdn:(d:Int).toNat=d:=by omega
   rw [Lm.toC,if_neg (by decide),if_neg (by decide),Lm.toCs,Lm.toCs,EF,GS,hdn]
   by_cases h0:(Lm.toC ((d + 1:Nat):Int) b).2=0
   ·rw [if_pos h0]
    obtain ⟨q1,q2⟩:=hfit ((Lm.toC ((d + 1:Nat):Int) b).1.br (vS ++ BT d))
    refine ⟨fun he=>?_,q2⟩
    rw [q1 he]
    exact (g1 h0).br
   ·rw [if_neg h0]
    exact ⟨fun he=>absurd he h0,g2⟩
  ·obtain ⟨f,x,rfl⟩:=L9 (show (xs.length:Int)=2 by rw [p3];rfl)
   rw [Lm.chks,Lm.chks] at h
   have hf:f.chk 0 (Aj 3 d)=0∧x.chk 0 (Aj 3 d)=0:=by
    split at h
    ·rename_i hf
     refine ⟨hf,?_⟩
     split at h
     ·assumption
     ·rename_i hne;exact absurd h hne
    ·rename_i hne;exact absurd h hne
   rw [EK] at hf
   simp only [Lm.sizes] at hz
   obtain ⟨f1,f2⟩:=Ia N f d (by have:=Lm.lt_of_mem (a:=f) (k:=3) (i:=i) (xs:=[f,x]) (by simp);omega) (by omega) hf.1
   obtain ⟨x1,x2⟩:=Ia N x d (by have:=Lm.lt_of_mem (a:=x) (k:=3) (i:=i) (xs:=[f,x]) (by simp);omega) (by omega) hf.2
   rw [Lm.toC,if_neg (by decide),if_neg (by decide),Lm.toCs,Lm.toCs,Lm.toCs,EK,GS]
   by_cases h0:(Lm.toC d f).2=0
   ·rw [if_pos h0]
    by_cases h0':(Lm.toC d x).2=0
    ·rw [if_pos h0']
     obtain ⟨q1,q2⟩:=hfit (ap2 (Lm.toC d f).1 (Lm.toC d x).1)
     refine ⟨fun he=>?_,q2⟩
     rw [q1 he]
     exact .ap (f1 h0) (x1 h0')
    ·rw [if_neg h0']
     exact ⟨fun he=>absurd he h0',x2⟩
   ·rw [if_neg h0]
    exact ⟨fun he=>absurd he h0,f2⟩
  ·have hi:i < 40:=by unfold A3 at h2;simpa using h2.2
   obtain ⟨m,rfl⟩:∃ m:Nat,i=m:=⟨i.toNat,by omega⟩
   rw [Lm.toC,if_neg (by decide),if_pos rfl]
   exact ⟨fun _=>.leaf _ (.inr (.inr (.inr (.inl ⟨m,by omega,rfl⟩)))),.inl rfl⟩
  ·exfalso
   unfold A3 at h2
   simp at h2
   omega
def La.fin (d:Nat):La→Prop
 | .v n=>n < d
 | .c k i=>0≤i∧i < 40
 | .l b=>b.fin (d + 1)
 | .a f x=>f.fin d∧x.fin d
theorem IY:∀ (t:La) {d e:Nat} {r:Nat→Nat},(∀ n,n < d→r n < e)→t.fin d→(t.ren r).fin e
 | .v n,d,e,r,h,ht=>h n ht
 | .c k i,d,e,r,h,ht=>ht
 | .l b,d,e,r,h,ht=>IY b (d:=d + 1) (e:=e + 1) (fun n hn=>by
  cases n with
  | zero=>exact Nat.succ_pos e
  | succ n=>exact Nat.succ_lt_succ (h n (Nat.lt_of_succ_lt_succ hn))) ht
 | .a f x,d,e,r,h,ht=>⟨IY f h ht.1,IY x h ht.2⟩
theorem IT:∀ (t:La) {d e:Nat} {s:Nat→La},(∀ n,n < d→(s n).fin e)→t.fin d→(t.sub s).fin e
 | .v n,d,e,s,h,ht=>h n ht
 | .c k i,d,e,s,h,ht=>ht
 | .l b,d,e,s,h,ht=>IT b (d:=d + 1) (e:=e + 1) (fun n hn=>by
  cases n with
  | zero=>exact Nat.succ_pos e
  | succ n=>exact IY (s n) (fun m hm=>Nat.succ_lt_succ hm) (h n (Nat.lt_of_succ_lt_succ hn))) ht
 | .a f x,d,e,s,h,ht=>⟨IT f h ht.1,IT x h ht.2⟩
theorem B1.fin {t u:La} (h:B1 t u):∀ {d:Nat},t.fin d→u.fin d:=by
 induction h with
 | beta b x =>
  intro d ht
  refine IT b (fun n hn=>?_) ht.1
  cases n with
  | zero=>exact ht.2
  | succ n=>exact Nat.lt_of_succ_lt_succ hn
 | l _ ih=>exact fun ht=>ih (d:=_ + 1) ht
 | f _ ih=>exact fun ht=>⟨ih ht.1,ht.2⟩
 | x _ ih=>exact fun ht=>⟨ht.1,ih ht.2⟩
theorem NZ {t u:La} (h:Av B1 t u) {d:Nat} (ht:t.fin d):u.fin d:=by
 induction h with
 | refl=>exact ht
 | step h _ ih=>exact ih (h.fin ht)
theorem F_:∀ (t:La) (d:Nat),t.enc.chk 0 d=0 ↔ t.fin d
 | .v n,d=>by
  rw [La.enc,Lm.chk,if_pos (by decide)]
  unfold A3 La.fin
  rw [if_pos rfl,Lm.chks]
  split
  ·rename_i h;simp;omega
  ·rename_i h;simp;omega
 | .c k i,d=>by
  have e:A3 4 d 0=40:=by unfold A3;rw [if_neg (by decide),if_pos rfl]
  rw [La.enc,Lm.chk,if_pos (by decide),e,Lm.chks]
  unfold La.fin
  by_cases h:0≤i∧i < 40
  ·rw [if_pos h]
   exact ⟨fun _=>h,fun _=>rfl⟩
  ·rw [if_neg h]
   exact ⟨fun q=>absurd q (by decide),fun q=>absurd q h⟩
 | .l b,d=>by
  have e:A3 2 d 0=1:=by unfold A3;rw [if_neg (by decide),if_neg (by decide),if_neg (by decide)]
  rw [La.enc,Lm.chk,if_pos ⟨by decide,by decide,rfl⟩,e,if_pos ⟨by decide,by decide⟩,Lm.chks,Lm.chks,EF,La.fin,← F_ b (d + 1)]
  split <;> simp_all
 | .a f x,d=>by
  have e:A3 3 d 0=1:=by unfold A3;rw [if_neg (by decide),if_neg (by decide),if_neg (by decide)]
  rw [La.enc,Lm.chk,if_pos ⟨by decide,by decide,rfl⟩,e,if_pos ⟨by decide,by decide⟩,Lm.chks,Lm.chks,Lm.chks,EK,La.fin,← F_ f d,← F_ x d]
  split
  ·split <;> simp_all
  ·simp_all

end Go.Proofs.YtignopbnnaimaaaGreatDoor
