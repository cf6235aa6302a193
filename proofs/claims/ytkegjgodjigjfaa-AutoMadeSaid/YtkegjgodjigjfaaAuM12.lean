/-
  Part 12 of the texts. Conditions: none.
-/
import Derived.Test.YtkegjgodjigjfaaAuM11
import Derived.Sort.Walk0
import Derived.Lib.FrozenHead2
import Derived.Lib.OthersKept
import Derived.Shelf.Strings.BuilderK
namespace Go.Proofs.Ytkegjgodjigjfaa
open Go Go.RowKit
set_option linter.unusedVariables false
set_option linter.unusedSimpArgs false
set_option maxHeartbeats 4000000
theorem NH:∀ (E:List (List Bool)) (x:List Bool),Cm (E.map BF) (BF x)=E.idxOf x
 | [],x=>rfl
 | y :: E,x=>by
  rw [List.map_cons,Cm,List.idxOf_cons,NH E x]
  by_cases e:y=x
  ·subst e;simp
  ·rw [if_neg (fun h=>e (Ge h)),beq_false_of_ne e]
   rfl
def Em (n:Nat) (U:Nat→Nat→Bool) (j:Nat):List (List SV):=(List.range n).map fun k=>[.bool (U j k)]
theorem GQ (n:Nat) (U:Nat→Nat→Bool) (j:Nat):(Em n U j).length=n:=by simp [Em]
theorem IB {n:Nat} (U:Nat→Nat→Bool) (j:Nat) {k:Nat} (h:k < n):(Em n U j)[k]?=some [.bool (U j k)]:=by
 unfold Em
 rw [List.getElem?_map,List.getElem?_range h]
 rfl
def Bv (B n:Nat):List AC:=(List.range n).map fun j=>.row (B + j) n
theorem F8 (B n:Nat):(Bv B n).length=n:=by simp [Bv]
theorem Ee (B:Nat) {n j:Nat} (h:j < n):(Bv B n)[j]?=some (.row (B + j) n):=by
 unfold Bv
 rw [List.getElem?_map,List.getElem?_range h]
 rfl
def tmQ (n p:Nat) (x z:Tm):List Tm:=(List.range n).map fun q=>if q=p then x else z
theorem Ht (n p:Nat) (x z:Tm):(tmQ n p x z).length=n:=by simp [tmQ]
theorem SO {n p q:Nat} (x z:Tm) (h:q < n):(tmQ n p x z)[q]?=some (if q=p then x else z):=by
 unfold tmQ
 rw [List.getElem?_map,List.getElem?_range h]
 rfl
theorem SI {n p:Nat} {x z t:Tm} (h:t ∈ tmQ n p x z):t=x ∨ t=z:=by
 unfold tmQ at h
 obtain ⟨q,_,rfl⟩:=List.mem_map.1 h
 split
 ·exact .inl rfl
 ·exact .inr rfl
theorem Oe (a:Au) (nm:ByteArray) (n p:Nat) (x z:Tm):a.ends (.mk nm (tmQ n p x z))=a.ending nm (Kz n p (a.ends x) (a.ends z)):=by
 rw [Au.ends_eq,Au.endsL_eq]
 show a.ending nm ((tmQ n p x z).map a.ends)=_
 congr 1
 unfold tmQ Kz
 rw [List.map_map]
 refine List.map_congr_left fun q _=>?_
 show a.ends (if q=p then x else z)=_
 split <;> rfl
abbrev No (E:List (List Bool)):AL:=Rh (E.map BF)
theorem UG {E:List (List Bool)} {x:List Bool} (h:E.idxOf x < E.length):Cf (HJ 0 (E.map BF)) (.s (BF x))=some (AK ((E.idxOf x:Nat):Int)):=by
 rw [FA,NH,List.length_map,if_pos h,Nat.zero_add]
abbrev Xi (m:Mv) (r n:Nat):AL:=.box 39 [.st (.str m.name),.row r n]
def F_ (a:Au) (l:List Tm) (D A i k:Nat) (S:AB) (s:AS):Prop :=
 s.env 1=JU l∧s.env 2=.one (.mptr D)∧s.env 3=.one (.row A l.length)∧s.env 4=AK i∧s.env 5=AK k∧s.env 6=.one (.ptr 6 1 0 0)∧s.S 6=some (AE a)∧∀ j,1000≤j→s.S j=S j
theorem F_.drop {a:Au} {l:List Tm} {D A i k:Nat} {S:AB} {s:AS} (hS:Am S) (hA:1000≤A) (hD:1000≤D) (h:F_ a l D A i k S s):F_ a l D A i k S (s.drop [17,18,117,118]):=by
 obtain ⟨h1,h2,h3,h4,h5,h6,h7,h8⟩:=h
 have hd:∀ d ∈ [17,18,117,118],d < 1000:=by decide
 refine ⟨?_,?_,?_,?_,?_,?_,?_,fun j hj=>?_⟩
 ·simp [AS.drop,h1,AV.purge,AC.purge]
 ·simp [AS.drop,h2,AV.purge,AC.purge,show ¬ D=17 by omega,show ¬ D=18 by omega,show ¬ D=117 by omega,show ¬ D=118 by omega]
 ·simp [AS.drop,h3,AV.purge,AC.purge,show ¬ A=17 by omega,show ¬ A=18 by omega,show ¬ A=117 by omega,show ¬ A=118 by omega]
 ·simp [AS.drop,h4,AV.purge,AC.purge]
 ·simp [AS.drop,h5,AV.purge,AC.purge]
 ·simp [AS.drop,h6,AV.purge,AC.purge]
 ·simp [AS.drop,AY,h7,AE]
  rfl
 ·show (if _ then none else (s.S j).map _)=S j
  rw [Cp hd hj,if_neg (by simp),h8 j hj]
  cases hb:S j with
  | none=>rfl
  | some b=>rw [Option.map_some,AL.purge_high hd (hS j b hb).2]
theorem Va (a:Au) (ga:a.Good) (hsm:Ar a=true) (hm:a.moves.length≤100000) (l:List Tm) (hln:l.length≤64) (hnar:∀ t ∈ l,DE t) (hsh:XE a (l.map a.ends)) (U:Nat→Nat→Bool) (i k:Nat) (hi:i < l.length) (hk:k < l.length) (A B D:Nat) (S:AB) (hA:1000≤A) (hB:1000≤B) (hD:1000≤D)
  (sA:S A=some (.crow 55 (Bv B l.length))) (sD:S D=some (No (l.map a.ends))) (sB:∀ j,j < l.length→S (B + j)=some (.mrow 4 1 (Em l.length U j))) :
  A2 Try.prog 28 [aAu a,JU l,.one (.mptr D),.one (.row A l.length),AK i,AK k] S (Ag (Ck a (l.map a.ends) U i k)) S:=by
 refine Qb.acS fun hS C hC=>?_
 unfold JZ
 have n6:S 6=none:=A7 hS (by omega)
 have n17:S 17=none:=A7 hS (by omega)
 have n18:S 18=none:=A7 hS (by omega)
 have n117:S 117=none:=A7 hS (by omega)
 have n118:S 118=none:=A7 hS (by omega)
 have ha3:=Al hsm
 have hEl:(l.map a.ends).length=l.length:=List.length_map _
 have hll:(l.map A_).length=l.length:=List.length_map _
 have hml:(a.moves.map Ae).length=a.moves.length:=List.length_map _
 obtain ⟨xi,hxi⟩:=Ab hi
 obtain ⟨xk,hxk⟩:=Ab hk
 have gE:∀ {j:Nat} {x:Tm},l[j]?=some x→(l.map a.ends).getD j []=a.ends x:=fun {j x} h=>by
  rw [List.getD_eq_getElem?_getD,List.getElem?_map,h]
  rfl
 repeat' with_reducible first | refine W ?_ | refine Z0 ?_ | ((first | refine Wo fun K hK=>?_ | refine Wp ?_ | refine Wq ?_ | refine Wr ?_);(try simp only [go_sem,fN,seval,eT,iR,n6,dT,dF,nL]);(repeat refine Ai ?_);(try (refine hK _ ?_;clear hK K));try refine iC ?_)
 refine IWP.loopD [17,18,117,118] (fun q s=>∃ j,j≤a.moves.length∧q=a.moves.length - j∧F_ a l D A i k S s∧s.env 12=Ag false∧s.env 13=AK j∧(s.S 17=none∧s.S 18=none∧s.S 117=none∧s.S 118=none)∧∀ m ∈ a.moves.take j,LT a (l.map a.ends) U i k m=false) a.moves.length
  ⟨0,Nat.zero_le _,rfl,⟨rfl,rfl,rfl,rfl,rfl,rfl,by simp only [go_sem,fN,seval,eT,iR];rfl,fun j hj=>by simp [AS.drop,AS.set,AD,show ¬ j=6 by omega,show ¬ j=17 by omega,show ¬ j=18 by omega,show ¬ j=117 by omega,show ¬ j=118 by omega]⟩,rfl,rfl,by (simp only [go_sem,fN,seval,eT,iR];exact ⟨n17,n18,n117,n118⟩),by simp⟩ ?_
 rintro q ⟨env,S1⟩ ⟨j,hj,rfl,⟨e1,e2,e3,e4,e5,e6,s6,hS1⟩,e12,e13,⟨s17,s18,s117,s118⟩,hno⟩
 simp only at e1 e2 e3 e4 e5 e6 s6 hS1 e12 e13 s17 s18 s117 s118
 by_cases hjl:(j:Int) < a.moves.length
 ·obtain ⟨m,hmj⟩:=Ab (show j < a.moves.length by omega)
  have hmm:=AM hmj
  have hm2:m.frm.length≤2:=by
   have:=hsm
   unfold Ar at this
   simp only [Bool.and_eq_true,List.all_eq_true,decide_eq_true_eq] at this
   exact this.2 m hmm
  have hm2':¬ (2:Int) < m.frm.length:=by omega
  have hsn:∀ (h:LT a (l.map a.ends) U i k m=false),∀ x ∈ a.moves.take (j + 1),LT a (l.map a.ends) U i k x=false:=fun h x hx=>by
   rw [AQ hmj,List.mem_append,List.mem_singleton] at hx
   rcases hx with hx | rfl
   ·exact hno x hx
   ·exact h
  by_cases h0:m.frm.length=0
  ·have h0':((m.frm.length:Nat):Int)=0:=by omega
   repeat' with_reducible first | refine W ?_ | refine Z0 ?_ | ((first | refine Wo fun K hK=>?_ | refine Wp ?_ | refine Wq ?_ | refine Wr ?_);(try simp only [go_sem,fN,seval,eT,iR,e1,e2,e3,e4,e5,e6,s6,e12,e13,AE,hjl,hmj,hml,Ae,h0,h0',dT,dF,nL]);(repeat refine Ai ?_);(try (refine hK _ ?_;clear hK K));try refine iC ?_)
   refine AA ⟨a.moves.length - (j + 1),by omega,j + 1,by omega,rfl,F_.drop hS hA hD ⟨e1,e2,e3,e4,e5,e6,s6,hS1⟩,?_,?_,?_,hsn (by unfold LT;rw [h0];rfl)⟩
   ·simp only [go_sem,fN,seval,AS.drop,AY,AC.clears,AC.clear,AC.highs,AC.high,Bool.not_false,Bool.true_and,Bool.and_self,AV.purge,AV.purges,AC.purge,AL.purge,List.contains_cons,List.contains_nil,Nat.reduceBEq,Bool.or_self,Bool.or_false,Bool.false_or,Bool.or_true,eT,iR,e12]
   ·rfl
   ·simp only [go_sem,fN,seval,AS.drop,AY,AC.clears,AC.clear,AC.highs,AC.high,Bool.not_false,Bool.true_and,Bool.and_self,AV.purge,AV.purges,AC.purge,AL.purge,List.contains_cons,List.contains_nil,Nat.reduceBEq,Bool.or_self,Bool.or_false,Bool.false_or,Bool.or_true,eT,iR,s17,s18,s117,s118]
  ·have h0':¬ ((m.frm.length:Nat):Int)=0:=by omega
   repeat' with_reducible first | refine W ?_ | refine Z0 ?_ | ((first | refine Wo fun K hK=>?_ | refine Wp ?_ | refine Wq ?_ | refine Wr ?_);(try simp only [go_sem,fN,seval,eT,iR,e1,e2,e3,e4,e5,e6,s6,e12,e13,AE,hjl,hmj,hml,Ae,h0,h0',hm2',dT,dF,nL]);(repeat refine Ai ?_);(try (refine hK _ ?_;clear hK K));try refine iC ?_)
   refine IWP.loopD [17,18,117,118] (fun q s=>∃ p,p≤m.frm.length∧q=m.frm.length - p∧F_ a l D A i k S s∧s.env 12=Ag false∧s.env 13=AK j∧s.env 14=AK m.frm.length∧s.env 15=AK p∧(s.S 17=none∧s.S 18=none∧s.S 117=none∧s.S 118=none)∧∀ p' < p,SD a (l.map a.ends) U i k m p'=false) m.frm.length
    ⟨0,Nat.zero_le _,rfl,⟨e1,e2,e3,e4,e5,e6,s6,hS1⟩,e12,e13,rfl,rfl,⟨s17,s18,s117,s118⟩,by omega⟩ ?_
   clear e1 e2 e3 e4 e5 e6 s6 hS1 e12 e13 s17 s18 s117 s118
   rintro q ⟨env,S1⟩ ⟨p,hp,rfl,⟨e1,e2,e3,e4,e5,e6,s6,hS1⟩,e12,e13,e14,e15,⟨s17,s18,s117,s118⟩,hnp⟩
   simp only at e1 e2 e3 e4 e5 e6 s6 hS1 e12 e13 e14 e15 s17 s18 s117 s118
   by_cases hpl:(p:Int) < m.frm.length
   ·repeat' with_reducible first | refine W ?_ | refine Z0 ?_ | ((first | refine Wo fun K hK=>?_ | refine Wp ?_ | refine Wq ?_ | refine Wr ?_);(try simp only [go_sem,fN,seval,eT,iR,e1,e2,e3,e4,e5,e6,e12,e13,e14,e15,hpl,dT,dF,nL]);(repeat refine Ai ?_);(try (refine hK _ ?_;clear hK K));try refine iC ?_)
    refine IWP.loopD [17,18,117,118] (fun q s=>∃ o,o≤l.length∧q=l.length - o∧F_ a l D A i k S s∧s.env 12=Ag false∧s.env 13=AK j∧s.env 14=AK m.frm.length∧s.env 15=AK p∧s.env 16=AK o∧(s.S 17=none∧s.S 18=none∧s.S 117=none∧s.S 118=none)∧∀ o' < o,U (Gq a (l.map a.ends) m p i o') (Gq a (l.map a.ends) m p k o')=false) l.length
     ⟨0,Nat.zero_le _,rfl,⟨e1,e2,e3,e4,e5,e6,s6,hS1⟩,e12,e13,e14,e15,rfl,⟨s17,s18,s117,s118⟩,by omega⟩ ?_
    clear e1 e2 e3 e4 e5 e6 s6 hS1 e12 e13 e14 e15 s17 s18 s117 s118
    rintro q ⟨env,S1⟩ ⟨o,ho,rfl,⟨e1,e2,e3,e4,e5,e6,s6,hS1⟩,e12,e13,e14,e15,e16,⟨s17,s18,s117,s118⟩,hnq⟩
    simp only at e1 e2 e3 e4 e5 e6 s6 hS1 e12 e13 e14 e15 e16 s17 s18 s117 s118
    by_cases hol:(o:Int) < l.length
    ·obtain ⟨xo,hxo⟩:=Ab (show o < l.length by omega)
     repeat' with_reducible first | refine W ?_ | refine Z0 ?_ | ((first | refine Wo fun K hK=>?_ | refine Wp ?_ | refine Wq ?_ | refine Wr ?_);(try simp only [go_sem,fN,seval,eT,iR,e1,e2,e3,e4,e5,e6,s6,e12,e13,e14,e15,e16,s17,s18,AE,hol,hll,hmj,hml,Ae,dT,dF,nL]);(repeat refine Ai ?_);(try (refine hK _ ?_;clear hK K));try refine iC ?_)
     refine IWP.ghost (Ad.ownCellA (e':=39) (id:=17) (r:=117) (cs:=[.st (.str m.name),.full []]) (e:=39) 1 2 (by simp only [go_sem,fN,seval,eT,iR]) rfl (by simp only [go_sem,fN,seval,eT,iR,s117]) (by decide)) ?_
     refine IWP.ghost (Ad.ownCellA (e':=39) (id:=18) (r:=118) (cs:=[.st (.str m.name),.full []]) (e:=39) 1 2 (by simp only [go_sem,fN,seval,eT,iR]) rfl (by simp only [go_sem,fN,seval,eT,iR,s118]) (by decide)) ?_
     refine IWP.loop (fun q s=>∃ c,c≤m.frm.length∧q=m.frm.length - c∧F_ a l D A i k S s∧s.env 12=Ag false∧s.env 13=AK j∧s.env 14=AK m.frm.length∧s.env 15=AK p∧s.env 16=AK o∧s.env 17=.one (.ptr 17 1 0 0)∧s.env 18=.one (.ptr 18 1 0 0)∧s.env 19=AK c∧s.S 17=some (Xi m 117 c)∧s.S 18=some (Xi m 118 c)∧s.S 117=some (.arow 39 2 (((tmQ m.frm.length p xi xo).take c).map A_))∧s.S 118=some (.arow 39 2 (((tmQ m.frm.length p xk xo).take c).map A_))) m.frm.length
      ⟨0,Nat.zero_le _,rfl,⟨e1,e2,e3,e4,e5,e6,by simp only [go_sem,fN,seval,eT,iR,s6],fun j hj=>by simp only [go_sem,fN,seval,eT,iR];simp [AS.set,AD,show ¬ j=17 by omega,show ¬ j=18 by omega,show ¬ j=117 by omega,show ¬ j=118 by omega,hS1 j hj]⟩,e12,e13,e14,e15,e16,rfl,rfl,rfl,by (simp only [go_sem,fN,seval,eT,iR];rfl),by (simp only [go_sem,fN,seval,eT,iR];rfl),by simp only [go_sem,fN,seval,eT,iR],by simp only [go_sem,fN,seval,eT,iR]⟩ ?_
     clear e1 e2 e3 e4 e5 e6 s6 hS1 e12 e13 e14 e15 e16 s17 s18 s117 s118
     rintro q ⟨env,S1⟩ ⟨c,hc,rfl,⟨e1,e2,e3,e4,e5,e6,s6,hS1⟩,e12,e13,e14,e15,e16,e17,e18,e19,s17,s18,s117,s118⟩
     simp only at e1 e2 e3 e4 e5 e6 s6 hS1 e12 e13 e14 e15 e16 e17 e18 e19 s17 s18 s117 s118
     have hl117:(((tmQ m.frm.length p xi xo).take c).map A_).length=c:=by rw [List.length_map,List.length_take,Ht];omega
     have hl118:(((tmQ m.frm.length p xk xo).take c).map A_).length=c:=by rw [List.length_map,List.length_take,Ht];omega
     by_cases hcl:(c:Int) < m.frm.length
     ·have hcl':c < m.frm.length:=by omega
      have g1:=SO (p:=p) xi xo hcl'
      have g2:=SO (p:=p) xk xo hcl'
      by_cases hcp:c=p
      ·subst hcp
       rw [if_pos rfl] at g1 g2
       repeat' with_reducible first | refine W ?_ | refine Z0 ?_ | ((first | refine Wo fun K hK=>?_ | refine Wp ?_ | refine Wq ?_ | refine Wr ?_);(try simp only [go_sem,fN,seval,eT,iR,e1,e2,e3,e4,e5,e6,e12,e13,e14,e15,e16,e17,e18,e19,s17,s18,s117,s118,hcl,hi,hk,hxi,hxk,hll,hl117,hl118,dT,dF,nL]);(repeat refine Ai ?_);(try (refine hK _ ?_;clear hK K));try refine iC ?_)
       refine AA ⟨m.frm.length - (c + 1),by omega,c + 1,by omega,rfl,⟨e1,e2,e3,e4,e5,e6,by simp only [go_sem,fN,seval,eT,iR,s6],fun j hj=>by simp [AS.set,AD,show ¬ j=17 by omega,show ¬ j=18 by omega,show ¬ j=117 by omega,show ¬ j=118 by omega,hS1 j hj]⟩,e12,e13,e14,e15,e16,e17,e18,rfl,?_,?_,?_,?_⟩
       ·simp only [go_sem,fN,seval,eT,iR]
       ·simp only [go_sem,fN,seval,eT,iR]
       ·rw [AQ g1,List.map_append]
        simp only [go_sem,fN,seval,eT,iR]
       ·rw [AQ g2,List.map_append]
        simp only [go_sem,fN,seval,eT,iR]
      ·have hcp':¬ ((c:Nat):Int)=(p:Int):=by omega
       rw [if_neg hcp] at g1 g2
       have hol2:o < l.length:=by omega
       repeat' with_reducible first | refine W ?_ | refine Z0 ?_ | ((first | refine Wo fun K hK=>?_ | refine Wp ?_ | refine Wq ?_ | refine Wr ?_);(try simp only [go_sem,fN,seval,eT,iR,e1,e2,e3,e4,e5,e6,e12,e13,e14,e15,e16,e17,e18,e19,s17,s18,s117,s118,hcl,hcp',hol,hol2,hxo,hll,hl117,hl118,dT,dF,nL]);(repeat refine Ai ?_);(try (refine hK _ ?_;clear hK K));try refine iC ?_)
       refine AA ⟨m.frm.length - (c + 1),by omega,c + 1,by omega,rfl,⟨e1,e2,e3,e4,e5,e6,by simp only [go_sem,fN,seval,eT,iR,s6],fun j hj=>by simp [AS.set,AD,show ¬ j=17 by omega,show ¬ j=18 by omega,show ¬ j=117 by omega,show ¬ j=118 by omega,hS1 j hj]⟩,e12,e13,e14,e15,e16,e17,e18,rfl,?_,?_,?_,?_⟩
       ·simp only [go_sem,fN,seval,eT,iR]
       ·simp only [go_sem,fN,seval,eT,iR]
       ·rw [AQ g1,List.map_append]
        simp only [go_sem,fN,seval,eT,iR]
       ·rw [AQ g2,List.map_append]
        simp only [go_sem,fN,seval,eT,iR]
     ·have hce:c=m.frm.length:=by omega
      rw [List.take_of_length_le (by rw [Ht];omega)] at s117 s118 hl117 hl118
      have hirr:¬ (m.frm.length:Int) < m.frm.length:=by omega
      have hoo:o < l.length:=by omega
      have hpp:p < m.frm.length:=by omega
      have hxim:=AM hxi
      have hxkm:=AM hxk
      have hxom:=AM hxo
      have na1:DE (.mk m.name (tmQ m.frm.length p xi xo)):=.mk (by rw [Ht];omega) fun t ht=>by
       rcases SI ht with rfl | rfl
       ·exact hnar _ hxim
       ·exact hnar _ hxom
      have na2:DE (.mk m.name (tmQ m.frm.length p xk xo)):=.mk (by rw [Ht];omega) fun t ht=>by
       rcases SI ht with rfl | rfl
       ·exact hnar _ hxkm
       ·exact hnar _ hxom
      have cE1:=E2 a ga (by omega) hm _ na1
      have cE2:=E2 a ga (by omega) hm _ na2
      have el1:(a.ends (.mk m.name (tmQ m.frm.length p xi xo))).length≤3:=by rw [Au.ends_length];omega
      have el2:(a.ends (.mk m.name (tmQ m.frm.length p xk xo))).length≤3:=by rw [Au.ends_length];omega
      have cT1:=Kg (a.ends (.mk m.name (tmQ m.frm.length p xi xo))) (by omega)
      have cT2:=Kg (a.ends (.mk m.name (tmQ m.frm.length p xk xo))) (by omega)
      have q1:=hsh m hmm p i o hpp (by rw [hEl];exact hi) (by rw [hEl];exact hoo)
      have q2:=hsh m hmm p k o hpp (by rw [hEl];exact hk) (by rw [hEl];exact hoo)
      have r1:Gq a (l.map a.ends) m p i o=(l.map a.ends).idxOf (a.ends (.mk m.name (tmQ m.frm.length p xi xo))):=by unfold Gq;rw [gE hxi,gE hxo,Oe]
      have r2:Gq a (l.map a.ends) m p k o=(l.map a.ends).idxOf (a.ends (.mk m.name (tmQ m.frm.length p xk xo))):=by unfold Gq;rw [gE hxk,gE hxo,Oe]
      have l1:=UG (x:=a.ends (.mk m.name (tmQ m.frm.length p xi xo))) (by rw [← r1];exact q1)
      have l2:=UG (x:=a.ends (.mk m.name (tmQ m.frm.length p xk xo))) (by rw [← r2];exact q2)
      rw [← r1] at l1
      rw [← r2] at l2
      obtain ⟨p1,hp1⟩:∃ p1,Gq a (l.map a.ends) m p i o=p1:=⟨_,rfl⟩
      obtain ⟨p2,hp2⟩:∃ p2,Gq a (l.map a.ends) m p k o=p2:=⟨_,rfl⟩
      rw [hp1] at l1 q1
      rw [hp2] at l2 q2
      rw [hEl] at q1 q2
      have tA:=(hS1 A hA).trans sA
      have tD:=(hS1 D hD).trans sD
      have tB:=(hS1 (B + p1) (by omega)).trans (sB p1 q1)
      have hcA:=Ee B q1
      have hclA:=F8 B l.length
      have hrE:=IB U p1 q2
      have hrl:=GQ l.length U p1
      unfold No Rh at tD
      cases hv:U p1 p2 with
      | true =>
       have hres:Ck a (l.map a.ends) U i k=true:=List.any_eq_true.2 ⟨m,hmm,List.any_eq_true.2 ⟨p,List.mem_range.2 hpp,List.any_eq_true.2 ⟨o,List.mem_range.2 (by rw [hEl];exact hoo),by rw [hp1,hp2];exact hv⟩⟩⟩
       repeat' (first | (with_reducible first | refine W ?_ | refine Z0 ?_ | ((first | refine Wo fun K hK=>?_ | refine Wp ?_ | refine Wq ?_ | refine Wr ?_);(try simp only [go_sem,fN,seval,eT,iR,e1,e2,e3,e4,e5,e6,s6,e12,e13,e14,e15,e16,e17,e18,e19,s17,s18,s117,s118,AE,hce,hirr,Nat.lt_irrefl,hl117,hl118,tA,tD,tB,hcA,hclA,hrE,hrl,q1,q2,l1,l2,Bu,EF,KV.of,G7,hv,dT,dF,nL]);(repeat refine Ai ?_);(try (refine hK _ ?_;clear hK K));try refine iC ?_)) | refine Cg _ (cE1) ?_ | refine Cg _ (cT1) ?_ | refine Cg _ (cE2) ?_ | refine Cg _ (cT2) ?_)
       refine CU (Ag true) hS trivial rfl (by rw [hres];rfl) fun j hj=>?_
       simp [AS.set,AD,hS1 j hj]
      | false =>
       repeat' (first | (with_reducible first | refine W ?_ | refine Z0 ?_ | ((first | refine Wo fun K hK=>?_ | refine Wp ?_ | refine Wq ?_ | refine Wr ?_);(try simp only [go_sem,fN,seval,eT,iR,e1,e2,e3,e4,e5,e6,s6,e12,e13,e14,e15,e16,e17,e18,e19,s17,s18,s117,s118,AE,hce,hirr,Nat.lt_irrefl,hl117,hl118,tA,tD,tB,hcA,hclA,hrE,hrl,q1,q2,l1,l2,Bu,EF,KV.of,G7,hv,dT,dF,nL]);(repeat refine Ai ?_);(try (refine hK _ ?_;clear hK K));try refine iC ?_)) | refine Cg _ (cE1) ?_ | refine Cg _ (cT1) ?_ | refine Cg _ (cE2) ?_ | refine Cg _ (cT2) ?_)
       refine AA ⟨l.length - (o + 1),by omega,o + 1,by omega,rfl,F_.drop hS hA hD ⟨e1,e2,e3,e4,e5,e6,s6,hS1⟩,?_,?_,?_,?_,?_,?_,fun o' ho'=>?_⟩
       ·simp only [go_sem,fN,seval,AS.drop,AY,AC.clears,AC.clear,AC.highs,AC.high,Bool.not_false,Bool.true_and,Bool.and_self,AV.purge,AV.purges,AC.purge,AL.purge,List.contains_cons,List.contains_nil,Nat.reduceBEq,Bool.or_self,Bool.or_false,Bool.false_or,Bool.or_true,eT,iR,e12]
       ·simp only [go_sem,fN,seval,AS.drop,AY,AC.clears,AC.clear,AC.highs,AC.high,Bool.not_false,Bool.true_and,Bool.and_self,AV.purge,AV.purges,AC.purge,AL.purge,List.contains_cons,List.contains_nil,Nat.reduceBEq,Bool.or_self,Bool.or_false,Bool.false_or,Bool.or_true,eT,iR,e13]
       ·simp only [go_sem,fN,seval,AS.drop,AY,AC.clears,AC.clear,AC.highs,AC.high,Bool.not_false,Bool.true_and,Bool.and_self,AV.purge,AV.purges,AC.purge,AL.purge,List.contains_cons,List.contains_nil,Nat.reduceBEq,Bool.or_self,Bool.or_false,Bool.false_or,Bool.or_true,eT,iR,e14]
       ·simp only [go_sem,fN,seval,AS.drop,AY,AC.clears,AC.clear,AC.highs,AC.high,Bool.not_false,Bool.true_and,Bool.and_self,AV.purge,AV.purges,AC.purge,AL.purge,List.contains_cons,List.contains_nil,Nat.reduceBEq,Bool.or_self,Bool.or_false,Bool.false_or,Bool.or_true,eT,iR,e15]
       ·rfl
       ·exact ⟨rfl,rfl,rfl,rfl⟩
       ·rcases Nat.lt_or_ge o' o with h | h
        ·exact hnq o' h
        ·rw [show o'=o by omega,hp1,hp2]
         exact hv
    ·have hoe:o=l.length:=by omega
     repeat' with_reducible first | refine W ?_ | refine Z0 ?_ | ((first | refine Wo fun K hK=>?_ | refine Wp ?_ | refine Wq ?_ | refine Wr ?_);(try simp only [go_sem,fN,seval,eT,iR,e1,e2,e3,e4,e5,e6,e12,e13,e14,e15,e16,hol,hll,dT,dF,nL]);(repeat refine Ai ?_);(try (refine hK _ ?_;clear hK K));try refine iC ?_)
     refine AA ⟨m.frm.length - (p + 1),by omega,p + 1,by omega,rfl,F_.drop hS hA hD ⟨e1,e2,e3,e4,e5,e6,s6,hS1⟩,?_,?_,?_,?_,?_,fun p' hp'=>?_⟩
     ·simp only [go_sem,fN,seval,AS.drop,AY,AC.clears,AC.clear,AC.highs,AC.high,Bool.not_false,Bool.true_and,Bool.and_self,AV.purge,AV.purges,AC.purge,AL.purge,List.contains_cons,List.contains_nil,Nat.reduceBEq,Bool.or_self,Bool.or_false,Bool.false_or,Bool.or_true,eT,iR,e12]
     ·simp only [go_sem,fN,seval,AS.drop,AY,AC.clears,AC.clear,AC.highs,AC.high,Bool.not_false,Bool.true_and,Bool.and_self,AV.purge,AV.purges,AC.purge,AL.purge,List.contains_cons,List.contains_nil,Nat.reduceBEq,Bool.or_self,Bool.or_false,Bool.false_or,Bool.or_true,eT,iR,e13]
     ·simp only [go_sem,fN,seval,AS.drop,AY,AC.clears,AC.clear,AC.highs,AC.high,Bool.not_false,Bool.true_and,Bool.and_self,AV.purge,AV.purges,AC.purge,AL.purge,List.contains_cons,List.contains_nil,Nat.reduceBEq,Bool.or_self,Bool.or_false,Bool.false_or,Bool.or_true,eT,iR,e14]
     ·rfl
     ·exact ⟨rfl,rfl,rfl,rfl⟩
     ·rcases Nat.lt_or_ge p' p with h | h
      ·exact hnp p' h
      ·rw [show p'=p by omega]
       unfold SD
       rw [List.any_eq_false]
       intro o' ho'
       have:=List.mem_range.1 ho'
       rw [hEl] at this
       rw [hnq o' (by omega)]
       simp
   ·have hpe:p=m.frm.length:=by omega
    repeat' with_reducible first | refine W ?_ | refine Z0 ?_ | ((first | refine Wo fun K hK=>?_ | refine Wp ?_ | refine Wq ?_ | refine Wr ?_);(try simp only [go_sem,fN,seval,eT,iR,e1,e2,e3,e4,e5,e6,e12,e13,e14,e15,hpl,dT,dF,nL]);(repeat refine Ai ?_);(try (refine hK _ ?_;clear hK K));try refine iC ?_)
    refine AA ⟨a.moves.length - (j + 1),by omega,j + 1,by omega,rfl,F_.drop hS hA hD ⟨e1,e2,e3,e4,e5,e6,s6,hS1⟩,?_,?_,?_,hsn ?_⟩
    ·simp only [go_sem,fN,seval,AS.drop,AY,AC.clears,AC.clear,AC.highs,AC.high,Bool.not_false,Bool.true_and,Bool.and_self,AV.purge,AV.purges,AC.purge,AL.purge,List.contains_cons,List.contains_nil,Nat.reduceBEq,Bool.or_self,Bool.or_false,Bool.false_or,Bool.or_true,eT,iR,e12]
    ·rfl
    ·exact ⟨rfl,rfl,rfl,rfl⟩
    ·unfold LT
     rw [List.any_eq_false]
     intro p' hp'
     have:=List.mem_range.1 hp'
     rw [hnp p' (by omega)]
     simp
 ·have hje:j=a.moves.length:=by omega
  rw [hje,List.take_length] at hno
  have hres:Ck a (l.map a.ends) U i k=false:=by
   unfold Ck
   rw [List.any_eq_false]
   intro m hm
   rw [hno m hm]
   simp
  repeat' with_reducible first | refine W ?_ | refine Z0 ?_ | ((first | refine Wo fun K hK=>?_ | refine Wp ?_ | refine Wq ?_ | refine Wr ?_);(try simp only [go_sem,fN,seval,eT,iR,e1,e2,e3,e4,e5,e6,s6,e12,e13,AE,hjl,hml,dT,dF,nL]);(repeat refine Ai ?_);(try (refine hK _ ?_;clear hK K));try refine iC ?_)
  refine CU (Ag false) hS trivial rfl (by rw [hres];rfl) fun j hj=>?_
  exact hS1 j hj

def Fw (n:Nat) (f:Nat→Bool):List (List SV):=(List.range n).map fun k=>[.bool (f k)]
theorem Uq (n:Nat) (f:Nat→Bool):(Fw n f).length=n:=by simp [Fw]
theorem Us {n:Nat} (f:Nat→Bool) {k:Nat} (h:k < n):(Fw n f)[k]?=some [.bool (f k)]:=by
 unfold Fw
 rw [List.getElem?_map,List.getElem?_range h]
 rfl
theorem LG {n k:Nat} (f:Nat→Bool) (b:Bool):(Fw n f).set k [.bool b]=Fw n fun x=>if x=k then b else f x:=by
 refine List.ext_getElem (by simp [Fw]) fun i h1 h2=>?_
 simp only [Fw,List.getElem_set,List.getElem_map,List.getElem_range]
 by_cases e:k=i
 ·subst e;simp
 ·rw [if_neg e,if_neg (fun h=>e h.symm)]
theorem DR {n:Nat} {f g:Nat→Bool} (h:∀ k,k < n→f k=g k):Fw n f=Fw n g:=by
 unfold Fw
 exact List.map_congr_left fun k hk=>by rw [h k (List.mem_range.1 hk)]
theorem RG (n:Nat):List.replicate n [SV.bool false]=Fw n fun _=>false:=by
 refine List.ext_getElem (by simp [Fw]) fun i h1 h2=>?_
 simp [Fw]
def B2 (n i:Nat):List AC:=(List.range n).map fun j=>if j < i then .row (600 + j) n else .st (.list [])
theorem RK (n i:Nat):(B2 n i).length=n:=by simp [B2]
theorem Qi {n i:Nat}:(B2 n i).set i (.row (600 + i) n)=B2 n (i + 1):=by
 refine List.ext_getElem (by simp [B2]) fun j h1 h2=>?_
 simp only [B2,List.getElem_set,List.getElem_map,List.getElem_range]
 by_cases e:i=j
 ·subst e;simp
 ·rw [if_neg e]
  by_cases h:j < i
  ·rw [if_pos h,if_pos (by omega)]
  ·rw [if_neg h,if_neg (by omega)]
theorem RL (n:Nat):B2 n n=Bv 600 n:=by
 unfold B2 Bv
 exact List.map_congr_left fun j hj=>by rw [if_pos (List.mem_range.1 hj)]
theorem O7 (n:Nat):B2 n 0=(List.replicate n (SV.list [])).map AC.st:=by
 refine List.ext_getElem (by simp [B2]) fun i h1 h2=>?_
 simp [B2]
theorem Oi (n:Nat):AC.rens up1 (Bv 600 n)=Bv 1600 n:=by
 rw [AC.rens_eq]
 unfold Bv
 rw [List.map_map]
 refine List.map_congr_left fun j hj=>?_
 show AC.row (up1 (600 + j)) n=AC.row (1600 + j) n
 rw [show up1 (600 + j)=1600 + j by unfold up1;omega]
theorem Dp {j m:Nat} (h:m < 600:=by decide):(600 + j=m)=False:=eq_false (by omega)
theorem I7 {j m:Nat} (h:m < 600:=by decide):(m=600 + j)=False:=eq_false (by omega)
theorem I3 {i j:Nat}:(600 + i=600 + j)=(i=j):=propext ⟨fun h=>by omega,fun h=>by omega⟩
theorem Tf {cs:List AC} {k:Nat} {c:AC} (h:k < cs.length):cs.take k ++ [c] ++ cs.drop (k + 1)=cs.set k c:=by
 rw [List.set_eq_take_append_cons_drop,if_pos h]
 simp
theorem Ns (n i:Nat):(B2 n i).map (AC.purge [47])=B2 n i:=by
 unfold B2
 rw [List.map_map]
 refine List.map_congr_left fun j hj=>?_
 show (if j < i then AC.row (600 + j) n else AC.st (.list [])).purge [47]=_
 split
 ·show (if ([47]:List Nat).contains (600 + j)=true then AC.any else _)=_
  rw [if_neg (by simp;omega)]
 ·rfl
theorem Wz {n i k:Nat} (W0:Nat→Nat→Bool) (h:¬ i=k):(Em n W0 i).set k [.bool true]=Em n (F7 W0 i k) i :=
 (LG (W0 i) true).trans (DR fun x hx=>by
  unfold F7
  by_cases e:x=k
  ·simp [e]
  ·simp [e,h])
theorem Ws {n i k:Nat} (W0:Nat→Nat→Bool) (h:¬ k=i):(Em n W0 k).set i [.bool true]=Em n (F7 W0 i k) k :=
 (LG (W0 k) true).trans (DR fun x hx=>by
  unfold F7
  by_cases e:x=i
  ·simp [e]
  ·simp [e,h])
theorem W3 {n i k j:Nat} (W0:Nat→Nat→Bool) (h1:¬ j=i) (h2:¬ j=k):Em n W0 j=Em n (F7 W0 i k) j:=DR fun x hx=>by simp [F7,h1,h2]
def KI (a:Au) (l:List Tm) (s:AS):Prop:=s.env 1=.one (.ptr 1 1 0 0)∧s.env 3=JU l∧s.env 4=AK l.length∧s.env 5=.one (.mptr 22)∧s.env 7=.one (.row 38 l.length)∧s.S 1=some (AE a)∧s.S 22=some (No (l.map a.ends))
def KR (l:List Tm) (U:Nat→Nat→Bool) (s:AS):Prop:=(0 < l.length→s.S 38=some (.crow 55 (Bv 600 l.length)))∧∀ j,j < l.length→s.S (600 + j)=some (.mrow 4 1 (Em l.length U j))
theorem Tn (a:Au) (ga:a.Good) (hsm:Ar a=true) (hm:a.moves.length≤100000) (T:Nat) (hT:nK a (Ao [a]) (BI a auZ (Ao [a])) T=Ct a (Ao [a]) (BI a auZ (Ao [a])) T) :
  AU Try.prog 10 [aAu a] (AK (nK a (Ao [a]) (BI a auZ (Ao [a])) T:Nat)):=by
 have hz:Ar auZ=true:=by decide
 have hg:=NQ a auZ ga QG hsm hz hm (by decide)
 have hok:=FW (a:=a) (b:=auZ) (Dh hsm hz).1
 have ha3:=Al hsm
 have hln:=hok.len ha3 (by decide)
 have H:=Hd hsm (E:=(Bw a auZ (C6 a auZ)).map a.ends) rfl
 have hnar:=fun t ht=>(hok.ok t ht).2
 clear hok
 obtain ⟨l,hl⟩:∃ l,Bw a auZ (C6 a auZ)=l:=⟨_,rfl⟩
 rw [hl] at hg hln H hnar
 have hsh:=OL H
 have hfin:=fun U h0 hf hS=>U6 H hT (U:=U) h0 hf hS
 have hnod:=H.nod
 generalize nK a (Ao [a]) (BI a auZ (Ao [a])) T=res at *
 clear H hT hl
 have hEl:(l.map a.ends).length=l.length:=List.length_map _
 have hll:(l.map A_).length=l.length:=List.length_map _
 rw [hEl] at hfin
 refine OC.ac fun C hC=>?_
 unfold Ib
 repeat' (first | (with_reducible first | refine W ?_ | refine Z0 ?_ | ((first | refine Wo fun K hK=>?_ | refine Wp ?_ | refine Wq ?_ | refine Wr ?_);(try simp only [go_sem,fN,seval,eT,iR,dT,dF,nL]);(repeat refine Ai ?_);(try (refine hK _ ?_;clear hK K));try refine iC ?_)) | refine Cg _ (hg) ?_)
 refine IWP.loop (fun q s=>∃ k,k≤l.length∧q=l.length - k∧s.env 1=.one (.ptr 1 1 0 0)∧s.env 3=JU l∧s.env 4=AK l.length∧s.env 5=.one (.mptr 22)∧s.env 6=AK k∧s.S 1=some (AE a)∧s.S 22=some (No ((l.map a.ends).take k))∧s.S 38=none∧s.S 47=none∧∀ j,s.S (600 + j)=none) l.length
  ⟨0,Nat.zero_le _,rfl,rfl,by simp only [go_sem,fN,seval,eT,iR],by simp only [go_sem,fN,seval,eT,iR],by simp only [go_sem,fN,seval,eT,iR],rfl,by simp only [go_sem,fN,seval,eT,iR];rfl,by simp only [go_sem,fN,seval,eT,iR];rfl,by simp only [go_sem,fN,seval,eT,iR],by simp only [go_sem,fN,seval,eT,iR],fun j=>by simp only [go_sem,fN,seval,eT,iR,Dp]⟩ ?_
 rintro q ⟨env,S⟩ ⟨k,hk,rfl,e1,e3,e4,e5,e6,s1,s22,s38,s47,s6⟩
 simp only at e1 e3 e4 e5 e6 s1 s22 s38 s47 s6
 by_cases hkl:(k:Int) < l.length
 ·have hkl':k < l.length:=by omega
  obtain ⟨t,ht⟩:=Ab hkl'
  have htm:=AM ht
  have cE:=E2 a ga (by omega) hm t (hnar t htm)
  have el:(a.ends t).length≤3:=by rw [Au.ends_length];omega
  have cT:=Kg (a.ends t) (by omega)
  have hEk:(l.map a.ends)[k]?=some (a.ends t):=by rw [List.getElem?_map,ht];rfl
  have hnew:¬ Cm (((l.map a.ends).take k).map BF) (BF (a.ends t)) < (((l.map a.ends).take k).map BF).length:=fun h=>by
   obtain ⟨x,hx,hxe⟩:=List.mem_map.1 (Eb.1 h)
   have hx2:=Ge hxe
   subst hx2
   obtain ⟨j,hj⟩:=List.getElem?_of_mem hx
   rw [List.getElem?_take] at hj
   split at hj
   ·rename_i hjk
    have h1:=hnod.idxOf_getElem j (List.getElem?_eq_some_iff.1 hj).1
    have h2:=hnod.idxOf_getElem k (List.getElem?_eq_some_iff.1 hEk).1
    rw [(List.getElem?_eq_some_iff.1 hj).2] at h1
    rw [(List.getElem?_eq_some_iff.1 hEk).2] at h2
    omega
   ·cases hj
  have hput:=MV hnew
  rw [show Ie (((l.map a.ends).take k).map BF) (BF (a.ends t))=((l.map a.ends).take (k + 1)).map BF by
   rw [AQ hEk,List.map_append]
   exact if_neg hnew,List.length_map,List.length_take,hEl,Nat.min_eq_left hk] at hput
  unfold No Rh at s22
  repeat' (first | (with_reducible first | refine W ?_ | refine Z0 ?_ | ((first | refine Wo fun K hK=>?_ | refine Wp ?_ | refine Wq ?_ | refine Wr ?_);(try simp only [go_sem,fN,seval,eT,iR,e1,e3,e4,e5,e6,s1,s22,AE,hkl,ht,hll,Bu,EF,KV.of,hput,dT,dF,nL]);(repeat refine Ai ?_);(try (refine hK _ ?_;clear hK K));try refine iC ?_)) | refine Cg _ (cE) ?_ | refine Cg _ (cT) ?_)
  refine AA ⟨l.length - (k + 1),by omega,k + 1,by omega,rfl,e1,e3,e4,e5,rfl,s1,by simp only [go_sem,fN,seval,eT,iR],by simp only [go_sem,fN,seval,eT,iR,s38],by simp only [go_sem,fN,seval,eT,iR,s47],fun j=>by simp only [go_sem,fN,seval,eT,iR,s6,Dp]⟩
 ·have hke:k=l.length:=by omega
  rw [hke,List.take_of_length_le (by rw [hEl];exact Nat.le_refl _)] at s22
  have hz1:0≤(l.length:Int)∧(l.length:Int).toNat=l.length:=by omega
  have b1:l.length≤maxLen:=by rw [BM];omega
  have b2:l.length * 24≤140737488355328:=by omega
  have b4:l.length * 1≤140737488355328:=by omega
  repeat' with_reducible first | refine W ?_ | refine Z0 ?_ | ((first | refine Wo fun K hK=>?_ | refine Wp ?_ | refine Wq ?_ | refine Wr ?_);(try simp only [go_sem,fN,seval,eT,iR,e1,e3,e4,e5,e6,hkl,s38,b1,b2,Int.toNat_natCast,dT,dF,nL]);(repeat refine Ai ?_);(try (refine hK _ ?_;clear hK K));try refine iC ?_)
  refine IWP.at_ (fun env S=>env 1=.one (.ptr 1 1 0 0)∧env 3=JU l∧env 4=AK l.length∧env 5=.one (.mptr 22)∧env 7=.one (.row 38 l.length)∧env 8=AK 0∧S 1=some (AE a)∧S 22=some (No (l.map a.ends))∧S 38=some (.mrow 55 1 ((List.replicate l.length (SV.list [])).map ([·])))∧S 47=none∧∀ j,S (600 + j)=none)
   ⟨e1,e3,e4,e5,by simp only [go_sem,fN,seval,eT,iR],rfl,by simp only [go_sem,fN,seval,eT,iR,s1],by simp only [go_sem,fN,seval,eT,iR,s22],by (simp only [go_sem,fN,seval,eT,iR];simp),by simp only [go_sem,fN,seval,eT,iR,s47],fun j=>by simp only [go_sem,fN,seval,eT,iR,s6,Dp]⟩ ?_
  clear e1 e3 e4 e5 e6 s1 s22 s38 s47 s6
  rintro env S ⟨e1,e3,e4,e5,e7,e8,s1,s22,s38,s47,s6⟩
  refine IWP.ghost (s':=⟨env,if 0 < l.length then AD S 38 (some (.crow 55 (B2 l.length 0))) else S⟩) (by
   split
   ·rw [O7]
    exact Ad.crow (s:=⟨env,S⟩) (id:=38) s38 (by rw [List.length_replicate];assumption)
   ·exact Ad.refl _ _) ?_
  refine IWP.loopD [47] (fun q s=>∃ i,i≤l.length∧q=l.length - i∧KI a l s∧s.env 8=AK i∧(0 < l.length→s.S 38=some (.crow 55 (B2 l.length i)))∧s.S 47=none∧(∀ j,j < i→s.S (600 + j)=some (.mrow 4 1 (Em l.length (U0 a (l.map a.ends)) j)))∧∀ j,i≤j→s.S (600 + j)=none) l.length
   ⟨0,Nat.zero_le _,rfl,⟨e1,e3,e4,e5,e7,?_,?_⟩,e8,fun h=>?_,?_,fun j hj=>by omega,fun j hj=>?_⟩ ?_
  ·show (if _ then _ else S) 1=_
   split
   ·simp only [go_sem,fN,seval,eT,iR,s1]
   ·exact s1
  ·show (if _ then _ else S) 22=_
   split
   ·simp only [go_sem,fN,seval,eT,iR,s22]
   ·exact s22
  ·show (if _ then _ else S) 38=_
   rw [if_pos h]
   exact AG _ _ _
  ·show (if _ then _ else S) 47=_
   split
   ·simp only [go_sem,fN,seval,eT,iR,s47]
   ·exact s47
  ·show (if _ then _ else S) (600 + j)=_
   split
   ·simp only [go_sem,fN,seval,eT,iR,s6,Dp]
   ·exact s6 j
  clear e1 e3 e4 e5 e7 e8 s1 s22 s38 s47 s6
  rintro q ⟨env,S⟩ ⟨i,hi,rfl,⟨e1,e3,e4,e5,e7,s1,s22⟩,e8,s38,s47,s6,s6n⟩
  simp only at e1 e3 e4 e5 e7 e8 s1 s22 s38 s47 s6 s6n
  by_cases hil:(i:Int) < l.length
  ·have hil':i < l.length:=by omega
   replace s38:=s38 (by omega)
   have hcl:=RK l.length i
   have hts:=Tf (cs:=B2 l.length i) (k:=i) (c:=.row 47 l.length) (by rw [hcl];exact hil')
   repeat' with_reducible first | refine W ?_ | refine Z0 ?_ | ((first | refine Wo fun K hK=>?_ | refine Wp ?_ | refine Wq ?_ | refine Wr ?_);(try simp only [go_sem,fN,seval,eT,iR,e1,e3,e4,e5,e7,e8,s38,s47,hil,hil',hcl,hts,b4,b1,Int.toNat_natCast,dT,dF,nL]);(repeat refine Ai ?_);(try (refine hK _ ?_;clear hK K));try refine iC ?_)
   have hown:((B2 l.length i).set i (.row 47 l.length))[i]?=some (.row 47 l.length):=List.getElem?_set_self (by rw [hcl];exact hil')
   have hcl2:((B2 l.length i).set i (.row 47 l.length)).length=l.length:=by rw [List.length_set,hcl]
   obtain ⟨xi,hxi⟩:=Ab hil'
   have hxim:=AM hxi
   refine IWP.loop (fun q s=>∃ k,k≤l.length∧q=l.length - k∧KI a l s∧s.env 8=AK i∧s.env 9=AK k∧s.S 38=some (.crow 55 ((B2 l.length i).set i (.row 47 l.length)))∧s.S 47=some (.mrow 4 1 (Fw l.length fun x=>if x < k then U0 a (l.map a.ends) i x else false))∧(∀ j,j < i→s.S (600 + j)=some (.mrow 4 1 (Em l.length (U0 a (l.map a.ends)) j)))∧∀ j,i≤j→s.S (600 + j)=none) l.length
    ⟨0,Nat.zero_le _,rfl,⟨e1,e3,e4,e5,e7,by simp only [go_sem,fN,seval,eT,iR,s1],by simp only [go_sem,fN,seval,eT,iR,s22]⟩,e8,rfl,by simp only [go_sem,fN,seval,eT,iR],?_,fun j hj=>by have h:=s6 j hj;simp only [go_sem,fN,seval,eT,iR,h,Dp],fun j hj=>by have h:=s6n j hj;simp only [go_sem,fN,seval,eT,iR,h,Dp]⟩ ?_
   ·simp only [go_sem,fN,seval,eT,iR]
    have hrf:=RG l.length
    rw [hrf]
    exact congrArg (fun z=>AL.mrow 4 1 z) (DR fun x hx=>rfl)
   clear e1 e3 e4 e5 e7 e8 s1 s22 s38 s47 s6 s6n
   rintro q ⟨env,S⟩ ⟨k,hk,rfl,⟨e1,e3,e4,e5,e7,s1,s22⟩,e8,e9,s38,s47,s6,s6n⟩
   simp only at e1 e3 e4 e5 e7 e8 e9 s1 s22 s38 s47 s6 s6n
   have hrl:=Uq l.length fun x=>if x < k then U0 a (l.map a.ends) i x else false
   by_cases hkl:(k:Int) < l.length
   ·have hkl':k < l.length:=by omega
    obtain ⟨xk,hxk⟩:=Ab hkl'
    have hxkm:=AM hxk
    have c1:=Ei a ga (by omega) hm xi (hnar xi hxim)
    have c2:=Ei a ga (by omega) hm xk (hnar xk hxkm)
    have hu:U0 a (l.map a.ends) i k=(a.acc xi != a.acc xk):=by
     unfold U0
     rw [List.getD_eq_getElem?_getD,List.getD_eq_getElem?_getD,List.getElem?_map,List.getElem?_map,hxi,hxk]
     rfl
    have hst:(Fw l.length fun x=>if x < k then U0 a (l.map a.ends) i x else false).set k [.bool (!(a.acc xi == a.acc xk))]=Fw l.length fun x=>if x < k + 1 then U0 a (l.map a.ends) i x else false:=by
     rw [LG,show (!(a.acc xi == a.acc xk))=U0 a (l.map a.ends) i k from hu.symm]
     refine DR fun x hx=>?_
     by_cases e1:x=k
     ·rw [if_pos e1,if_pos (by omega),e1]
     ·rw [if_neg e1]
      by_cases e2:x < k
      ·rw [if_pos e2,if_pos (by omega)]
      ·rw [if_neg e2,if_neg (by omega)]
    have hgt:=Us (n:=l.length) (fun x=>if x < k then U0 a (l.map a.ends) i x else false) hkl'
    rw [if_neg (Nat.lt_irrefl k)] at hgt
    unfold AE at s1
    repeat' (first | (with_reducible first | refine W ?_ | refine Z0 ?_ | ((first | refine Wo fun K hK=>?_ | refine Wp ?_ | refine Wq ?_ | refine Wr ?_);(try simp only [go_sem,fN,seval,eT,iR,e1,e3,e4,e5,e7,e8,e9,s1,s38,s47,hil,hil',hkl,hkl',hxi,hxk,hll,hcl2,hown,hrl,hgt,hst,dT,dF,nL]);(repeat refine Ai ?_);(try (refine hK _ ?_;clear hK K));try refine iC ?_)) | refine Cg _ (c1) ?_ | refine Cg _ (c2) ?_)
    refine AA ⟨l.length - (k + 1),by omega,k + 1,by omega,rfl,⟨e1,e3,e4,e5,e7,by (simp only [go_sem,fN,seval,eT,iR,s1];rfl),by simp only [go_sem,fN,seval,eT,iR,s22]⟩,e8,rfl,by simp only [go_sem,fN,seval,eT,iR,s38],by simp only [go_sem,fN,seval,eT,iR],fun j hj=>by have h:=s6 j hj;simp only [go_sem,fN,seval,eT,iR,h,Dp],fun j hj=>by have h:=s6n j hj;simp only [go_sem,fN,seval,eT,iR,h,Dp]⟩
   ·have hke2:k=l.length:=by omega
    have hrow:(Fw l.length fun x=>if x < k then U0 a (l.map a.ends) i x else false)=Em l.length (U0 a (l.map a.ends)) i:=DR fun x hx=>by rw [if_pos (by omega)]
    rw [hrow] at s47
    have hsi:(Em l.length (U0 a (l.map a.ends)) i).length=l.length:=GQ _ _ _
    refine IWP.ghost (Ad.renameC (s:=⟨env,S⟩) 38 i 47 (600 + i) (l.length + 1) s38 (by rw [hsi];exact hown) s47 (s6n i (Nat.le_refl _)) (by rw [hsi];omega)) ?_
    rw [hsi,List.set_set,Qi]
    repeat' with_reducible first | refine W ?_ | refine Z0 ?_ | ((first | refine Wo fun K hK=>?_ | refine Wp ?_ | refine Wq ?_ | refine Wr ?_);(try simp only [go_sem,fN,seval,eT,iR,e1,e3,e4,e5,e7,e8,e9,hkl,dT,dF,nL]);(repeat refine Ai ?_);(try (refine hK _ ?_;clear hK K));try refine iC ?_)
    refine AA ⟨l.length - (i + 1),by omega,i + 1,by omega,rfl,⟨?_,?_,?_,?_,?_,?_,?_⟩,?_,fun _=>?_,?_,fun j hj=>?_,fun j hj=>?_⟩
    ·simp only [go_sem,fN,seval,AS.drop,AY,AC.clears,AC.clear,AC.highs,AC.high,Bool.not_false,Bool.true_and,Bool.and_self,AV.purge,AV.purges,AC.purge,AL.purge,List.contains_cons,List.contains_nil,Nat.reduceBEq,Bool.or_self,Bool.or_false,Bool.false_or,Bool.or_true,eT,iR,e1]
    ·simp only [go_sem,fN,seval,AS.drop,AY,AC.clears,AC.clear,AC.highs,AC.high,Bool.not_false,Bool.true_and,Bool.and_self,AV.purge,AV.purges,AC.purge,AL.purge,List.contains_cons,List.contains_nil,Nat.reduceBEq,Bool.or_self,Bool.or_false,Bool.false_or,Bool.or_true,eT,iR,e3]
    ·simp only [go_sem,fN,seval,AS.drop,AY,AC.clears,AC.clear,AC.highs,AC.high,Bool.not_false,Bool.true_and,Bool.and_self,AV.purge,AV.purges,AC.purge,AL.purge,List.contains_cons,List.contains_nil,Nat.reduceBEq,Bool.or_self,Bool.or_false,Bool.false_or,Bool.or_true,eT,iR,e4]
    ·simp only [go_sem,fN,seval,AS.drop,AY,AC.clears,AC.clear,AC.highs,AC.high,Bool.not_false,Bool.true_and,Bool.and_self,AV.purge,AV.purges,AC.purge,AL.purge,List.contains_cons,List.contains_nil,Nat.reduceBEq,Bool.or_self,Bool.or_false,Bool.false_or,Bool.or_true,eT,iR,e5]
    ·simp only [go_sem,fN,seval,AS.drop,AY,AC.clears,AC.clear,AC.highs,AC.high,Bool.not_false,Bool.true_and,Bool.and_self,AV.purge,AV.purges,AC.purge,AL.purge,List.contains_cons,List.contains_nil,Nat.reduceBEq,Bool.or_self,Bool.or_false,Bool.false_or,Bool.or_true,eT,iR,e7]
    ·simp [AS.drop,AY,AD,s1,I7,AL.purge,AE,AC.purge]
    ·simp [AS.drop,AY,AD,s22,I7,AL.purge]
    ·rfl
    ·have hp:=Ns l.length (i + 1)
     simp [AS.drop,AY,AD,AL.purge,hp]
    ·rfl
    ·by_cases hji:j=i
     ·subst hji
      simp [AS.drop,AY,AD,Dp,AL.purge]
     ·have h:=s6 j (by omega)
      simp [AS.drop,AY,AD,Dp,I3,hji,h,AL.purge]
    ·have h:=s6n j (by omega)
     simp [AS.drop,AY,AD,Dp,I3,show ¬ j=i by omega,h]
  ·have hie:i=l.length:=by omega
   rw [hie,RL] at s38
   rw [hie] at s6
   repeat' with_reducible first | refine W ?_ | refine Z0 ?_ | ((first | refine Wo fun K hK=>?_ | refine Wp ?_ | refine Wq ?_ | refine Wr ?_);(try simp only [go_sem,fN,seval,eT,iR,e1,e3,e4,e5,e7,e8,hil,dT,dF,nL]);(repeat refine Ai ?_);(try (refine hK _ ?_;clear hK K));try refine iC ?_)
   have hid:Hr a (l.map a.ends) id:=⟨fun i k _ _ h=>by rw [show i=k from h],fun m _ p i k o _ _ _ _ h=>by rw [show i=k from h]⟩
   refine IWP.loop (fun q s=>∃ U mo,q=JO l.length U + (if mo=true then 1 else 0)∧KI a l s∧s.env 10=Ag mo∧KR l U s∧(mo=false→NW a (l.map a.ends) U=U)∧leU (U0 a (l.map a.ends)) U∧∀ cls,Hr a (l.map a.ends) cls→Snd l.length cls U) (JO l.length (U0 a (l.map a.ends)) + 1)
    ⟨U0 a (l.map a.ends),true,rfl,⟨e1,e3,e4,e5,e7,s1,s22⟩,rfl,⟨s38,s6⟩,by simp,leU.rfl',fun cls hc=>by have h:=Snd.zero hc;rw [hEl] at h;exact h⟩ ?_
   clear e1 e3 e4 e5 e7 e8 s1 s22 s38 s47 s6 s6n
   rintro q ⟨env,S⟩ ⟨U,mo,rfl,⟨e1,e3,e4,e5,e7,s1,s22⟩,e10,⟨s38,s6⟩,hmo,hle,hsnd⟩
   simp only at e1 e3 e4 e5 e7 e10 s1 s22 s38 s6
   cases mo with
   | false =>
    have hf:=hfin U hle (hmo rfl) hsnd
    have hFc:∀ i,(List.range i).countP (CR U)≤i:=fun i=>by
     have:=List.countP_le_length (p:=CR U) (l:=List.range i)
     rw [List.length_range] at this
     exact this
    have hFs:∀ i,(List.range (i + 1)).countP (CR U)=(List.range i).countP (CR U) + if CR U i=true then 1 else 0:=fun i=>by
     rw [List.range_succ,List.countP_append,List.countP_singleton]
    have hFf:∀ i k,(List.range (k + 1)).all (U i)=((List.range k).all (U i) && U i k):=fun i k=>by
     rw [List.range_succ,List.all_append]
     simp
    repeat' with_reducible first | refine W ?_ | refine Z0 ?_ | ((first | refine Wo fun K hK=>?_ | refine Wp ?_ | refine Wq ?_ | refine Wr ?_);(try simp only [go_sem,fN,seval,eT,iR,e1,e3,e4,e5,e7,e10,dT,dF,nL]);(repeat refine Ai ?_);(try (refine hK _ ?_;clear hK K));try refine iC ?_)
    refine IWP.loop (fun q s=>∃ i,i≤l.length∧q=l.length - i∧KI a l s∧KR l U s∧s.env 13=AK ((List.range i).countP (CR U):Nat)∧s.env 14=AK i) l.length
     ⟨0,Nat.zero_le _,rfl,⟨e1,e3,e4,e5,e7,s1,s22⟩,⟨s38,s6⟩,rfl,rfl⟩ ?_
    clear e1 e3 e4 e5 e7 e10 s1 s22 s38 s6
    rintro q ⟨env,S⟩ ⟨i,hi,rfl,⟨e1,e3,e4,e5,e7,s1,s22⟩,⟨s38,s6⟩,e13,e14⟩
    simp only at e1 e3 e4 e5 e7 e13 e14 s1 s22 s38 s6
    by_cases hil:(i:Int) < l.length
    ·have hil':i < l.length:=by omega
     replace s38:=s38 (by omega)
     repeat' with_reducible first | refine W ?_ | refine Z0 ?_ | ((first | refine Wo fun K hK=>?_ | refine Wp ?_ | refine Wq ?_ | refine Wr ?_);(try simp only [go_sem,fN,seval,eT,iR,e1,e3,e4,e5,e7,e13,e14,hil,dT,dF,nL]);(repeat refine Ai ?_);(try (refine hK _ ?_;clear hK K));try refine iC ?_)
     refine IWP.loop (fun q s=>∃ k,k≤i∧q=i - k∧KI a l s∧s.env 13=AK ((List.range i).countP (CR U):Nat)∧s.env 14=AK i∧s.env 15=Ag ((List.range k).all (U i))∧s.env 16=AK k∧s.S 38=some (.crow 55 (Bv 600 l.length))∧(∀ j,j < l.length→s.S (600 + j)=some (.mrow 4 1 (Em l.length U j)))) i
      ⟨0,Nat.zero_le _,rfl,⟨e1,e3,e4,e5,e7,s1,s22⟩,e13,e14,rfl,rfl,s38,s6⟩ ?_
     clear e1 e3 e4 e5 e7 e13 e14 s1 s22 s38 s6
     rintro q ⟨env,S⟩ ⟨k,hk,rfl,⟨e1,e3,e4,e5,e7,s1,s22⟩,e13,e14,e15,e16,s38,s6⟩
     simp only at e1 e3 e4 e5 e7 e13 e14 e15 e16 s1 s22 s38 s6
     by_cases hkl:(k:Int) < (i:Int)
     ·have hkl':k < l.length:=by omega
      have hci:=Ee 600 hil'
      have hcl:=F8 600 l.length
      have hri:=s6 i hil'
      have hrl:=GQ l.length U i
      have hgt:=IB U i hkl'
      cases hall:(List.range k).all (U i) with
      | false =>
       rw [hall] at e15
       repeat' with_reducible first | refine W ?_ | refine Z0 ?_ | ((first | refine Wo fun K hK=>?_ | refine Wp ?_ | refine Wq ?_ | refine Wr ?_);(try simp only [go_sem,fN,seval,eT,iR,e1,e3,e4,e5,e7,e13,e14,e15,e16,hkl,dT,dF,nL]);(repeat refine Ai ?_);(try (refine hK _ ?_;clear hK K));try refine iC ?_)
       exact AA ⟨i - (k + 1),by omega,k + 1,by omega,rfl,⟨e1,e3,e4,e5,e7,s1,s22⟩,e13,e14,by rw [hFf,hall];rfl,rfl,s38,s6⟩
      | true =>
       rw [hall] at e15
       repeat' with_reducible first | refine W ?_ | refine Z0 ?_ | ((first | refine Wo fun K hK=>?_ | refine Wp ?_ | refine Wq ?_ | refine Wr ?_);(try simp only [go_sem,fN,seval,eT,iR,e1,e3,e4,e5,e7,e13,e14,e15,e16,hkl,s38,hil,hil',hkl',hci,hcl,hri,hrl,hgt,dT,dF,nL]);(repeat refine Ai ?_);(try (refine hK _ ?_;clear hK K));try refine iC ?_)
       exact AA ⟨i - (k + 1),by omega,k + 1,by omega,rfl,⟨e1,e3,e4,e5,e7,s1,s22⟩,e13,e14,by rw [hFf,hall];rfl,rfl,s38,s6⟩
     ·have hke2:k=i:=by omega
      have hfst:(List.range k).all (U i)=CR U i:=by rw [hke2];rfl
      rw [hfst] at e15
      have hc:=hFc i
      cases hfi:CR U i with
      | true =>
       rw [hfi] at e15
       repeat' with_reducible first | refine W ?_ | refine Z0 ?_ | ((first | refine Wo fun K hK=>?_ | refine Wp ?_ | refine Wq ?_ | refine Wr ?_);(try simp only [go_sem,fN,seval,eT,iR,e1,e3,e4,e5,e7,e13,e14,e15,e16,hkl,dT,dF,nL]);(repeat refine Ai ?_);(try (refine hK _ ?_;clear hK K));try refine iC ?_)
       exact AA ⟨l.length - (i + 1),by omega,i + 1,by omega,rfl,⟨e1,e3,e4,e5,e7,s1,s22⟩,⟨fun _=>s38,s6⟩,by rw [hFs,hfi];rfl,rfl⟩
      | false =>
       rw [hfi] at e15
       repeat' with_reducible first | refine W ?_ | refine Z0 ?_ | ((first | refine Wo fun K hK=>?_ | refine Wp ?_ | refine Wq ?_ | refine Wr ?_);(try simp only [go_sem,fN,seval,eT,iR,e1,e3,e4,e5,e7,e13,e14,e15,e16,hkl,dT,dF,nL]);(repeat refine Ai ?_);(try (refine hK _ ?_;clear hK K));try refine iC ?_)
       exact AA ⟨l.length - (i + 1),by omega,i + 1,by omega,rfl,⟨e1,e3,e4,e5,e7,s1,s22⟩,⟨fun _=>s38,s6⟩,by rw [hFs,hfi];exact e13,rfl⟩
    ·have hie2:i=l.length:=by omega
     rw [hie2,hf] at e13
     repeat' with_reducible first | refine W ?_ | refine Z0 ?_ | ((first | refine Wo fun K hK=>?_ | refine Wp ?_ | refine Wq ?_ | refine Wr ?_);(try simp only [go_sem,fN,seval,eT,iR,e1,e3,e4,e5,e7,e13,e14,hil,dT,dF,nL]);(repeat refine Ai ?_);(try (refine hK _ ?_;clear hK K));try refine iC ?_)
     simp only [go_sem,fN,seval,AP,AS.result,AH,AI,AN]
   | true =>
    repeat' with_reducible first | refine W ?_ | refine Z0 ?_ | ((first | refine Wo fun K hK=>?_ | refine Wp ?_ | refine Wq ?_ | refine Wr ?_);(try simp only [go_sem,fN,seval,eT,iR,e1,e3,e4,e5,e7,e10,dT,dF,nL]);(repeat refine Ai ?_);(try (refine hK _ ?_;clear hK K));try refine iC ?_)
    refine IWP.loop (fun q s=>∃ i b V,i≤l.length∧q=l.length - i∧KI a l s∧s.env 10=Ag b∧s.env 11=AK i∧KR l V s∧V=(List.range i).foldl (Te a (l.map a.ends)) U∧(b=false→V=U)∧(b=true→JO l.length V < JO l.length U)∧leU (U0 a (l.map a.ends)) V∧∀ cls,Hr a (l.map a.ends) cls→Snd l.length cls V) l.length
     ⟨0,false,U,Nat.zero_le _,rfl,⟨e1,e3,e4,e5,e7,s1,s22⟩,rfl,rfl,⟨s38,s6⟩,rfl,fun _=>rfl,by simp,hle,hsnd⟩ ?_
    clear e1 e3 e4 e5 e7 e10 s1 s22 s38 s6
    rintro q ⟨env,S⟩ ⟨i,b,V,hi,rfl,⟨e1,e3,e4,e5,e7,s1,s22⟩,e10,e11,⟨s38,s6⟩,hV,hb1,hb2,hle2,hsnd2⟩
    simp only at e1 e3 e4 e5 e7 e10 e11 s1 s22 s38 s6
    by_cases hil:(i:Int) < l.length
    ·have hil':i < l.length:=by omega
     replace s38:=s38 (by omega)
     repeat' with_reducible first | refine W ?_ | refine Z0 ?_ | ((first | refine Wo fun K hK=>?_ | refine Wp ?_ | refine Wq ?_ | refine Wr ?_);(try simp only [go_sem,fN,seval,eT,iR,e1,e3,e4,e5,e7,e10,e11,hil,dT,dF,nL]);(repeat refine Ai ?_);(try (refine hK _ ?_;clear hK K));try refine iC ?_)
     refine IWP.loop (fun q s=>∃ k b V2,k≤l.length∧q=l.length - k∧KI a l s∧s.env 10=Ag b∧s.env 11=AK i∧s.env 12=AK k∧s.S 38=some (.crow 55 (Bv 600 l.length))∧(∀ j,j < l.length→s.S (600 + j)=some (.mrow 4 1 (Em l.length V2 j)))∧V2=(List.range k).foldl (EG a (l.map a.ends) i) V∧(b=false→V2=U)∧(b=true→JO l.length V2 < JO l.length U)∧leU (U0 a (l.map a.ends)) V2∧∀ cls,Hr a (l.map a.ends) cls→Snd l.length cls V2) l.length
      ⟨0,b,V,Nat.zero_le _,rfl,⟨e1,e3,e4,e5,e7,s1,s22⟩,e10,e11,rfl,s38,s6,rfl,hb1,hb2,hle2,hsnd2⟩ ?_
     clear e1 e3 e4 e5 e7 e10 e11 s1 s22 s38 s6
     rintro q ⟨env,S⟩ ⟨k,b2,W0,hk,rfl,⟨e1,e3,e4,e5,e7,s1,s22⟩,e10,e11,e12,s38,s6,hW,hb3,hb4,hle3,hsnd3⟩
     simp only at e1 e3 e4 e5 e7 e10 e11 e12 s1 s22 s38 s6
     by_cases hkl:(k:Int) < l.length
     ·have hkl':k < l.length:=by omega
      have hci:=Ee 600 hil'
      have hck:=Ee 600 hkl'
      have hcl:=F8 600 l.length
      have hri:=s6 i hil'
      have hrk:=s6 k hkl'
      have hrl:=GQ l.length W0 i
      have hrlk:=GQ l.length W0 k
      have hgt:=IB W0 i hkl'
      have hsn:(List.range (k + 1)).foldl (EG a (l.map a.ends) i) V=EG a (l.map a.ends) i W0 k:=by rw [List.range_succ,List.foldl_append,← hW];rfl
      cases hu:W0 i k with
      | true =>
       rw [hu] at hgt
       have hsame:EG a (l.map a.ends) i W0 k=W0:=by unfold EG;rw [if_neg (by rw [hu];simp)]
       repeat' with_reducible first | refine W ?_ | refine Z0 ?_ | ((first | refine Wo fun K hK=>?_ | refine Wp ?_ | refine Wq ?_ | refine Wr ?_);(try simp only [go_sem,fN,seval,eT,iR,e1,e3,e4,e5,e7,e10,e11,e12,s38,hil,hil',hkl,hkl',hci,hcl,hri,hrl,hgt,dT,dF,nL]);(repeat refine Ai ?_);(try (refine hK _ ?_;clear hK K));try refine iC ?_)
       refine AA ⟨l.length - (k + 1),by omega,k + 1,b2,W0,by omega,rfl,⟨e1,e3,e4,e5,e7,s1,s22⟩,e10,e11,rfl,s38,s6,by rw [hsn,hsame],hb3,hb4,hle3,hsnd3⟩
      | false =>
       rw [hu] at hgt
       repeat' with_reducible first | refine W ?_ | refine Z0 ?_ | ((first | refine Wo fun K hK=>?_ | refine Wp ?_ | refine Wq ?_ | refine Wr ?_);(try simp only [go_sem,fN,seval,eT,iR,e1,e3,e4,e5,e7,e10,e11,e12,s1,AE,s38,hil,hil',hkl,hkl',hci,hcl,hri,hrl,hgt,dT,dF,nL]);(repeat refine Ai ?_);(try (refine hK _ ?_;clear hK K));try refine iC ?_)
       have call:∀ T:AB,(∀ q ∈ (22,No (l.map a.ends)) :: (38,AL.crow 55 (Bv 600 l.length)) :: (List.range l.length).map (fun j=>(600 + j,AL.mrow 4 1 (Em l.length W0 j))),T q.1=some q.2)→A2 Try.prog 28 [aAu a,JU l,.one (.mptr (up1 22)),.one (.row (up1 38) l.length),AK i,AK k] (upS T) (Ag (Ck a (l.map a.ends) W0 i k)) (upS T):=fun T hT=>by
        have h22:T 22=_:=hT (22,No (l.map a.ends)) (by simp)
        have h38:T 38=_:=hT (38,AL.crow 55 (Bv 600 l.length)) (by simp)
        have h6:∀ j,j < l.length→T (600 + j)=some (AL.mrow 4 1 (Em l.length W0 j)):=fun j hj=>hT (600 + j,_) (List.mem_cons_of_mem _ (List.mem_cons_of_mem _ (List.mem_map.2 ⟨j,List.mem_range.2 hj,rfl⟩)))
        refine Va a ga hsm hm l hln hnar hsh W0 i k hil' hkl' (up1 38) 1600 (up1 22) (upS T) (Ba _) (by omega) (Ba _) ?_ ?_ fun j hj=>?_
        ·rw [Bl,h38]
         exact congrArg (fun z=>some (AL.crow 55 z)) (Oi l.length)
        ·rw [Bl,h22]
         rfl
        ·rw [show 1600 + j=up1 (600 + j) by unfold up1;omega,Bl,h6 j hj]
         rfl
       refine ⟨_,(22,No (l.map a.ends)) :: (38,AL.crow 55 (Bv 600 l.length)) :: (List.range l.length).map (fun j=>(600 + j,AL.mrow 4 1 (Em l.length W0 j))),fun q hq=>?_,call,?_⟩
       ·rcases List.mem_cons.1 hq with rfl | hq
        ·exact s22
        ·rcases List.mem_cons.1 hq with rfl | hq
         ·exact s38
         ·obtain ⟨j,hj,rfl⟩:=List.mem_map.1 hq
          exact s6 j (List.mem_range.1 hj)
       cases hp:Ck a (l.map a.ends) W0 i k with
       | false =>
        have hsame:EG a (l.map a.ends) i W0 k=W0:=by unfold EG;rw [if_neg (by rw [hp];simp)]
        repeat' with_reducible first | refine W ?_ | refine Z0 ?_ | ((first | refine Wo fun K hK=>?_ | refine Wp ?_ | refine Wq ?_ | refine Wr ?_);(try simp only [go_sem,fN,seval,eT,iR,e1,e3,e4,e5,e7,e10,e11,e12,s1,AE,s38,hil,hil',hkl,hkl',hci,hcl,hri,hrl,hgt,dT,dF,nL]);(repeat refine Ai ?_);(try (refine hK _ ?_;clear hK K));try refine iC ?_)
        refine AA ⟨l.length - (k + 1),by omega,k + 1,b2,W0,by omega,rfl,⟨e1,e3,e4,e5,e7,s1,s22⟩,e10,e11,rfl,s38,s6,by rw [hsn,hsame],hb3,hb4,hle3,hsnd3⟩
       | true =>
        have hset:EG a (l.map a.ends) i W0 k=F7 W0 i k:=by unfold EG;rw [if_pos ⟨hu,hp⟩]
        have hik:¬ i=k:=HW hid hsh (by rw [hEl];exact hsnd3 id hid) (by rw [hEl];exact hil') (by rw [hEl];exact hkl') hp
        have hki:¬ k=i:=fun h=>hik h.symm
        have hgtk:=IB W0 k hil'
        repeat' with_reducible first | refine W ?_ | refine Z0 ?_ | ((first | refine Wo fun K hK=>?_ | refine Wp ?_ | refine Wq ?_ | refine Wr ?_);(try simp only [go_sem,fN,seval,eT,iR,e1,e3,e4,e5,e7,e10,e11,e12,s1,AE,s38,hil,hil',hkl,hkl',hci,hck,hcl,hri,hrl,hrk,hrlk,hgt,hgtk,Dp,I7,I3,hik,hki,dT,dF,nL]);(repeat refine Ai ?_);(try (refine hK _ ?_;clear hK K));try refine iC ?_)
        have hcnt:JO l.length (F7 W0 i k) < JO l.length U:=by
         have h1:=UU (n:=l.length) hil' hkl' hu
         cases b2 with
         | true=>have:=hb4 rfl;omega
         | false=>rw [hb3 rfl] at h1 ⊢;exact h1
        refine AA ⟨l.length - (k + 1),by omega,k + 1,true,F7 W0 i k,by omega,rfl,⟨e1,e3,e4,e5,e7,by simp only [go_sem,fN,seval,eT,iR,s1,I7],by simp only [go_sem,fN,seval,eT,iR,s22,I7]⟩,rfl,e11,rfl,by simp only [go_sem,fN,seval,eT,iR,s38,I7],fun j hj=>?_,by rw [hsn,hset],fun h=>(by cases h),fun _=>hcnt,hle3.trans (Nm _ _ _),fun cls hc=>(hsnd3 cls hc).set (HW hc hsh (by rw [hEl];exact hsnd3 cls hc) (by rw [hEl];exact hil') (by rw [hEl];exact hkl') hp)⟩
        have h6:=s6 j hj
        by_cases hji:j=i
        ·subst hji
         simp only [go_sem,fN,seval,eT,iR,I3,hik]
         rw [Wz W0 hik]
        ·by_cases hjk:j=k
         ·subst hjk
          simp only [go_sem,fN,seval,eT,iR,I3]
          rw [Ws W0 hki]
         ·simp only [go_sem,fN,seval,eT,iR,I3,hji,hjk,h6]
          rw [W3 W0 hji hjk]
     ·have hke2:k=l.length:=by omega
      have hrw:(List.range (i + 1)).foldl (Te a (l.map a.ends)) U=W0:=by rw [List.range_succ,List.foldl_append,← hV,hW,hke2];show Te a (l.map a.ends) V i=_;unfold Te;rw [hEl]
      repeat' with_reducible first | refine W ?_ | refine Z0 ?_ | ((first | refine Wo fun K hK=>?_ | refine Wp ?_ | refine Wq ?_ | refine Wr ?_);(try simp only [go_sem,fN,seval,eT,iR,e1,e3,e4,e5,e7,e10,e11,e12,hkl,dT,dF,nL]);(repeat refine Ai ?_);(try (refine hK _ ?_;clear hK K));try refine iC ?_)
      exact AA ⟨l.length - (i + 1),by omega,i + 1,b2,W0,by omega,rfl,⟨e1,e3,e4,e5,e7,s1,s22⟩,e10,rfl,⟨fun _=>s38,s6⟩,hrw.symm,hb3,hb4,hle3,hsnd3⟩
    ·have hie2:i=l.length:=by omega
     have hpass:NW a (l.map a.ends) U=V:=by unfold NW;rw [hEl,← hie2,← hV]
     repeat' with_reducible first | refine W ?_ | refine Z0 ?_ | ((first | refine Wo fun K hK=>?_ | refine Wp ?_ | refine Wq ?_ | refine Wr ?_);(try simp only [go_sem,fN,seval,eT,iR,e1,e3,e4,e5,e7,e10,e11,hil,dT,dF,nL]);(repeat refine Ai ?_);(try (refine hK _ ?_;clear hK K));try refine iC ?_)
     refine AA ⟨JO l.length V + (if b=true then 1 else 0),?_,V,b,rfl,⟨e1,e3,e4,e5,e7,s1,s22⟩,e10,⟨s38,s6⟩,fun h=>?_,hle2,hsnd2⟩
     ·cases b with
      | true=>have:=hb2 rfl;simp;omega
      | false=>rw [hb1 rfl];simp
     ·rw [hb1 h] at hpass ⊢
      exact hpass

set_option maxRecDepth 100000
def GD:IR :=
 (.seq (.ops [.i 1 (.box 25 (.t 0)),.i 2 (.mov (.c (.one (.st (.bool false)))))]) (.seq (.seq (.ops [.i 3 (.mov (.n 0))]) (.block 0 (.loop (.seq (.seq (.ops [.m 4 3,.f 5 1 1,.l 6 5,.i 7 (.len false (.t 6)),.i 8 (.bin .lss (.t 4) (.t 7))]) (.cond (.t 8) .skip (.exit 0))) (.seq (.block 1 (.seq (.ops [.f 11 1 1,.l 12 11,.m 13 3,.i 14 (.indexAddr 3 (.t 12) (.t 13)),.f 15 1 14,.l 16 15,.i 17 (.len false (.t 16)),.i 18 (.bin .gtr (.t 17) (.n 2))]) (.cond (.t 18) (.seq (.ops [.i 2 (.mov (.c (.one (.st (.bool false)))))]) .ret) .skip))) (.ops [.m 9 3,.i 10 (.bin .add (.t 9) (.n 1)),.m 3 10])))))) (.seq (.ops [.f 19 0 1,.l 20 19,.i 21 (.bin .leq (.t 20) (.n 3)),.m 2 21]) .ret)))
theorem LH:OkF Try.prog 9 22 [] GD [.t 2]:=.of Try.func9 rfl rfl (by kernel_rfl) rfl

theorem F3 (a:Au) (hm:a.moves.length≤100000) (hf:∀ m ∈ a.moves,m.frm.length≤100000):AU Try.prog 9 [aAu a] (Ag (Ar a)):=by
 refine LH.ac fun C hC=>?_
 unfold GD
 repeat' with_reducible first | refine W ?_ | refine Z0 ?_ | ((first | refine Wo fun K hK=>?_ | refine Wp ?_ | refine Wq ?_ | refine Wr ?_);(try simp only [go_sem,fN,seval,eT,iR,dT,dF,nL]);(repeat refine Ai ?_);(try (refine hK _ ?_;clear hK K));try refine iC ?_)
 refine IWP.loop (fun q s=>∃ i,i≤a.moves.length∧q=a.moves.length - i∧(a.moves.take i).all (fun m=>decide (m.frm.length≤2))=true∧s.env 1=.one (.ptr 1 1 0 0)∧s.env 3=AK i∧s.S 1=some (AE a)) a.moves.length ⟨0,Nat.zero_le _,rfl,rfl,rfl,rfl,rfl⟩ ?_
 rintro q ⟨env,S⟩ ⟨i,hi,rfl,hai,e1,e3,s1⟩
 simp only at e1 e3 s1
 by_cases hil:(i:Int) < a.moves.length
 ·obtain ⟨m,hmi⟩:=Ab (show i < a.moves.length by omega)
  have hmm:=AM hmi
  have hfm:=hf m hmm
  have hsn2:(a.moves.take (i + 1)).all (fun m=>decide (m.frm.length≤2))=decide (m.frm.length≤2):=DJ hmi hai
  by_cases h2:(2:Int) < m.frm.length
  ·have hb:Ar a=false:=by
    unfold Ar
    rw [LK hmm (p:=fun m=>decide (m.frm.length≤2)) (decide_eq_false (by omega))]
    simp
   rw [hb]
   have h2':2 < m.frm.length:=by omega
   repeat' with_reducible first | refine W ?_ | refine Z0 ?_ | ((first | refine Wo fun K hK=>?_ | refine Wp ?_ | refine Wq ?_ | refine Wr ?_);(try simp only [go_sem,fN,seval,eT,iR,e1,e3,s1,AE,hil,hmi,Ae,h2,h2',dT,dF,nL]);(repeat refine Ai ?_);(try (refine hK _ ?_;clear hK K));try refine iC ?_)
   simp only [go_sem,fN,seval,AP,AS.result,AH,AI,AN]
  ·have h2':¬ 2 < m.frm.length:=by omega
   repeat' with_reducible first | refine W ?_ | refine Z0 ?_ | ((first | refine Wo fun K hK=>?_ | refine Wp ?_ | refine Wq ?_ | refine Wr ?_);(try simp only [go_sem,fN,seval,eT,iR,e1,e3,s1,AE,hil,hmi,Ae,h2,h2',dT,dF,nL]);(repeat refine Ai ?_);(try (refine hK _ ?_;clear hK K));try refine iC ?_)
   refine AA ⟨a.moves.length - (i + 1),by omega,i + 1,by omega,rfl,by rw [hsn2];exact decide_eq_true (by omega),e1,rfl,s1⟩
 ·have hie:i=a.moves.length:=by omega
  rw [hie,List.take_length] at hai
  have hb:Ar a=decide (a.states≤3):=by
   unfold Ar
   rw [hai,Bool.and_true]
  rw [hb]
  repeat' with_reducible first | refine W ?_ | refine Z0 ?_ | ((first | refine Wo fun K hK=>?_ | refine Wp ?_ | refine Wq ?_ | refine Wr ?_);(try simp only [go_sem,fN,seval,eT,iR,e1,e3,s1,AE,hil,dT,dF,nL]);(repeat refine Ai ?_);(try (refine hK _ ?_;clear hK K));try refine iC ?_)
  simp only [go_sem,fN,seval,AP,AS.result,AH,AI,AN]

theorem T2 (a:Au) (h:a.may 8 40 ≠ 0):AU Try.prog 13 [aAu a] (.tup [AK 0,AK (a.may 8 40)]):=by
 have cC:=BV a
 refine Es.acT fun C hC htop=>?_
 unfold DX
 repeat' (first | (with_reducible first | refine W ?_ | refine Z0 ?_ | ((first | refine Wo fun K hK=>?_ | refine Wp ?_ | refine Wq ?_ | refine Wr ?_);(try simp only [go_sem,fN,seval,eT,iR,h,dT,dF,nL]);(repeat refine Ai ?_);(try (refine hK _ ?_;clear hK K));try refine iC ?_)) | refine Cg _ (cC) ?_)
 simp only [go_sem,fN,seval,AP,AS.result,AH,AI,AN]
theorem T3 (a:Au) (h:a.may 8 40=0) (hs:Ar a=false):AU Try.prog 13 [aAu a] (.tup [AK 0,AK 3]):=by
 obtain ⟨a1,a2⟩:=DM h
 have cC:=BV a
 rw [h] at cC
 have cS:=N7 [a] (by simp) (fun c hc=>by rw [List.mem_singleton.1 hc];omega) (fun c hc m hm=>by rw [List.mem_singleton.1 hc] at hm;have:=a2 m hm;omega)
 rw [show DI [a]=3 from if_neg (by simp [hs])] at cS
 refine Es.acT fun C hC htop=>?_
 unfold DX
 repeat' (first | (with_reducible first | refine W ?_ | refine Z0 ?_ | ((first | refine Wo fun K hK=>?_ | refine Wp ?_ | refine Wq ?_ | refine Wr ?_);(try simp only [go_sem,fN,seval,eT,iR,dT,dF,nL]);(repeat refine Ai ?_);(try (refine hK _ ?_;clear hK K));try refine iC ?_)) | refine Cg _ (cC) ?_ | refine Cg _ (cS) ?_)
 simp only [go_sem,fN,seval,AP,AS.result,AH,AI,AN]
theorem Pu (a b:Au):AU Try.prog 3 [aAu a,aAu b] (Ag true):=by
 by_cases q1:a.huge=true
 ·refine Ay.ac fun C hC=>?_
  unfold Av
  repeat' (first | (with_reducible first | refine W ?_ | refine Z0 ?_ | ((first | refine Wo fun K hK=>?_ | refine Wp ?_ | refine Wq ?_ | refine Wr ?_);(try simp only [go_sem,fN,seval,eT,iR,q1,dT,dF,nL]);(repeat refine Ai ?_);(try (refine hK _ ?_;clear hK K));try refine iC ?_)) | refine Cg _ (AZ a) ?_)
  simp only [go_sem,fN,seval,AP,AS.result,AH,AI,AN]
 by_cases q2:b.huge=true
 ·refine Ay.ac fun C hC=>?_
  unfold Av
  repeat' (first | (with_reducible first | refine W ?_ | refine Z0 ?_ | ((first | refine Wo fun K hK=>?_ | refine Wp ?_ | refine Wq ?_ | refine Wr ?_);(try simp only [go_sem,fN,seval,eT,iR,q1,q2,dT,dF,nL]);(repeat refine Ai ?_);(try (refine hK _ ?_;clear hK K));try refine iC ?_)) | refine Cg _ (AZ a) ?_ | refine Cg _ (AZ b) ?_)
  simp only [go_sem,fN,seval,AP,AS.result,AH,AI,AN]
 have hl:∀ {c:Au},¬ c.huge=true→c.last.length≤100:=fun {c} q=>by
  simp only [Au.huge,Bool.or_eq_true,decide_eq_true_eq,not_or] at q
  omega
 have hla:=hl q1
 have hlb:=hl q2
 have hW:=Qw a b (by omega) (by omega)
 have cM:=B1 a 8 40
 have cMb:=B1 b 8 40
 by_cases he:a.may 8 40=0
 case neg =>
  have hp:A1 a b=a.may 8 40:=by unfold A1;rw [if_neg he]
  have hL:=T2 a he
  unfold Ej at hW
  rw [if_pos (by rw [hp];exact he),hp] at hW
  refine Ay.ac fun C hC=>?_
  unfold Av
  repeat' (first | (with_reducible first | refine W ?_ | refine Z0 ?_ | ((first | refine Wo fun K hK=>?_ | refine Wp ?_ | refine Wq ?_ | refine Wr ?_);(try simp only [go_sem,fN,seval,eT,iR,q1,q2,he,dT,dF,nL]);(repeat refine Ai ?_);(try (refine hK _ ?_;clear hK K));try refine iC ?_)) | refine Cg _ (AZ a) ?_ | refine Cg _ (AZ b) ?_ | refine Cg _ (cM) ?_ | refine Cg _ (hW) ?_ | refine Cg _ (hL) ?_)
  simp only [go_sem,fN,seval,AP,AS.result,AH,AI,AN]
 obtain ⟨a1,a2⟩:=DM he
 have hSa:=F3 a (by omega) (fun m hm=>by have:=a2 m hm;omega)
 rw [he] at cM
 cases hsa:Ar a with
 | false =>
  have hL:=T3 a he hsa
  rw [hsa] at hSa
  by_cases hf:b.may 8 40=0
  case neg =>
   have hp:A1 a b=b.may 8 40:=by unfold A1;rw [if_pos he]
   unfold Ej at hW
   rw [if_pos (by rw [hp];exact hf),hp] at hW
   refine Ay.ac fun C hC=>?_
   unfold Av
   repeat' (first | (with_reducible first | refine W ?_ | refine Z0 ?_ | ((first | refine Wo fun K hK=>?_ | refine Wp ?_ | refine Wq ?_ | refine Wr ?_);(try simp only [go_sem,fN,seval,eT,iR,q1,q2,hf,dT,dF,nL]);(repeat refine Ai ?_);(try (refine hK _ ?_;clear hK K));try refine iC ?_)) | refine Cg _ (AZ a) ?_ | refine Cg _ (AZ b) ?_ | refine Cg _ (cM) ?_ | refine Cg _ (cMb) ?_ | refine Cg _ (hSa) ?_ | refine Cg _ (hW) ?_ | refine Cg _ (hL) ?_)
   simp only [go_sem,fN,seval,AP,AS.result,AH,AI,AN]
  case pos =>
   have hp:A1 a b=0:=by unfold A1;rw [if_pos he,hf]
   have hsm:DI [a,b]=3:=if_neg (by simp [hsa])
   unfold Ej at hW
   rw [if_neg (by rw [hp];simp),if_pos (by rw [hsm];decide),hsm] at hW
   rw [hf] at cMb
   refine Ay.ac fun C hC=>?_
   unfold Av
   repeat' (first | (with_reducible first | refine W ?_ | refine Z0 ?_ | ((first | refine Wo fun K hK=>?_ | refine Wp ?_ | refine Wq ?_ | refine Wr ?_);(try simp only [go_sem,fN,seval,eT,iR,q1,q2,dT,dF,nL]);(repeat refine Ai ?_);(try (refine hK _ ?_;clear hK K));try refine iC ?_)) | refine Cg _ (AZ a) ?_ | refine Cg _ (AZ b) ?_ | refine Cg _ (cM) ?_ | refine Cg _ (cMb) ?_ | refine Cg _ (hSa) ?_ | refine Cg _ (hW) ?_ | refine Cg _ (hL) ?_)
   simp only [go_sem,fN,seval,AP,AS.result,AH,AI,AN]
 | true =>
  rw [hsa] at hSa
  by_cases h12:12 < a.moves.length
  ·have h12':(12:Int) < a.moves.length:=by omega
   have hml:(a.moves.map Ae).length=a.moves.length:=List.length_map _
   by_cases hf:b.may 8 40=0
   ·rw [hf] at cMb
    obtain ⟨b1,b2⟩:=DM hf
    have hSb:=F3 b (by omega) (fun m hm=>by have:=b2 m hm;omega)
    cases hsb:Ar b with
    | true =>
     rw [hsb] at hSb
     refine Ay.ac fun C hC=>?_
     unfold Av
     repeat' (first | (with_reducible first | refine W ?_ | refine Z0 ?_ | ((first | refine Wo fun K hK=>?_ | refine Wp ?_ | refine Wq ?_ | refine Wr ?_);(try simp only [go_sem,fN,seval,eT,iR,q1,q2,h12',hml,dT,dF,nL]);(repeat refine Ai ?_);(try (refine hK _ ?_;clear hK K));try refine iC ?_)) | refine Cg _ (AZ a) ?_ | refine Cg _ (AZ b) ?_ | refine Cg _ (cM) ?_ | refine Cg _ (cMb) ?_ | refine Cg _ (hSa) ?_ | refine Cg _ (hSb) ?_)
     simp only [go_sem,fN,seval,AP,AS.result,AH,AI,AN]
    | false =>
     rw [hsb] at hSb
     refine Ay.ac fun C hC=>?_
     unfold Av
     repeat' (first | (with_reducible first | refine W ?_ | refine Z0 ?_ | ((first | refine Wo fun K hK=>?_ | refine Wp ?_ | refine Wq ?_ | refine Wr ?_);(try simp only [go_sem,fN,seval,eT,iR,q1,q2,h12',hml,dT,dF,nL]);(repeat refine Ai ?_);(try (refine hK _ ?_;clear hK K));try refine iC ?_)) | refine Cg _ (AZ a) ?_ | refine Cg _ (AZ b) ?_ | refine Cg _ (cM) ?_ | refine Cg _ (cMb) ?_ | refine Cg _ (hSa) ?_ | refine Cg _ (hSb) ?_)
     simp only [go_sem,fN,seval,AP,AS.result,AH,AI,AN]
   ·refine Ay.ac fun C hC=>?_
    unfold Av
    repeat' (first | (with_reducible first | refine W ?_ | refine Z0 ?_ | ((first | refine Wo fun K hK=>?_ | refine Wp ?_ | refine Wq ?_ | refine Wr ?_);(try simp only [go_sem,fN,seval,eT,iR,q1,q2,h12',hml,hf,dT,dF,nL]);(repeat refine Ai ?_);(try (refine hK _ ?_;clear hK K));try refine iC ?_)) | refine Cg _ (AZ a) ?_ | refine Cg _ (AZ b) ?_ | refine Cg _ (cM) ?_ | refine Cg _ (cMb) ?_ | refine Cg _ (hSa) ?_)
    simp only [go_sem,fN,seval,AP,AS.result,AH,AI,AN]
  have h12':¬ (12:Int) < a.moves.length:=by omega
  have hml:(a.moves.map Ae).length=a.moves.length:=List.length_map _
  have ga:=Au.may_good he
  have hs2:=(Hd hsa (E:=_) rfl).two
  have h64:=(Hd hsa (E:=_) rfl).le
  obtain ⟨T,hT1,hT,hmin⟩:=UD (a:=a) (syms:=Ao [a]) h64
  have hL:=W4 a he hsa (by omega) T hT hmin
  have hO:=Tn a ga hsa (by omega) T hT
  have hn65:nK a (Ao [a]) (BI a auZ (Ao [a])) T≤64:=Nat.le_trans D4 h64
  generalize nK a (Ao [a]) (BI a auZ (Ao [a])) T=res at *
  by_cases hf:b.may 8 40=0
  case neg =>
   have hp:A1 a b=b.may 8 40:=by unfold A1;rw [if_pos he]
   unfold Ej at hW
   rw [if_pos (by rw [hp];exact hf),hp] at hW
   refine Ay.ac fun C hC=>?_
   unfold Av
   repeat' (first | (with_reducible first | refine W ?_ | refine Z0 ?_ | ((first | refine Wo fun K hK=>?_ | refine Wp ?_ | refine Wq ?_ | refine Wr ?_);(try simp only [go_sem,fN,seval,eT,iR,q1,q2,h12',hml,hf,dT,dF,nL]);(repeat refine Ai ?_);(try (refine hK _ ?_;clear hK K));try refine iC ?_)) | refine Cg _ (AZ a) ?_ | refine Cg _ (AZ b) ?_ | refine Cg _ (cM) ?_ | refine Cg _ (cMb) ?_ | refine Cg _ (hSa) ?_ | refine Cg _ (hO) ?_ | refine Cg _ (hW) ?_ | refine Cg _ (hL) ?_)
   simp only [go_sem,fN,seval,AP,AS.result,AH,AI,AN]
  case pos =>
   have hp:A1 a b=0:=by unfold A1;rw [if_pos he,hf]
   rw [hf] at cMb
   obtain ⟨b1,b2⟩:=DM hf
   have hSb:=F3 b (by omega) (fun m hm=>by have:=b2 m hm;omega)
   cases hsb:Ar b with
   | false =>
    rw [hsb] at hSb
    have hsm:DI [a,b]=3:=if_neg (by simp [hsb])
    unfold Ej at hW
    rw [if_neg (by rw [hp];simp),if_pos (by rw [hsm];decide),hsm] at hW
    refine Ay.ac fun C hC=>?_
    unfold Av
    repeat' (first | (with_reducible first | refine W ?_ | refine Z0 ?_ | ((first | refine Wo fun K hK=>?_ | refine Wp ?_ | refine Wq ?_ | refine Wr ?_);(try simp only [go_sem,fN,seval,eT,iR,q1,q2,h12',hml,dT,dF,nL]);(repeat refine Ai ?_);(try (refine hK _ ?_;clear hK K));try refine iC ?_)) | refine Cg _ (AZ a) ?_ | refine Cg _ (AZ b) ?_ | refine Cg _ (cM) ?_ | refine Cg _ (cMb) ?_ | refine Cg _ (hSa) ?_ | refine Cg _ (hSb) ?_ | refine Cg _ (hO) ?_ | refine Cg _ (hW) ?_ | refine Cg _ (hL) ?_)
    simp only [go_sem,fN,seval,AP,AS.result,AH,AI,AN]
   | true =>
    rw [hsb] at hSb
    have hsm:DI [a,b]=0:=if_pos (by simp [hsa,hsb])
    unfold Ej at hW
    rw [if_neg (by rw [hp];simp),if_neg (by rw [hsm];simp)] at hW
    have hmlb:(b.moves.map Ae).length=b.moves.length:=List.length_map _
    have gb:=Au.may_good hf
    have hWO:=Rk a b ga gb hsa hsb (by omega) (by omega)
    by_cases h12b:12 < b.moves.length
    ·have h12b':(12:Int) < b.moves.length:=by omega
     refine Ay.ac fun C hC=>?_
     unfold Av
     repeat' (first | (with_reducible first | refine W ?_ | refine Z0 ?_ | ((first | refine Wo fun K hK=>?_ | refine Wp ?_ | refine Wq ?_ | refine Wr ?_);(try simp only [go_sem,fN,seval,eT,iR,q1,q2,h12',hml,h12b',hmlb,dT,dF,nL]);(repeat refine Ai ?_);(try (refine hK _ ?_;clear hK K));try refine iC ?_)) | refine Cg _ (AZ a) ?_ | refine Cg _ (AZ b) ?_ | refine Cg _ (cM) ?_ | refine Cg _ (cMb) ?_ | refine Cg _ (hSa) ?_ | refine Cg _ (hSb) ?_)
     simp only [go_sem,fN,seval,AP,AS.result,AH,AI,AN]
    ·have h12b':¬ (12:Int) < b.moves.length:=by omega
     refine Ay.ac fun C hC=>?_
     unfold Av
     repeat' (first | (with_reducible first | refine W ?_ | refine Z0 ?_ | ((first | refine Wo fun K hK=>?_ | refine Wp ?_ | refine Wq ?_ | refine Wr ?_);(try simp only [go_sem,fN,seval,eT,iR,q1,q2,h12',hml,h12b',hmlb,dT,dF,nL]);(repeat refine Ai ?_);(try (refine hK _ ?_;clear hK K));try refine iC ?_)) | refine Cg _ (AZ a) ?_ | refine Cg _ (AZ b) ?_ | refine Cg _ (cM) ?_ | refine Cg _ (cMb) ?_ | refine Cg _ (hSa) ?_ | refine Cg _ (hSb) ?_ | refine Cg _ (hO) ?_ | refine Cg _ (hWO) ?_ | refine Cg _ (hW) ?_ | refine Cg _ (hL) ?_)
     simp only [go_sem,fN,seval,AP,AS.result,AH,AI,AN]

def sep (k:Nat):ByteArray:=if k=0 then ⟨#[40]⟩ else ⟨#[44]⟩
mutual
def Tm.text:Tm→ByteArray
 | .mk n xs=>n ++ Tm.textsFrom 0 xs ++ (if xs.length=0 then ⟨#[]⟩ else ⟨#[41]⟩)
def Tm.textsFrom:Nat→List Tm→ByteArray
 | _,[]=>⟨#[]⟩
 | k,t :: ts=>sep k ++ t.text ++ Tm.textsFrom (k+1) ts
end
theorem empty_append (b:ByteArray):(⟨#[]⟩:ByteArray) ++ b=b:=ByteArray.empty_append
theorem append_empty (b:ByteArray):b ++ (⟨#[]⟩:ByteArray)=b:=ByteArray.append_empty
theorem Tm.text_eq (t:Tm):t.text=t.name ++ Tm.textsFrom 0 t.args ++ (if t.args.length=0 then ⟨#[]⟩ else ⟨#[41]⟩):=by cases t;rfl
theorem Tm.textsFrom_snoc (a:Tm):∀ (k:Nat) (xs:List Tm),Tm.textsFrom k (xs ++ [a])=Tm.textsFrom k xs ++ (sep (k + xs.length) ++ a.text)
 | k,[]=>by simp [Tm.textsFrom,empty_append,append_empty]
 | k,t :: ts=>by
  rw [List.cons_append,Tm.textsFrom,Tm.textsFrom_snoc a (k+1) ts,Tm.textsFrom,List.length_cons,show k + 1 + ts.length=k + (ts.length + 1) by omega]
  simp only [ByteArray.append_assoc]
theorem Tm.textsFrom_append:∀ (k:Nat) (xs ys:List Tm),Tm.textsFrom k (xs ++ ys)=Tm.textsFrom k xs ++ Tm.textsFrom (k + xs.length) ys
 | k,[],ys=>by simp [Tm.textsFrom,empty_append]
 | k,t :: ts,ys=>by
  rw [List.cons_append,Tm.textsFrom,Tm.textsFrom_append (k+1) ts,Tm.textsFrom,List.length_cons,show k + 1 + ts.length=k + (ts.length + 1) by omega]
  simp only [ByteArray.append_assoc]
theorem Hm (k:Nat):(sep k).size=1:=by unfold sep;split <;> rfl
def Tm.ahead (t:Tm) (k:Nat):ByteArray:=t.name ++ Tm.textsFrom 0 (t.args.take k)
theorem Tm.ahead_zero (t:Tm):t.ahead 0=t.name:=by simp [Tm.ahead,Tm.textsFrom,append_empty]
theorem Tm.ahead_succ {t:Tm} {k:Nat} {a:Tm} (h:t.args[k]?=some a):t.ahead (k+1)=t.ahead k ++ sep k ++ a.text:=by
 have hl:=Cw h
 unfold Tm.ahead
 rw [AQ h,Tm.textsFrom_snoc,List.length_take,Nat.min_eq_left (by omega),Nat.zero_add]
 simp only [ByteArray.append_assoc]
theorem Tm.ahead_all {t:Tm} {k:Nat} (h:k=t.args.length):t.text=t.ahead k ++ (if k=0 then ⟨#[]⟩ else ⟨#[41]⟩):=by
 subst h
 rw [Tm.text_eq,Tm.ahead,List.take_length]
theorem Tm.ahead_le (t:Tm) (k:Nat):(t.ahead k).size≤t.text.size:=by
 rw [Tm.text_eq,Tm.ahead]
 have:t.args=t.args.take k ++ t.args.drop k:=(List.take_append_drop k t.args).symm
 conv=>rhs;rw [this]
 rw [Tm.textsFrom_append]
 simp only [ByteArray.size_append]
 omega
theorem Jz {t:Tm} (h:B_ t=0):1≤t.name.size∧t.name.size≤8:=by
 unfold B_ at h
 split at h
 ·split at h
  ·rename_i h1 _
   simp [Az] at h1
   omega
  ·rename_i h1 _
   simp [Az] at h1
   omega
 ·omega
mutual
theorem Tm.text_le:∀ t:Tm,t.chk=0→t.text.size + 1≤10 * t.size
 | .mk n xs,h=>by
  rw [Tm.chk_eq] at h
  split at h
  ·rename_i h0
   have h1:=Jz h0
   have h2:=Tm.textsFrom_le 0 xs h
   have h3:(if xs.length=0 then (⟨#[]⟩:ByteArray) else ⟨#[41]⟩).size≤1:=by split <;> simp [ByteArray.size]
   simp only [Tm.name] at h1
   simp only [Tm.text,Tm.size,ByteArray.size_append]
   omega
  ·omega
theorem Tm.textsFrom_le:∀ (k:Nat) (xs:List Tm),Tm.chkL xs=0→(Tm.textsFrom k xs).size≤10 * Tm.sizes xs
 | _,[],_=>by simp [Tm.textsFrom,Tm.sizes,ByteArray.size]
 | k,t :: ts,h=>by
  rw [Tm.chkL] at h
  split at h
  ·rename_i h0
   have h1:=Tm.text_le t h0
   have h2:=Tm.textsFrom_le (k+1) ts h
   simp only [Tm.textsFrom,Tm.sizes,ByteArray.size_append,Hm]
   omega
  ·omega
end

def Dt (a b:Tm):Bool:=if a.size=b.size then sLt a.text b.text else decide (a.size < b.size)
abbrev BJ:=List (Option Tm)
def C_ (best:BJ):List Int→Option (List Tm)
 | []=>some []
 | s :: ss=>match best.getD s.toNat none with
  | none=>none
  | some t=>(C_ best ss).map (t :: ·)
def Mv.cand (best:BJ) (m:Mv):Option Tm:=match C_ best m.frm with
 | none=>none
 | some ts=>if (Tm.mk m.name ts).size≤2000 then some (.mk m.name ts) else none
def Mv.gain (best:BJ) (m:Mv):Option Tm:=match m.cand best with
 | none=>none
 | some t=>match best.getD m.to_.toNat none with
  | none=>some t
  | some b=>if Dt t b=true then some t else none
def Cd (best:BJ) (m:Mv):BJ:=match m.gain best with
 | none=>best
 | some t=>best.set m.to_.toNat (some t)
def BT (p:BJ × Bool) (m:Mv):BJ × Bool:=(Cd p.1 m,p.2 || (m.gain p.1).isSome)
def pass (ms:List Mv) (best:BJ):BJ × Bool:=ms.foldl BT (best,false)
def Jq (ms:List Mv):Nat→BJ→BJ→Prop
 | 0,best,out=>pass ms best=(out,false)
 | n + 1,best,out=>(pass ms best).2=true∧Jq ms n (pass ms best).1 out
def Ou (best:BJ) (o:Option Tm) (s:Int):Option Tm:=match best.getD s.toNat none with
 | none=>o
 | some t=>match o with
  | none=>some t
  | some u=>if Dt t u=true then some t else o
def ED (best:BJ) (ss:List Int):Option Tm:=ss.foldl (Ou best) none
theorem Hh {best:BJ} {s:Int}:∀ {ss:List Int} {ts:List Tm},C_ best ss=some ts→C_ best (ss ++ [s])=(best.getD s.toNat none).map fun t=>ts ++ [t]
 | [],ts,h=>by
  cases h
  rw [List.nil_append,C_]
  cases best.getD s.toNat none <;> rfl
 | x :: xs,ts,h=>by
  rw [C_] at h
  rw [List.cons_append,C_]
  cases hx:best.getD x.toNat none with
  | none=>rw [hx] at h;cases h
  | some t =>
   rw [hx] at h
   simp only at h ⊢
   cases hc:C_ best xs with
   | none=>rw [hc] at h;cases h
   | some us =>
    rw [hc] at h
    cases h
    rw [Hh hc]
    cases best.getD s.toNat none <;> rfl
theorem Hg {best:BJ}:∀ {ss:List Int} {s:Int},s ∈ ss→best.getD s.toNat none=none→C_ best ss=none
 | x :: xs,s,h,e=>by
  rw [C_]
  rcases List.mem_cons.1 h with h | h
  ·subst h
   rw [e]
  ·rw [Hg h e]
   cases best.getD x.toNat none <;> rfl
theorem Ms {best:BJ}:∀ {ss:List Int} {ts:List Tm},C_ best ss=some ts→ts.length=ss.length
 | [],ts,h=>by cases h;rfl
 | x :: xs,ts,h=>by
  rw [C_] at h
  cases hx:best.getD x.toNat none with
  | none=>rw [hx] at h;cases h
  | some t =>
   rw [hx] at h
   simp only at h
   cases hc:C_ best xs with
   | none=>rw [hc] at h;cases h
   | some us =>
    rw [hc] at h
    cases h
    simp [Ms hc]
theorem JB {best:BJ}:∀ {ss:List Int} {ts:List Tm},C_ best ss=some ts→∀ t ∈ ts,some t ∈ best
 | [],ts,h,t,ht=>by cases h;cases ht
 | x :: xs,ts,h,t,ht=>by
  rw [C_] at h
  cases hx:best.getD x.toNat none with
  | none=>rw [hx] at h;cases h
  | some u =>
   rw [hx] at h
   simp only at h
   cases hc:C_ best xs with
   | none=>rw [hc] at h;cases h
   | some us =>
    rw [hc] at h
    cases h
    rcases List.mem_cons.1 ht with ht | ht
    ·subst ht
     rw [List.getD_eq_getElem?_getD] at hx
     cases hg:best[x.toNat]? with
     | none=>rw [hg] at hx;cases hx
     | some o =>
      rw [hg] at hx
      cases hx
      exact List.mem_of_getElem? hg
    ·exact JB hc t ht
theorem NV (best:BJ) (m:Mv):(Cd best m).length=best.length:=by
 unfold Cd
 split <;> simp
theorem Cs:∀ (ms:List Mv) (p:BJ × Bool),(ms.foldl BT p).1.length=p.1.length
 | [],p=>rfl
 | m :: ms,p=>by rw [List.foldl_cons,Cs ms];exact NV _ _
def FF (t:Tm):Prop:=t.chk=0∧t.size≤2000
def Dc (best:BJ):Prop:=∀ t,some t ∈ best→FF t
def OU (m:Mv):Prop:=(Az m.name=true∧BH m.name=false)∧m.frm.length≤4
theorem PE:∀ {ts:List Tm},(∀ t ∈ ts,t.chk=0)→Tm.chkL ts=0
 | [],_=>rfl
 | t :: ts,h=>by rw [Tm.chkL,if_pos (h t (by simp))];exact PE fun x hx=>h x (by simp [hx])
theorem JC {best:BJ} {m:Mv} {t:Tm} (h:m.gain best=some t):m.cand best=some t:=by
 unfold Mv.gain at h
 split at h
 ·cases h
 ·rename_i u hu
  split at h
  ·cases h
   exact hu
  ·split at h
   ·cases h
    exact hu
   ·cases h
theorem KL {best:BJ} (hb:Dc best) {m:Mv} (hm:OU m) {t:Tm} (h:m.cand best=some t):FF t:=by
 unfold Mv.cand at h
 split at h
 ·cases h
 ·rename_i ts hts
  split at h
  ·rename_i hs
   cases h
   refine ⟨?_,hs⟩
   have hl:=Ms hts
   have h1:B_ (.mk m.name ts)=0:=by
    unfold B_
    simp [Tm.name,hm.1.1,hm.1.2]
   rw [Tm.chk_eq,if_pos h1]
   exact PE fun x hx=>(hb x (JB hts x hx)).1
  ·cases h
theorem PD {best:BJ} (hb:Dc best) {m:Mv} (hm:OU m):Dc (Cd best m):=by
 unfold Cd
 split
 ·exact hb
 ·rename_i t ht
  intro x hx
  rcases List.mem_or_eq_of_mem_set hx with hx | hx
  ·exact hb x hx
  ·cases hx
   exact KL hb hm (JC ht)
theorem Di:∀ {ms:List Mv} {p:BJ × Bool},Dc p.1→(∀ m ∈ ms,OU m)→Dc (ms.foldl BT p).1
 | [],p,h,_=>h
 | m :: ms,p,h,hm=>by
  rw [List.foldl_cons]
  exact Di (PD h (hm m (by simp))) fun x hx=>hm x (by simp [hx])
def J6:Nat→List UInt8→Nat
 | 0,_=>0
 | _ + 1,[]=>0
 | L + 1,c :: cs=>(c.toNat + 1) * 257 ^ L + J6 L cs
theorem KC:∀ (L:Nat) (l:List UInt8),J6 L l < 257 ^ L
 | 0,_=>by simp [J6]
 | L + 1,[]=>by
  rw [J6]
  exact Nat.pow_pos (by omega)
 | L + 1,c :: cs=>by
  have h1:=KC L cs
  have h2:c.toNat < 256:=c.toNat_lt
  have h3:(c.toNat + 1) * 257 ^ L≤256 * 257 ^ L:=Nat.mul_le_mul_right _ (by omega)
  rw [J6,Nat.pow_succ]
  omega
theorem NS:∀ {L:Nat} {a b:List UInt8},b.length≤L→Op.bytesLess a b=true→J6 L a < J6 L b
 | _,a,[],_,h=>by simp [Op.bytesLess] at h
 | 0,a,y :: ys,hl,h=>by simp at hl
 | L + 1,[],y :: ys,hl,h=>by
  rw [J6,J6]
  have:=Nat.pow_pos (n:=L) (show 0 < 257 by omega)
  have h3:1 * 257 ^ L≤(y.toNat + 1) * 257 ^ L:=Nat.mul_le_mul_right _ (by omega)
  omega
 | L + 1,x :: xs,y :: ys,hl,h=>by
  simp only [Op.bytesLess,Bool.or_eq_true,Bool.and_eq_true,decide_eq_true_eq,beq_iff_eq] at h
  rw [J6,J6]
  rcases h with h | ⟨rfl,h⟩
  ·have h0:x.toNat < y.toNat:=h
   have h1:=KC L xs
   have h3:(x.toNat + 1 + 1) * 257 ^ L≤(y.toNat + 1) * 257 ^ L:=Nat.mul_le_mul_right _ (by omega)
   rw [Nat.add_mul (x.toNat + 1) 1] at h3
   omega
  ·have:=NS (by simpa using hl) h
   omega
def O4 (L:Nat) (t:Tm):Nat:=t.size * 257 ^ L + J6 L t.text.toList
theorem RN {L:Nat} {a b:Tm} (hb:b.text.toList.length≤L) (h:Dt a b=true):O4 L a < O4 L b:=by
 unfold Dt at h
 unfold O4
 split at h
 ·rename_i e
  have:=NS hb h
  rw [e]
  omega
 ·have h0:=of_decide_eq_true h
  have h1:=KC L a.text.toList
  have h2:(a.size + 1) * 257 ^ L≤b.size * 257 ^ L:=Nat.mul_le_mul_right _ h0
  rw [Nat.add_mul] at h2
  omega
def Md (L:Nat):Option Tm→Nat
 | none=>2001 * 257 ^ L
 | some t=>O4 L t
theorem TH {L:Nat} {t:Tm} (h:t.size≤2000):Md L (some t) < Md L none:=by
 have h1:=KC L t.text.toList
 have h2:(t.size + 1) * 257 ^ L≤2001 * 257 ^ L:=Nat.mul_le_mul_right _ (by omega)
 rw [Nat.add_mul] at h2
 simp only [Md,O4]
 omega
def FJ (L:Nat) (best:BJ):Nat:=(best.map (Md L)).sum
theorem Mu {L:Nat}:∀ {best:BJ} {i:Nat} {o o':Option Tm},best[i]?=some o→Md L o' < Md L o→FJ L (best.set i o') < FJ L best
 | [],i,o,o',h,_=>by simp at h
 | x :: xs,0,o,o',h,hl=>by
  simp only [List.getElem?_cons_zero,Option.some.injEq] at h
  subst h
  simp only [FJ,List.set_cons_zero,List.map_cons,List.sum_cons]
  omega
 | x :: xs,i + 1,o,o',h,hl=>by
  have:=Mu (best:=xs) (i:=i) (by simpa using h) hl
  simp only [FJ,List.set_cons_succ,List.map_cons,List.sum_cons] at this ⊢
  omega
@[irreducible] def J2:Nat:=20000
theorem W1:J2=20000:=by unfold J2;rfl
theorem GR {t:Tm} (h:FF t):t.text.size≤20000:=by
 have h1:=Tm.text_le t h.1
 have:=h.2
 omega
theorem Wt {t:Tm} (h:FF t):t.text.toList.length≤J2:=by
 have:=GR h
 rw [Lib.toList_data,Array.length_toList,W1]
 exact this
theorem Qq {best:BJ} (hb:Dc best) {m:Mv} (hm:OU m) (ht:m.to_.toNat < best.length):(m.gain best).isSome=true→FJ J2 (Cd best m) < FJ J2 best:=by
 intro h
 unfold Cd
 cases hg:m.gain best with
 | none=>rw [hg] at h;cases h
 | some t =>
  have hok:=KL hb hm (JC hg)
  obtain ⟨o,ho⟩:∃ o,best[m.to_.toNat]?=some o:=⟨_,List.getElem?_eq_getElem ht⟩
  have hd:best.getD m.to_.toNat none=o:=by rw [List.getD_eq_getElem?_getD,ho];rfl
  refine Mu ho ?_
  cases o with
  | none=>exact TH hok.2
  | some b =>
   unfold Mv.gain at hg
   rw [JC (best:=best) (m:=m) (t:=t) (by unfold Mv.gain;exact hg),hd] at hg
   simp only at hg
   split at hg
   ·rename_i hl
    exact RN (Wt (hb b (List.mem_of_getElem? ho))) hl
   ·cases hg
theorem Q4 {best:BJ} {m:Mv} (h:(m.gain best).isSome=false):Cd best m=best:=by
 unfold Cd
 cases hg:m.gain best with
 | none=>rfl
 | some t=>rw [hg] at h;cases h
theorem Lg:∀ {ms:List Mv} {p:BJ × Bool},Dc p.1→(∀ m ∈ ms,OU m∧m.to_.toNat < p.1.length)→FJ J2 (ms.foldl BT p).1≤FJ J2 p.1∧((ms.foldl BT p).2=true→p.2=true ∨ FJ J2 (ms.foldl BT p).1 < FJ J2 p.1)
 | [],p,_,_=>⟨Nat.le_refl _,fun h=>.inl h⟩
 | m :: ms,p,h,hm=>by
  have hm0:=hm m (by simp)
  obtain ⟨h1,h2⟩:=Lg (ms:=ms) (p:=BT p m) (PD h hm0.1) fun x hx=>⟨(hm x (by simp [hx])).1,by
   show _ < (Cd p.1 m).length
   rw [NV]
   exact (hm x (by simp [hx])).2⟩
  rw [List.foldl_cons]
  have e1:(BT p m).1=Cd p.1 m:=rfl
  have e2:(BT p m).2=(p.2 || (m.gain p.1).isSome):=rfl
  rw [e1] at h1 h2
  rw [e2] at h2
  cases hg:(m.gain p.1).isSome with
  | true =>
   have h3:=Qq h hm0.1 hm0.2 hg
   exact ⟨by omega,fun _=>.inr (by omega)⟩
  | false =>
   rw [hg,Bool.or_false] at h2
   rw [Q4 hg] at h1 h2
   exact ⟨h1,h2⟩
theorem R7 {ms:List Mv}:∀ (N:Nat) (best:BJ),Dc best→(∀ m ∈ ms,OU m∧m.to_.toNat < best.length)→FJ J2 best < N→∃ n out,Jq ms n best out
 | 0,_,_,_,h=>absurd h (by omega)
 | N + 1,best,hb,hm,hN=>by
  cases hp:(pass ms best).2 with
  | false=>exact ⟨0,(pass ms best).1,by show pass ms best=_;rw [← hp]⟩
  | true =>
   obtain ⟨_,h2⟩:=Lg (ms:=ms) (p:=(best,false)) hb hm
   rcases h2 hp with h | h
   ·cases h
   ·have hl:(pass ms best).1.length=best.length:=Cs ms (best,false)
    obtain ⟨n,out,hn⟩:=R7 N (pass ms best).1 (Di hb fun m h=>(hm m h).1) (fun m h=>by rw [hl];exact hm m h) (by
     have h:FJ J2 (pass ms best).1 < FJ J2 best:=h
     omega)
    exact ⟨n + 1,out,hp,hn⟩
theorem Lj {ms:List Mv} (hm:∀ m ∈ ms,OU m):∀ {n:Nat} {best out:BJ},Dc best→Jq ms n best out→Dc out∧out.length=best.length
 | 0,best,out,hb,h=>by
  have h:pass ms best=(out,false):=h
  have h1:=Di (ms:=ms) (p:=(best,false)) hb hm
  have h2:=Cs ms (best,false)
  have e:(ms.foldl BT (best,false)).1=out:=congrArg Prod.fst h
  rw [e] at h1 h2
  exact ⟨h1,h2⟩
 | n + 1,best,out,hb,h=>by
  have h1:=Di (ms:=ms) (p:=(best,false)) hb hm
  have h2:=Cs ms (best,false)
  obtain ⟨q1,q2⟩:=Lj hm h1 h.2
  exact ⟨q1,q2.trans h2⟩
def DD (a:Au):BJ:=List.replicate a.states.toNat none
theorem GC (a:Au):Dc (DD a):=fun t h=>by
 have:=List.eq_of_mem_replicate h
 cases this
theorem Wx {a:Au} (ha:a.may 8 40=0):∃ n out,Jq a.moves n (DD a) out:=by
 obtain ⟨_,h2,_⟩:=Au.may_ok.1 ha
 have ga:=Au.may_good ha
 refine R7 _ (DD a) (GC a) (fun m hm=>?_) (Nat.lt_succ_self _)
 have h:=Mv.err_ok.1 (h2 m hm)
 have:=ga.to_ m hm
 refine ⟨⟨h.1,h.2.1⟩,?_⟩
 simp only [DD,List.length_replicate]
 omega

theorem NN {ts:List ByteArray}:∀ x ∈ ts.map DV,x.length=1:=by
 intro x hx
 obtain ⟨a,_,rfl⟩:=List.mem_map.1 hx
 rfl
theorem Ve (t:Tm) (hz:t.size≤1000000):AU Try.prog 41 [aTm t] (Jw t.varsOf):=by
 have hl:=Tm.knots_length t
 refine Ox.ac fun C hC=>?_
 unfold Jh
 repeat' (first | (with_reducible first | refine W ?_ | refine Z0 ?_ | ((first | refine Wo fun K hK=>?_ | refine Wq ?_ | refine Wr ?_);(try simp only [go_sem,fN,seval,eT,iR]);(repeat refine Ai ?_);(try (refine hK _ ?_;clear hK K)))) | refine Cg _ (SX t hz) ?_)
 refine IWP.ghost (Ad.own 4 37 9 1 (xs:=([]:List ByteArray).map DV) rfl rfl NN (by omega)) ?_
 refine IWP.loopD [] (fun m s=>∃ k,k≤t.knots.length∧m=t.knots.length - k∧s.env 3=JU t.knots∧s.env 4=.one (.row 37 (Ap [] (t.knots.take k)).length)∧s.S 37=some (.arow 9 1 ((Ap [] (t.knots.take k)).map DV))∧s.env 5=AK k)
  t.knots.length ⟨0,Nat.zero_le _,rfl,rfl,rfl,rfl,rfl⟩ ?_
 rintro m ⟨env,S⟩ ⟨k,hk,rfl,e3,e4,s37,e5⟩
 simp only at e3 e4 s37 e5
 have hlen:=EH (t.knots.take k) []
 rw [List.length_take,List.length_nil] at hlen
 by_cases hlt:(k:Int) < t.knots.length
 ·obtain ⟨a,ha⟩:=Ab (show k < t.knots.length by omega)
  repeat' with_reducible first | refine W ?_ | refine Z0 ?_ | ((first | refine Wo fun K hK=>?_ | refine Wq ?_ | refine Wr ?_);(try simp only [go_sem,fN,seval,eT,iR,e3,e4,s37,e5,hlt]);(repeat refine Ai ?_);(try (refine hK _ ?_;clear hK K)))
  with_reducible refine Wp ?_
  simp only [go_sem,fN,seval,true_implies,false_implies,implies_true,dT,dF,nL,hlt]
  (try with_reducible refine iC ?_)
  repeat' with_reducible first | refine W ?_ | refine Z0 ?_ | ((first | refine Wo fun K hK=>?_ | refine Wq ?_ | refine Wr ?_);(try simp only [go_sem,fN,seval,eT,iR,e3,e4,s37,e5,ha]);(repeat refine Ai ?_);(try (refine hK _ ?_;clear hK K)))
  refine ⟨_,Ip _,?_⟩
  have hstep:Ap [] (t.knots.take (k + 1))=Bt (Ap [] (t.knots.take k)) a.name:=by rw [AQ ha,OH]
  cases hv:BH a.name with
  | false =>
   rw [NJ hv] at hstep
   repeat' with_reducible first | refine W ?_ | refine Z0 ?_ | ((first | refine Wo fun K hK=>?_ | refine Wq ?_ | refine Wr ?_);(try simp only [go_sem,fN,seval,eT,iR,e3,e4,s37,e5,ha]);(repeat refine Ai ?_);(try (refine hK _ ?_;clear hK K)))
   with_reducible refine Wp ?_
   simp only [go_sem,fN,seval,true_implies,false_implies,implies_true,dT,dF,nL]
   (try with_reducible refine iC ?_)
   repeat' with_reducible first | refine W ?_ | refine Z0 ?_ | ((first | refine Wo fun K hK=>?_ | refine Wq ?_ | refine Wr ?_);(try simp only [go_sem,fN,seval,eT,iR,e3,e4,s37,e5]);(repeat refine Ai ?_);(try (refine hK _ ?_;clear hK K)))
   refine AA ⟨t.knots.length - (k + 1),by omega,k + 1,by omega,rfl,?_⟩
   simp only [go_sem,fN,seval,AS.drop,AY,AC.clears,AC.clear,AC.highs,AC.high,Bool.not_false,Bool.true_and,Bool.and_self,AV.purge,AV.purges,AC.purge,AL.purge,List.contains_cons,List.contains_nil,Nat.reduceBEq,Bool.or_self,Bool.or_false,Bool.false_or,Bool.or_true,eT,iR,e3,e4,s37,e5,hstep]
   congr 3
  | true =>
   repeat' with_reducible first | refine W ?_ | refine Z0 ?_ | ((first | refine Wo fun K hK=>?_ | refine Wq ?_ | refine Wr ?_);(try simp only [go_sem,fN,seval,eT,iR,e3,e4,s37,e5,ha]);(repeat refine Ai ?_);(try (refine hK _ ?_;clear hK K)))
   refine ⟨_,Xj _ _,?_⟩
   cases hi:FZ a.name (Ap [] (t.knots.take k)) with
   | true =>
    rw [Mn hi] at hstep
    repeat' with_reducible first | refine W ?_ | refine Z0 ?_ | ((first | refine Wo fun K hK=>?_ | refine Wq ?_ | refine Wr ?_);(try simp only [go_sem,fN,seval,eT,iR,e3,e4,s37,e5]);(repeat refine Ai ?_);(try (refine hK _ ?_;clear hK K)))
    with_reducible refine Wp ?_
    simp only [go_sem,fN,seval,true_implies,false_implies,implies_true,dT,dF,nL]
    (try with_reducible refine iC ?_)
    repeat' with_reducible first | refine W ?_ | refine Z0 ?_ | ((first | refine Wo fun K hK=>?_ | refine Wq ?_ | refine Wr ?_);(try simp only [go_sem,fN,seval,eT,iR,e3,e4,s37,e5]);(repeat refine Ai ?_);(try (refine hK _ ?_;clear hK K)))
    refine AA ⟨t.knots.length - (k + 1),by omega,k + 1,by omega,rfl,?_⟩
    simp only [go_sem,fN,seval,AS.drop,AY,AC.clears,AC.clear,AC.highs,AC.high,Bool.not_false,Bool.true_and,Bool.and_self,AV.purge,AV.purges,AC.purge,AL.purge,List.contains_cons,List.contains_nil,Nat.reduceBEq,Bool.or_self,Bool.or_false,Bool.false_or,Bool.or_true,eT,iR,e3,e4,s37,e5,hstep]
    congr 3
   | false =>
    rw [LV hv hi] at hstep
    repeat' with_reducible first | refine W ?_ | refine Z0 ?_ | ((first | refine Wo fun K hK=>?_ | refine Wq ?_ | refine Wr ?_);(try simp only [go_sem,fN,seval,eT,iR,e3,e4,s37,e5]);(repeat refine Ai ?_);(try (refine hK _ ?_;clear hK K)))
    with_reducible refine Wp ?_
    simp only [go_sem,fN,seval,true_implies,false_implies,implies_true,dT,dF,nL]
    (try with_reducible refine iC ?_)
    repeat' with_reducible first | refine W ?_ | refine Z0 ?_ | ((first | refine Wo fun K hK=>?_ | refine Wq ?_ | refine Wr ?_);(try simp only [go_sem,fN,seval,eT,iR,e3,e4,s37,e5,ha]);(repeat refine Ai ?_);(try (refine hK _ ?_;clear hK K)))
    refine AA ⟨t.knots.length - (k + 1),by omega,k + 1,by omega,rfl,?_⟩
    simp only [go_sem,fN,seval,AS.drop,AY,AC.clears,AC.clear,AC.highs,AC.high,Bool.not_false,Bool.true_and,Bool.and_self,AV.purge,AV.purges,AC.purge,AL.purge,List.contains_cons,List.contains_nil,Nat.reduceBEq,Bool.or_self,Bool.or_false,Bool.false_or,Bool.or_true,eT,iR,e3,e4,s37,e5,hstep]
    exact ⟨by rw [List.map_append];rfl,by congr 3⟩
 ·repeat' with_reducible first | refine W ?_ | refine Z0 ?_ | ((first | refine Wo fun K hK=>?_ | refine Wq ?_ | refine Wr ?_);(try simp only [go_sem,fN,seval,eT,iR,e3,e4,s37,e5,hlt]);(repeat refine Ai ?_);(try (refine hK _ ?_;clear hK K)))
  with_reducible refine Wp ?_
  simp only [go_sem,fN,seval,true_implies,false_implies,implies_true,dT,dF,nL,hlt]
  (try with_reducible refine iC ?_)
  repeat' with_reducible first | refine W ?_ | refine Z0 ?_ | ((first | refine Wo fun K hK=>?_ | refine Wq ?_ | refine Wr ?_);(try simp only [go_sem,fN,seval,eT,iR,e4,s37]);(repeat refine Ai ?_);(try (refine hK _ ?_;clear hK K)))
  simp only [go_sem,fN,seval,AP,AS.result,AH,AI,AN,e4,s37]
  rw [List.take_of_length_le (by omega)]
  rfl
theorem Ha {α:Type} (f:Nat→α) (i:Nat) (a b:α):AD (AD f i a) i b=AD f i b:=by
 funext k
 unfold AD
 split <;> rfl
theorem M0 {α:Type} (f:Nat→α) {i j:Nat} (h:¬ i=j) (a b:α):AD (AD f i a) j b=AD (AD f j b) i a:=by
 funext k
 unfold AD
 split
 ·rename_i e
  subst e
  rw [if_neg (fun e=>h e.symm)]
 ·rfl
theorem NR (t:Tm) (hz:t.size≤1000000)
  (ih:∀ a ∈ t.args,∀ (i:Nat) (l:List ByteArray) (S:AB),1000≤i→l.length + a.size≤3000000→S i=some (.arow 9 1 (l.map DV)) →
   A2 Try.prog 66 [aTm a,.one (.row i l.length)] S (.one (.row i (Ap l a.knots).length)) (AD S i (some (.arow 9 1 ((Ap l a.knots).map DV)))))
  (C:Ctx) (hC:C.n=34) (i:Nat) (hi:20 < i) (l:List ByteArray) (hlz:l.length + t.size≤3000000) (S:AB) (hS:Am S) (env:Nat→AV) (e0:env 0=aTm t) (e1:env 1=.one (.row i l.length))
  (Q:AX→AS→Prop) (hQ:∀ env',env' 4=.one (.row i (Ap l t.knots).length)→Q .ret ⟨env',AD (AD S 2 (some (.box 39 [.st (.str t.name),.st (.list (t.args.map A_))]))) i (some (.arow 9 1 ((Ap l t.knots).map DV)))⟩) :
  IWP Try.prog C [31] Fa Q ⟨env,AD S i (some (.arow 9 1 (l.map DV)))⟩:=by
 have hs:=Tm.size_eq t
 have hk:=Tm.knots_eq t
 have hc2:=A7 hS (i:=2) (by omega)
 have hc6:=A7 hS (i:=6) (by omega)
 have hi2:¬ 2=i:=by omega
 have hi6:¬ 6=i:=by omega
 have hi2':¬ i=2:=by omega
 have hi6':¬ i=6:=by omega
 unfold Fa
 have hlk:∀ k,(Ap (Bt l t.name) (Tm.knotsL (t.args.take k))).length≤l.length + 1 + Tm.sizes (t.args.take k):=fun k=>by
  have h1:=EH (Tm.knotsL (t.args.take k)) (Bt l t.name)
  have h2:=G3 l t.name
  have h3:=Tm.knotsL_length (t.args.take k)
  omega
 repeat' with_reducible first | refine W ?_ | refine Z0 ?_ | ((first | refine Wo fun K hK=>?_ | refine Wq ?_ | refine Wr ?_);(try simp only [go_sem,fN,seval,eT,iR,e0,e1,hc2,hi2,hi6,hi2',hi6']);(repeat refine Ai ?_);(try (refine hK _ ?_;clear hK K)))
 refine ⟨_,D_ _,?_⟩
 rcases (show BH t.name=false ∨ (BH t.name=true∧FZ t.name l=true) ∨ (BH t.name=true∧FZ t.name l=false) by cases BH t.name <;> cases FZ t.name l <;> simp) with hv | ⟨hv,hin⟩ | ⟨hv,hin⟩
 case' inl =>
  have hl1:=NJ (l:=l) hv
  repeat' with_reducible first | refine W ?_ | refine Z0 ?_ | ((first | refine Wo fun K hK=>?_ | refine Wq ?_ | refine Wr ?_);(try simp only [go_sem,fN,seval,eT,iR,e0,e1,hv,hi2,hi2']);(repeat refine Ai ?_);(try (refine hK _ ?_;clear hK K)))
  with_reducible refine Wp ?_
  simp only [go_sem,fN,seval,true_implies,false_implies,implies_true,dT,dF,nL,hv]
  (try with_reducible refine iC ?_)
  repeat' with_reducible first | refine W ?_ | refine Z0 ?_ | ((first | refine Wo fun K hK=>?_ | refine Wq ?_ | refine Wr ?_);(try simp only [go_sem,fN,seval,eT,iR,e0,e1,hi2,hi2']);(repeat refine Ai ?_);(try (refine hK _ ?_;clear hK K)))
 case' inr.inl =>
  have hl1:=Mn (l:=l) hin
  repeat' (first | (with_reducible first | refine W ?_ | refine Z0 ?_ | ((first | refine Wo fun K hK=>?_ | refine Wq ?_ | refine Wr ?_);(try simp only [go_sem,fN,seval,eT,iR,e0,e1,hv,hi2,hi2',hin]);(repeat refine Ai ?_);(try (refine hK _ ?_;clear hK K)))) | refine Cg _ (Kq _ _) ?_)
  with_reducible refine Wp ?_
  simp only [go_sem,fN,seval,true_implies,false_implies,implies_true,dT,dF,nL,hv]
  (try with_reducible refine iC ?_)
  repeat' with_reducible first | refine W ?_ | refine Z0 ?_ | ((first | refine Wo fun K hK=>?_ | refine Wq ?_ | refine Wr ?_);(try simp only [go_sem,fN,seval,eT,iR,e0,e1,hi2,hi2']);(repeat refine Ai ?_);(try (refine hK _ ?_;clear hK K)))
 case' inr.inr =>
  have hl1:=LV (l:=l) hv hin
  repeat' (first | (with_reducible first | refine W ?_ | refine Z0 ?_ | ((first | refine Wo fun K hK=>?_ | refine Wq ?_ | refine Wr ?_);(try simp only [go_sem,fN,seval,eT,iR,e0,e1,hv,hi2,hi2',hin]);(repeat refine Ai ?_);(try (refine hK _ ?_;clear hK K)))) | refine Cg _ (Kq _ _) ?_)
  with_reducible refine Wp ?_
  simp only [go_sem,fN,seval,true_implies,false_implies,implies_true,dT,dF,nL,hv]
  (try with_reducible refine iC ?_)
  repeat' with_reducible first | refine W ?_ | refine Z0 ?_ | ((first | refine Wo fun K hK=>?_ | refine Wq ?_ | refine Wr ?_);(try simp only [go_sem,fN,seval,eT,iR,e0,e1,hi2,hi2']);(repeat refine Ai ?_);(try (refine hK _ ?_;clear hK K)))
 all_goals
  refine IWP.loopD [6] (fun m s=>∃ k,k≤t.args.length∧m=t.args.length - k∧s.env 1=.one (.row i (Ap (Bt l t.name) (Tm.knotsL (t.args.take k))).length)∧s.env 23=.one (.st (.list (t.args.map A_)))∧s.env 24=AK t.args.length∧s.env 25=AK k∧s.S=AD (AD S 2 (some (.box 39 [.st (.str t.name),.st (.list (t.args.map A_))]))) i (some (.arow 9 1 ((Ap (Bt l t.name) (Tm.knotsL (t.args.take k))).map DV)))) t.args.length ⟨0,Nat.zero_le _,rfl,?_,rfl,rfl,rfl,?_⟩ ?_
  ·show _=AV.one (.row i (Bt l t.name).length)
   rw [hl1]
   simp only [go_sem,fN,seval,eT,iR,e1]
  ·show _=AD (AD S 2 _) i (some (.arow 9 1 ((Bt l t.name).map DV)))
   rw [hl1]
   first
    | (simp only [Ha];exact M0 _ hi2' _ _)
    | (simp only [M0 _ hi2',Ha,List.map_append];rfl)
  rintro m ⟨env',S'⟩ ⟨k,hk',rfl,e1',e23,e24,e25,hS'⟩
  simp only at e1' e23 e24 e25 hS'
  have s6:S' 6=none:=by rw [hS',AF _ hi6,AF _ (by omega),hc6]
  have si:S' i=some (.arow 9 1 ((Ap (Bt l t.name) (Tm.knotsL (t.args.take k))).map DV)):=by rw [hS',AG]
  have hlk':=hlk k
  have z3:=Tm.length_le t.args
  by_cases hlt:(k:Int) < t.args.length
  ·obtain ⟨a,ha⟩:=Ab (show k < t.args.length by omega)
   have z1:=Tm.sizes_take ha
   have z2:=Tm.sizes_take_le t.args (k + 1)
   repeat' with_reducible first | refine W ?_ | refine Z0 ?_ | ((first | refine Wo fun K hK=>?_ | refine Wq ?_ | refine Wr ?_);(try simp only [go_sem,fN,seval,eT,iR,e1',e23,e24,e25,s6,si,hlt]);(repeat refine Ai ?_);(try (refine hK _ ?_;clear hK K)))
   with_reducible refine Wp ?_
   simp only [go_sem,fN,seval,true_implies,false_implies,implies_true,dT,dF,nL,e1',e23,e24,e25,s6,si,hlt]
   (try with_reducible refine iC ?_)
   repeat' with_reducible first | refine W ?_ | refine Z0 ?_ | ((first | refine Wo fun K hK=>?_ | refine Wq ?_ | refine Wr ?_);(try simp only [go_sem,fN,seval,eT,iR,e1',e23,e24,e25,s6,si,ha]);(repeat refine Ai ?_);(try (refine hK _ ?_;clear hK K)))
   have hni:([6]:List Nat).contains i=false:=by simp;omega
   refine ⟨_,_,ih a (AM ha) (up1 i) _ _ (Ba i) (by omega) (by rw [Bl,AF _ hi6',AF _ hi6',si];rfl),?_⟩
   repeat' with_reducible first | refine W ?_ | refine Z0 ?_ | ((first | refine Wo fun K hK=>?_ | refine Wq ?_ | refine Wr ?_);(try simp only [go_sem,fN,seval,eT,iR,e23,e24,e25]);(repeat refine Ai ?_);(try (refine hK _ ?_;clear hK K)))
   refine AA ⟨t.args.length - (k + 1),by omega,k + 1,by omega,rfl,?_⟩
   have hib:(i == 6)=false:=by simp;omega
   simp only [go_sem,fN,seval,AS.drop,AC.clears,AC.clear,AC.highs,AC.high,Bool.not_false,Bool.true_and,Bool.and_self,AV.purge,AV.purges,AC.purge,AL.purge,List.contains_cons,List.contains_nil,Nat.reduceBEq,Bool.or_self,Bool.or_false,Bool.false_or,Bool.or_true,eT,iR,e23,e24,hib]
   rw [Tm.knotsL_take ha,LA]
   refine ⟨rfl,by congr 3,?_⟩
   rw [Iv hni,QC rfl,QC rfl,hS',Iv hni,Iv rfl,OW (by decide) hS,Ha]
   rfl
  ·repeat' with_reducible first | refine W ?_ | refine Z0 ?_ | ((first | refine Wo fun K hK=>?_ | refine Wq ?_ | refine Wr ?_);(try simp only [go_sem,fN,seval,eT,iR,e1',e23,e24,e25,hlt]);(repeat refine Ai ?_);(try (refine hK _ ?_;clear hK K)))
   with_reducible refine Wp ?_
   simp only [go_sem,fN,seval,true_implies,false_implies,implies_true,dT,dF,nL,e1',e23,e24,e25,hlt]
   (try with_reducible refine iC ?_)
   repeat' with_reducible first | refine W ?_ | refine Z0 ?_ | ((first | refine Wo fun K hK=>?_ | refine Wq ?_ | refine Wr ?_);(try simp only [go_sem,fN,seval,eT,iR,e1']);(repeat refine Ai ?_);(try (refine hK _ ?_;clear hK K)))
   rw [hS']
   have hfin:Ap (Bt l t.name) (Tm.knotsL (t.args.take k))=Ap l t.knots:=by rw [List.take_of_length_le (by omega),hk];rfl
   rw [hfin]
   refine hQ _ ?_
   simp only [go_sem,fN,seval,eT,iR]
theorem Tr {α:Type} {f:Nat→α} {i:Nat} {a:α} (h:f i=a):AD f i a=f:=by
 funext k
 unfold AD
 split
 ·rename_i e
  rw [e,h]
 ·rfl
theorem UE (t:Tm) (hz:t.size≤1000000):∀ (i:Nat) (l:List ByteArray) (S:AB),1000≤i→l.length + t.size≤3000000→S i=some (.arow 9 1 (l.map DV)) →
   A2 Try.prog 66 [aTm t,.one (.row i l.length)] S (.one (.row i (Ap l t.knots).length)) (AD S i (some (.arow 9 1 ((Ap l t.knots).map DV)))):=by
 induction h:SizeOf.sizeOf t using Nat.strongRecOn generalizing t with
 | _ N ih =>
 subst h
 have hs:=Tm.size_eq t
 intro i l S hi hl hSi
 refine H5.acS fun hS C hC=>?_
 have hcore:=NR t hz (fun a ha=>ih _ (Tm.lt_of_arg ha) a (by have:=Tm.size_mem ha;omega) rfl) C hC i (by omega) l hl S hS (fun j=>([aTm t,.one (.row i l.length)][j]?).getD (.tup [])) rfl rfl
  (IG C [.t 4] (.one (.row i (Ap l t.knots).length)) (AD S i (some (.arow 9 1 ((Ap l t.knots).map DV))))) ?_
 ·rw [Tr hSi] at hcore
  exact hcore
 ·intro env' e4
  have hc':Am (AD S i (some (.arow 9 1 ((Ap l t.knots).map DV)))):=Aq hS hi rfl
  refine SN trivial ⟨_,Ad.low (Vf (I8 (by omega) fun k c _ hk=>(hS k c hk).2) rfl),?_,?_,hc'⟩
  ·simp only [AH,AI,AN,e4,AV.low,AV.high,AC.high,hi,decide_true,if_true,Option.map_some]
  ·show CZ _=_
   rw [Tb _ hi,Kf _ (by omega),Km hS]
theorem Vg (t:Tm) (hz:t.size≤1000000) (a0:Nat) (S:AB) (ha:1000≤a0) (hSa:S a0=none) :
   A2 Try.prog 66 [aTm t,.one (.full [])] S (.one (.row a0 (Ap [] t.knots).length)) (AD S a0 (some (.arow 9 1 ((Ap [] t.knots).map DV)))):=by
 have hs:=Tm.size_eq t
 refine H5.acS fun hS C hC=>?_
 refine IWP.ghost (Ad.own 1 21 9 1 (xs:=([]:List ByteArray).map DV) rfl (A7 hS (by omega)) NN (by omega)) ?_
 refine NR t hz (fun a ha=>UE a (by have:=Tm.size_mem ha;omega)) C hC 21 (by omega) [] (by simp;omega) S hS _ rfl rfl _ ?_
 intro env' e4
 have hb:∀ i b,1000≤i→AD (AD S 2 (some (.box 39 [.st (.str t.name),.st (.list (t.args.map A_))]))) 21 (some (.arow 9 1 ((Ap [] t.knots).map DV))) i=some b→b.high=true:=I8 (by omega) (I8 (by omega) fun k c _ hk=>(hS k c hk).2)
 refine SN trivial ⟨_,Ad.hand 21 a0 (b0:=.arow 9 1 ((Ap [] t.knots).map DV)) (by omega) ha (by show AD _ _ _ _=_;rw [AF _ (by omega),AF _ (by omega),hSa]) (by simp only [AG]) rfl hb,?_,?_,Aq hS ha rfl⟩
 ·simp only [AH,AI,AN,e4,AV.hand,AV.ren,AC.ren,Bg,if_true,AV.high,AC.high,ha,decide_true,Option.map_some]
 ·show AD (CZ _) _ _=_
  rw [Kf _ (by omega),Kf _ (by omega),Km hS]
theorem Qj (t:Tm) (hz:t.size≤1000000):AU Try.prog 47 [aTm t] (Jw t.varsOf):=by
 refine OJ.ac fun C hC=>?_
 unfold Ik
 repeat' with_reducible first | refine W ?_ | refine Z0 ?_ | ((first | refine Wo fun K hK=>?_ | refine Wq ?_ | refine Wr ?_);(try simp only [go_sem,fN,seval,eT,iR]);(repeat refine Ai ?_);(try (refine hK _ ?_;clear hK K)))
 refine ⟨_,_,Vg t hz (up1 10) _ (Ba 10) (by rw [Bl];rfl),?_⟩
 repeat' with_reducible first | refine W ?_ | refine Z0 ?_ | ((first | refine Wo fun K hK=>?_ | refine Wq ?_ | refine Wr ?_);(try simp only [go_sem,fN,seval,eT,iR]);(repeat refine Ai ?_);(try (refine hK _ ?_;clear hK K)))
 simp only [go_sem,fN,seval,AP,AS.result,AH,AI,AN]
 rfl
theorem XL (t:Tm) (hz:t.size≤1000000):AU Try.prog 62 [aTm t] (aTm t):=by
 induction h:SizeOf.sizeOf t using Nat.strongRecOn generalizing t with
 | _ N ih =>
 subst h
 have hs:=Tm.size_eq t
 have hkn:=Tm.length_le t.args
 refine Nh.ac fun C hC=>?_
 unfold H3
 repeat' with_reducible first | refine W ?_ | refine Z0 ?_ | ((first | refine Wo fun K hK=>?_ | refine Wq ?_ | refine Wr ?_);(try simp only [go_sem,fN,seval,eT,iR]);(repeat refine Ai ?_);(try (refine hK _ ?_;clear hK K)))
 refine IWP.ghost (Ad.ownC 3 1 21 39 2 (xs:=([]:List Tm).map A_) rfl rfl rfl I1) ?_
 refine IWP.loopD [5] (fun m s=>∃ k,k≤t.args.length∧m=t.args.length - k∧s.env 2=.one (.ptr 2 1 0 0)∧s.env 3=.one (.ptr 3 1 0 0)∧s.S 2=some (.box 39 [.st (.str ⟨#[]⟩),.full []])∧s.S 3=some (.box 39 [.st (.str t.name),.row 21 k])∧s.S 21=some (.arow 39 2 ((t.args.take k).map A_))∧s.env 10=.one (.st (.list (t.args.map A_)))∧s.env 11=AK t.args.length∧s.env 12=AK k∧s.S 5=none)
  t.args.length ⟨0,Nat.zero_le _,rfl,rfl,rfl,rfl,rfl,rfl,rfl,rfl,rfl,rfl⟩ ?_
 rintro m ⟨env,S⟩ ⟨k,hk,rfl,e2,e3,s2,s3,s21,e10,e11,e12,s5⟩
 simp only at e2 e3 s2 s3 s21 e10 e11 e12 s5
 have hlk:(t.args.take k).length=k:=by rw [List.length_take];omega
 by_cases hlt:(k:Int) < t.args.length
 ·obtain ⟨a,ha⟩:=Ab (show k < t.args.length by omega)
  repeat' with_reducible first | refine W ?_ | refine Z0 ?_ | ((first | refine Wo fun K hK=>?_ | refine Wq ?_ | refine Wr ?_);(try simp only [go_sem,fN,seval,eT,iR,e2,e3,s2,s3,s21,e10,e11,e12,s5,hlt]);(repeat refine Ai ?_);(try (refine hK _ ?_;clear hK K)))
  with_reducible refine Wp ?_
  simp only [go_sem,fN,seval,true_implies,false_implies,implies_true,dT,dF,nL,e10,e11,e12,hlt]
  (try with_reducible refine iC ?_)
  repeat' (first | (with_reducible first | refine W ?_ | refine Z0 ?_ | ((first | refine Wo fun K hK=>?_ | refine Wq ?_ | refine Wr ?_);(try simp only [go_sem,fN,seval,eT,iR,e2,e3,s2,s3,s21,e10,e11,e12,s5,ha,hlk]);(repeat refine Ai ?_);(try (refine hK _ ?_;clear hK K)))) | refine Cg _ (ih _ (Tm.lt_of_arg (AM ha)) a (by have:=Tm.size_mem (AM ha);omega) rfl) ?_)
  refine AA ⟨t.args.length - (k + 1),by omega,k + 1,by omega,rfl,?_⟩
  simp only [go_sem,fN,seval,AS.drop,AY,AC.clears,AC.clear,AC.highs,AC.high,Bool.not_false,Bool.true_and,Bool.and_self,AV.purge,AV.purges,AC.purge,AL.purge,List.contains_cons,List.contains_nil,Nat.reduceBEq,Bool.or_self,Bool.or_false,Bool.false_or,Bool.or_true,eT,iR,e2,e3,s2,s3,s21,e10,e11,e12,s5]
  exact ⟨by rw [AQ ha];simp [C9],by congr 3⟩
 ·repeat' with_reducible first | refine W ?_ | refine Z0 ?_ | ((first | refine Wo fun K hK=>?_ | refine Wq ?_ | refine Wr ?_);(try simp only [go_sem,fN,seval,eT,iR,e2,e3,s2,s3,s21,e10,e11,e12,s5,hlt]);(repeat refine Ai ?_);(try (refine hK _ ?_;clear hK K)))
  with_reducible refine Wp ?_
  simp only [go_sem,fN,seval,true_implies,false_implies,implies_true,dT,dF,nL,e10,e11,e12,hlt]
  (try with_reducible refine iC ?_)
  repeat' with_reducible first | refine W ?_ | refine Z0 ?_ | ((first | refine Wo fun K hK=>?_ | refine Wq ?_ | refine Wr ?_);(try simp only [go_sem,fN,seval,eT,iR,e2,e3,s2,s3,s21,e10,e11,e12,s5]);(repeat refine Ai ?_);(try (refine hK _ ?_;clear hK K)))
  have hall:t.args.take k=t.args:=List.take_of_length_le (by omega)
  rw [hall] at hlk s21
  simp only [go_sem,fN,seval,AP,AS.result,AH,AI,AN,e2,s2,s21,hlk]

def Mk:IR :=
 (.seq (.ops [.i 1 (.box 39 (.t 0)),.i 2 (.mov (.c (.one (.st (.str (ByteArray.mk (#[])))))))]) (.seq (.ops [.f 5 0 1,.l 6 5,.m 3 6]) (.seq (.seq (.ops [.i 4 (.mov (.n 0))]) (.block 0 (.loop (.seq (.seq (.ops [.m 7 4,.f 8 1 1,.l 9 8,.i 10 (.len false (.t 9)),.i 11 (.bin .lss (.t 7) (.t 10))]) (.cond (.t 11) .skip (.exit 0))) (.seq (.block 1 (.seq (.seq (.ops [.m 14 4,.i 15 (.bin .eql (.t 14) (.n 0))]) (.cond (.t 15) (.ops [.m 16 3,.i 17 (.bin .add (.t 16) (.c (.one (.st (.str (ByteArray.mk (#[40]))))))),.m 3 17]) (.ops [.m 18 3,.i 19 (.bin .add (.t 18) (.c (.one (.st (.str (ByteArray.mk (#[44]))))))),.m 3 19]))) (.ops [.m 20 3,.f 21 1 1,.l 22 21,.m 23 4,.i 24 (.indexAddr 2 (.t 22) (.t 23)),.L 25 2 24,.i 26 (.call 73 [.t 25]),.i 27 (.bin .add (.t 20) (.t 26)),.m 3 27]))) (.ops [.m 12 4,.i 13 (.bin .add (.t 12) (.n 1)),.m 4 13])))))) (.seq (.seq (.ops [.f 28 1 1,.l 29 28,.i 30 (.len false (.t 29)),.i 31 (.bin .gtr (.t 30) (.n 0))]) (.cond (.t 31) (.ops [.m 32 3,.i 33 (.bin .add (.t 32) (.c (.one (.st (.str (ByteArray.mk (#[41]))))))),.m 3 33]) .skip)) (.seq (.ops [.m 34 3,.m 2 34]) .ret)))))
theorem Tw:OkF Try.prog 73 35 [] Mk [.t 2]:=.of Try.func73 rfl rfl (by kernel_rfl) rfl

theorem Oz:sep 0=⟨#[40]⟩:=rfl
theorem OZ {k:Nat} (h:k ≠ 0):sep k=⟨#[44]⟩:=if_neg h
theorem Tm.text_lt {t x:Tm} (h:x ∈ t.args):x.text.size≤t.text.size:=by
 obtain ⟨k,hk⟩:=List.getElem?_of_mem h
 have h1:=t.ahead_le (k + 1)
 rw [Tm.ahead_succ hk,ByteArray.size_append] at h1
 omega
theorem Tm.textsFrom_ge:∀ (k:Nat) (xs:List Tm),xs.length≤(Tm.textsFrom k xs).size
 | _,[]=>Nat.zero_le _
 | k,t :: ts=>by
  have:=Tm.textsFrom_ge (k + 1) ts
  simp only [Tm.textsFrom,ByteArray.size_append,Hm,List.length_cons]
  omega
theorem Tm.args_text (t:Tm):t.args.length≤t.text.size:=by
 have:=Tm.textsFrom_ge 0 t.args
 rw [Tm.text_eq,ByteArray.size_append,ByteArray.size_append]
 omega
theorem Rx (t:Tm):t.text.size≤1000000→AU Try.prog 73 [aTm t] (Da t.text):=by
 obtain ⟨N,hN⟩:∃ N,SizeOf.sizeOf t < N:=⟨_,Nat.lt_succ_self _⟩
 induction N generalizing t with
 | zero=>omega
 | succ N ih =>
 intro hz
 have hal0:=t.args_text
 refine Tw.ac fun C hC=>?_
 unfold Mk
 repeat' with_reducible first | refine W ?_ | refine Z0 ?_ | ((first | refine Wo fun K hK=>?_ | refine Wp ?_ | refine Wq ?_ | refine Wr ?_);(try simp only [go_sem,fN,seval,eT,iR,dT,dF,nL]);(repeat refine Ai ?_);(try (refine hK _ ?_;clear hK K));try refine iC ?_)
 refine IWP.loop (fun m s=>∃ k,k≤t.args.length∧m=t.args.length - k∧s.env 3=Da (t.ahead k)∧s.env 4=AK k∧s.env 1=.one (.ptr 1 1 0 0)∧s.S 1=some (.box 39 [.st (.str t.name),.st (.list (t.args.map A_))])) t.args.length ⟨0,Nat.zero_le _,rfl,by rw [Tm.ahead_zero];rfl,rfl,rfl,rfl⟩ ?_
 rintro m ⟨env,S⟩ ⟨k,hk,rfl,e3,e4,e1,s1⟩
 simp only at e3 e4 e1 s1
 have hah:=t.ahead_le k
 by_cases hlt:k < t.args.length
 ·have hlt':(k:Int) < t.args.length:=by omega
  obtain ⟨a,ha⟩:=Ab hlt
  have hm:=AM ha
  have hta:=Tm.text_lt hm
  have hs:=ih a (by have:=Tm.lt_of_arg hm;omega) (by omega)
  have hnx:=Tm.ahead_succ ha
  have h1:=t.ahead_le (k + 1)
  rw [hnx,ByteArray.size_append,ByteArray.size_append,Hm] at h1
  have z1:(⟨#[40]⟩:ByteArray).size=1:=rfl
  have z2:(⟨#[44]⟩:ByteArray).size=1:=rfl
  by_cases h0:k=0
  ·subst h0
   rw [Oz] at hnx
   have hl0:(0:Int) < t.args.length:=by omega
   repeat' (first | (with_reducible first | refine W ?_ | refine Z0 ?_ | ((first | refine Wo fun K hK=>?_ | refine Wp ?_ | refine Wq ?_ | refine Wr ?_);(try simp only [go_sem,fN,seval,eT,iR,e3,e4,e1,s1,hl0,ha,dT,dF,nL]);(repeat refine Ai ?_);(try (refine hK _ ?_;clear hK K));try refine iC ?_)) | refine Cg _ (hs) ?_)
   refine AA ⟨t.args.length - (0 + 1),by omega,0 + 1,by omega,rfl,?_⟩
   simp only [go_sem,fN,seval,eT,iR,e3,e4,e1,s1,hnx]
   try rfl
  ·rw [OZ h0] at hnx
   have h0':¬ (k:Int)=0:=by omega
   repeat' (first | (with_reducible first | refine W ?_ | refine Z0 ?_ | ((first | refine Wo fun K hK=>?_ | refine Wp ?_ | refine Wq ?_ | refine Wr ?_);(try simp only [go_sem,fN,seval,eT,iR,e3,e4,e1,s1,hlt',h0',ha,dT,dF,nL]);(repeat refine Ai ?_);(try (refine hK _ ?_;clear hK K));try refine iC ?_)) | refine Cg _ (hs) ?_)
   refine AA ⟨t.args.length - (k + 1),by omega,k + 1,by omega,rfl,?_⟩
   simp only [go_sem,fN,seval,eT,iR,e3,e4,e1,s1,hnx]
   try (congr 3)
 ·have hlt':¬ (k:Int) < t.args.length:=by omega
  have hal:=Tm.ahead_all (t:=t) (k:=k) (by omega)
  by_cases h0:k=0
  ·rw [if_pos h0,append_empty] at hal
   have hl0:¬ (0:Int) < t.args.length:=by omega
   repeat' with_reducible first | refine W ?_ | refine Z0 ?_ | ((first | refine Wo fun K hK=>?_ | refine Wp ?_ | refine Wq ?_ | refine Wr ?_);(try simp only [go_sem,fN,seval,eT,iR,e3,e4,e1,s1,hlt',hl0,dT,dF,nL]);(repeat refine Ai ?_);(try (refine hK _ ?_;clear hK K));try refine iC ?_)
   simp only [go_sem,fN,seval,AP,AS.result,AH,AI,AN]
   rw [hal]
  ·rw [if_neg h0] at hal
   have z1:(⟨#[41]⟩:ByteArray).size=1:=rfl
   rw [hal,ByteArray.size_append] at hz
   have hl0:(0:Int) < t.args.length:=by omega
   repeat' with_reducible first | refine W ?_ | refine Z0 ?_ | ((first | refine Wo fun K hK=>?_ | refine Wp ?_ | refine Wq ?_ | refine Wr ?_);(try simp only [go_sem,fN,seval,eT,iR,e3,e4,e1,s1,hlt',hl0,dT,dF,nL]);(repeat refine Ai ?_);(try (refine hK _ ?_;clear hK K));try refine iC ?_)
   simp only [go_sem,fN,seval,AP,AS.result,AH,AI,AN]
   rw [hal]

theorem Hv {P:Program} {f:FuncId} {xs:List AV} {S:AB} {r:AV} {S':AB} (hS':Am S→Am S')
  (h:Am S→∀ (C:Ctx) (σ:Sto) (ι:As) (vs:List Value) (w:World),C.n=xs.length→AR C σ ι (AS.startS xs S) { tmps:=vs.toArray,defers:=[] } w→Af (AT σ S ι) vs xs→Calls P f vs.toArray w fun e w'=>∃ v σ' ι' env',e=.returned v∧AR C σ' ι' ⟨env',S'⟩ { tmps:=vs.toArray,defers:=[] } w'∧AT σ' S' ι' v r):A2 P f xs S r S':=by
 intro hclean σ w vs ι hglob hfit hown hvs
 have hl:=hvs.len
 let C:Ctx:=⟨xs.length,w.heap.size,fun g=>¬ CE S ι g,σ,w,S,ι,hclean,hglob,[],none,false⟩
 have R:AR C σ ι (AS.startS xs S) { tmps:=vs.toArray,defers:=[] } w:=by
  refine ⟨by simp [C,hl],fun i hi=>?_,E8,hfit,hown.1,hown.2,fun id b g h hg=>.inr (fun hno=>hno id b h hg),fun _ _ h=>h,fun _ _ _=>rfl,⟨rfl,rfl,rfl⟩,⟨Nat.le_refl _,Nat.le_refl _⟩,fun _ _ _=>rfl,Upd.refl _ _⟩
  show AT σ S ι _ ((xs[i]?).getD (.tup []))
  have hi:i < xs.length:=hi
  have hi2:i < vs.length:=by omega
  obtain ⟨b,hb1,hb2⟩:=hvs.get' (List.getElem?_eq_getElem hi2)
  rw [Array.getD_eq_getD_getElem?,hb1]
  simpa [hi2] using hb2
 refine (h hclean C σ ι vs w rfl R hvs).mono fun e w' ⟨v,σ',ι',env',he,R',hv⟩=>?_
 exact ⟨v,σ',ι',he,hS' hclean,R'.upd,⟨R'.blk,R'.inj⟩,hv,R'.fit,R'.ext,fun p h1 h2=>R'.old p h1 (fun h=>h h2),R'.os,R'.grown.2,fun g h1 h2=>R'.same g h1 (fun h=>h h2),fun id b g h1 h2=>R'.base id b g h1 h2⟩
theorem Ad.ownCell {C:Ctx} {s:AS} {id r:Nat} {e e':TypeId} {cs:List AC} (j wd:Nat) (hS:s.S id=some (.box e cs)) (hj:cs[j]?=some (.full [])) (hr:s.S r=none) (hne:id ≠ r) :
  Ad C s ((s.set r (.mrow e' wd [])).set id (.box e (cs.set j (.row r 0)))):=fun a w ⟨σ,ι,R⟩=>by
 have hb:=R.blk _ _ hS
 cases hb with
 | @box _ _ g vs k1 k2 k3 k4 k5 =>
  obtain ⟨v,hv,hvr⟩:=k4.get hj
  cases hvr with
  | @full p len xs hs =>
   have hl:len=0:=by
    obtain ⟨p',cap',e1,_⟩:=CA hs
    cases e1
    rfl
   subst hl
   obtain ⟨hu,R'⟩:=R.fresh (w':=w) hr (.mrow e' wd []) ⟨p,0,none⟩ (Ext.refl _ _) R.fit (Below.refl _ _) (by simp) (fun S' ι' hu=>.mnil rfl rfl)
   have hS':(s.set r (.mrow e' wd [])).S id=some (.box e cs):=by simp [AS.set,AF _ hne,hS]
   have hι:AD ι r ⟨p,0,none⟩ id=ι id:=AF _ hne _
   have hrr:(s.set r (.mrow e' wd [])).S r=some (.mrow e' wd []):=by simp [AS.set,AG]
   obtain ⟨hu2,R2⟩:=R'.turn (w':=w) hS' (.box e (cs.set j (.row r 0))) (AD ι r ⟨p,0,none⟩ id) (σ':=σ) (fun _ _ h=>h) (fun _ _ _=>rfl) R.fit (by simp [AL.len]) (fun _=>⟨rfl,rfl⟩) ⟨rfl,rfl,rfl⟩ (Nat.le_refl _) (fun _ _ _=>rfl) (fun g h=>.inl h)
    (fun hu2=>by
     rw [hι] at hu2 ⊢
     refine .box k1 k2 k3 (Af.of_get (by rw [List.length_set];exact k4.len) fun q u c hu3 hc=>?_) k5
     by_cases e2:q=j
     ·subst e2
      rw [hv] at hu3
      cases hu3
      rw [List.getElem?_set_self (List.getElem?_eq_some_iff.1 hj).1] at hc
      cases hc
      refine .row (b:=.mrow e' wd []) (by simp [AS.set,AD,Ne.symm hne]) (Nat.le_refl _) rfl fun _=>?_
      simp [AD,Ne.symm hne]
     ·rw [List.getElem?_set_ne (fun e=>e2 e.symm)] at hc
      obtain ⟨u',hu',hr'⟩:=k4.get hc
      rw [hu3] at hu'
      cases hu'
      exact (hr'.mono (fun _ _ h=>h) hu).mono (fun _ _ h=>h) hu2)
   exact ⟨σ,_,R2⟩

def By:IR :=
 (.seq (.ops [.i 4 (.mov (.n 0)),.i 5 (.mov (.c (.one (.st (.lit .nilIface)))))]) (.seq (.ops [.m 6 0,.i 7 (.callS 99 [.t 6])]) (.seq (.ops [.m 8 0,.m 9 0,.i 10 (.nilCheck (.t 9)),.f 11 1 10,.l 12 11,.m 13 1,.i 14 (.appS 5 (.t 12) (.t 13)),.i 15 (.nilCheck (.t 8)),.f 16 1 15,.s 1 16 14]) (.seq (.ops [.m 17 1,.i 18 (.len true (.t 17)),.m 4 18,.i 5 (.mov (.c (.one (.st (.lit .nilIface)))))]) .ret))))
theorem DT:OkF Try.prog 96 19 [7] By [.t 4,.t 5]:=.of Try.func96 rfl rfl (by kernel_rfl) rfl
def CH:IR :=
 (.seq (.ops [.i 4 (.mov (.c (.one (.st (.lit .nilIface)))))]) (.seq (.ops [.m 5 0,.i 6 (.callS 99 [.t 5])]) (.seq (.ops [.m 7 0,.m 8 0,.i 9 (.nilCheck (.t 8)),.f 10 1 9,.l 11 10,.m 12 1,.i 13 (.buildFlat [.t 12]),.i 14 (.append true 5 1 1 (.t 11) (.t 13)),.i 15 (.nilCheck (.t 7)),.f 16 1 15,.s 1 16 14]) (.seq (.ops [.i 4 (.mov (.c (.one (.st (.lit .nilIface)))))]) .ret))))
theorem Dk:OkF Try.prog 97 17 [6,14] CH [.t 4]:=.of Try.func97 rfl rfl (by kernel_rfl) rfl

theorem IX:(Try.prog.info? 130).map (fun i=>i.size)=some 2:=by kernel_rfl
set_option maxRecDepth 100000 in
theorem J8 (b:Nat) (w:World) (h0:w.cell? ⟨b,0,none⟩=some (.pointer (some ⟨b,0,none⟩))) :
  Calls Try.prog 99 #[.pointer (some ⟨b,0,none⟩)] w fun e w'=>e=.returned (.tuple #[])∧w'=w:=by
 obtain ⟨j,hj,_⟩:=Option.map_eq_some_iff.1 IX
 go_enter Try.func99,Try.ntmps99
 go_wp2
 rw [Lib.run_neq_ptr_same w _ Try.underlying127 hj]
 go_wp2
 go_end0
 exact ⟨rfl,rfl⟩
set_option maxRecDepth 100000 in
theorem Ir (b:Nat) (w:World) (h0:w.cell? ⟨b,0,none⟩=some (.pointer none)) (hsh:w.shape? b=some (130,2)) (hfz:w.frozen? ⟨b,0,none⟩=false) :
  Calls Try.prog 99 #[.pointer (some ⟨b,0,none⟩)] w fun e w'=>e=.returned (.tuple #[])∧w'=w.setCell ⟨b,0,none⟩ (.pointer (some ⟨b,0,none⟩)):=by
 obtain ⟨j,hj,hjs⟩:=Option.map_eq_some_iff.1 IX
 go_enter Try.func99,Try.ntmps99
 go_wp2
 rw [Lib.run_to_unsafe w ⟨b,0,none⟩ Try.underlying127 Try.underlying149 hj (by rw [hjs];decide) hsh (Nat.zero_lt_succ 1)]
 simp only [Result.andThen]
 rw [Oper.upon_value]
 go_wp2
 rw [run_callFunc_extern Try.func100 (by kernel_rfl) (by kernel_rfl) (by kernel_rfl) (e:=Extern.AbiNoEscape.same) (by kernel_rfl)]
 rw [Lib.run_noEscape]
 simp only [Result.andThen]
 rw [Oper.upon_value]
 go_wp2
 rw [Lib.run_from_unsafe w ⟨b,0,none⟩ Try.underlying149 Try.underlying127 hj hsh (by kernel_rfl)]
 simp only [Result.andThen]
 rw [Oper.upon_value]
 go_wp2
 go_end0
 exact ⟨rfl,rfl⟩
def Frz (w w':World) (g:Nat):Prop:=w'.heap.size=w.heap.size∧(∀ k,k ≠ g→w'.heap[k]?=w.heap[k]?)∧w'.os=w.os∧w'.tape=w.tape∧w'.output=w.output∧∀ cs e f,w.heap[g]?=some (.cells cs e f)→∃ f',w'.heap[g]?=some (.cells cs e f')
theorem Ro (w:World) (g n:Nat):Frz w (w.drew.freeze ⟨g,0,none⟩ n) g:=by
 unfold World.freeze
 split
 ·exact ⟨rfl,fun _ _=>rfl,rfl,rfl,rfl,fun cs e f h=>⟨f,h⟩⟩
 ·refine ⟨by simp,fun k hk=>?_,rfl,rfl,rfl,fun cs e f h=>?_⟩
  ·simp only [Array.getElem?_modify]
   rw [if_neg (fun e=>hk e.symm)]
   rfl
  ·obtain ⟨lo,hi⟩:=f
   have h':w.drew.heap[g]?=some (.cells cs e (lo,hi)):=h
   refine ⟨if lo == hi then (0,0 + n) else (min lo 0,max hi (0 + n)),?_⟩
   simp only [Array.getElem?_modify,if_true,h',Option.map_some]
set_option maxRecDepth 100000 in
theorem JA (b g cap:Nat) (p:Value) (cur:Array Value) (l:List UInt8) (w:World) (h0:l ≠ []) (hbk:w.heap[b]?=some (.cells #[p,.slice (some ⟨g,0,none⟩) l.length cap] 130 (0,0))) (hbg:w.heap[g]?=some (.cells cur 5 (0,0)))
  (hcm:cap≤maxLen) (hnc:l.length≤cap) (hsz:l.length≤cur.size) (hcur:∀ (j:Nat) (x:UInt8),l[j]?=some x→cur[j]?=some (Value.int .u8 (x.toNat:Int))) :
  Calls Try.prog 89 #[.pointer (some ⟨b,0,none⟩)] w fun e w'=>e=.returned (.string ⟨l.toArray⟩)∧Frz w w' g:=by
 have hl0:l.length ≠ 0:=by simpa using h0
 have c1:w.drew.cell? ⟨b,1,none⟩=some (.slice (some ⟨g,0,none⟩) l.length cap):=by
  have:w.drew.heap[b]?=some (.cells #[p,.slice (some ⟨g,0,none⟩) l.length cap] 130 (0,0)):=hbk
  rw [Lib.cell_of_heap this];rfl
 have hSD:(Builtin.unsafeSliceData_ #[128] 145 #[.slice (some ⟨g,0,none⟩) l.length cap]).run Try.prog w.drew=.ok (.pointer (some ⟨g,0,none⟩)) w.drew :=
  Lib.run_unsafeSliceData_row _ _ _ _ _ _ (by omega)
 have hUS:(Builtin.unsafeString_ #[145,3] 9 #[.pointer (some ⟨g,0,none⟩),.int .i64 l.length]).run Try.prog w.drew=.ok (.string ⟨l.toArray⟩) (w.drew.freeze ⟨g,0,none⟩ l.length):=by
  refine Lib.run_unsafeString_row w.drew 145 3 9 5 Try.underlying145 (by kernel_rfl) g cur.size (by have hg':w.drew.heap[g]?=some (.cells cur 5 (0,0)):=hbg;simp [World.shape?,hg']) l h0 (by omega) (by unfold maxLen at hcm;omega) ?_
  intro j x hx
  have hg':w.drew.heap[g]?=some (.cells cur 5 (0,0)):=hbg
  rw [BU,Nat.zero_add,cell_of_row w.drew g _ _ _ _ hg']
  exact hcur j x hx
 go_enter Try.func89,Try.ntmps89
 go_wp2
 have mixed:Try.prog.follows Departure.mixedOrders=true:=by kernel_rfl
 go_region_o
 all_goals (go_wp2;go_ret;exact ⟨rfl,Ro w g l.length⟩)
abbrev bT:TypeId:=130
abbrev u8T:TypeId:=5
structure Bld (S:AB) (a0 r:Nat) (bs:ByteArray):Prop where
 ha:1000≤a0
 hr:1000≤r
 ne:a0 ≠ r
 box:∃ p,(p=.st (.lit (.pointer none)) ∨ p=.ptr a0 1 0 0)∧S a0=some (.box bT [p,.row r bs.size])
 row:S r=some (.mrow u8T 1 (An bs))
def H4 (S:AB) (a0 r:Nat) (bs:ByteArray):AB:=AD (AD S a0 (some (.box bT [.ptr a0 1 0 0,.row r bs.size]))) r (some (.mrow u8T 1 (An bs)))
theorem Bld.next {S:AB} {a0 r:Nat} {bs cs:ByteArray} (h:Bld S a0 r bs):Bld (H4 S a0 r cs) a0 r cs :=
 ⟨h.ha,h.hr,h.ne,⟨_,.inr rfl,by unfold H4;rw [AF _ h.ne,AG]⟩,by unfold H4;rw [AG]⟩
theorem Nz {σ:Sto} {S:AB} {ι:As} {v:Value} {a0:Nat} {e:TypeId} {cs:List AC} (h:AT σ S ι v (.one (.ptr a0 1 0 0))) (hS:S a0=some (.box e cs)):∃ g,(ι a0).g=some g∧v=.pointer (some ⟨g,0,none⟩):=by
 have h:=AW h
 cases h with
 | @ptr _ _ _ _ _ b h1 h2 h3 h4 =>
  rw [hS] at h1
  cases h1
  obtain ⟨g,g1,g2⟩:=h4 rfl
  exact ⟨g,g1,by rw [g2];rfl⟩
theorem WE {σ:Sto} {S:AB} {ι:As} {v:Value} {a0:Nat} {e:TypeId} {cs:List AC} (h:Aj σ S ι v (.ptr a0 1 0 0)) (hS:S a0=some (.box e cs)):∃ g,(ι a0).g=some g∧v=.pointer (some ⟨g,0,none⟩):=Nz (.one h) hS
theorem O9 {α:Type} {l:List α} (h:l.length=2):∃ a b,l=[a,b]:=by
 match l,h with
 | [a,b],_=>exact ⟨a,b,rfl⟩
theorem Jm {a0 r:Nat} {bs:ByteArray} {S:AB} (h:Bld S a0 r bs):A2 Try.prog 99 [.one (.ptr a0 1 0 0)] S (.tup []) (AD S a0 (some (.box bT [.ptr a0 1 0 0,.row r bs.size]))):=by
 obtain ⟨p,hp,hSa⟩:=h.box
 refine Hv (fun hc=>Aq hc h.ha (by simp only [AL.high,AC.highs,AC.high,decide_eq_true h.ha,decide_eq_true h.hr,Bool.and_self])) fun hclean C σ ι vs w hn R hvs=>?_
 obtain ⟨v,rfl⟩:∃ v,vs=[v]:=by
  have:=hvs.len
  match vs,this with
  | [v],_=>exact ⟨v,rfl⟩
 have hv:AT σ S ι v (.one (.ptr a0 1 0 0)):=by cases hvs with | cons h _=>exact h
 obtain ⟨g,hg,rfl⟩:=Nz hv hSa
 have hb:=R.blk a0 _ hSa
 cases hb with
 | @box _ _ g' vs k1 k2 k3 k4 k5 =>
 rw [hg] at k1
 cases k1
 obtain ⟨v0,v1,hvs2⟩:=O9 (show vs.toList.length=2 by rw [k4.len];rfl)
 obtain rfl:vs=#[v0,v1]:=Array.ext' hvs2
 have r0:Aj σ S ι v0 p:=by cases k4 with | cons h _=>exact h
 have r1:Aj σ S ι v1 (.row r bs.size):=by cases k4 with | cons _ h=>cases h with | cons h _=>exact h
 have c0:w.cell? ⟨g,0,none⟩=some v0:=by rw [Lib.cell_of_heap k3];rfl
 have key:∀ w',w'=w.setRow g #[.pointer (some ⟨g,0,none⟩),v1]→∃ σ' ι' env',AR C σ' ι' ⟨env',AD S a0 (some (.box bT [.ptr a0 1 0 0,.row r bs.size]))⟩ { tmps:=#[.pointer (some ⟨g,0,none⟩)],defers:=[] } w'∧AT σ' (AD S a0 (some (.box bT [.ptr a0 1 0 0,.row r bs.size]))) ι' (.tuple #[]) (.tup []):=fun w' hw'=>by
  subst hw'
  obtain ⟨hu,R'⟩:=R.turn (w':=w.setRow g #[.pointer (some ⟨g,0,none⟩),v1]) hSa (.box bT [.ptr a0 1 0 0,.row r bs.size]) (ι a0) (σ':=σ) (fun _ _ h=>h) (fun _ _ _=>rfl) (R.fit.row k5 fun k hk=>setRow_other _ _ _ _ hk) (by simp [AL.len]) (fun _=>⟨rfl,rfl⟩) (BR _ _) (by simp)
   (fun k hk hne=>setRow_other _ _ _ _ (fun e=>hne (by rw [e];exact hg))) (fun g h=>.inl h) (fun hu=>.box hg k2 (setRow_heap w _ _ _ _ _ k3) (.cons (.ptr (b:=.box bT [.ptr a0 1 0 0,.row r bs.size]) (by simp [AS.set,AG]) (by simp [AL.len]) rfl fun _=>⟨g,by rw [AG];exact hg,by simp [AL.wid]⟩) (.cons (r1.mono (fun _ _ h=>h) hu) .nil)) k5)
  exact ⟨σ,_,_,R',.tup (fun _=>undef) rfl (by simp) (by simp)⟩
 rcases hp with rfl | rfl
 ·have e0:v0=.pointer none:=by cases r0 with | st h=>cases h with | lit _=>rfl
  subst e0
  refine (Ir g w c0 (by simp [World.shape?,k3]) (Lib.frozen_of_heap k3 0)).mono ?_
  rintro e w' ⟨rfl,rfl⟩
  obtain ⟨σ',ι',env',R',hv'⟩:=key _ (setCell_eq_setRow w g 0 _ _ _ _ k3)
  exact ⟨_,σ',ι',env',rfl,R',hv'⟩
 ·obtain ⟨g2,hg2,e0⟩:=WE r0 hSa
  rw [hg] at hg2
  cases hg2
  subst e0
  refine (J8 g w c0).mono ?_
  rintro e w' ⟨rfl,rfl⟩
  obtain ⟨σ',ι',env',R',hv'⟩:=key _ (setRow_self w' g _ _ _ k3).symm
  exact ⟨_,σ',ι',env',rfl,R',hv'⟩
theorem Jd (a b:ByteArray):An (a ++ b)=An a ++ An b:=by unfold An;simp
theorem Nj {a0 r:Nat} {bs:ByteArray} {S:AB} (h:Bld S a0 r bs):Bld (upS S) (up1 a0) (up1 r) bs:=by
 obtain ⟨p,hp,hSa⟩:=h.box
 refine ⟨Ba _,Ba _,fun e=>h.ne (Nat.add_right_cancel e),?_,by rw [Bk h.row];rfl⟩
 rcases hp with rfl | rfl
 ·exact ⟨_,.inl rfl,by rw [Bk hSa];rfl⟩
 ·exact ⟨_,.inr rfl,by rw [Bk hSa];rfl⟩
theorem K0 {a0 r n:Nat} (ha:1000≤a0) (hr:1000≤r):(AL.box bT [.ptr a0 1 0 0,.row r n]).high=true:=by simp only [AL.high,AC.highs,AC.high,decide_eq_true ha,decide_eq_true hr,Bool.and_self]
theorem ML {a0 r:Nat} {bs:ByteArray} {S:AB} (h:Bld S a0 r bs) (s:ByteArray) (hz:bs.size + s.size≤140737488355328):A2 Try.prog 96 [.one (.ptr a0 1 0 0),Da s] S (.tup [AK s.size,.one (.st (.lit .nilIface))]) (H4 S a0 r (bs ++ s)):=by
 obtain ⟨p,hp,hSa⟩:=h.box
 have hSr:=h.row
 have ha:=h.ha
 have hr:=h.hr
 have hne:=h.ne
 have hne2:¬ r=a0:=fun e=>hne e.symm
 have hbl:=EV bs
 refine DT.acS fun hS C hC=>?_
 unfold By
 repeat' with_reducible first | refine W ?_ | refine Z0 ?_ | ((first | refine Wo fun K hK=>?_ | refine Wp ?_ | refine Wq ?_ | refine Wr ?_);(try simp only [go_sem,fN,seval,eT,iR,hSa,dT,dF,nL]);(repeat refine Ai ?_);(try (refine hK _ ?_;clear hK K));try refine iC ?_)
 refine ⟨_,_,Jm (Nj h),?_⟩
 repeat' with_reducible first | refine W ?_ | refine Z0 ?_ | ((first | refine Wo fun K hK=>?_ | refine Wp ?_ | refine Wq ?_ | refine Wr ?_);(try simp only [go_sem,fN,seval,eT,iR,hSa,hSr,hne,hne2,hbl,dT,dF,nL]);(repeat refine Ai ?_);(try (refine hK _ ?_;clear hK K));try refine iC ?_)
 refine LF (.tup [AK s.size,.one (.st (.lit .nilIface))]) hS ha hr hne2 (K0 ha hr) rfl trivial ?_ ?_ ?_ ?_ fun i hi i1 i2=>?_
 ·simp only [go_sem,fN,seval,eT,iR,AH,AI,AN]
 ·simp only [go_sem,fN,seval,eT,iR]
  try rfl
 ·simp only [go_sem,fN,seval,eT,iR,hne,hne2]
  try (rw [ByteArray.size_append])
 ·simp only [go_sem,fN,seval,eT,iR,hne,hne2,Jd]
 ·simp only [go_sem,fN,seval,eT,iR,i1,i2]
theorem Ph (c:UInt8):An ⟨#[c]⟩=[[.int .u8 (c.toNat:Int)]]:=rfl
theorem GG {a0 r:Nat} {bs:ByteArray} {S:AB} (h:Bld S a0 r bs) (c:UInt8) (hz:bs.size + 1≤140737488355328):A2 Try.prog 97 [.one (.ptr a0 1 0 0),.one (.st (.int .u8 (c.toNat:Int)))] S (.one (.st (.lit .nilIface))) (H4 S a0 r (bs ++ ⟨#[c]⟩)):=by
 obtain ⟨p,hp,hSa⟩:=h.box
 have hSr:=h.row
 have ha:=h.ha
 have hr:=h.hr
 have hne:=h.ne
 have hne2:¬ r=a0:=fun e=>hne e.symm
 have hbl:=EV bs
 have hsz:(bs ++ ⟨#[c]⟩).size=bs.size + 1:=by rw [ByteArray.size_append];rfl
 refine Dk.acS fun hS C hC=>?_
 unfold CH
 repeat' with_reducible first | refine W ?_ | refine Z0 ?_ | ((first | refine Wo fun K hK=>?_ | refine Wp ?_ | refine Wq ?_ | refine Wr ?_);(try simp only [go_sem,fN,seval,eT,iR,hSa,dT,dF,nL]);(repeat refine Ai ?_);(try (refine hK _ ?_;clear hK K));try refine iC ?_)
 refine ⟨_,_,Jm (Nj h),?_⟩
 have h63:bs.size + 1≤maxLen:=by rw [BM];omega
 repeat' with_reducible first | refine W ?_ | refine Z0 ?_ | ((first | refine Wo fun K hK=>?_ | refine Wp ?_ | refine Wq ?_ | refine Wr ?_);(try simp only [go_sem,fN,seval,eT,iR,hSa,hSr,hne,hne2,hbl,h63,dT,dF,nL]);(repeat refine Ai ?_);(try (refine hK _ ?_;clear hK K));try refine iC ?_)
 refine LF (.one (.st (.lit .nilIface))) hS ha hr hne2 (K0 ha hr) rfl trivial ?_ ?_ ?_ ?_ fun i hi i1 i2=>?_
 ·simp only [go_sem,fN,seval,eT,iR,AH,AI,AN]
 ·simp only [go_sem,fN,seval,eT,iR]
  try rfl
 ·simp only [go_sem,fN,seval,eT,iR,hne,hne2,hbl,hsz]
 ·simp only [go_sem,fN,seval,eT,iR,hne,hne2,Jd,Ph]
 ·simp only [go_sem,fN,seval,eT,iR,i1,i2]
theorem J3 {a0 r:Nat} {bs:ByteArray} {S:AB} (h:Bld S a0 r bs) (h0:0 < bs.size) (hmx:bs.size≤140737488355328):A2 Try.prog 89 [.one (.ptr a0 1 0 0)] S (Da bs) (AD S r (some (.dead bs.size 1))):=by
 obtain ⟨p,hp,hSa⟩:=h.box
 refine Hv (fun hc=>Aq hc h.hr rfl) fun hclean C σ ι vs w hn R hvs=>?_
 obtain ⟨v,rfl⟩:∃ v,vs=[v]:=by
  have:=hvs.len
  match vs,this with
  | [v],_=>exact ⟨v,rfl⟩
 have hv:AT σ S ι v (.one (.ptr a0 1 0 0)):=by cases hvs with | cons h _=>exact h
 obtain ⟨g,hg,rfl⟩:=Nz hv hSa
 have hb:=R.blk a0 _ hSa
 have hbr:=R.blk r _ h.row
 have hlen:(An bs).length=bs.size:=EV bs
 cases hb with
 | @box _ _ g' vs k1 k2 k3 k4 k5 =>
 rw [hg] at k1
 cases k1
 obtain ⟨v0,v1,hvs2⟩:=O9 (show vs.toList.length=2 by rw [k4.len];rfl)
 obtain rfl:vs=#[v0,v1]:=Array.ext' hvs2
 have r1:Aj σ S ι v1 (.row r bs.size):=by cases k4 with | cons _ h=>cases h with | cons h _=>exact h
 generalize hrow:An bs=row at hbr hlen
 cases hbr with
 | mnil m1 m2=>simp at hlen;omega
 | @mrow _ _ _ gr cur m1 m2 m3 m4 m5 m6 m7 m8 m9 =>
 subst hrow
 have e1:v1=.slice (some ⟨gr,0,none⟩) bs.size (ι r).cap:=by
  cases r1 with
  | row q1 q2 q3 q4 =>
   rw [h.row] at q1
   cases q1
   rw [q4 hlen.symm,m2]
 subst e1
 have hl:bs.data.toList.length=bs.size:=by rw [Array.length_toList];rfl
 refine (JA g gr (ι r).cap v0 cur bs.data.toList w (fun e=>by rw [e] at hl;simp at hl;omega) (by rw [hl];exact k3) m3 m5 (by omega) (by rw [m6,hl];omega) fun j x hx=>?_).mono ?_
 ·have hx':(An bs)[j]?=some [SV.int .u8 (x.toNat:Int)]:=by
   unfold An
   rw [List.getElem?_map,hx]
   rfl
  obtain ⟨u,u1,u2⟩:=m8 j _ 0 _ hx' rfl
  rw [Nat.mul_one,Nat.add_zero] at u1
  rw [u1]
  cases u2
  rfl
 ·rintro e w' ⟨rfl,f1,f2,f3,f4,f5,f6⟩
  obtain ⟨hu,R'⟩:=R.turn (w':=w') h.row (.dead bs.size 1) (ι r) (σ':=σ) (fun _ _ h=>h) (fun _ _ _=>rfl) (R.fit.row m9 f2) (by simp [AL.len,hlen]) (fun _=>⟨rfl,rfl⟩) ⟨f3,f4,f5⟩ (by omega)
   (fun k hk hne=>f2 k (fun e=>hne (by rw [e];exact m1))) (fun g h=>.inl h) (fun hu=>.dead fun g hg=>by
    rw [m1] at hg
    cases hg
    obtain ⟨f',h'⟩:=f6 _ _ _ m3
    exact ⟨_,h',rfl⟩)
  refine ⟨_,σ,_,_,rfl,R',.one (.st (.str ?_))⟩
  show bs.size≤maxLen
  rw [BM]
  omega

end Go.Proofs.Ytkegjgodjigjfaa
