/-
  Proved: where rules go down and all critical pairs meet, every way of rewriting ends in the same term (NEWMAN): the law TopNewman returns true; as a tied card. Conditions: none.
-/
import Derived.Test.YtbhnmjkmieiadaaGreatDoord112
import Derived.Test.YtbhnmjkmieiadaaGreatDoorRows
import Derived.ProofKit
import Derived.OpenShut
import Derived.JoinedCond
import Derived.Deep.Slices
import Derived.Test.YtbhnmjkmieiadaaGreatDoorTie
import Derived.Test.YtbhnmjkmieiadaaGreatDoorCards
import Derived.LaidMore
import Derived.MakeChecks
import Derived.Stop.Joined
import Derived.Lib.LaidTab
import Derived.Lib.ItoaNum
import Derived.LaidLaws
namespace Go.Proofs.YtbhnmjkmieiadaaGreatDoor
open Go Go.RowKit
set_option linter.unusedVariables false
set_option linter.unusedSimpArgs false
set_option maxHeartbeats 1000000
def FD (S:AA) (out:List Tm):AA:=AG (AG (upS S) 1500 (some (.mrow 37 2 (out.map Ap)))) 1006 (some (.box 35 [.row 1500 out.length]))
theorem GK {S:AA} {out:List Tm} {i:Nat} (h:i ≠ 1500) (h':i ≠ 1006):FD S out i=upS S i:=by
 rw [FD,AH _ h',AH _ h]
abbrev Z5 (R:List Pr):AL:=.box 22 [.st (.list (R.map Bf))]
abbrev QO (i:Int):AL:=.box 23 [.st (.int .i64 i)]
def MP (o:Option (List Tm)):AV:=match o with
 | none=>.tup [Gh [],AO 8]
 | some l=>.tup [Gh l,AO 0]
theorem Zt {R:List Pr} (hR:AZ R) (t:Tm) (hc:t.chk=0) (hz:t.size≤2000):AU Tryz.prog 45 [CH R,aTm t] (MP (Gr R t)):=by
 rw [NF]
 have h40:=hR.len
 refine K5.acT fun C hC htop=>?_
 unfold GW
 repeat' (first | (with_reducible first | refine W ?_ | refine Z0 ?_ | ((first | refine Wo fun K hK=>?_ | refine Wp ?_ | refine Wq ?_ | refine Wr ?_);(try simp only [go_sem,fN,seval,eT,iR,dT,dF,nL]);(repeat refine Ai ?_);(try (refine hK _ ?_;clear hK K));try refine iC ?_)) | refine Cg _ (Z2 t) ?_)
 refine IWP.at_ (fun env S=>env 2=.one (.ptr 2 1 0 0)∧env 4=.one (.ptr 4 1 0 0)∧env 5=.one (.ptr 5 1 0 0)∧env 6=.one (.ptr 6 1 0 0)∧env 7=.one (.ptr 7 1 0 0)∧env 15=.one (.fn 113 [.eptr (Dq t),.eptr [svW []]])∧S 2=some (Z5 R)∧S 4=some (.box 35 [.full []])∧S 5=some (QO 0)∧S 6=some (.box 35 [.full []])∧S 7=some (QO 0)∧S 500=none∧S 501=none) ⟨rfl,rfl,rfl,rfl,rfl,rfl,rfl,rfl,rfl,rfl,rfl,rfl,rfl⟩ ?_
 rintro env S0 ⟨e2,e4,e5,e6,e7,e15,s2,s4,s5,s6,s7,s500,s501⟩
 refine IWP.ghost (Ac.ownCM 6 0 500 37 2 s6 rfl s500) ?_
 refine IWP.at_ (fun env' S=>env'=env∧S 2=some (Z5 R)∧S 4=some (.box 35 [.full []])∧S 5=some (QO 0)∧S 6=some (.box 35 [.row 500 0])∧S 7=some (QO 0)∧S 500=some (.mrow 37 2 [])∧S 501=none) ⟨rfl,by simp only [go_sem,fN,seval,eT,iR,s2],by simp only [go_sem,fN,seval,eT,iR,s4],by simp only [go_sem,fN,seval,eT,iR,s5],by simp only [go_sem,fN,seval,eT,iR];rfl,by simp only [go_sem,fN,seval,eT,iR,s7],by simp only [go_sem,fN,seval,eT,iR],by simp only [go_sem,fN,seval,eT,iR,s501]⟩ ?_
 clear s2 s4 s5 s6 s7 s500 s501 S0
 rintro env' S0 ⟨rfl,s2,s4,s5,s6,s7,s500,s501⟩
 refine IWP.rangeF htop 501 (by decide) s501 (show AS.ev _ (.t 15)=_ from e15) (by kernel_rfl) (TC t (by omega)) (fun _=>rfl) (fun pre U=>∃ out,BL R (pre.map DA)=some out∧U=FD S0 out) (fun ex U=>ex=.ret∧BL R ((t.visits []).map DA)=none∧U 1004=some (.box 35 [.full []])∧U 1005=some (QO 8)) ⟨[],rfl,?_⟩ (fun _ _ _ _ _=>trivial) ?_ ?_ ?_
 ·funext i
  unfold FD AG
  split
  ·rename_i h
   subst h
   exact D0 s6
  ·split
   ·rename_i h
    subst h
    exact D0 s500
   ·rfl
 ·rintro C' b0 b1 pre v U hC' hpre ⟨out,ho,rfl⟩ hU hcl hb1
  have hv:v ∈ t.visits []:=by
   obtain ⟨tl,htl⟩:=hpre
   rw [← htl]
   simp
  obtain ⟨hsur,hkn⟩:=Nx t [] trivial (by omega) v hv
  have hvc:=DS t v.2 hc hkn
  have hvz:=DD t v.2 hkn
  have hlen:=Ik ho
  have hpl:=hpre.length_le
  rw [List.length_append,TD] at hpl
  rw [List.length_map] at hlen
  have hlen2:out.length≤80000:=Nat.le_trans hlen (Nat.mul_le_mul (show pre.length≤2000 by simp at hpl;omega) h40)
  have n8:FD S0 out 8=none:=AP hcl (by decide)
  have n11:FD S0 out 11=none:=AP hcl (by decide)
  have w2:FC C.n env' 2=.one (.ptr 1002 1 0 0):=by rw [FC,if_pos (by omega),e2];rfl
  have w4:FC C.n env' 4=.one (.ptr 1004 1 0 0):=by rw [FC,if_pos (by omega),e4];rfl
  have w5:FC C.n env' 5=.one (.ptr 1005 1 0 0):=by rw [FC,if_pos (by omega),e5];rfl
  have w6:FC C.n env' 6=.one (.ptr 1006 1 0 0):=by rw [FC,if_pos (by omega),e6];rfl
  have w7:FC C.n env' 7=.one (.ptr 1007 1 0 0):=by rw [FC,if_pos (by omega),e7];rfl
  have u501:up1 501=1501:=rfl
  unfold Y5
  repeat' with_reducible first | refine W ?_ | refine Z0 ?_ | ((first | refine Wo fun K hK=>?_ | refine Wp ?_ | refine Wq ?_ | refine Wr ?_);(try simp only [go_sem,fN,seval,eT,iR,OX,n8,n11,u501,dT,dF,nL]);(repeat refine Ai ?_);(try (refine hK _ ?_;clear hK K));try refine iC ?_)
  refine AI ⟨by simp only [go_sem,fN,seval,eT,iR,u501],?_⟩
  have hst:∀ i,1000≤i→AG (AG (AG (AG (FD S0 out) 1501 (some b0)) 8 (some (.box 37 [.st (.str ⟨#[]⟩),.full []]))) 8 (some (.box 37 [.st (.str v.2.name),.st (.list (v.2.args.map Ap))]))) 1501 (some b1) i=AG (FD S0 out) 1501 (some b1) i:=fun i hi=>by
   by_cases h:i=1501
   ·subst h
    rw [AE,AE]
   ·rw [AH _ h,AH _ h,AH _ (by omega),AH _ (by omega),AH _ h]
  repeat' with_reducible first | refine W ?_ | refine Z0 ?_ | ((first | refine Wo fun K hK=>?_ | refine Wp ?_ | refine Wq ?_ | refine Wr ?_);(try simp only [go_sem,fN,seval,eT,iR,u501,dT,dF,nL]);(repeat refine Ai ?_);(try (refine hK _ ?_;clear hK K));try refine iC ?_)
  refine IWP.loopD [11] (fun m s=>∃ f o2,f≤R.length∧o2.length≤f∧m=R.length - f∧Ct (DA v) R=(Ct (DA v) (R.drop f)).map (o2 ++ ·)∧s.env 2=.one (.ptr 1002 1 0 0)∧s.env 4=.one (.ptr 1004 1 0 0)∧s.env 5=.one (.ptr 1005 1 0 0)∧s.env 6=.one (.ptr 1006 1 0 0)∧s.env 7=.one (.ptr 1007 1 0 0)∧s.env 8=.one (.ptr 8 1 0 0)∧s.env 9=.one (.st (svW v.1))∧s.env 10=AO f∧s.S 8=some (.box 37 [.st (.str v.2.name),.st (.list (v.2.args.map Ap))])∧s.S 11=none∧∀ i,1000≤i→s.S i=AG (FD S0 (out ++ o2)) 1501 (some b1) i) R.length ⟨0,[],Nat.zero_le _,Nat.zero_le _,rfl,?_,?_,?_,?_,?_,?_,?_,?_,?_,?_,?_,?_⟩ ?_
  ·simp
  ·simp only [go_sem,fN,seval,eT,iR,w2]
  ·simp only [go_sem,fN,seval,eT,iR,w4]
  ·simp only [go_sem,fN,seval,eT,iR,w5]
  ·simp only [go_sem,fN,seval,eT,iR,w6]
  ·simp only [go_sem,fN,seval,eT,iR,w7]
  ·simp only [go_sem,fN,seval,eT,iR]
  ·simp only [go_sem,fN,seval,eT,iR]
  ·simp only [go_sem,fN,seval,eT,iR]
  ·simp only [go_sem,fN,seval,eT,iR,u501]
  ·simp only [go_sem,fN,seval,eT,iR,n11,u501]
  ·rw [List.append_nil]
   exact hst
  rintro m ⟨env1,S1⟩ ⟨f,o2,hf,hfo,rfl,hoff,x2,x4,x5,x6,x7,x8,x9,x10,s8,s11,hS⟩
  simp only at x2 x4 x5 x6 x7 x8 x9 x10 s8 s11 hS
  have hout:∀ o,Ax (FD S0 (out ++ o)):=fun o=>B0 (B0 (KP S0) (by decide) rfl) (by decide) rfl
  have t2:S1 1002=some (Z5 R):=by rw [hS 1002 (by decide),AH _ (by decide),GK (by decide) (by decide)];exact D0 s2
  have t4:S1 1004=some (.box 35 [.full []]):=by rw [hS 1004 (by decide),AH _ (by decide),GK (by decide) (by decide)];exact D0 s4
  have t5:S1 1005=some (QO 0):=by rw [hS 1005 (by decide),AH _ (by decide),GK (by decide) (by decide)];exact D0 s5
  have t7:S1 1007=some (QO 0):=by rw [hS 1007 (by decide),AH _ (by decide),GK (by decide) (by decide)];exact D0 s7
  have t6:S1 1006=some (.box 35 [.row 1500 (out ++ o2).length]):=by rw [hS 1006 (by decide),AH _ (by decide)];rfl
  have t15:S1 1500=some (.mrow 37 2 ((out ++ o2).map Ap)):=by rw [hS 1500 (by decide),AH _ (by decide)];rfl
  have t1501:S1 1501=some b1:=by rw [hS 1501 (by decide),AE]
  have hhi:∀ i b,1000≤i→S1 i=some b→b.high=true:=fun i b hi h=>by
   rw [hS i hi] at h
   exact ((B0 (hout o2) (by decide) hb1) i b h).2
  have hbad:Ct (DA v) R=none→BL R ((t.visits []).map DA)=none:=fun h=>by
   obtain ⟨tl,htl⟩:=hpre
   rw [← htl,List.append_assoc,List.map_append,List.singleton_append,List.map_cons]
   exact Sq h
  have hroot:=Sk hR v.2 hvc (by omega) f hf
  rcases OE (DA v) (R.drop f) f with ⟨hr,ho2⟩ | ⟨i,y,r,hi1,hi2,hmem,hcase,hy,hrest⟩
  ·rw [show (DA v).2=v.2 from rfl] at hr
   rw [hr] at hroot
   unfold Im at hroot
   repeat' (first | (with_reducible first | refine W ?_ | refine Z0 ?_ | ((first | refine Wo fun K hK=>?_ | refine Wp ?_ | refine Wq ?_ | refine Wr ?_);(try simp only [go_sem,fN,seval,eT,iR,x2,x4,x5,x6,x7,x8,x9,x10,s8,s11,t2,t4,t5,t6,t7,t15,dT,dF,nL]);(repeat refine Ai ?_);(try (refine hK _ ?_;clear hK K));try refine iC ?_)) | refine Cg _ (hroot) ?_)
   rw [ho2] at hoff
   simp only [Option.map_some,List.append_nil] at hoff
   refine Ve (FD S0 (out ++ o2)) (B0 (hout o2) (by decide) hb1) (by
    have:=hU
    rw [GK (by decide) (by decide)] at this ⊢
    exact this) (fun i hi=>?_) ⟨out ++ o2,?_,rfl⟩
   ·show AG (AG S1 11 _) 11 _ i=_
    rw [AH _ (by omega),AH _ (by omega)]
    exact hS i hi
   ·rw [List.map_append]
    exact P6 ho hoff
  ·rw [show (DA v).2=v.2 from rfl] at hrest hcase hy
   rw [show (DA v).1=Bw v.1 from rfl] at hrest
   have hyz:y.size≤2000:=by rw [← hy];exact Fl
   have hpz:=Q0 hv y
   rw [List.length_drop] at hi2
   have hge:¬ (i:Int) < 0:=by omega
   rcases hrest with ⟨hr,_,ho2⟩ | ⟨hr,ho2⟩
   ·rw [hr] at hroot
    unfold Im at hroot
    by_cases hgr:(Bw v.1 y).size≤2000
    ·have hgi:¬ (2000:Int) < (Bw v.1 y).size:=by omega
     rw [if_pos hgr] at ho2
     repeat' (first | (with_reducible first | refine W ?_ | refine Z0 ?_ | ((first | refine Wo fun K hK=>?_ | refine Wp ?_ | refine Wq ?_ | refine Wr ?_);(try simp only [go_sem,fN,seval,eT,iR,x2,x4,x5,x6,x7,x8,x9,x10,s8,s11,t2,t4,t5,t6,t7,t15,hge,Mq,dT,dF,nL]);(repeat refine Ai ?_);(try (refine hK _ ?_;clear hK K));try refine iC ?_)) | refine Cg _ (hroot) ?_)
     rw [Ii]
     refine ⟨KS _,_,_,(Xn v.1 y hsur).toS (TB _ _),?_⟩
     have hl2:((out ++ o2).map Ap).length=(out ++ o2).length:=by simp
     have hat:((out ++ o2).map Ap ++ [[SV.str ⟨#[]⟩,SV.list []]])[out.length + o2.length]?=some [SV.str ⟨#[]⟩,SV.list []]:=by
      rw [List.getElem?_append_right (by simp)]
      simp
     repeat' (first | (with_reducible first | refine W ?_ | refine Z0 ?_ | ((first | refine Wo fun K hK=>?_ | refine Wp ?_ | refine Wq ?_ | refine Wr ?_);(try simp only [go_sem,fN,seval,eT,iR,x2,x4,x5,x6,x7,x8,x9,x10,s8,s11,t2,t4,t5,t6,t7,t15,hge,hgi,hl2,hat,dT,dF,nL]);(repeat refine Ai ?_);(try (refine hK _ ?_;clear hK K));try refine iC ?_)) | refine Cg _ (LM (Bw v.1 y) (by omega)) ?_ | refine Cg _ (Gs (Bw v.1 y) (by omega)) ?_)
     have hset:((out ++ o2).map Ap ++ [[SV.str ⟨#[]⟩,SV.list []]]).set (out.length + o2.length) [.str (Bw v.1 y).name,.list ((Bw v.1 y).args.map Ap)]=(out ++ (o2 ++ [Bw v.1 y])).map Ap:=by
      rw [List.set_append_right _ _ (by simp)]
      simp [Af]
     rw [hset]
     refine AI ⟨R.length - (i + 1),by omega,i + 1,o2 ++ [Bw v.1 y],by omega,by simp only [List.length_append,List.length_singleton];omega,rfl,?_,?_,?_,?_,?_,?_,?_,?_,?_,?_,rfl,L8 (T:=AG (FD S0 (out ++ (o2 ++ [Bw v.1 y]))) 1501 (some b1)) (by decide) (B0 (hout _) (by decide) hb1) fun j hj=>?_⟩
     ·rw [hoff,ho2,List.drop_drop,show f + (i + 1 - f)=i + 1 by omega,Option.map_map]
      congr 1
      funext l
      simp
     ·simp only [go_sem,fN,seval,AS.drop,Ao,AC.clears,AC.clear,AC.highs,AC.high,Bool.not_false,Bool.true_and,Bool.and_self,AV.purge,AV.purges,AC.purge,AL.purge,List.contains_cons,List.contains_nil,Nat.reduceBEq,Bool.or_self,Bool.or_false,Bool.false_or,Bool.or_true,eT,iR,x2]
     ·simp only [go_sem,fN,seval,AS.drop,Ao,AC.clears,AC.clear,AC.highs,AC.high,Bool.not_false,Bool.true_and,Bool.and_self,AV.purge,AV.purges,AC.purge,AL.purge,List.contains_cons,List.contains_nil,Nat.reduceBEq,Bool.or_self,Bool.or_false,Bool.false_or,Bool.or_true,eT,iR,x4]
     ·simp only [go_sem,fN,seval,AS.drop,Ao,AC.clears,AC.clear,AC.highs,AC.high,Bool.not_false,Bool.true_and,Bool.and_self,AV.purge,AV.purges,AC.purge,AL.purge,List.contains_cons,List.contains_nil,Nat.reduceBEq,Bool.or_self,Bool.or_false,Bool.false_or,Bool.or_true,eT,iR,x5]
     ·simp only [go_sem,fN,seval,AS.drop,Ao,AC.clears,AC.clear,AC.highs,AC.high,Bool.not_false,Bool.true_and,Bool.and_self,AV.purge,AV.purges,AC.purge,AL.purge,List.contains_cons,List.contains_nil,Nat.reduceBEq,Bool.or_self,Bool.or_false,Bool.false_or,Bool.or_true,eT,iR,x6]
     ·simp only [go_sem,fN,seval,AS.drop,Ao,AC.clears,AC.clear,AC.highs,AC.high,Bool.not_false,Bool.true_and,Bool.and_self,AV.purge,AV.purges,AC.purge,AL.purge,List.contains_cons,List.contains_nil,Nat.reduceBEq,Bool.or_self,Bool.or_false,Bool.false_or,Bool.or_true,eT,iR,x7]
     ·simp only [go_sem,fN,seval,AS.drop,Ao,AC.clears,AC.clear,AC.highs,AC.high,Bool.not_false,Bool.true_and,Bool.and_self,AV.purge,AV.purges,AC.purge,AL.purge,List.contains_cons,List.contains_nil,Nat.reduceBEq,Bool.or_self,Bool.or_false,Bool.false_or,Bool.or_true,eT,iR,x8]
     ·simp only [go_sem,fN,seval,AS.drop,Ao,AC.clears,AC.clear,AC.highs,AC.high,Bool.not_false,Bool.true_and,Bool.and_self,AV.purge,AV.purges,AC.purge,AL.purge,List.contains_cons,List.contains_nil,Nat.reduceBEq,Bool.or_self,Bool.or_false,Bool.false_or,Bool.or_true,eT,iR,x9]
     ·simp only [go_sem,fN,seval,AS.drop,Ao,AC.clears,AC.clear,AC.highs,AC.high,Bool.not_false,Bool.true_and,Bool.and_self,AV.purge,AV.purges,AC.purge,AL.purge,List.contains_cons,List.contains_nil,Nat.reduceBEq,Bool.or_self,Bool.or_false,Bool.false_or,Bool.or_true,eT,iR,x10]
      congr 3
     ·simp only [go_sem,fN,seval,AS.drop,Ao,AC.clears,AC.clear,AC.highs,AC.high,Bool.not_false,Bool.true_and,Bool.and_self,AV.purge,AV.purges,AC.purge,AL.purge,List.contains_cons,List.contains_nil,Nat.reduceBEq,Bool.or_self,Bool.or_false,Bool.false_or,Bool.or_true,eT,iR,s8]
     ·by_cases h1:j=1006
      ·subst h1
       show some _=some _
       congr 4
       simp
       omega
      ·by_cases h2:j=1500
       ·subst h2
        rfl
       ·show AG (AG (AG (AG (AG (AG S1 11 _) 11 _) 11 _) 1500 _) 1500 _) 1006 _ j=_
        rw [AH _ h1,AH _ h2,AH _ h2,AH _ (by omega),AH _ (by omega),AH _ (by omega),hS j hj]
        by_cases h3:j=1501
        ·subst h3
         rw [AE,AE]
        ·rw [AH _ h3,AH _ h3,GK h2 h1,GK h2 h1]
    ·have hgi:(2000:Int) < (Bw v.1 y).size:=by omega
     rw [if_neg hgr] at ho2
     repeat' (first | (with_reducible first | refine W ?_ | refine Z0 ?_ | ((first | refine Wo fun K hK=>?_ | refine Wp ?_ | refine Wq ?_ | refine Wr ?_);(try simp only [go_sem,fN,seval,eT,iR,x2,x4,x5,x6,x7,x8,x9,x10,s8,s11,t2,t4,t5,t6,t7,t15,hge,Mq,dT,dF,nL]);(repeat refine Ai ?_);(try (refine hK _ ?_;clear hK K));try refine iC ?_)) | refine Cg _ (hroot) ?_)
     rw [Ii]
     refine ⟨KS _,_,_,(Xn v.1 y hsur).toS (TB _ _),?_⟩
     repeat' (first | (with_reducible first | refine W ?_ | refine Z0 ?_ | ((first | refine Wo fun K hK=>?_ | refine Wp ?_ | refine Wq ?_ | refine Wr ?_);(try simp only [go_sem,fN,seval,eT,iR,x2,x4,x5,x6,x7,x8,x9,x10,s8,s11,t2,t4,t5,t6,t7,t15,hge,hgi,dT,dF,nL]);(repeat refine Ai ?_);(try (refine hK _ ?_;clear hK K));try refine iC ?_)) | refine Cg _ (LM (Bw v.1 y) (by omega)) ?_)
     rw [ho2,Option.map_none] at hoff
     rw [u501]
     refine Of ?_ (by decide) (by simp only [go_sem,fN,seval,eT,iR,t1501]) ⟨rfl,hbad hoff,?_,?_⟩
     ·repeat (first | exact hhi | refine Ot ?_ (by decide) | refine OR ?_ rfl)
     ·rw [PS (by decide) (by decide)]
      simp only [go_sem,fN,seval,eT,iR]
     ·rw [PS (by decide) (by decide)]
      simp only [go_sem,fN,seval,eT,iR]
   ·rw [hr] at hroot
    unfold Im at hroot
    all_goals
     repeat' (first | (with_reducible first | refine W ?_ | refine Z0 ?_ | ((first | refine Wo fun K hK=>?_ | refine Wp ?_ | refine Wq ?_ | refine Wr ?_);(try simp only [go_sem,fN,seval,eT,iR,x2,x4,x5,x6,x7,x8,x9,x10,s8,s11,t2,t4,t5,t6,t7,t15,hge,dT,dF,nL]);(repeat refine Ai ?_);(try (refine hK _ ?_;clear hK K));try refine iC ?_)) | refine Cg _ (hroot) ?_)
     rw [ho2,Option.map_none] at hoff
     rw [u501]
     refine Of ?_ (by decide) (by simp only [go_sem,fN,seval,eT,iR,t1501]) ⟨rfl,hbad hoff,?_,?_⟩
     ·repeat (first | exact hhi | refine Ot ?_ (by decide) | refine OR ?_ rfl)
     ·rw [PS (by decide) (by decide)]
      simp only [go_sem,fN,seval,eT,iR]
     ·rw [PS (by decide) (by decide)]
      simp only [go_sem,fN,seval,eT,iR]
 ·rintro U ⟨out,ho,rfl⟩
  rw [ho]
  have hdn:dnS (FD S0 out)=AG (AG S0 500 (some (.mrow 37 2 (out.map Ap)))) 6 (some (.box 35 [.row 500 out.length])):=by
   show dnS (AG (AG (upS S0) (up1 500) _) (up1 6) _)=_
   rw [PH,PH,Pv]
   rfl
  rw [hdn]
  refine Wi ?_
  refine Wb ?_
  have hl:(out.map Ap).length=out.length:=by simp
  refine IWP.ghost (Ac.share (id:=500) (e:=37) (wd:=2) (xs:=out.map Ap) (by simp only [go_sem,fN,seval,eT,iR])) ?_
  unfold MP
  repeat' with_reducible first | refine W ?_ | refine Z0 ?_ | ((first | refine Wo fun K hK=>?_ | refine Wp ?_ | refine Wq ?_ | refine Wr ?_);(try simp only [go_sem,fN,seval,eT,iR,e2,e4,e5,e6,e7,s4,s5,hl,dT,dF,nL]);(repeat refine Ai ?_);(try (refine hK _ ?_;clear hK K));try refine iC ?_)
  simp only [go_sem,fN,seval,AN,AS.result,AB,AD,AK,e4,e5,s4,s5,hl]
 ·rintro ex U ⟨rfl,ho,u4,u5⟩
  rw [ho]
  have d4:dnS U 4=some (.box 35 [.full []]):=HP (i:=1004) (by decide) u4
  have d5:dnS U 5=some (QO 8):=HP (i:=1005) (by decide) u5
  refine Wl ?_
  refine Wh ?_
  unfold MP
  simp only [go_sem,fN,seval,AN,AS.result,AB,AD,AK,e4,e5,d4,d5]
  rfl

def Mk (R:List Pr) (t:Tm):List Tm × Int:=match Gr R t with
 | none=>([],8)
 | some l=>(l,0)
def I0 (R:List Pr) (t:Tm):List Tm × Int:=if DJ R t=0 then Mk R t else ([],DJ R t)
theorem Uq (R:List Pr) (t:Tm):MP (Gr R t)=.tup [Gh (Mk R t).1,AO (Mk R t).2]:=by
 unfold Mk MP
 cases Gr R t <;> rfl
theorem X9 (R:List Pr) (t:Tm):AU Tryz.prog 20 [CH R,aTm t] (.tup [Gh (I0 R t).1,AO (I0 R t).2]):=by
 unfold I0
 refine Jr.ac fun C hC=>?_
 unfold FH
 by_cases ha:DJ R t=0
 ·rw [if_pos ha]
  obtain ⟨hR,hc,hz⟩:=Hi ha
  have hon:=Zt hR t hc (by omega)
  rw [Uq] at hon
  repeat' (first | (with_reducible first | refine W ?_ | refine Z0 ?_ | ((first | refine Wo fun K hK=>?_ | refine Wp ?_ | refine Wq ?_ | refine Wr ?_);(try simp only [go_sem,fN,seval,eT,iR,ha,dT,dF,nL]);(repeat refine Ai ?_);(try (refine hK _ ?_;clear hK K));try refine iC ?_)) | refine Cg _ (Bq R t) ?_ | refine Cg _ (hon) ?_)
  simp only [go_sem,fN,seval,AN,AS.result,AB,AD,AK]
 ·rw [if_neg ha]
  repeat' (first | (with_reducible first | refine W ?_ | refine Z0 ?_ | ((first | refine Wo fun K hK=>?_ | refine Wp ?_ | refine Wq ?_ | refine Wr ?_);(try simp only [go_sem,fN,seval,eT,iR,ha,dT,dF,nL]);(repeat refine Ai ?_);(try (refine hK _ ?_;clear hK K));try refine iC ?_)) | refine Cg _ (Bq R t) ?_)
  simp only [go_sem,fN,seval,AN,AS.result,AB,AD,AK]
  rfl

set_option maxRecDepth 100000
def I4:IR :=
 (.seq (.ops [.i 2 (.mov (.c (.one (.full []))))]) (.seq (.ops [.i 4 (.buildFlat [.c (.one (.st (.str (ByteArray.mk (#[97]))))),.c (.one (.st (.str (ByteArray.mk (#[98]))))),.c (.one (.st (.str (ByteArray.mk (#[99]))))),.c (.one (.st (.str (ByteArray.mk (#[104]))))),.c (.one (.st (.str (ByteArray.mk (#[107]))))),.c (.one (.st (.str (ByteArray.mk (#[102]))))),.c (.one (.st (.str (ByteArray.mk (#[103])))))]),.i 5 (.buildFlat [.c (.one (.st (.str (ByteArray.mk (#[103]))))),.c (.one (.st (.str (ByteArray.mk (#[102]))))),.c (.one (.st (.str (ByteArray.mk (#[107]))))),.c (.one (.st (.str (ByteArray.mk (#[104]))))),.c (.one (.st (.str (ByteArray.mk (#[99]))))),.c (.one (.st (.str (ByteArray.mk (#[98]))))),.c (.one (.st (.str (ByteArray.mk (#[97])))))]),.i 6 (.buildFlat [.c (.one (.st (.str (ByteArray.mk (#[102]))))),.c (.one (.st (.str (ByteArray.mk (#[104])))))]),.i 7 (.buildFlat [.c (.one (.st (.str (ByteArray.mk (#[101]))))),.c (.one (.st (.str (ByteArray.mk (#[102]))))),.c (.one (.st (.str (ByteArray.mk (#[105])))))]),.i 8 (.buildFlat [.c (.one (.st (.str (ByteArray.mk (#[99]))))),.c (.one (.st (.str (ByteArray.mk (#[97]))))),.c (.one (.st (.str (ByteArray.mk (#[107]))))),.c (.one (.st (.str (ByteArray.mk (#[104]))))),.c (.one (.st (.str (ByteArray.mk (#[103]))))),.c (.one (.st (.str (ByteArray.mk (#[102])))))]),.i 9 (.buildSlice false 26 1 [.t 4,.t 5,.t 6,.c (.one (.full [])),.t 7,.t 8]),.m 3 9]) (.seq (.ops [.m 10 3,.m 11 0,.m 12 3,.i 13 (.len false (.t 12)),.i 14 (.call 9 [.t 11,.t 13]),.i 15 (.indexAddr 1 (.t 10) (.t 14)),.l 16 15,.m 2 16]) .ret)))
theorem P5:OkF Tryz.prog 7 17 [] I4 [.t 2]:=.of Tryz.func7 rfl rfl (by kernel_rfl) rfl

theorem VT (m:Int) (hm:inR .i64 m):∃ row,AU Tryz.prog 7 [AO m] (CR row)∧EA row=0:=by
 have r1:=Bn m 6 (by omega)
 have p1:=E7 m 6 hm (by omega)
 obtain ⟨k,e1⟩:∃ k:Nat,DL m 6=k:=⟨(DL m 6).toNat,by omega⟩
 rw [e1] at p1 r1
 have key:∀ row:List ByteArray,[([.list [[.str ⟨#[97]⟩],[.str ⟨#[98]⟩],[.str ⟨#[99]⟩],[.str ⟨#[104]⟩],[.str ⟨#[107]⟩],[.str ⟨#[102]⟩],[.str ⟨#[103]⟩]]]:List SV),[.list [[.str ⟨#[103]⟩],[.str ⟨#[102]⟩],[.str ⟨#[107]⟩],[.str ⟨#[104]⟩],[.str ⟨#[99]⟩],[.str ⟨#[98]⟩],[.str ⟨#[97]⟩]]],[.list [[.str ⟨#[102]⟩],[.str ⟨#[104]⟩]]],[.list []],[.list [[.str ⟨#[101]⟩],[.str ⟨#[102]⟩],[.str ⟨#[105]⟩]]],[.list [[.str ⟨#[99]⟩],[.str ⟨#[97]⟩],[.str ⟨#[107]⟩],[.str ⟨#[104]⟩],[.str ⟨#[103]⟩],[.str ⟨#[102]⟩]]]][k]?=some [.list (row.map EC)]→AU Tryz.prog 7 [AO m] (CR row):=fun row hrow=>by
  refine P5.ac fun C hC=>?_
  unfold I4
  repeat' (first | (with_reducible first | refine W ?_ | refine Z0 ?_ | ((first | refine Wo fun K hK=>?_ | refine Wp ?_ | refine Wq ?_ | refine Wr ?_);(try simp only [go_sem,fN,seval,eT,iR,hrow,dT,dF,nL]);(repeat refine Ai ?_);(try (refine hK _ ?_;clear hK K));try refine iC ?_)) | refine Cg _ (p1) ?_)
  simp only [go_sem,fN,seval,AN,AS.result,AB,AD,AK]
 match k,(show k < 6 by omega) with
 | 0,_=>exact ⟨[⟨#[97]⟩,⟨#[98]⟩,⟨#[99]⟩,⟨#[104]⟩,⟨#[107]⟩,⟨#[102]⟩,⟨#[103]⟩],key _ rfl,by decide +kernel⟩
 | 1,_=>exact ⟨[⟨#[103]⟩,⟨#[102]⟩,⟨#[107]⟩,⟨#[104]⟩,⟨#[99]⟩,⟨#[98]⟩,⟨#[97]⟩],key _ rfl,by decide +kernel⟩
 | 2,_=>exact ⟨[⟨#[102]⟩,⟨#[104]⟩],key _ rfl,by decide +kernel⟩
 | 3,_=>exact ⟨[],key _ rfl,by decide +kernel⟩
 | 4,_=>exact ⟨[⟨#[101]⟩,⟨#[102]⟩,⟨#[105]⟩],key _ rfl,by decide +kernel⟩
 | 5,_=>exact ⟨[⟨#[99]⟩,⟨#[97]⟩,⟨#[107]⟩,⟨#[104]⟩,⟨#[103]⟩,⟨#[102]⟩],key _ rfl,by decide +kernel⟩

def By:IR :=
 (.seq (.ops [.i 10 (.mov (.c (.one (.st (.bool false)))))]) (.seq (.seq (.ops [.m 26 0,.i 27 (.len false (.t 26)),.i 28 (.bin .gtr (.t 27) (.n 256))]) (.cond (.t 28) (.seq (.ops [.i 10 (.mov (.c (.one (.st (.bool true)))))]) .ret) .skip)) (.seq (.ops [.m 29 1,.i 30 (.callN 12 [.t 29]),.m 11 30]) (.seq (.seq (.ops [.m 31 2,.i 32 (.call 9 [.t 31,.n 3]),.i 33 (.bin .eql (.t 32) (.n 0))]) (.cond (.t 33) (.ops [.m 34 11,.m 35 2,.i 36 (.bin .quo (.t 35) (.n 3)),.i 37 (.callN 12 [.t 36]),.i 38 (.append false 40 4 80 (.t 34) (.t 37)),.m 11 38]) .skip)) (.seq (.ops [.m 40 11,.i 41 (.call 13 [.t 40,.n 100]),.m 39 41,.i 42 (.extract 0 (.t 39)),.i 43 (.extract 1 (.t 39)),.m 12 42,.m 13 43]) (.seq (.ops [.i 45 (.call 14 [.c (.one (.st (.str (ByteArray.mk (#[97])))))]),.i 46 (.call 14 [.c (.one (.st (.str (ByteArray.mk (#[98])))))]),.i 47 (.build [.st (.str (ByteArray.mk (#[]))),.full [],.st (.str (ByteArray.mk (#[]))),.full []] [(0,2,.t 45),(2,2,.t 46)]),.i 48 (.buildSlice false 40 4 [.t 47]),.i 49 (.call 13 [.t 48,.n 5]),.m 44 49,.i 50 (.extract 0 (.t 44)),.i 51 (.extract 1 (.t 44)),.m 14 50,.m 15 51]) (.seq (.seq (.ops [.m 52 15,.i 53 (.bin .neq (.t 52) (.n 0)),.m 54 53,.mk (some 55) (some (54,false)) (.mov (.t 14)) .no,.mk (some 56) (some (54,false)) (.un .not (.t 55)) .no,.i 57 (.pick (.t 54) (.c (.one (.st (.bool true)))) (.t 56))]) (.cond (.t 57) (.seq (.ops [.i 10 (.mov (.c (.one (.st (.bool false)))))]) .ret) .skip)) (.seq (.seq (.ops [.m 58 13,.i 59 (.bin .neq (.t 58) (.n 0)),.m 60 59,.mk (some 61) (some (60,false)) (.mov (.t 12)) .no,.mk (some 62) (some (60,false)) (.un .not (.t 61)) .no,.i 63 (.pick (.t 60) (.c (.one (.st (.bool true)))) (.t 62)),.m 64 63,.mk (some 65) (some (64,false)) (.mov (.t 3)) .no,.mk (some 66) (some (64,false)) (.call 7 [.t 65]) .no,.mk (some 67) (some (64,false)) (.mov (.t 11)) .no,.mk (some 68) (some (64,false)) (.call 15 [.t 66,.t 67]) .no,.mk (some 69) (some (64,false)) (.un .not (.t 68)) .no,.i 70 (.pick (.t 64) (.c (.one (.st (.bool true)))) (.t 69))]) (.cond (.t 70) (.seq (.ops [.m 71 13,.i 72 (.bin .eql (.t 71) (.n 0)),.m 73 72,.mk (some 74) (some (73,false)) (.mov (.t 13)) .no,.mk (some 75) (some (73,false)) (.bin .eql (.t 74) (.n 9)) .no,.i 76 (.pick (.t 73) (.c (.one (.st (.bool true)))) (.t 75)),.m 77 76,.mk (some 78) (some (77,false)) (.mov (.t 13)) .no,.mk (some 79) (some (77,false)) (.bin .eql (.t 78) (.n 8)) .no,.i 80 (.pick (.t 77) (.c (.one (.st (.bool true)))) (.t 79)),.m 81 80,.mk (some 82) (some (81,false)) (.mov (.t 13)) .no,.mk (some 83) (some (81,false)) (.bin .eql (.t 82) (.n 3)) .no,.i 84 (.pick (.t 81) (.c (.one (.st (.bool true)))) (.t 83)),.m 10 84]) .ret) .skip)) (.seq (.ops [.m 85 0,.m 86 4,.i 87 (.call 9 [.t 86,.n 9]),.i 88 (.bin .add (.n 2) (.t 87)),.i 89 (.call 16 [.t 85,.n 0,.t 88,.n 2]),.i 16 (.alloc 37 [.st (.str (ByteArray.mk (#[]))),.full []]),.s 2 16 89]) (.seq (.ops [.m 91 11,.L 92 2 16,.i 93 (.call 17 [.t 91,.t 92,.n 400]),.m 90 93,.i 94 (.extract 0 (.t 90)),.i 95 (.extract 1 (.t 90)),.i 96 (.extract 2 (.t 90)),.i 17 (.alloc 37 [.st (.str (ByteArray.mk (#[]))),.full []]),.s 2 17 94,.m 18 95,.m 13 96]) (.seq (.ops [.m 98 11,.L 99 2 16,.i 100 (.call 18 [.t 98,.t 99,.n 400]),.m 97 100,.i 101 (.extract 0 (.t 97)),.i 102 (.extract 1 (.t 97)),.i 103 (.extract 2 (.t 97)),.i 19 (.alloc 37 [.st (.str (ByteArray.mk (#[]))),.full []]),.s 2 19 101,.m 20 102,.m 21 103]) (.seq (.seq (.ops [.m 104 13,.i 105 (.bin .eql (.t 104) (.n 0)),.m 106 105,.mk (some 107) (some (106,true)) (.mov (.t 21)) .no,.mk (some 108) (some (106,true)) (.bin .eql (.t 107) (.n 0)) .no,.i 109 (.pick (.t 106) (.t 108) (.c (.one (.st (.bool false))))),.m 110 109,.mk (some 111) (some (110,true)) (.load true 2 (.t 17)) .no,.mk (some 112) (some (110,true)) (.load true 2 (.t 19)) .no,.mk (some 113) (some (110,true)) (.call 19 [.t 111,.t 112]) .no,.mk (some 114) (some (110,true)) (.un .not (.t 113)) .no,.i 115 (.pick (.t 110) (.t 114) (.c (.one (.st (.bool false)))))]) (.cond (.t 115) (.seq (.ops [.i 10 (.mov (.c (.one (.st (.bool false)))))]) .ret) .skip)) (.seq (.ops [.m 117 11,.L 118 2 16,.i 119 (.call 20 [.t 117,.t 118]),.m 116 119,.i 120 (.extract 0 (.t 116)),.i 121 (.extract 1 (.t 116)),.m 22 120,.m 13 121]) (.seq (.seq (.ops [.m 122 13,.i 123 (.bin .neq (.t 122) (.n 0))]) (.cond (.t 123) (.seq (.ops [.i 10 (.mov (.c (.one (.st (.bool false)))))]) .ret) .skip)) (.seq (.seq (.ops [.i 23 (.mov (.n 0))]) (.block 0 (.loop (.seq (.seq (.ops [.m 124 23,.m 125 22,.i 126 (.len false (.t 125)),.i 127 (.bin .lss (.t 124) (.t 126))]) (.cond (.t 127) .skip (.exit 0))) (.seq (.block 1 (.seq (.seq (.ops [.m 130 22,.m 131 23,.i 132 (.indexAddr 2 (.t 130) (.t 131)),.L 133 2 132,.i 134 (.call 21 [.t 133,.n 200]),.i 135 (.bin .gtr (.t 134) (.n 200))]) (.cond (.t 135) (.exit 1) .skip)) (.seq (.ops [.m 137 11,.m 138 22,.i 139 (.indexAddr 2 (.t 138) (.n 0)),.L 140 2 139,.m 141 22,.m 142 23,.i 143 (.indexAddr 2 (.t 141) (.t 142)),.L 144 2 143,.i 145 (.call 22 [.t 137,.t 140,.t 144,.n 400]),.m 136 145,.i 146 (.extract 0 (.t 136)),.i 147 (.extract 1 (.t 136)),.m 24 146,.m 25 147]) (.seq (.ops [.m 148 22,.i 149 (.indexAddr 2 (.t 148) (.n 0)),.L 150 2 149,.i 151 (.call 21 [.t 150,.n 200]),.i 152 (.bin .leq (.t 151) (.n 200)),.m 153 152,.mk (some 154) (some (153,true)) (.mov (.t 25)) .no,.mk (some 155) (some (153,true)) (.bin .eql (.t 154) (.n 0)) .no,.mk (some 156) (some (153,true)) (.mov (.t 155)) .no,.mk (some 157) (some (156,true)) (.mov (.t 24)) .no,.mk (some 158) (some (156,true)) (.un .not (.t 157)) .no,.mk (some 159) (some (153,true)) (.pick (.t 156) (.t 158) (.c (.one (.st (.bool false))))) .no,.mk (some 160) (some (153,true)) (.mov (.t 159)) .no,.mk (some 161) (some (160,false)) (.mov (.t 25)) .no,.mk (some 162) (some (160,false)) (.bin .neq (.t 161) (.n 0)) .no,.mk (some 163) (some (160,false)) (.mov (.t 162)) .no,.mk (some 164) (some (163,true)) (.mov (.t 25)) .no,.mk (some 165) (some (163,true)) (.bin .neq (.t 164) (.n 9)) .no,.mk (some 166) (some (160,false)) (.pick (.t 163) (.t 165) (.c (.one (.st (.bool false))))) .no,.mk (some 167) (some (160,false)) (.mov (.t 166)) .no,.mk (some 168) (some (167,true)) (.mov (.t 25)) .no,.mk (some 169) (some (167,true)) (.bin .neq (.t 168) (.n 8)) .no,.mk (some 170) (some (160,false)) (.pick (.t 167) (.t 169) (.c (.one (.st (.bool false))))) .no,.mk (some 171) (some (153,true)) (.pick (.t 160) (.c (.one (.st (.bool true)))) (.t 170)) .no,.i 172 (.pick (.t 153) (.t 171) (.c (.one (.st (.bool false)))))]) (.cond (.t 172) (.seq (.ops [.i 10 (.mov (.c (.one (.st (.bool false)))))]) .ret) .skip))))) (.ops [.m 128 23,.i 129 (.bin .add (.t 128) (.n 1)),.m 23 129])))))) (.seq (.ops [.i 10 (.mov (.c (.one (.st (.bool true)))))]) .ret))))))))))))))))
theorem Cs:OkF Tryz.prog 4 173 [20000030,20000037] By [.t 10]:=.of Tryz.func4 rfl rfl (by kernel_rfl) rfl

set_option maxHeartbeats 2000000
theorem Rx {x:Int} (h:inR .i64 x):inR .i64 (x.tdiv 3):=by
 rw [Dt] at h ⊢
 have h1:=Int.natAbs_tdiv x 3
 rw [show (3:Int).natAbs=3 from rfl] at h1
 have h2:(x.tdiv 3).natAbs≤x.natAbs / 3:=Nat.le_of_eq h1
 omega
theorem VI {a b:List Pr} (ha:BF a=0) (hb:BF b=0) (hl:a.length + b.length≤40):BF (a ++ b)=0:=by
 unfold BF at *
 rw [if_neg (by omega)] at ha hb
 rw [if_neg (by rw [List.length_append];omega),E6,if_pos ha]
 exact hb
theorem On {cr:Nat→Nat→Option (List Pr)}:∀ (l:List (Nat × Nat)) (acc:List Pr),(En cr l acc).2=0 ∨ (En cr l acc).2=8 ∨ (En cr l acc).2=3
 | [],acc=>.inl rfl
 | q :: l,acc=>by
  rw [En]
  split
  ·exact .inr (.inl rfl)
  ·split
   ·exact .inr (.inr rfl)
   ·exact On l _
theorem Ul {R:List Pr} (hR:AZ R) {m:Int} (hm:BN m=0):(Ei R m).2=0 ∨ (Ei R m).2=9 ∨ (Ei R m).2=8 ∨ (Ei R m).2=3:=by
 unfold Ei
 have h1:(CZ R 88 89 1).2=0 ∨ (CZ R 88 89 1).2=8 ∨ (CZ R 88 89 1).2=3:=by
  unfold CZ
  split
  ·exact .inl rfl
  ·exact On _ _
 by_cases h0:(CZ R 88 89 1).2=0
 ·rw [if_pos h0,if_pos hm]
  rcases Oh hR m.toNat _ (KB hR).1 with h | h | h
  ·exact .inl h
  ·exact .inr (.inr (.inl h))
  ·exact .inr (.inl h)
 ·rw [if_neg h0]
  rcases h1 with h | h | h
  ·exact .inl h
  ·exact .inr (.inr (.inl h))
  ·exact .inr (.inr (.inr h))
abbrev ET:Pr:=(.mk ⟨#[97]⟩ [],.mk ⟨#[98]⟩ [])
theorem AAF:Ei [ET] 5=(true,0):=by
 have h:CZ [ET] 88 89 1=([],0):=by
  unfold CZ
  rw [if_neg (by simp)]
  show En _ (FS 1 0 0) []=_
  rw [show FS 1 0 0=[(0,0)] from rfl,En]
  have h2:Rl (D8 88 1 ET) (D8 89 1 ET) true=some []:=by
   unfold Rl
   rw [show (D8 88 1 ET).1.places=[[]] by decide +kernel]
   rw [EH]
   have:Cc (D8 88 1 ET) (D8 89 1 ET) true []=some []:=by
    unfold Cc
    rw [Tm.atP_nil]
    simp
   rw [this]
   rfl
  rw [show crR [ET] 88 89 1 0 0=Rl (D8 88 1 ET) (D8 89 1 ET) true from rfl,h2]
  rfl
 unfold Ei
 rw [h,if_pos rfl,if_pos (by decide)]
 rfl
theorem W5 {R:List Pr} (h0:BF R=0) (hj:Ei R 100=(true,0)) {row:List ByteArray} (hd:∀ r ∈ R,Pa row r.1 r.2) {t a b:Tm} (hc:t.chk=0) (ha:St R t a) (hb:St R t b) (za:a.size≤200) (zb:b.size≤200):HF R a b 400=(true,0) ∨ HF R a b 400=(false,8) ∨ HF R a b 400=(false,9):=by
 have hR:=He h0
 have ca:=(Iy hR hd ha hc).2
 have cb:=(Iy hR hd hb hc).2
 have e:HF R a b 400=D3 R 400 a b:=by
  unfold HF DJ
  rw [if_pos h0,GD ca za,GD cb zb,if_pos rfl,if_pos rfl,show BN 400=0 from by decide,if_pos rfl]
  rfl
 rw [e]
 have herr:=N2 hR 400 ca cb
 unfold D3 at herr ⊢
 simp only at herr ⊢
 by_cases h1:(BA (Tm.inn R) 400 0 a).2.2 ≠ 0
 ·rw [if_pos h1] at herr ⊢
  simp only at herr
  rcases herr with h | h | h
  ·exact absurd h h1
  ·rw [h];simp
  ·rw [h];simp
 rw [if_neg h1] at herr ⊢
 by_cases h2:(BA (Tm.inn R) 400 0 b).2.2 ≠ 0
 ·rw [if_pos h2] at herr ⊢
  simp only at herr
  rcases herr with h | h | h
  ·exact absurd h h2
  ·rw [h];simp
  ·rw [h];simp
 rw [if_neg h2]
 have h1:(BA (Tm.inn R) 400 0 a).2.2=0:=by simpa using h1
 have h2:(BA (Tm.inn R) 400 0 b).2.2=0:=by simpa using h2
 have s1:=Df hR (inner:=true) 400 0 a ca h1
 have s2:=Df hR (inner:=true) 400 0 b cb h2
 have n1:=(Fd (step:=Tm.inn R) 400 0 a h1).1
 have n2:=(Fd (step:=Tm.inn R) 400 0 b h2).1
 have heq:=To hR hj hd hc (.step ha s1) (.step hb s2) (Il hR hd s1 ca) (Il hR hd s2 cb) n1 n2
 left
 rw [show (BA (Tm.inn R) 400 0 a).1=(BA (Tm.inn R) 400 0 b).1 from heq,(Tm.beq_iff _ _).2 rfl]
theorem YK {R:List Pr} (hR:AZ R) (hj:Ei R 100=(true,0)) {row:List ByteArray} (hd:∀ r ∈ R,Pa row r.1 r.2) {t:Tm} (hc:t.chk=0) (h1:(BA (Tm.inn R) 400 0 t).2.2=0) (h2:(BA (Tm.out R) 400 0 t).2.2=0):(BA (Tm.inn R) 400 0 t).1.beq (BA (Tm.out R) 400 0 t).1=true:=by
 have s1:=Df hR (inner:=true) 400 0 t hc h1
 have s2:=Df hR (inner:=false) 400 0 t hc h2
 have n1:=(Fd (step:=Tm.inn R) 400 0 t h1).1
 have n2:=W6 (inner:=false) (Fd (step:=Tm.out R) 400 0 t h2).1
 exact (Tm.beq_iff _ _).2 (To hR hj hd hc s1 s2 (Il hR hd s1 hc) (Il hR hd s2 hc) n1 n2)
set_option maxRecDepth 100000 in
theorem RB (l:List Int) (m1 m2 m3 m4:Int) (hl:∀ n ∈ l,inR .i64 n) (hm:l.length≤maxLen) (h1:inR .i64 m1) (h2:inR .i64 m2) (h3:inR .i64 m3) (h4:inR .i64 m4):AU Tryz.prog 4 [Hx l,AO m1,AO m2,AO m3,AO m4] (Aa true):=by
 by_cases h256:(256:Int) < l.length
 ·refine Cs.ac fun C hC=>?_
  unfold By
  repeat' with_reducible first | refine W ?_ | refine Z0 ?_ | ((first | refine Wo fun K hK=>?_ | refine Wp ?_ | refine Wq ?_ | refine Wr ?_);(try simp only [go_sem,fN,seval,eT,iR,h256,dT,dF,nL]);(repeat refine Ai ?_);(try (refine hK _ ?_;clear hK K));try refine iC ?_)
  simp only [go_sem,fN,seval,AN,AS.result,AB,AD,AK]
 have r3:=Bn m4 9 (by omega)
 have p3:=E7 m4 9 h4 (by omega)
 obtain ⟨k3,e3⟩:∃ k:Nat,DL m4 9=k:=⟨(DL m4 9).toNat,by omega⟩
 rw [e3] at p3 r3
 have p2:=E7 m2 3 h2 (by omega)
 obtain ⟨kr,qr,-,c1⟩:=Ki m1 h1
 obtain ⟨kq,qq,-,c2⟩:=Ki (m2.tdiv 3) (Rx h2)
 obtain ⟨g1,g2⟩:=KZ kr qr
 obtain ⟨g3,g4⟩:=KZ kq qq
 have z1:(Bs kr).length≤3:=Lr kr qr
 have z2:(Bs kq).length≤3:=Lr kq qq
 obtain ⟨row,hrow,hrm⟩:=VT m3 h3
 obtain ⟨t,ht,zt,ct⟩:=X_ l hl hm 2 (by omega) (2 + k3) 0 (by omega) (by omega)
 rw [show (((2 + k3:Nat):Int))=2 + (k3:Int) by omega] at ht
 have zt:t.size≤19:=by omega
 have cA:=J1 ⟨#[97]⟩
 have cB:=J1 ⟨#[98]⟩
 have gAB:BF [ET]=0:=by decide +kernel
 have cJ:=TQ (He gAB) gAB 5
 rw [AAF] at cJ
 unfold joV at cJ
 have l1:((Bs kr).map Bf).length=(Bs kr).length:=List.length_map _
 have l2:((Bs kq).map Bf).length=(Bs kq).length:=List.length_map _
 have hdv:=Rx h2
 rw [Dt] at hdv
 obtain ⟨hdv1,hdv2⟩:=hdv
 by_cases hpk:DL m2 3=0
 case' pos =>
  obtain ⟨R,hRe⟩:∃ R,Bs kr ++ Bs kq=R:=⟨_,rfl⟩
  have hap:AV.one (.st (.list ((Bs kr).map Bf ++ (Bs kq).map Bf)))=CH R:=by rw [← hRe,← List.map_append]
  have h0:BF R=0:=by rw [← hRe];exact VI g1 g3 (by omega)
  have h7:∀ r ∈ R,r.2.size≤7:=fun r hr=>by
   rw [← hRe] at hr
   rcases List.mem_append.1 hr with hr | hr
   ·exact of_decide_eq_true (List.all_eq_true.1 g2 r hr)
   ·exact of_decide_eq_true (List.all_eq_true.1 g4 r hr)
  have hS:∀ (env:Nat→AV) (S:AA),env 11=.one (.row 30 ((Bs kr).length + (Bs kq).length))→S 30=some (.arow 40 4 ((Bs kr).map Bf ++ (Bs kq).map Bf))→outV S (env 11)=some (CH R):=fun env S a b=>by
   rw [a]
   simp [outV,outC,stC,b,← hRe]
 case' neg =>
  obtain ⟨R,hRe⟩:∃ R,Bs kr=R:=⟨_,rfl⟩
  have hap:AV.one (.st (.list ((Bs kr).map Bf)))=CH R:=by rw [← hRe]
  have h0:BF R=0:=by rw [← hRe];exact g1
  have h7:∀ r ∈ R,r.2.size≤7:=fun r hr=>by
   rw [← hRe] at hr
   exact of_decide_eq_true (List.all_eq_true.1 g2 r hr)
  have hS:∀ (env:Nat→AV) (S:AA),env 11=.one (.row 30 (Bs kr).length)→S 30=some (.arow 40 4 ((Bs kr).map Bf))→outV S (env 11)=some (CH R):=fun env S a b=>by
   rw [a]
   simp [outV,outC,stC,b,← hRe]
 all_goals
  clear g1 g2 g3 g4
  have hR:=He h0
  have cJ1:=TQ hR h0 100
  have herr:=Ul hR (m:=100) (by decide)
  obtain ⟨J,hJ⟩:∃ J,Ei R 100=J:=⟨_,rfl⟩
  rw [hJ] at cJ1 herr
  obtain ⟨ok,e⟩:=J
  unfold joV at cJ1
  simp only at cJ1 herr
  refine Cs.ac fun C hC=>?_
  unfold By
  by_cases he:e=0
  case neg =>
   rcases herr with rfl | rfl | rfl | rfl
   ·exact absurd rfl he
   all_goals
    repeat' (first | (with_reducible first | refine W ?_ | refine Z0 ?_ | ((first | refine Wo fun K hK=>?_ | refine Wp ?_ | refine Wq ?_ | refine Wr ?_);(try simp only [go_sem,fN,seval,eT,iR,h256,l1,l2,hpk,hap,hdv1,hdv2,he,dT,dF,nL]);(repeat refine Ai ?_);(try (refine hK _ ?_;clear hK K));try refine iC ?_)) | (first | refine ⟨_,_,_,_,c1,by simp [AG,noS],?_⟩ | refine ⟨_,_,_,_,c2,by simp [AG,noS],?_⟩) | refine Cg _ (p2) ?_ | refine Cg _ (p3) ?_ | refine Cg _ (ht) ?_ | refine Cg _ (cJ1) ?_ | refine Cg _ (cA) ?_ | refine Cg _ (cB) ?_ | refine Cg _ (cJ) ?_)
    simp only [go_sem,fN,seval,AN,AS.result,AB,AD,AK]
  subst he
  cases ok with
  | false =>
   repeat' (first | (with_reducible first | refine W ?_ | refine Z0 ?_ | ((first | refine Wo fun K hK=>?_ | refine Wp ?_ | refine Wq ?_ | refine Wr ?_);(try simp only [go_sem,fN,seval,eT,iR,h256,l1,l2,hpk,hap,hdv1,hdv2,dT,dF,nL]);(repeat refine Ai ?_);(try (refine hK _ ?_;clear hK K));try refine iC ?_)) | (first | refine ⟨_,_,_,_,c1,by simp [AG,noS],?_⟩ | refine ⟨_,_,_,_,c2,by simp [AG,noS],?_⟩) | refine Cg _ (p2) ?_ | refine Cg _ (p3) ?_ | refine Cg _ (ht) ?_ | refine Cg _ (cJ1) ?_ | refine Cg _ (cA) ?_ | refine Cg _ (cB) ?_ | refine Cg _ (cJ) ?_)
   simp only [go_sem,fN,seval,AN,AS.result,AB,AD,AK]
  | true =>
  have cF:=ZZ hrm hR
  cases hb:R.all fun r=>paB row r.1 r.2 with
  | false =>
   rw [hb] at cF
   repeat' (first | (with_reducible first | refine W ?_ | refine Z0 ?_ | ((first | refine Wo fun K hK=>?_ | refine Wp ?_ | refine Wq ?_ | refine Wr ?_);(try simp only [go_sem,fN,seval,eT,iR,h256,l1,l2,hpk,hap,hdv1,hdv2,dT,dF,nL]);(repeat refine Ai ?_);(try (refine hK _ ?_;clear hK K));try refine iC ?_)) | (first | refine ⟨_,_,_,_,c1,by simp [AG,noS],?_⟩ | refine ⟨_,_,_,_,c2,by simp [AG,noS],?_⟩) | refine Cg _ (p2) ?_ | refine Cg _ (p3) ?_ | refine Cg _ (ht) ?_ | refine Cg _ (cJ1) ?_ | refine Cg _ (cA) ?_ | refine Cg _ (cB) ?_ | refine Cg _ (cJ) ?_ | refine Cg _ (hrow) ?_ | refine Cg _ (cF) ?_)
   simp only [go_sem,fN,seval,AN,AS.result,AB,AD,AK]
  | true =>
  rw [hb] at cF
  have hd:∀ r ∈ R,Pa row r.1 r.2:=fun r hr=>Eu.1 (List.all_eq_true.1 hb r hr)
  obtain ⟨ls,hls,hlz⟩:=RU h7 ct zt
  have hlc:=Uw hR ct hls
  have hlst:=V6 hR ct hls
  have hlen:ls.length≤800:=by
   have hq:=Ik (show BL R (t.places.map (Gl [] t))=some ls from hls)
   rw [List.length_map,Tm.places_length] at hq
   have:=Nat.mul_le_mul zt hR.len
   omega
  have ha:DJ R t=0:=by unfold DJ;rw [if_pos h0];exact GD ct (by omega)
  have cS:=X9 R t
  rw [show I0 R t=(ls,0) by unfold I0 Mk;rw [if_pos ha,hls]] at cS
  dsimp only at cS
  have cI:=ZJ R t 400
  rw [show LU R t 400=BA (Tm.inn R) 400 0 t by unfold LU;rw [if_pos ha,show BN 400=0 from by decide,if_pos rfl];rfl] at cI
  have cO:=ZT R t 400
  rw [show LG R t 400=BA (Tm.out R) 400 0 t by unfold LG;rw [if_pos ha,show BN 400=0 from by decide,if_pos rfl];rfl] at cO
  unfold LC at cI cO
  have hboth:=YK hR hJ hd ct
  generalize BA (Tm.inn R) 400 0 t=X at *
  generalize BA (Tm.out R) 400 0 t=Y at *
  obtain ⟨x,n1,f1⟩:=X
  obtain ⟨y,n2,f2⟩:=Y
  simp only at hboth cI cO
  have cQ:f1=0→f2=0→AU Tryz.prog 19 [aTm x,aTm y] (Aa true):=fun h1 h2=>by
   have:=Yw x y
   rw [hboth h1 h2] at this
   exact this
  by_cases hf1:f1=0 <;> by_cases hf2:f2=0
  all_goals
   repeat' (first | (with_reducible first | refine W ?_ | refine Z0 ?_ | ((first | refine Wo fun K hK=>?_ | refine Wp ?_ | refine Wq ?_ | refine Wr ?_);(try simp only [go_sem,fN,seval,eT,iR,h256,l1,l2,hpk,hap,hdv1,hdv2,hf1,hf2,dT,dF,nL]);(repeat refine Ai ?_);(try (refine hK _ ?_;clear hK K));try refine iC ?_)) | (first | refine ⟨_,_,_,_,c1,by simp [AG,noS],?_⟩ | refine ⟨_,_,_,_,c2,by simp [AG,noS],?_⟩) | refine Cg _ (p2) ?_ | refine Cg _ (p3) ?_ | refine Cg _ (ht) ?_ | refine Cg _ (cJ1) ?_ | refine Cg _ (cA) ?_ | refine Cg _ (cB) ?_ | refine Cg _ (cJ) ?_ | refine Cg _ (hrow) ?_ | refine Cg _ (cF) ?_ | refine Cg _ (cI) ?_ | refine Cg _ (cO) ?_ | refine Cg _ (cS) ?_ | refine Cg _ (cQ hf1 hf2) ?_)
   refine IWP.ghost (Ac.settle 11 (hS _ _ (by simp [AG]) (by simp [AG]))) ?_
   refine IWP.loop (fun m s=>∃ i,i≤ls.length∧m=ls.length - i∧s.env 11=CH R∧s.env 22=Gh ls∧s.env 23=AO i) ls.length ⟨0,Nat.zero_le _,rfl,rfl,rfl,rfl⟩ ?_
   rintro m ⟨env,S⟩ ⟨i,hi,rfl,e11,e22,e23⟩
   simp only at e11 e22 e23
   by_cases hil:i < ls.length
   case neg =>
    have hil':¬ (i:Int) < ls.length:=by omega
    repeat' with_reducible first | refine W ?_ | refine Z0 ?_ | ((first | refine Wo fun K hK=>?_ | refine Wp ?_ | refine Wq ?_ | refine Wr ?_);(try simp only [go_sem,fN,seval,eT,iR,e11,e22,e23,hil',dT,dF,nL]);(repeat refine Ai ?_);(try (refine hK _ ?_;clear hK K));try refine iC ?_)
    simp only [go_sem,fN,seval,AN,AS.result,AB,AD,AK]
   have hil':(i:Int) < ls.length:=by omega
   have hpos':(0:Int) < ls.length:=by omega
   obtain ⟨x1,hx1⟩:=Ag hil
   obtain ⟨x0,hx0⟩:=Ag (show 0 < ls.length by omega)
   have m1:=AQ hx1
   have m0:=AQ hx0
   have s1:=UO x1 200 (by omega) (by omega)
   have s0:=UO x0 200 (by omega) (by omega)
   have cp1:CV x1.size 200=x1.size:=by unfold CV;rw [if_neg (by have:=hlz x1 m1;omega)]
   have cp0:CV x0.size 200=x0.size:=by unfold CV;rw [if_neg (by have:=hlz x0 m0;omega)]
   rw [cp1] at s1
   rw [cp0] at s0
   have q1:¬ (200:Int) < (x1.size:Int):=by have:=hlz x1 m1;omega
   have q0:(x0.size:Int)≤200:=by have:=hlz x0 m0;omega
   have hme:=W5 h0 hJ hd ct (hlst x0 m0) (hlst x1 m1) (by have:=hlz x0 m0;omega) (by have:=hlz x1 m1;omega)
   have cM:=Zx R x0 x1 400
   rcases hme with hme | hme | hme
   all_goals
    rw [hme] at cM
    repeat' (first | (with_reducible first | refine W ?_ | refine Z0 ?_ | ((first | refine Wo fun K hK=>?_ | refine Wp ?_ | refine Wq ?_ | refine Wr ?_);(try simp only [go_sem,fN,seval,eT,iR,e11,e22,e23,hil',hpos',hx1,hx0,q1,q0,dT,dF,nL]);(repeat refine Ai ?_);(try (refine hK _ ?_;clear hK K));try refine iC ?_)) | refine Cg _ (s1) ?_ | refine Cg _ (s0) ?_ | refine Cg _ (cM) ?_)
    refine AI ⟨ls.length - (i + 1),by omega,i + 1,by omega,rfl,?_⟩
    simp only [go_sem,fN,seval,eT,iR,e11,e22,e23]
    congr 3

open Go.ChangeShapes Go.WideShapes Go.ChangeAt
section
variable {H:Type} {enc:TypeId × Value→H} {P:Program}
theorem Hr (hl:laidOutB P=true):∀ {ts:List TypeId} {vs:List Value} {ds:List (DataW H)} {ps:List MemPlace} {W W':World} {sp:Nat→Bool},
  (∀ t ∈ ts,P.readableRec t=true∧t < P.types.size)→DataW.TrodAll enc P W 0 (fun _=>true) true ts vs ds ps→(∀ p ∈ ps,W.sameAt W' p)→(∀ p ∈ ps,sp p.block=true)→DataW.TrodAll enc P W' 0 sp true ts vs ds ps
 | [],[],[],_,_,_,_,_,h,_,_=>h
 | _ :: _,_ :: _,_ :: _,_,_,_,_,hT,⟨p,q,h1,h2,e⟩,hsame,hs=>⟨p,q,WideElems.Trod_stays hl (hT _ (List.mem_cons.2 (Or.inl rfl))).1 (hT _ (List.mem_cons.2 (Or.inl rfl))).2 h1 (fun x hx=>hsame x (by rw [e];exact List.mem_append_left _ hx)) (fun x hx=>hs x (by rw [e];exact List.mem_append_left _ hx)),
   Hr hl (fun t ht=>hT t (List.mem_cons.2 (Or.inr ht))) h2 (fun x hx=>hsame x (by rw [e];exact List.mem_append_right _ hx)) (fun x hx=>hs x (by rw [e];exact List.mem_append_right _ hx)),e⟩
 | [],_ :: _,_,_,_,_,_,_,h,_,_=>h.elim
 | [],[],_ :: _,_,_,_,_,_,h,_,_=>h.elim
 | _ :: _,[],_,_,_,_,_,_,h,_,_=>h.elim
 | _ :: _,_ :: _,[],_,_,_,_,_,h,_,_=>h.elim
theorem Wz {f:Func} {s:ChangeSpec} {apart fresh handsOn:Bool} {W W':World} {args:Array Value} {ds:List (DataW H)} {before:List MemPlace} {tb:TypeId}
  (hW:DataW.Whole enc P f.params.toList s.vars apart W args.toList ds [] before) (hv:s.vars=[]) (hr:f.resultTypes=#[tb]) (htb:P.underlying tb=some .bool)
  (hres:(s.fn H (ds ++ [])).results=[.lit (.bool true)]) (hargs:(s.fn H (ds ++ [])).args=ds) (hvs:(s.fn H (ds ++ [])).vars=[])
  (hl:laidOutB P=true) (hT:(f.params.toList.all fun t=>P.readableRec t && decide (t < P.types.size))=true) (hb:Below W.heap.size W W') :
  s.post enc P f apart fresh handsOn false W args (.bool true) W':=by
 have hlt:∀ p ∈ before,p.block < W.heap.size:=fun p hp=>hW.lt p hp
 have hT':∀ t ∈ f.params.toList,P.readableRec t=true∧t < P.types.size:=fun t ht=>by
  have:=List.all_eq_true.1 hT t ht
  simpa using this
 obtain ⟨p,q,hA,hV,rfl,hz,hn⟩:=hW
 rw [hv] at hV
 obtain ⟨_,rfl⟩:=trodVars_none hV
 have hargs':∀ sp:Nat→Bool,(∀ x ∈ p,sp x.block=true)→DataW.TrodAll enc P W' 0 sp true f.params.toList args.toList ds p:=fun sp hsp =>
  Hr hl hT' hA (fun x hx=>hb.same (hlt x (by simpa using hx))) hsp
 have hres':∀ (b:Nat) (sp:Nat→Bool) (hd:Bool),DataW.TrodAll enc P W' b sp hd f.resultTypes.toList ((Value.bool true).resultList f.resultTypes.size) (s.fn H (ds ++ [])).results []:=fun b sp hd=>by
  rw [hres,hr]
  exact trodAll_cons_mk (shut_bool htb true) trodAll_mk0
 refine ⟨ds,[],p ++ [],[],p,[],⟨p,[],hA,by rw [hv];exact rfl,rfl,hz,hn⟩,hres' _ _ _,by rw [hargs];exact hargs' _ (fun x hx=>by simpa using hlt x (by simpa using hx)),by rw [hv,hvs];exact rfl,
  World.keptBut_mono (fun x hx=>⟨hx,Or.inr (by simpa using hx)⟩) (hb.frame (· ∈ p ++ [])),fun h=>by cases h⟩
variable {W:World} {sp:Nat→Bool} {hd:Bool} {base:Nat}
def sto (W:World):Sto:=Cx W
theorem ZG (W:World):Fit (sto W) W:=fun _ _ h=>h
theorem OS {W:World} {a:Addr} {v:Value} (h:W.cell? a=some v):a.spot=none:=by
 cases hs:a.spot with
 | none=>rfl
 | some n =>
  unfold World.cell? at h
  split at h
  ·simp [hs] at h
  ·cases h
theorem QG {α:Type} {p:Nat→α→Prop} {n:Nat} (h:∀ i,i < n→∃ b,p i b):∃ xs:List α,xs.length=n∧∀ i (h:i < xs.length),p i xs[i]:=by
 induction n with
 | zero=>exact ⟨[],rfl,fun i h=>absurd h (by simp)⟩
 | succ m ih =>
  obtain ⟨xs,h1,h2⟩:=ih (fun i hi=>h i (by omega))
  obtain ⟨b,h3⟩:=h m (by omega)
  refine ⟨xs ++ [b],by simp [h1],fun i hi=>?_⟩
  by_cases him:i < xs.length
  ·rw [List.getElem_append_left him]
   exact h2 i him
  ·have:i=xs.length:=by simp at hi;omega
   subst this
   rw [show (xs ++ [b])[xs.length]'hi=b by simp,h1]
   exact h3
theorem Pf {α:Type} {e0:α→List SV} {t e:TypeId} {k:Nat} {fuel:Nat} {cs:List Value} {x:DataW H × List MemPlace} (ht:P.underlying t=some (.slice e)) (hc:P.cellsOf e=k) (hlen:∀ a,(e0 a).length=k) (hk:0 < k)
  (f:∀ (n:Nat) (cs:List Value) (y:DataW H × List MemPlace),n < fuel→DataW.trod enc P W base sp hd n e cs=some y→∃ a:α,Ad (Au (sto W)) cs (e0 a))
  (h:DataW.trod enc P W base sp hd fuel t cs=some x) (hs:B5=true→k < 2:=by decide):∃ xs:List α,Ad (Au (sto W)) cs [.list (xs.map e0)]:=by
 rcases DataW.trod_slice ht h with ⟨rfl,_⟩ | ⟨a,len,cap,D1,rest,n,hfu,rfl,_,hb,hl,hm,hlen',hel,_,_⟩
 ·exact ⟨[],.cons Qr .nil⟩
 ·have key:∀ i,i < len→∃ (b:α),∃ (cs':List Value),cs'.length=k∧(∀ j u,cs'[j]?=some u→W.cell? ((a.add (i * k)).add j)=some u)∧Ad (Au (sto W)) cs' (e0 b):=fun i hi=>by
   have h1:=hel i hi
   rw [List.getElem?_eq_getElem (by omega)] at h1
   obtain ⟨cs',h2,h3⟩:=Option.bind_eq_some_iff.1 h1
   obtain ⟨_,h4,h5⟩:=World.cells?_some h2
   obtain ⟨b,hb⟩:=f n cs' _ (by omega) h3
   rw [hc] at h4 h5
   refine ⟨b,cs',h4,fun j u hj=>?_,hb⟩
   rw [h5 j (by have:=(List.getElem?_eq_some_iff.1 hj).1;omega)]
   exact hj
  obtain ⟨xs,hxl,hxs⟩:∃ xs:List α,xs.length=len∧∀ i (h:i < xs.length),∃ cs':List Value,cs'.length=k∧(∀ j u,cs'[j]?=some u→W.cell? ((a.add (i * k)).add j)=some u)∧Ad (Au (sto W)) cs' (e0 xs[i]):=QG key
  have cell:∀ m y j z,(xs.map e0)[m]?=some y→y[j]?=some z→∃ v,W.cell? ⟨a.block,a.off + m * k + j,none⟩=some v∧Au (sto W) v z:=fun m y j z hy hz=>by
   rw [List.getElem?_map,Option.map_eq_some_iff] at hy
   obtain ⟨b,hb',rfl⟩:=hy
   obtain ⟨hm',hbe⟩:=List.getElem?_eq_some_iff.1 hb'
   obtain ⟨cs',c1,c2,c3⟩:=hxs m hm'
   rw [hbe] at c3
   obtain ⟨v,v1,v2⟩:=c3.get hz
   refine ⟨v,?_,v2⟩
   have:=c2 j v v1
   have hsp:=OS this
   rw [← this]
   congr 1
   have h7:((a.add (m * k)).add j).block=a.block∧((a.add (m * k)).add j).off=a.off + m * k + j:=by
    unfold Addr.add
    split <;> split <;> simp_all
   generalize (a.add (m * k)).add j=q at *
   cases q
   simp_all
  refine ⟨xs,.cons (.list (b:=a.block) (o:=a.off) (w:=k) (fun m j=>(W.cell? ⟨a.block,a.off + m * k + j,none⟩).getD undef) (by simp [hxl]) hl hm (by simp) (fun h0=>?_) (fun y hy=>?_) (fun q1 q2 _=>absurd (hs q1) (by omega)) (fun m y j z hy hz=>?_) (fun m y j z hy hz=>?_)) .nil⟩
  ·obtain ⟨cs',h1,h2,h3⟩:=hxs 0 (by omega)
   have h4:W.cell? a=some (cs'[0]'(by omega)):=by
    have:=h2 0 _ (List.getElem?_eq_getElem (by omega))
    simpa [Addr.add] using this
   have:=OS h4
   cases a
   simp_all
  ·obtain ⟨b,_,rfl⟩:=List.mem_map.1 hy
   exact hlen b
  ·obtain ⟨v,v1,v2⟩:=cell m y j z hy hz
   show W.cell? _=_
   rw [v1];rfl
  ·obtain ⟨v,v1,v2⟩:=cell m y j z hy hz
   rw [v1];exact v2
theorem Q8 {t:TypeId} (ht:P.underlying t=some (.int .i64)) (fuel:Nat) (cs:List Value) (x:DataW H × List MemPlace) (h:DataW.trod enc P W base sp hd fuel t cs=some x):∃ n:Int,Ad (Au (sto W)) cs (Pm n):=by
 obtain ⟨n,rfl,_,hn⟩:=DataW.trod_int ht h
 exact ⟨n,.cons (.int (by rw [Dt];simpa [Lit.wf,IntKind.min,IntKind.max,IntKind.signed,IntKind.bits] using hn)) .nil⟩
theorem LL {t:TypeId} (ht:P.underlying t=some (.int .i64)) {r:Reach} {b0:Nat} {v:Value} {d:DataW H} {p:List MemPlace} (hv:Value.okWide P W r b0 t v) (h:DataW.Trod enc P W base sp hd t v d p):∃ n:Int,AT (sto W) noS noH v (AO n):=by
 obtain ⟨n,rfl⟩:=okWide_int ht hv
 obtain ⟨fuel,hf⟩:=h
 obtain ⟨m,hm⟩:=Q8 ht fuel _ _ hf
 have:Ad (Au (sto W)) [.int .i64 n] (Pm m):=hm
 cases this with
 | cons h1 h2=>exact ⟨m,.one (.st h1)⟩
theorem Xt {α:Type} {e0:α→List SV} {t e:TypeId} {k:Nat} (ht:P.underlying t=some (.slice e)) (hc:P.cellsOf e=k) (hlen:∀ a,(e0 a).length=k) (hk:0 < k) {r:Reach} {b0:Nat} {v:Value} {d:DataW H} {p:List MemPlace} (hv:Value.okWide P W r b0 t v)
  (f:∀ (n:Nat) (cs:List Value) (y:DataW H × List MemPlace),DataW.trod enc P W base sp hd n e cs=some y→∃ a:α,Ad (Au (sto W)) cs (e0 a)) (h:DataW.Trod enc P W base sp hd t v d p) (hs:B5=true→k < 2:=by decide):∃ xs:List α,AT (sto W) noS noH v (.one (.st (.list (xs.map e0)))):=by
 obtain ⟨a,len,cap,rfl⟩:=okWide_slice ht hv
 obtain ⟨fuel,hf⟩:=h
 obtain ⟨xs,hxs⟩:=Pf ht hc hlen hk (fun n cs y _ hy=>f n cs y hy) hf hs
 have:Ad (Au (sto W)) [.slice a len cap] [.list (xs.map e0)]:=hxs
 cases this with
 | cons h1 h2=>exact ⟨xs,.one (.st h1)⟩
end
theorem Rb {P:Program} {f:FuncId} {xs:List AV} {b:Bool} (h:AU P f xs (Aa b)) {σ:Sto} {w:World} {vs:List Value} (hg:CP σ) (hf:Fit σ w) (hv:Ad (AT σ noS noH) vs xs) :
  Calls P f vs.toArray w fun e w'=>e=.returned (.bool b)∧Below w.heap.size w w':=(h σ w vs hg hf hv).mono fun e w' ⟨v,σ',he,hv,_,_,hb⟩=>by
 rw [Dc hv] at he
 exact ⟨he,hb⟩

theorem Tn {P:Program} {W:World} {x:String × DataW Unit}:∀ {l:List (String × DataW Unit)} {ps:List MemPlace},DataW.LaidVars P W l ps→x ∈ l→∃ q,DataW.LaidVars P W [x] q
 | [],_,_,hx=>by simp at hx
 | y :: l,ps,h,hx=>by
  obtain ⟨n,d⟩:=y
  obtain ⟨g,t,cs,fuel,p,q,a1,a2,a3,a4,a5,a6⟩:=h
  rcases List.mem_cons.1 hx with rfl | hx
  ·exact ⟨_,g,t,cs,fuel,p,[],a1,a2,a3,a4,rfl,rfl⟩
  ·exact Tn a5 hx
theorem WK {P:Program} {W:World} {n:String} {g:Nat} {cs:Array Value} (hg:P.globalNamed n=some g) (h:W.var? P n=some cs):sto W ⟨g,cs.size,some 0⟩=some .nilFunc:=by
 unfold World.var? at h
 rw [hg] at h
 simp only [Option.bind_some] at h
 show Cx W _=_
 unfold Cx
 simp only
 cases hb:W.heap[g]? with
 | none=>rw [hb] at h;cases h
 | some o =>
  rw [hb] at h
  cases o <;> simp_all
theorem WE {P:Program} {W:World} {name:String} {g:Nat} {t e:TypeId} {n:Nat} {k:IntKind} {zs:List Int} (hg:P.globalNamed name=some g) (hty:(P.globals[g]?).map (·.type)=some t) (ht:P.underlying t=some (.array n e)) (he:P.underlying e=some (.int k))
  (hce:P.cellsOf e=1) (hct:P.cellsOf t=n) (hin:∀ z ∈ zs,inR k z) {ps:List MemPlace} (h:DataW.LaidVars P W [(name,Lib.tabData k zs)] ps):Pn (sto W) (g,zs.map fun z=>.int k z):=by
 obtain ⟨g0,t0,cs0,f0,p0,q0,hg0,ht0,hv0,hd0,_,_⟩:=h
 obtain rfl:=Option.some.inj (hg.symm.trans hg0)
 obtain rfl:=Option.some.inj (hty.symm.trans ht0)
 have hc:=Lib.cells_of_tab ht he hce hct hd0
 have hs:cs0.size=zs.length:=by
  have:=congrArg List.length hc
  simpa using this
 refine ⟨⟨fun j=>(zs[j]?).elim .nilFunc (.int k),fun j a ha=>?_,fun j a ha=>?_⟩,?_⟩
 ·rw [List.getElem?_map,Option.map_eq_some_iff] at ha
  obtain ⟨z,hz,rfl⟩:=ha
  have h1:=World.var?_cell hg0 hv0 j
  have h2:cs0[j]?=some (.int k z):=by
   have h3:=congrArg (fun l:List Value=>l[j]?) hc
   simpa [hz] using h3
  show Cx W _=_
  rw [CX rfl,Nat.zero_add,h1,h2]
  simp only [hz,Option.elim]
 ·rw [List.getElem?_map,Option.map_eq_some_iff] at ha
  obtain ⟨z,hz,rfl⟩:=ha
  simp only [hz,Option.elim]
  exact .int (hin z (List.mem_of_getElem? hz))
 ·have:=WK hg0 hv0
  rw [hs] at this
  simpa using this
theorem Z8 {zs:List Int} (h:zs.all (fun z=>decide (0≤z) && decide (z≤18446744073709551615))=true):∀ z ∈ zs,inR .u64 z:=fun z hz=>by
 have:=List.all_eq_true.1 h z hz
 simp only [Bool.and_eq_true,decide_eq_true_eq] at this
 simp [inR,IntKind.min,IntKind.max,IntKind.signed,IntKind.bits]
 omega
theorem Xv {W : World} {ps : List MemPlace} (h : DataW.LaidVars Tryz.prog W [("internal/strconv.uint64pow10", Rows.laid_internal_strconv_uint64pow10)] ps) : Pn (sto W) (0, WT) := WE (k := .u64) (zs := Lib.pow10Tab) (by kernel_rfl) (by kernel_rfl) Tryz.underlying190 Tryz.underlying176 (by kernel_rfl) (by kernel_rfl) (Z8 (by decide)) h

theorem TF {W : World} {l : List (String × DataW Unit)} (hp : (l.all fun x => true) = true) (hin : ("internal/strconv.uint64pow10", Rows.laid_internal_strconv_uint64pow10) ∈ l) {ps : List MemPlace} (h : DataW.LaidVars Tryz.prog W l ps) : CP (sto W) := by
 obtain ⟨_, h1⟩ := Tn (x := ("internal/strconv.uint64pow10", Rows.laid_internal_strconv_uint64pow10)) h hin
 intro y hy
 simp only [Ql,List.mem_cons,List.not_mem_nil,or_false] at hy
 subst hy
 exact Xv h1

section
variable {H:Type} {enc:TypeId × Value→H} {W:World} {sp:Nat→Bool} {hd:Bool} {base:Nat}
set_option maxRecDepth 100000 in
theorem XH {r:Reach} {b0:Nat} {v:Value} {d:DataW H} {p:List MemPlace} (hv:Value.okWide Tryz.prog W r b0 32 v) (h:DataW.Trod enc Tryz.prog W base sp hd 32 v d p):∃ l:List Int,AT (sto W) noS noH v (Hx l) :=
 Xt (k:=1) Tryz.underlying32 (by kernel_rfl) (fun _=>rfl) (by decide) hv (Q8 Tryz.underlying3) h
end

end Go.Proofs.YtbhnmjkmieiadaaGreatDoor
namespace Go.Proofs.YtbhnmjkmieiadaaGreatDoor.topNewman
open Go Go.RowKit Go.ChangeShapes Go.WideShapes Go.ChangeAt
set_option linter.unusedVariables false
theorem ZY {W:World} (h:laidMetH Tryz.prog Rows.topNewmanRow.laid W):CP (sto W):=by
 rw [MakeChecks.laidMetH_plain _ _ _ (by kernel_rfl)] at h
 obtain ⟨ps,h,_,_⟩:=h
 exact TF (by kernel_rfl) (by simp [Rows.topNewmanRow]) h
theorem own:ownKnob Tryz.prog.godebug=none:=by kernel_rfl
theorem laid:laidOutB Tryz.prog=true:=by kernel_rfl
set_option maxRecDepth 100000 in
theorem YO (H:Type) (enc:TypeId × Value→H) (W:World) (base:Nat) (args:Array Value) (ds gs:List (DataW H)) (before:List MemPlace) (hL:laidMetH Tryz.prog Rows.topNewmanRow.laid W)
  (hval:∀ (j:Nat) t v,Tryz.f4.params[j]?=some t→args[j]?=some v→Value.okWide Tryz.prog W .any base t v)
  (hW:DataW.Whole enc Tryz.prog Tryz.f4.params.toList Rows.topNewmanSpec.vars false W args.toList ds gs before) :
  Calls Tryz.prog 4 args W fun e W'=>∃ v,e=.returned v∧Rows.topNewmanSpec.post enc Tryz.prog Tryz.f4 false true false false W args v W':=by
 have hG:=ZY hL
 obtain ⟨p,q,hA0,hV,rfl,hfz,hnd⟩:=id hW
 obtain ⟨rfl,rfl⟩:=trodVars_none hV
 have hA:DataW.TrodAll enc Tryz.prog W 0 (fun _=>true) true Tryz.f4.params.toList args.toList ds p:=hA0
 rw [Tryz.params4] at hA hval
 obtain ⟨v0,w0,d0,e0,p0,q0,hargs,rfl,rfl,h0,g0⟩:=trodAll_cons hA
 obtain ⟨v1,w1,d1,e1,p1,q1,rfl,rfl,rfl,h1,g1⟩:=trodAll_cons g0
 obtain ⟨v2,w2,d2,e2,p2,q2,rfl,rfl,rfl,h2,g2⟩:=trodAll_cons g1
 obtain ⟨v3,w3,d3,e3,p3,q3,rfl,rfl,rfl,h3,g3⟩:=trodAll_cons g2
 obtain ⟨v4,w4,d4,e4,p4,q4,rfl,rfl,rfl,h4,g4⟩:=trodAll_cons g3
 obtain ⟨rfl,rfl,rfl⟩:=trodAll_nil g4
 obtain rfl:args=#[v0,v1,v2,v3,v4]:=by cases args;simp_all
 obtain ⟨l,r0⟩:=XH (hval 0 32 v0 rfl rfl) h0
 obtain ⟨m1,r1⟩:=LL Tryz.underlying3 (hval 1 3 v1 rfl rfl) h1
 obtain ⟨m2,r2⟩:=LL Tryz.underlying3 (hval 2 3 v2 rfl rfl) h2
 obtain ⟨m3,r3⟩:=LL Tryz.underlying3 (hval 3 3 v3 rfl rfl) h3
 obtain ⟨m4,r4⟩:=LL Tryz.underlying3 (hval 4 3 v4 rfl rfl) h4
 have k0:=SA r0.known
 refine (Rb (RB l m1 m2 m3 m4 k0.2 k0.1 r1.known r2.known r3.known r4.known) hG (ZG W) (vs:=[v0,v1,v2,v3,v4]) (.cons r0 (.cons r1 (.cons r2 (.cons r3 (.cons r4 .nil)))))).mono fun e W' ⟨he,hb⟩=>⟨_,he,?_⟩
 exact Wz hW rfl rfl Tryz.underlying4 rfl rfl rfl laid (by kernel_rfl) hb
theorem YZ (os:Os) (args:Array Value):laidMetH Tryz.prog Rows.topNewmanRow.laid ((World.doorLaid Tryz.prog 400 os).forCall (fun _ _=>0) ⟨#[],args,[]⟩).memory :=
 laidMetH_of_parts3 (fuel:=8) (laidMet_of_run' 8 (by kernel_rfl) (by kernel_rfl)) (by kernel_rfl) (by kernel_rfl)
set_option maxRecDepth 100000 in
theorem AAM (os:Os) (started:os.Started) (H:Type) (enc:TypeId × Value→H) :
  ReturnsInHanded {} Tryz.checked os 4 .any (fun w args=>(Rows.topNewmanSpec.pre enc Tryz.prog Tryz.f4 [] false w args∧laidMetH Tryz.prog Rows.topNewmanRow.laid w)∧sizedMet enc Tryz.prog Tryz.f4 (OpenSpec.ofChange Rows.topNewmanSpec) false w args)
   (Rows.topNewmanSpec.post enc Tryz.prog Tryz.f4 false true false false):=by
 refine returnsInHanded_of_change_and (C:=Tryz.checked) (X:=fun w _=>laidMetH Tryz.prog Rows.topNewmanRow.laid w) (fun _ _ _ hh h=>h.of_heap hh) own started (by kernel_rfl) Tryz.func4
  (ChangeSpec.witness_shaped (enc:=enc) (C:=Tryz.checked) (os:=os) (X:=fun w _=>laidMetH Tryz.prog Rows.topNewmanRow.laid w) false (World.doorLaid Tryz.prog 400 os) #[.slice none 0 0,.int .i64 0,.int .i64 0,.int .i64 0,.int .i64 0] 8 rfl (World.shaped_of_RefB (by kernel_rfl) (by kernel_rfl)) (by kernel_rfl) (by kernel_rfl) (by kernel_rfl) (YZ os _)) ?_
 intro W base args ds gs before hval hW _ _ hL _
 exact YO H enc W base args ds gs before hL hval hW
theorem V4:Rows.TopNewmanSaid :=
 OpenClaim.holds_of_wide 4 Tryz.f4 rfl rfl rfl rfl rfl rfl rfl ⟨rfl,rfl,rfl,rfl,rfl⟩ rfl rfl rfl rfl rfl (by kernel_rfl) Tryz.func4 (by kernel_rfl)
  (of_decide_eq_true (by kernel_rfl)) (by unfold Func.isWrapper;first | (rw [if_pos (by decide +kernel)];kernel_rfl) | (rw [if_neg (by decide +kernel)];exact ⟨rfl,rfl⟩))
  (fun os started H enc _=>AAM os started H enc)
theorem YI:(Tryz.f4.params.toList.all fun t=>!Tryz.prog.wantsStandIn t)=true:=by kernel_rfl
theorem proved:Rows.TopNewmanCardSaid :=
 Claim7.holds_tied_plain_at .later [] [.data,.data,.data] true Rows.topNewmanCard.stood.harness Rows.topNewmanCard.stood.looks
  V4 (fun _ h=>by cases h) (by kernel_rfl) (fun _ h=>by cases h) topNewman_row_tie rfl ⟨rfl,rfl⟩ (by kernel_rfl) rfl
  (fun f fn hf hfn=>by
   obtain rfl : f = 4 := Option.some.inj ((show Tryz.prog.funcNamed "metaprune/metaprunetop.TopNewman" = some 4 by kernel_rfl).symm.trans hf) |>.symm
   obtain rfl:fn=Tryz.f4:=(Option.some.inj (Tryz.func4.symm.trans hfn)).symm
   exact ⟨by kernel_rfl,fun j t ht=>by
    have h1:=List.all_eq_true.1 YI t (by rw [Array.mem_toList_iff];exact Array.mem_of_getElem? ht)
    have h2:Tryz.prog.wantsStandIn t=false:=by simpa using h1
    exact h2⟩)
  (by kernel_rfl)

end Go.Proofs.YtbhnmjkmieiadaaGreatDoor.topNewman
