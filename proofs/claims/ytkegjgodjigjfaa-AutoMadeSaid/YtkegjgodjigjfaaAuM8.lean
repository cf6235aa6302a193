/-
  Part 8 of the texts. Conditions: none.
-/
import Derived.Test.YtkegjgodjigjfaaAuM7
namespace Go.Proofs.Ytkegjgodjigjfaa
open Go Go.RowKit
set_option linter.unusedVariables false
set_option linter.unusedSimpArgs false
set_option maxHeartbeats 2000000
def SQ:Au:=⟨0,[],[]⟩
theorem GW {x B:Int} (h1:0≤x∧x < 8) (h2:0≤B∧B≤8):0≤x * B∧x * B≤64:=by
 refine ⟨Int.mul_nonneg h1.1 h2.1,?_⟩
 have:x * B≤8 * B:=Int.mul_le_mul_of_nonneg_right (by omega) h2.1
 omega
theorem Pn {B:Int} {m n:Mv} {ns:List Mv} {k:Nat} (hn:ns[k]?=some n):A8 B m (ns.take (k + 1))=A8 B m (ns.take k) ++ (if IW m n=true then [GJ B m n] else []):=by
 unfold A8
 rw [AQ hn,List.filter_append,List.map_append]
 by_cases h:IW m n=true
 ·rw [if_pos h,List.filter_cons_of_pos h]
  rfl
 ·rw [if_neg h,List.filter_cons_of_neg h]
  rfl
theorem OS {B:Int} {m:Mv} {ms ns:List Mv} {k:Nat} (hm:ms[k]?=some m):BQ B (ms.take (k + 1)) ns=BQ B (ms.take k) ns ++ A8 B m ns:=by
 unfold BQ
 rw [AQ hm,List.flatMap_append]
 simp
theorem L4 {B:Int} {s:Int} {ss ts:List Int} {k:Nat} (hs:ss[k]?=some s):Aw B (ss.take (k + 1)) ts=Aw B (ss.take k) ts ++ ts.map (fun t=>s * B + t):=by
 unfold Aw
 rw [AQ hs,List.flatMap_append]
 simp
def Aa:AL:=.box 25 [.st (.int .i64 0),.full [],.full []]
theorem PQ (a b:Au) (h:¬ A1 a b=0):AU Try.prog 20 [aAu a,aAu b] (.tup [aAu SQ,AK (A1 a b)]):=by
 refine Ih.ac fun C hC=>?_
 unfold Fn
 repeat' (first | (with_reducible first | refine W ?_ | refine Z0 ?_ | ((first | refine Wo fun K hK=>?_ | refine Wp ?_ | refine Wq ?_ | refine Wr ?_);(try simp only [go_sem,fN,seval,eT,iR,h,dT,dF,nL]);(repeat refine Ai ?_);(try (refine hK _ ?_;clear hK K));try refine iC ?_)) | refine Cg _ (LO a b) ?_)
 simp only [go_sem,fN,seval,AP,AS.result,AH,AI,AN]
 rfl
theorem XJ (a b:Au) (ha:a.may 8 40=0) (hb:b.may 8 40=0) (hla:a.last.length≤100) (hlb:b.last.length≤100):AU Try.prog 20 [aAu a,aAu b] (.tup [aAu (a.both b),AK 0]):=by
 have he:A1 a b=0:=by
  unfold A1
  rw [if_pos ha,hb]
 have ga:=Au.may_good ha
 have gb:=Au.may_good hb
 obtain ⟨a1,a2,_⟩:=Au.may_ok.1 ha
 obtain ⟨b1,b2,_⟩:=Au.may_ok.1 hb
 have hAB:=GW (x:=a.states) (B:=b.states)
 have hst:0≤a.states * b.states∧a.states * b.states≤64:=by
  refine ⟨Int.mul_nonneg ga.states gb.states,?_⟩
  have:a.states * b.states≤8 * b.states:=Int.mul_le_mul_of_nonneg_right a1.2.1 gb.states
  omega
 refine Ih.ac fun C hC=>?_
 unfold Fn
 repeat' (first | (with_reducible first | refine W ?_ | refine Z0 ?_ | ((first | refine Wo fun K hK=>?_ | refine Wp ?_ | refine Wq ?_ | refine Wr ?_);(try simp only [go_sem,fN,seval,eT,iR,he,dT,dF,nL]);(repeat refine Ai ?_);(try (refine hK _ ?_;clear hK K));try refine iC ?_)) | refine Cg _ (LO a b) ?_)
 refine IWP.ghost (Ad.ownC 7 1 300 46 3 (xs:=([]:List Mv).map Ae) rfl rfl rfl HY) ?_
 refine IWP.ghost (Ad.ownC 7 2 301 3 1 (xs:=([]:List Int).map BK) rfl rfl rfl FH) ?_
 refine IWP.loopD [9] (fun q s=>∃ k,k≤a.moves.length∧q=a.moves.length - k∧s.env 2=.one (.ptr 2 1 0 0)∧s.env 3=.one (.ptr 3 1 0 0)∧s.env 4=.one (.ptr 4 1 0 0)∧s.env 7=.one (.ptr 7 1 0 0)∧s.S 2=some (AE a)∧s.S 3=some (AE b)∧s.S 4=some Aa∧s.S 7=some (.box 25 [.st (.int .i64 (a.states * b.states)),.row 300 (BQ b.states (a.moves.take k) b.moves).length,.row 301 ([]:List Int).length])∧s.S 300=some (.arow 46 3 ((BQ b.states (a.moves.take k) b.moves).map Ae))∧s.S 301=some (.arow 3 1 (([]:List Int).map BK))∧s.env 32=.one (.st (.list (a.moves.map Ae)))∧s.env 33=AK a.moves.length∧s.env 34=AK k∧s.S 9=none∧s.S 11=none∧s.S 12=none∧s.S 302=none) a.moves.length
  ⟨0,Nat.zero_le _,rfl,rfl,rfl,rfl,rfl,rfl,rfl,rfl,rfl,rfl,rfl,rfl,rfl,rfl,rfl,rfl,rfl,rfl⟩ ?_
 rintro q ⟨env,St⟩ ⟨k,hk,rfl,e2,e3,e4,e7,s2,s3,s4,s7,s300,s301,e32,e33,e34,s9,s11,s12,s302⟩
 simp only at e2 e3 e4 e7 s2 s3 s4 s7 s300 s301 e32 e33 e34 s9 s11 s12 s302
 unfold AE at s2 s3
 unfold Aa at s4
 by_cases hlt:(k:Int) < a.moves.length
 ·obtain ⟨m,hm⟩:=Ab (show k < a.moves.length by omega)
  have hmm:=AM hm
  have hmt:=ga.to_ m hmm
  have hml:=(Mv.err_ok.1 (a2 m hmm)).2.1
  have hLen:(BQ b.states (a.moves.take k) b.moves).length≤1600:=by
   have h1:=EL b.states (a.moves.take k) b.moves
   have h2:(a.moves.take k).length * b.moves.length≤40 * b.moves.length:=Nat.mul_le_mul_right _ (by rw [List.length_take];omega)
   omega
  have hmB:=GW (x:=m.to_) (B:=b.states) ⟨hmt.1,by omega⟩ ⟨gb.states,b1.2.1⟩
  repeat' with_reducible first | refine W ?_ | refine Z0 ?_ | ((first | refine Wo fun K hK=>?_ | refine Wp ?_ | refine Wq ?_ | refine Wr ?_);(try simp only [go_sem,fN,seval,eT,iR,e2,e3,e4,e7,s2,s3,s4,s7,s300,s301,e32,e33,e34,s9,s11,s12,s302,hlt,hm,Ae,dT,dF,nL]);(repeat refine Ai ?_);(try (refine hK _ ?_;clear hK K));try refine iC ?_)
  refine IWP.loopD [11,12,302] (fun q s=>∃ j,j≤b.moves.length∧q=b.moves.length - j∧s.env 2=.one (.ptr 2 1 0 0)∧s.env 3=.one (.ptr 3 1 0 0)∧s.env 4=.one (.ptr 4 1 0 0)∧s.env 7=.one (.ptr 7 1 0 0)∧s.S 2=some (AE a)∧s.S 3=some (AE b)∧s.S 4=some Aa∧s.S 7=some (.box 25 [.st (.int .i64 (a.states * b.states)),.row 300 (BQ b.states (a.moves.take k) b.moves ++ A8 b.states m (b.moves.take j)).length,.row 301 ([]:List Int).length])∧s.S 300=some (.arow 46 3 ((BQ b.states (a.moves.take k) b.moves ++ A8 b.states m (b.moves.take j)).map Ae))∧s.S 301=some (.arow 3 1 (([]:List Int).map BK))∧s.env 32=.one (.st (.list (a.moves.map Ae)))∧s.env 33=AK a.moves.length∧s.env 34=AK k∧s.env 9=.one (.ptr 9 1 0 0)∧s.S 9=some (.box 46 [.st (.str m.name),.st (.list (m.frm.map BK)),.st (.int .i64 m.to_)])∧s.env 39=.one (.st (.list (b.moves.map Ae)))∧s.env 40=AK b.moves.length∧s.env 41=AK j∧s.S 11=none∧s.S 12=none∧s.S 302=none) b.moves.length
   ⟨0,Nat.zero_le _,rfl,by simp [AD,AE,Aa,A8,e2,e3,e4,e7,s2,s3,s4,s7,s300,s301,e32,e33,e34,s9,s11,s12,s302],by simp [AD,AE,Aa,A8,e2,e3,e4,e7,s2,s3,s4,s7,s300,s301,e32,e33,e34,s9,s11,s12,s302],by simp [AD,AE,Aa,A8,e2,e3,e4,e7,s2,s3,s4,s7,s300,s301,e32,e33,e34,s9,s11,s12,s302],by simp [AD,AE,Aa,A8,e2,e3,e4,e7,s2,s3,s4,s7,s300,s301,e32,e33,e34,s9,s11,s12,s302],by simp [AD,AE,Aa,A8,e2,e3,e4,e7,s2,s3,s4,s7,s300,s301,e32,e33,e34,s9,s11,s12,s302],by simp [AD,AE,Aa,A8,e2,e3,e4,e7,s2,s3,s4,s7,s300,s301,e32,e33,e34,s9,s11,s12,s302],by simp [AD,AE,Aa,A8,e2,e3,e4,e7,s2,s3,s4,s7,s300,s301,e32,e33,e34,s9,s11,s12,s302],by simp [AD,AE,Aa,A8,e2,e3,e4,e7,s2,s3,s4,s7,s300,s301,e32,e33,e34,s9,s11,s12,s302],by simp [AD,AE,Aa,A8,e2,e3,e4,e7,s2,s3,s4,s7,s300,s301,e32,e33,e34,s9,s11,s12,s302],by simp [AD,AE,Aa,A8,e2,e3,e4,e7,s2,s3,s4,s7,s300,s301,e32,e33,e34,s9,s11,s12,s302],by simp [AD,AE,Aa,A8,e2,e3,e4,e7,s2,s3,s4,s7,s300,s301,e32,e33,e34,s9,s11,s12,s302],by simp [AD,AE,Aa,A8,e2,e3,e4,e7,s2,s3,s4,s7,s300,s301,e32,e33,e34,s9,s11,s12,s302],by simp [AD,AE,Aa,A8,e2,e3,e4,e7,s2,s3,s4,s7,s300,s301,e32,e33,e34,s9,s11,s12,s302],by simp [AD,AE,Aa,A8,e2,e3,e4,e7,s2,s3,s4,s7,s300,s301,e32,e33,e34,s9,s11,s12,s302],by simp [AD,AE,Aa,A8,e2,e3,e4,e7,s2,s3,s4,s7,s300,s301,e32,e33,e34,s9,s11,s12,s302],by simp [AD,AE,Aa,A8,e2,e3,e4,e7,s2,s3,s4,s7,s300,s301,e32,e33,e34,s9,s11,s12,s302],by simp [AD,AE,Aa,A8,e2,e3,e4,e7,s2,s3,s4,s7,s300,s301,e32,e33,e34,s9,s11,s12,s302],by simp [AD,AE,Aa,A8,e2,e3,e4,e7,s2,s3,s4,s7,s300,s301,e32,e33,e34,s9,s11,s12,s302],by simp [AD,AE,Aa,A8,e2,e3,e4,e7,s2,s3,s4,s7,s300,s301,e32,e33,e34,s9,s11,s12,s302],by simp [AD,AE,Aa,A8,e2,e3,e4,e7,s2,s3,s4,s7,s300,s301,e32,e33,e34,s9,s11,s12,s302],by simp [AD,AE,Aa,A8,e2,e3,e4,e7,s2,s3,s4,s7,s300,s301,e32,e33,e34,s9,s11,s12,s302]⟩ ?_
  rintro q ⟨env2,S2⟩ ⟨j,hj,rfl,f2,f3,f4,f7,t2,t3,t4,t7,t300,t301,f32,f33,f34,f9,t9,f39,f40,f41,t11,t12,t302⟩
  simp only at f2 f3 f4 f7 t2 t3 t4 t7 t300 t301 f32 f33 f34 f9 t9 f39 f40 f41 t11 t12 t302
  unfold AE at t2 t3
  unfold Aa at t4
  by_cases hjl:(j:Int) < b.moves.length
  ·obtain ⟨n,hn⟩:=Ab (show j < b.moves.length by omega)
   have hnm:=AM hn
   have hnt:=gb.to_ n hnm
   have hst2:=Pn (B:=b.states) (m:=m) hn
   have hb1:=HA b.states m (b.moves.take j)
   rw [List.length_take] at hb1
   by_cases g1:m.name=n.name
   case neg =>
    rw [if_neg (by simp [IW,g1]),List.append_nil] at hst2
    repeat' with_reducible first | refine W ?_ | refine Z0 ?_ | ((first | refine Wo fun K hK=>?_ | refine Wp ?_ | refine Wq ?_ | refine Wr ?_);(try simp only [go_sem,fN,seval,eT,iR,f2,f3,f4,f7,t2,t3,t4,t7,t300,t301,f32,f33,f34,f9,t9,f39,f40,f41,t11,t12,t302,hjl,hn,Ae,g1,dT,dF,nL]);(repeat refine Ai ?_);(try (refine hK _ ?_;clear hK K));try refine iC ?_)
    refine AA ⟨b.moves.length - (j + 1),by omega,j + 1,by omega,rfl,?_⟩
    simp only [go_sem,fN,seval,AS.drop,AY,AC.clears,AC.clear,AC.highs,AC.high,Bool.not_false,Bool.true_and,Bool.and_self,AV.purge,AV.purges,AC.purge,AL.purge,List.contains_cons,List.contains_nil,Nat.reduceBEq,Bool.or_self,Bool.or_false,Bool.false_or,Bool.or_true,eT,iR,f2,f3,f4,f7,t2,t3,t4,t7,t300,t301,f32,f33,f34,f9,t9,f39,f40,f41,t11,t12,t302,AE,Aa]
    simp [hst2,g1]
   case pos =>
   by_cases g2:m.frm.length=n.frm.length
   case neg =>
    rw [if_neg (by simp [IW,g2]),List.append_nil] at hst2
    have g2':¬ (m.frm.length:Int)=n.frm.length:=by omega
    repeat' with_reducible first | refine W ?_ | refine Z0 ?_ | ((first | refine Wo fun K hK=>?_ | refine Wp ?_ | refine Wq ?_ | refine Wr ?_);(try simp only [go_sem,fN,seval,eT,iR,f2,f3,f4,f7,t2,t3,t4,t7,t300,t301,f32,f33,f34,f9,t9,f39,f40,f41,t11,t12,t302,hjl,hn,Ae,g1,g2',dT,dF,nL]);(repeat refine Ai ?_);(try (refine hK _ ?_;clear hK K));try refine iC ?_)
    refine AA ⟨b.moves.length - (j + 1),by omega,j + 1,by omega,rfl,?_⟩
    simp only [go_sem,fN,seval,AS.drop,AY,AC.clears,AC.clear,AC.highs,AC.high,Bool.not_false,Bool.true_and,Bool.and_self,AV.purge,AV.purges,AC.purge,AL.purge,List.contains_cons,List.contains_nil,Nat.reduceBEq,Bool.or_self,Bool.or_false,Bool.false_or,Bool.or_true,eT,iR,f2,f3,f4,f7,t2,t3,t4,t7,t300,t301,f32,f33,f34,f9,t9,f39,f40,f41,t11,t12,t302,AE,Aa]
    simp [hst2,g1]
   case pos =>
   rw [if_pos (by simp [IW,g1,g2])] at hst2
   have g2':(m.frm.length:Int)=n.frm.length:=by omega
   repeat' with_reducible first | refine W ?_ | refine Z0 ?_ | ((first | refine Wo fun K hK=>?_ | refine Wp ?_ | refine Wq ?_ | refine Wr ?_);(try simp only [go_sem,fN,seval,eT,iR,f2,f3,f4,f7,t2,t3,t4,t7,t300,t301,f32,f33,f34,f9,t9,f39,f40,f41,t11,t12,t302,hjl,hn,Ae,g1,g2',dT,dF,nL]);(repeat refine Ai ?_);(try (refine hK _ ?_;clear hK K));try refine iC ?_)
   refine IWP.ghost (Ad.ownC (C:=C) 12 1 302 3 1 (xs:=([]:List Int).map BK) (ty:=46) (cs:=[.st (.str n.name),.full [],.st (.int .i64 (m.to_ * b.states + n.to_))]) (by simp [AD]) rfl (by simp [AD,t302]) FH) ?_
   refine IWP.loop (fun q s=>∃ i,i≤m.frm.length∧q=m.frm.length - i∧s.env 2=.one (.ptr 2 1 0 0)∧s.env 3=.one (.ptr 3 1 0 0)∧s.env 4=.one (.ptr 4 1 0 0)∧s.env 7=.one (.ptr 7 1 0 0)∧s.S 2=some (AE a)∧s.S 3=some (AE b)∧s.S 4=some Aa∧s.S 7=some (.box 25 [.st (.int .i64 (a.states * b.states)),.row 300 (BQ b.states (a.moves.take k) b.moves ++ A8 b.states m (b.moves.take j)).length,.row 301 ([]:List Int).length])∧s.S 300=some (.arow 46 3 ((BQ b.states (a.moves.take k) b.moves ++ A8 b.states m (b.moves.take j)).map Ae))∧s.S 301=some (.arow 3 1 (([]:List Int).map BK))∧s.env 32=.one (.st (.list (a.moves.map Ae)))∧s.env 33=AK a.moves.length∧s.env 34=AK k∧s.env 9=.one (.ptr 9 1 0 0)∧s.S 9=some (.box 46 [.st (.str m.name),.st (.list (m.frm.map BK)),.st (.int .i64 m.to_)])∧s.env 39=.one (.st (.list (b.moves.map Ae)))∧s.env 40=AK b.moves.length∧s.env 41=AK j∧s.env 11=.one (.ptr 11 1 0 0)∧s.S 11=some (.box 46 [.st (.str n.name),.st (.list (n.frm.map BK)),.st (.int .i64 n.to_)])∧s.env 12=.one (.ptr 12 1 0 0)∧s.S 12=some (.box 46 [.st (.str m.name),.row 302 i,.st (.int .i64 (m.to_ * b.states + n.to_))])∧s.S 302=some (.arow 3 1 (((C2 b.states m n).take i).map BK))∧s.env 71=.one (.st (.list (m.frm.map BK)))∧s.env 72=AK m.frm.length∧s.env 73=AK i) m.frm.length
    ⟨0,Nat.zero_le _,rfl,by simp [AS.set,AD,AE,Aa,g1,g2,f2,f3,f4,f7,t2,t3,t4,t7,t300,t301,f32,f33,f34,f9,t9,f39,f40,f41,t11,t12,t302],by simp [AS.set,AD,AE,Aa,g1,g2,f2,f3,f4,f7,t2,t3,t4,t7,t300,t301,f32,f33,f34,f9,t9,f39,f40,f41,t11,t12,t302],by simp [AS.set,AD,AE,Aa,g1,g2,f2,f3,f4,f7,t2,t3,t4,t7,t300,t301,f32,f33,f34,f9,t9,f39,f40,f41,t11,t12,t302],by simp [AS.set,AD,AE,Aa,g1,g2,f2,f3,f4,f7,t2,t3,t4,t7,t300,t301,f32,f33,f34,f9,t9,f39,f40,f41,t11,t12,t302],by simp [AS.set,AD,AE,Aa,g1,g2,f2,f3,f4,f7,t2,t3,t4,t7,t300,t301,f32,f33,f34,f9,t9,f39,f40,f41,t11,t12,t302],by simp [AS.set,AD,AE,Aa,g1,g2,f2,f3,f4,f7,t2,t3,t4,t7,t300,t301,f32,f33,f34,f9,t9,f39,f40,f41,t11,t12,t302],by simp [AS.set,AD,AE,Aa,g1,g2,f2,f3,f4,f7,t2,t3,t4,t7,t300,t301,f32,f33,f34,f9,t9,f39,f40,f41,t11,t12,t302],by simp [AS.set,AD,AE,Aa,g1,g2,f2,f3,f4,f7,t2,t3,t4,t7,t300,t301,f32,f33,f34,f9,t9,f39,f40,f41,t11,t12,t302],by simp [AS.set,AD,AE,Aa,g1,g2,f2,f3,f4,f7,t2,t3,t4,t7,t300,t301,f32,f33,f34,f9,t9,f39,f40,f41,t11,t12,t302],by simp [AS.set,AD,AE,Aa,g1,g2,f2,f3,f4,f7,t2,t3,t4,t7,t300,t301,f32,f33,f34,f9,t9,f39,f40,f41,t11,t12,t302],by simp [AS.set,AD,AE,Aa,g1,g2,f2,f3,f4,f7,t2,t3,t4,t7,t300,t301,f32,f33,f34,f9,t9,f39,f40,f41,t11,t12,t302],by simp [AS.set,AD,AE,Aa,g1,g2,f2,f3,f4,f7,t2,t3,t4,t7,t300,t301,f32,f33,f34,f9,t9,f39,f40,f41,t11,t12,t302],by simp [AS.set,AD,AE,Aa,g1,g2,f2,f3,f4,f7,t2,t3,t4,t7,t300,t301,f32,f33,f34,f9,t9,f39,f40,f41,t11,t12,t302],by simp [AS.set,AD,AE,Aa,g1,g2,f2,f3,f4,f7,t2,t3,t4,t7,t300,t301,f32,f33,f34,f9,t9,f39,f40,f41,t11,t12,t302],by simp [AS.set,AD,AE,Aa,g1,g2,f2,f3,f4,f7,t2,t3,t4,t7,t300,t301,f32,f33,f34,f9,t9,f39,f40,f41,t11,t12,t302],by simp [AS.set,AD,AE,Aa,g1,g2,f2,f3,f4,f7,t2,t3,t4,t7,t300,t301,f32,f33,f34,f9,t9,f39,f40,f41,t11,t12,t302],by simp [AS.set,AD,AE,Aa,g1,g2,f2,f3,f4,f7,t2,t3,t4,t7,t300,t301,f32,f33,f34,f9,t9,f39,f40,f41,t11,t12,t302],by simp [AS.set,AD,AE,Aa,g1,g2,f2,f3,f4,f7,t2,t3,t4,t7,t300,t301,f32,f33,f34,f9,t9,f39,f40,f41,t11,t12,t302],by simp [AS.set,AD,AE,Aa,g1,g2,f2,f3,f4,f7,t2,t3,t4,t7,t300,t301,f32,f33,f34,f9,t9,f39,f40,f41,t11,t12,t302],by simp [AS.set,AD,AE,Aa,g1,g2,f2,f3,f4,f7,t2,t3,t4,t7,t300,t301,f32,f33,f34,f9,t9,f39,f40,f41,t11,t12,t302],by simp [AS.set,AD,AE,Aa,g1,g2,f2,f3,f4,f7,t2,t3,t4,t7,t300,t301,f32,f33,f34,f9,t9,f39,f40,f41,t11,t12,t302],by simp [AS.set,AD,AE,Aa,g1,g2,f2,f3,f4,f7,t2,t3,t4,t7,t300,t301,f32,f33,f34,f9,t9,f39,f40,f41,t11,t12,t302],by simp [AS.set,AD,AE,Aa,g1,g2,f2,f3,f4,f7,t2,t3,t4,t7,t300,t301,f32,f33,f34,f9,t9,f39,f40,f41,t11,t12,t302],by simp [AS.set,AD,AE,Aa,g1,g2,f2,f3,f4,f7,t2,t3,t4,t7,t300,t301,f32,f33,f34,f9,t9,f39,f40,f41,t11,t12,t302],by simp [AS.set,AD,AE,Aa,g1,g2,f2,f3,f4,f7,t2,t3,t4,t7,t300,t301,f32,f33,f34,f9,t9,f39,f40,f41,t11,t12,t302],by simp [AS.set,AD,AE,Aa,g1,g2,f2,f3,f4,f7,t2,t3,t4,t7,t300,t301,f32,f33,f34,f9,t9,f39,f40,f41,t11,t12,t302]⟩ ?_
   rintro q ⟨env3,S3⟩ ⟨i,hi,rfl,u2,u3,u4,u7,v2,v3,v4,v7,v300,v301,u32,u33,u34,u9,v9,u39,u40,u41,u11,v11,u12,v12,v302,u71,u72,u73⟩
   simp only at u2 u3 u4 u7 v2 v3 v4 v7 v300 v301 u32 u33 u34 u9 v9 u39 u40 u41 u11 v11 u12 v12 v302 u71 u72 u73
   unfold AE at v2 v3
   unfold Aa at v4
   have hzl:(C2 b.states m n).length=m.frm.length:=by
    unfold C2
    rw [List.length_zipWith]
    omega
   have htk:((C2 b.states m n).take i).length=i:=by
    rw [List.length_take]
    omega
   by_cases hil:(i:Int) < m.frm.length
   ·obtain ⟨x,hx⟩:=Ab (show i < m.frm.length by omega)
    obtain ⟨y,hy⟩:=Ab (show i < n.frm.length by omega)
    have hz:(C2 b.states m n)[i]?=some (x * b.states + y):=by
     unfold C2
     rw [List.getElem?_zipWith,hx,hy]
    have qx:=ga.frm m hmm x (AM hx)
    have qy:=gb.frm n hnm y (AM hy)
    have hxB:=GW (x:=x) (B:=b.states) ⟨qx.1,by omega⟩ ⟨gb.states,b1.2.1⟩
    repeat' with_reducible first | refine W ?_ | refine Z0 ?_ | ((first | refine Wo fun K hK=>?_ | refine Wp ?_ | refine Wq ?_ | refine Wr ?_);(try simp only [go_sem,fN,seval,eT,iR,u2,u3,u4,u7,v2,v3,v4,v7,v300,v301,u32,u33,u34,u9,v9,u39,u40,u41,u11,v11,u12,v12,v302,u71,u72,u73,hil,hx,hy,htk,dT,dF,nL]);(repeat refine Ai ?_);(try (refine hK _ ?_;clear hK K));try refine iC ?_)
    refine AA ⟨m.frm.length - (i + 1),by omega,i + 1,by omega,rfl,?_⟩
    simp only [go_sem,fN,seval,eT,iR,u2,u3,u4,u7,v2,v3,v4,v7,v300,v301,u32,u33,u34,u9,v9,u39,u40,u41,u11,v11,u12,v12,v302,u71,u72,u73,AE,Aa,htk]
    rw [AQ hz]
    simp
   ·have hie:i=m.frm.length:=by omega
    subst hie
    rw [List.take_of_length_le (by omega)] at v302
    repeat' with_reducible first | refine W ?_ | refine Z0 ?_ | ((first | refine Wo fun K hK=>?_ | refine Wp ?_ | refine Wq ?_ | refine Wr ?_);(try simp only [go_sem,fN,seval,eT,iR,u2,u3,u4,u7,v2,v3,v4,v7,v300,v301,u32,u33,u34,u9,v9,u39,u40,u41,u11,v11,u12,v12,v302,u71,u72,u73,hil,hzl,dT,dF,nL]);(repeat refine Ai ?_);(try (refine hK _ ?_;clear hK K));try refine iC ?_)
    refine AA ⟨b.moves.length - (j + 1),by omega,j + 1,by omega,rfl,?_⟩
    simp only [go_sem,fN,seval,AS.drop,AY,AC.clears,AC.clear,AC.highs,AC.high,Bool.not_false,Bool.true_and,Bool.and_self,AV.purge,AV.purges,AC.purge,AL.purge,List.contains_cons,List.contains_nil,Nat.reduceBEq,Bool.or_self,Bool.or_false,Bool.false_or,Bool.or_true,eT,iR,u2,u3,u4,u7,v2,v3,v4,v7,v300,v301,u32,u33,u34,u9,v9,u39,u40,u41,u11,v11,u12,v12,v302,u71,u72,u73,AE,Aa]
    simp [hst2,g1,GJ,Ae,Nat.add_assoc]
  ·rw [List.take_of_length_le (l:=b.moves) (i:=j) (by omega)] at t7 t300
   have hst:=OS (B:=b.states) (ns:=b.moves) hm
   repeat' with_reducible first | refine W ?_ | refine Z0 ?_ | ((first | refine Wo fun K hK=>?_ | refine Wp ?_ | refine Wq ?_ | refine Wr ?_);(try simp only [go_sem,fN,seval,eT,iR,f2,f3,f4,f7,t2,t3,t4,t7,t300,t301,f32,f33,f34,f9,t9,f39,f40,f41,t11,t12,t302,hjl,dT,dF,nL]);(repeat refine Ai ?_);(try (refine hK _ ?_;clear hK K));try refine iC ?_)
   refine AA ⟨a.moves.length - (k + 1),by omega,k + 1,by omega,rfl,?_⟩
   simp only [go_sem,fN,seval,AS.drop,AY,AC.clears,AC.clear,AC.highs,AC.high,Bool.not_false,Bool.true_and,Bool.and_self,AV.purge,AV.purges,AC.purge,AL.purge,List.contains_cons,List.contains_nil,Nat.reduceBEq,Bool.or_self,Bool.or_false,Bool.false_or,Bool.or_true,eT,iR,f2,f3,f4,f7,t2,t3,t4,t7,t300,t301,f32,f33,f34,f9,t9,f39,f40,f41,t11,t12,t302,AE,Aa]
   simp [hst]
 ·rw [List.take_of_length_le (l:=a.moves) (i:=k) (by omega)] at s7 s300
  repeat' with_reducible first | refine W ?_ | refine Z0 ?_ | ((first | refine Wo fun K hK=>?_ | refine Wp ?_ | refine Wq ?_ | refine Wr ?_);(try simp only [go_sem,fN,seval,eT,iR,e2,e3,e4,e7,s2,s3,s4,s7,s300,s301,e32,e33,e34,s9,s11,s12,s302,hlt,dT,dF,nL]);(repeat refine Ai ?_);(try (refine hK _ ?_;clear hK K));try refine iC ?_)
  refine IWP.loop (fun q s=>∃ k,k≤a.last.length∧q=a.last.length - k∧s.env 2=.one (.ptr 2 1 0 0)∧s.env 3=.one (.ptr 3 1 0 0)∧s.env 4=.one (.ptr 4 1 0 0)∧s.env 7=.one (.ptr 7 1 0 0)∧s.S 2=some (AE a)∧s.S 3=some (AE b)∧s.S 4=some Aa∧s.S 7=some (.box 25 [.st (.int .i64 (a.states * b.states)),.row 300 (BQ b.states a.moves b.moves).length,.row 301 (Aw b.states (a.last.take k) b.last).length])∧s.S 300=some (.arow 46 3 ((BQ b.states a.moves b.moves).map Ae))∧s.S 301=some (.arow 3 1 ((Aw b.states (a.last.take k) b.last).map BK))∧s.env 105=.one (.st (.list (a.last.map BK)))∧s.env 106=AK a.last.length∧s.env 107=AK k) a.last.length
   ⟨0,Nat.zero_le _,rfl,by simp [AS.set,AD,AE,Aa,Aw,e2,e3,e4,e7,s2,s3,s4,s7,s300,s301,e32,e33,e34,s9,s11,s12,s302],by simp [AS.set,AD,AE,Aa,Aw,e2,e3,e4,e7,s2,s3,s4,s7,s300,s301,e32,e33,e34,s9,s11,s12,s302],by simp [AS.set,AD,AE,Aa,Aw,e2,e3,e4,e7,s2,s3,s4,s7,s300,s301,e32,e33,e34,s9,s11,s12,s302],by simp [AS.set,AD,AE,Aa,Aw,e2,e3,e4,e7,s2,s3,s4,s7,s300,s301,e32,e33,e34,s9,s11,s12,s302],by simp [AS.set,AD,AE,Aa,Aw,e2,e3,e4,e7,s2,s3,s4,s7,s300,s301,e32,e33,e34,s9,s11,s12,s302],by simp [AS.set,AD,AE,Aa,Aw,e2,e3,e4,e7,s2,s3,s4,s7,s300,s301,e32,e33,e34,s9,s11,s12,s302],by simp [AS.set,AD,AE,Aa,Aw,e2,e3,e4,e7,s2,s3,s4,s7,s300,s301,e32,e33,e34,s9,s11,s12,s302],by simp [AS.set,AD,AE,Aa,Aw,e2,e3,e4,e7,s2,s3,s4,s7,s300,s301,e32,e33,e34,s9,s11,s12,s302],by simp [AS.set,AD,AE,Aa,Aw,e2,e3,e4,e7,s2,s3,s4,s7,s300,s301,e32,e33,e34,s9,s11,s12,s302],by simp [AS.set,AD,AE,Aa,Aw,e2,e3,e4,e7,s2,s3,s4,s7,s300,s301,e32,e33,e34,s9,s11,s12,s302],by simp [AS.set,AD,AE,Aa,Aw,e2,e3,e4,e7,s2,s3,s4,s7,s300,s301,e32,e33,e34,s9,s11,s12,s302],by simp [AS.set,AD,AE,Aa,Aw,e2,e3,e4,e7,s2,s3,s4,s7,s300,s301,e32,e33,e34,s9,s11,s12,s302],by simp [AS.set,AD,AE,Aa,Aw,e2,e3,e4,e7,s2,s3,s4,s7,s300,s301,e32,e33,e34,s9,s11,s12,s302]⟩ ?_
  rintro q ⟨env2,S2⟩ ⟨k,hk',rfl,f2,f3,f4,f7,t2,t3,t4,t7,t300,t301,f105,f106,f107⟩
  simp only at f2 f3 f4 f7 t2 t3 t4 t7 t300 t301 f105 f106 f107
  unfold AE at t2 t3
  unfold Aa at t4
  by_cases hkl:(k:Int) < a.last.length
  ·obtain ⟨x,hx⟩:=Ab (show k < a.last.length by omega)
   have qx:=ga.last x (AM hx)
   have hxB:=GW (x:=x) (B:=b.states) ⟨qx.1,by omega⟩ ⟨gb.states,b1.2.1⟩
   have hLl:=Dr b.states (a.last.take k) b.last
   have hLm:(a.last.take k).length * b.last.length≤100 * b.last.length:=Nat.mul_le_mul_right _ (by rw [List.length_take];omega)
   have hst2:=L4 (B:=b.states) (ts:=b.last) hx
   repeat' with_reducible first | refine W ?_ | refine Z0 ?_ | ((first | refine Wo fun K hK=>?_ | refine Wp ?_ | refine Wq ?_ | refine Wr ?_);(try simp only [go_sem,fN,seval,eT,iR,f2,f3,f4,f7,t2,t3,t4,t7,t300,t301,f105,f106,f107,hkl,hx,dT,dF,nL]);(repeat refine Ai ?_);(try (refine hK _ ?_;clear hK K));try refine iC ?_)
   refine IWP.loop (fun q s=>∃ j,j≤b.last.length∧q=b.last.length - j∧s.env 2=.one (.ptr 2 1 0 0)∧s.env 3=.one (.ptr 3 1 0 0)∧s.env 4=.one (.ptr 4 1 0 0)∧s.env 7=.one (.ptr 7 1 0 0)∧s.S 2=some (AE a)∧s.S 3=some (AE b)∧s.S 4=some Aa∧s.S 7=some (.box 25 [.st (.int .i64 (a.states * b.states)),.row 300 (BQ b.states a.moves b.moves).length,.row 301 (Aw b.states (a.last.take k) b.last ++ (b.last.take j).map (fun t=>x * b.states + t)).length])∧s.S 300=some (.arow 46 3 ((BQ b.states a.moves b.moves).map Ae))∧s.S 301=some (.arow 3 1 ((Aw b.states (a.last.take k) b.last ++ (b.last.take j).map (fun t=>x * b.states + t)).map BK))∧s.env 105=.one (.st (.list (a.last.map BK)))∧s.env 106=AK a.last.length∧s.env 107=AK k∧s.env 15=AK x∧s.env 112=.one (.st (.list (b.last.map BK)))∧s.env 113=AK b.last.length∧s.env 114=AK j) b.last.length
    ⟨0,Nat.zero_le _,rfl,by simp [AS.set,AD,AE,Aa,f2,f3,f4,f7,t2,t3,t4,t7,t300,t301,f105,f106,f107],by simp [AS.set,AD,AE,Aa,f2,f3,f4,f7,t2,t3,t4,t7,t300,t301,f105,f106,f107],by simp [AS.set,AD,AE,Aa,f2,f3,f4,f7,t2,t3,t4,t7,t300,t301,f105,f106,f107],by simp [AS.set,AD,AE,Aa,f2,f3,f4,f7,t2,t3,t4,t7,t300,t301,f105,f106,f107],by simp [AS.set,AD,AE,Aa,f2,f3,f4,f7,t2,t3,t4,t7,t300,t301,f105,f106,f107],by simp [AS.set,AD,AE,Aa,f2,f3,f4,f7,t2,t3,t4,t7,t300,t301,f105,f106,f107],by simp [AS.set,AD,AE,Aa,f2,f3,f4,f7,t2,t3,t4,t7,t300,t301,f105,f106,f107],by simp [AS.set,AD,AE,Aa,f2,f3,f4,f7,t2,t3,t4,t7,t300,t301,f105,f106,f107],by simp [AS.set,AD,AE,Aa,f2,f3,f4,f7,t2,t3,t4,t7,t300,t301,f105,f106,f107],by simp [AS.set,AD,AE,Aa,f2,f3,f4,f7,t2,t3,t4,t7,t300,t301,f105,f106,f107],by simp [AS.set,AD,AE,Aa,f2,f3,f4,f7,t2,t3,t4,t7,t300,t301,f105,f106,f107],by simp [AS.set,AD,AE,Aa,f2,f3,f4,f7,t2,t3,t4,t7,t300,t301,f105,f106,f107],by simp [AS.set,AD,AE,Aa,f2,f3,f4,f7,t2,t3,t4,t7,t300,t301,f105,f106,f107],by simp [AS.set,AD,AE,Aa,f2,f3,f4,f7,t2,t3,t4,t7,t300,t301,f105,f106,f107],by simp [AS.set,AD,AE,Aa,f2,f3,f4,f7,t2,t3,t4,t7,t300,t301,f105,f106,f107],by simp [AS.set,AD,AE,Aa,f2,f3,f4,f7,t2,t3,t4,t7,t300,t301,f105,f106,f107],by simp [AS.set,AD,AE,Aa,f2,f3,f4,f7,t2,t3,t4,t7,t300,t301,f105,f106,f107]⟩ ?_
   rintro q ⟨env3,S3⟩ ⟨j,hj',rfl,u2,u3,u4,u7,v2,v3,v4,v7,v300,v301,u105,u106,u107,u15,u112,u113,u114⟩
   simp only at u2 u3 u4 u7 v2 v3 v4 v7 v300 v301 u105 u106 u107 u15 u112 u113 u114
   unfold AE at v2 v3
   unfold Aa at v4
   by_cases hjl:(j:Int) < b.last.length
   ·obtain ⟨y,hy⟩:=Ab (show j < b.last.length by omega)
    have qy:=gb.last y (AM hy)
    have hjm:((b.last.take j).map (fun t=>x * b.states + t)).length=j:=by
     rw [List.length_map,List.length_take]
     omega
    repeat' with_reducible first | refine W ?_ | refine Z0 ?_ | ((first | refine Wo fun K hK=>?_ | refine Wp ?_ | refine Wq ?_ | refine Wr ?_);(try simp only [go_sem,fN,seval,eT,iR,u2,u3,u4,u7,v2,v3,v4,v7,v300,v301,u105,u106,u107,u15,u112,u113,u114,hjl,hy,hjm,dT,dF,nL]);(repeat refine Ai ?_);(try (refine hK _ ?_;clear hK K));try refine iC ?_)
    refine AA ⟨b.last.length - (j + 1),by omega,j + 1,by omega,rfl,?_⟩
    simp only [go_sem,fN,seval,eT,iR,u2,u3,u4,u7,v2,v3,v4,v7,v300,v301,u105,u106,u107,u15,u112,u113,u114,AE,Aa]
    rw [AQ hy]
    simp [Nat.add_assoc]
    omega
   ·rw [List.take_of_length_le (l:=b.last) (i:=j) (by omega)] at v7 v301
    repeat' with_reducible first | refine W ?_ | refine Z0 ?_ | ((first | refine Wo fun K hK=>?_ | refine Wp ?_ | refine Wq ?_ | refine Wr ?_);(try simp only [go_sem,fN,seval,eT,iR,u2,u3,u4,u7,v2,v3,v4,v7,v300,v301,u105,u106,u107,u15,u112,u113,u114,hjl,dT,dF,nL]);(repeat refine Ai ?_);(try (refine hK _ ?_;clear hK K));try refine iC ?_)
    refine AA ⟨a.last.length - (k + 1),by omega,k + 1,by omega,rfl,?_⟩
    simp only [go_sem,fN,seval,eT,iR,u2,u3,u4,u7,v2,v3,v4,v7,v300,v301,u105,u106,u107,u15,u112,u113,u114,AE,Aa]
    simp [hst2]
  ·rw [List.take_of_length_le (l:=a.last) (i:=k) (by omega)] at t7 t301
   repeat' with_reducible first | refine W ?_ | refine Z0 ?_ | ((first | refine Wo fun K hK=>?_ | refine Wp ?_ | refine Wq ?_ | refine Wr ?_);(try simp only [go_sem,fN,seval,eT,iR,f2,f3,f4,f7,t2,t3,t4,t7,t300,t301,f105,f106,f107,hkl,dT,dF,nL]);(repeat refine Ai ?_);(try (refine hK _ ?_;clear hK K));try refine iC ?_)
   simp only [go_sem,fN,seval,AP,AS.result,AH,AI,AN,f2,f3,f4,f7,t2,t3,t4,t7,t300,t301,f105,f106,f107]
   simp [Au.both]

theorem Ku (a b:Au) (h:¬ A1 a b=0):AU Try.prog 21 [aAu a,aAu b] (.tup [aAu SQ,AK (A1 a b)]):=by
 refine F2.ac fun C hC=>?_
 unfold D9
 repeat' (first | (with_reducible first | refine W ?_ | refine Z0 ?_ | ((first | refine Wo fun K hK=>?_ | refine Wp ?_ | refine Wq ?_ | refine Wr ?_);(try simp only [go_sem,fN,seval,eT,iR,h,dT,dF,nL]);(repeat refine Ai ?_);(try (refine hK _ ?_;clear hK K));try refine iC ?_)) | refine Cg _ (LO a b) ?_)
 simp only [go_sem,fN,seval,AP,AS.result,AH,AI,AN]
 rfl
theorem V4 (a b:Au) (ha:a.may 8 40=0) (hb:b.may 8 40=0) (hla:a.last.length≤100) (hlb:b.last.length≤100):AU Try.prog 21 [aAu a,aAu b] (.tup [aAu (a.either b),AK 0]):=by
 have he:A1 a b=0:=by
  unfold A1
  rw [if_pos ha,hb]
 have ga:=Au.may_good ha
 have gb:=Au.may_good hb
 obtain ⟨a1,a2,_⟩:=Au.may_ok.1 ha
 obtain ⟨b1,b2,_⟩:=Au.may_ok.1 hb
 refine F2.ac fun C hC=>?_
 unfold D9
 repeat' (first | (with_reducible first | refine W ?_ | refine Z0 ?_ | ((first | refine Wo fun K hK=>?_ | refine Wp ?_ | refine Wq ?_ | refine Wr ?_);(try simp only [go_sem,fN,seval,eT,iR,he,dT,dF,nL]);(repeat refine Ai ?_);(try (refine hK _ ?_;clear hK K));try refine iC ?_)) | refine Cg _ (LO a b) ?_)
 refine ⟨_,_,_,_,Om a.last (by omega),by simp [AD,noS],?_⟩
 repeat' with_reducible first | refine W ?_ | refine Z0 ?_ | ((first | refine Wo fun K hK=>?_ | refine Wp ?_ | refine Wq ?_ | refine Wr ?_);(try simp only [go_sem,fN,seval,eT,iR,dT,dF,nL]);(repeat refine Ai ?_);(try (refine hK _ ?_;clear hK K));try refine iC ?_)
 refine IWP.ghost (Ad.ownC (C:=C) 7 1 300 46 3 (xs:=([]:List Mv).map Ae) (ty:=25) (cs:=[.st (.int .i64 (a.states + b.states)),.full [],.row 31 a.last.length]) (by simp [AS.set,AD]) rfl (by simp [AS.set,AD,noS]) HY) ?_
 refine IWP.loopD [9] (fun q s=>∃ k,k≤a.moves.length∧q=a.moves.length - k∧s.env 2=.one (.ptr 2 1 0 0)∧s.env 3=.one (.ptr 3 1 0 0)∧s.env 4=.one (.ptr 4 1 0 0)∧s.env 7=.one (.ptr 7 1 0 0)∧s.S 2=some (AE a)∧s.S 3=some (AE b)∧s.S 4=some Aa∧s.S 7=some (.box 25 [.st (.int .i64 (a.states + b.states)),.row 300 (a.moves.take k).length,.row 31 (a.last).length])∧s.S 300=some (.arow 46 3 ((a.moves.take k).map Ae))∧s.S 31=some (.arow 3 1 ((a.last).map BK))∧s.env 34=.one (.st (.list (a.moves.map Ae)))∧s.env 35=AK a.moves.length∧s.env 36=AK k∧s.S 9=none∧s.S 11=none∧s.S 12=none∧s.S 302=none) a.moves.length
  ⟨0,Nat.zero_le _,rfl,by simp [AS.set,AD,AE,Aa,noS],by simp [AS.set,AD,AE,Aa,noS],by simp [AS.set,AD,AE,Aa,noS],by simp [AS.set,AD,AE,Aa,noS],by simp [AS.set,AD,AE,Aa,noS],by simp [AS.set,AD,AE,Aa,noS],by simp [AS.set,AD,AE,Aa,noS],by simp [AS.set,AD,AE,Aa,noS],by simp [AS.set,AD,AE,Aa,noS],by simp [AS.set,AD,AE,Aa,noS],by simp [AS.set,AD,AE,Aa,noS],by simp [AS.set,AD,AE,Aa,noS],by simp [AS.set,AD,AE,Aa,noS],by simp [AS.set,AD,AE,Aa,noS],by simp [AS.set,AD,AE,Aa,noS],by simp [AS.set,AD,AE,Aa,noS],by simp [AS.set,AD,AE,Aa,noS]⟩ ?_
 rintro q ⟨env,St⟩ ⟨k,hk,rfl,e2,e3,e4,e7,s2,s3,s4,s7,s300,s31,e34,e35,e36,s9,s11,s12,s302⟩
 simp only at e2 e3 e4 e7 s2 s3 s4 s7 s300 s31 e34 e35 e36 s9 s11 s12 s302
 unfold AE at s2 s3
 unfold Aa at s4
 by_cases hlt:(k:Int) < a.moves.length
 ·obtain ⟨m,hm⟩:=Ab (show k < a.moves.length by omega)
  have hmm:=AM hm
  have hml:=(Mv.err_ok.1 (a2 m hmm)).2.1
  have hkl:(a.moves.take k).length=k:=by
   rw [List.length_take]
   omega
  repeat' (first | (with_reducible first | refine W ?_ | refine Z0 ?_ | ((first | refine Wo fun K hK=>?_ | refine Wp ?_ | refine Wq ?_ | refine Wr ?_);(try simp only [go_sem,fN,seval,eT,iR,e2,e3,e4,e7,s2,s3,s4,s7,s300,s31,e34,e35,e36,s9,s11,s12,s302,hlt,hm,Ae,hkl,dT,dF,nL]);(repeat refine Ai ?_);(try (refine hK _ ?_;clear hK K));try refine iC ?_)) | refine Cg _ (VL m.frm (by omega)) ?_)
  refine AA ⟨a.moves.length - (k + 1),by omega,k + 1,by omega,rfl,?_⟩
  simp only [go_sem,fN,seval,AS.drop,AY,AC.clears,AC.clear,AC.highs,AC.high,Bool.not_false,Bool.true_and,Bool.and_self,AV.purge,AV.purges,AC.purge,AL.purge,List.contains_cons,List.contains_nil,Nat.reduceBEq,Bool.or_self,Bool.or_false,Bool.false_or,Bool.or_true,eT,iR,e2,e3,e4,e7,s2,s3,s4,s7,s300,s31,e34,e35,e36,s9,s11,s12,s302,AE,Aa]
  rw [AQ hm]
  simp [Ae]
  try omega
 ·rw [List.take_of_length_le (l:=a.moves) (i:=k) (by omega)] at s7 s300
  repeat' with_reducible first | refine W ?_ | refine Z0 ?_ | ((first | refine Wo fun K hK=>?_ | refine Wp ?_ | refine Wq ?_ | refine Wr ?_);(try simp only [go_sem,fN,seval,eT,iR,e2,e3,e4,e7,s2,s3,s4,s7,s300,s31,e34,e35,e36,s9,s11,s12,s302,hlt,dT,dF,nL]);(repeat refine Ai ?_);(try (refine hK _ ?_;clear hK K));try refine iC ?_)
  refine IWP.loopD [11,12,302] (fun q s=>∃ k,k≤b.moves.length∧q=b.moves.length - k∧s.env 2=.one (.ptr 2 1 0 0)∧s.env 3=.one (.ptr 3 1 0 0)∧s.env 4=.one (.ptr 4 1 0 0)∧s.env 7=.one (.ptr 7 1 0 0)∧s.S 2=some (AE a)∧s.S 3=some (AE b)∧s.S 4=some Aa∧s.S 7=some (.box 25 [.st (.int .i64 (a.states + b.states)),.row 300 (a.moves ++ (b.moves.take k).map (CS a.states)).length,.row 31 (a.last).length])∧s.S 300=some (.arow 46 3 ((a.moves ++ (b.moves.take k).map (CS a.states)).map Ae))∧s.S 31=some (.arow 3 1 ((a.last).map BK))∧s.env 55=.one (.st (.list (b.moves.map Ae)))∧s.env 56=AK b.moves.length∧s.env 57=AK k∧s.S 11=none∧s.S 12=none∧s.S 302=none) b.moves.length
   ⟨0,Nat.zero_le _,rfl,by simp [AS.set,AD,AE,Aa,e2,e3,e4,e7,s2,s3,s4,s7,s300,s31,e34,e35,e36,s9,s11,s12,s302],by simp [AS.set,AD,AE,Aa,e2,e3,e4,e7,s2,s3,s4,s7,s300,s31,e34,e35,e36,s9,s11,s12,s302],by simp [AS.set,AD,AE,Aa,e2,e3,e4,e7,s2,s3,s4,s7,s300,s31,e34,e35,e36,s9,s11,s12,s302],by simp [AS.set,AD,AE,Aa,e2,e3,e4,e7,s2,s3,s4,s7,s300,s31,e34,e35,e36,s9,s11,s12,s302],by simp [AS.set,AD,AE,Aa,e2,e3,e4,e7,s2,s3,s4,s7,s300,s31,e34,e35,e36,s9,s11,s12,s302],by simp [AS.set,AD,AE,Aa,e2,e3,e4,e7,s2,s3,s4,s7,s300,s31,e34,e35,e36,s9,s11,s12,s302],by simp [AS.set,AD,AE,Aa,e2,e3,e4,e7,s2,s3,s4,s7,s300,s31,e34,e35,e36,s9,s11,s12,s302],by simp [AS.set,AD,AE,Aa,e2,e3,e4,e7,s2,s3,s4,s7,s300,s31,e34,e35,e36,s9,s11,s12,s302],by simp [AS.set,AD,AE,Aa,e2,e3,e4,e7,s2,s3,s4,s7,s300,s31,e34,e35,e36,s9,s11,s12,s302],by simp [AS.set,AD,AE,Aa,e2,e3,e4,e7,s2,s3,s4,s7,s300,s31,e34,e35,e36,s9,s11,s12,s302],by simp [AS.set,AD,AE,Aa,e2,e3,e4,e7,s2,s3,s4,s7,s300,s31,e34,e35,e36,s9,s11,s12,s302],by simp [AS.set,AD,AE,Aa,e2,e3,e4,e7,s2,s3,s4,s7,s300,s31,e34,e35,e36,s9,s11,s12,s302],by simp [AS.set,AD,AE,Aa,e2,e3,e4,e7,s2,s3,s4,s7,s300,s31,e34,e35,e36,s9,s11,s12,s302],by simp [AS.set,AD,AE,Aa,e2,e3,e4,e7,s2,s3,s4,s7,s300,s31,e34,e35,e36,s9,s11,s12,s302],by simp [AS.set,AD,AE,Aa,e2,e3,e4,e7,s2,s3,s4,s7,s300,s31,e34,e35,e36,s9,s11,s12,s302],by simp [AS.set,AD,AE,Aa,e2,e3,e4,e7,s2,s3,s4,s7,s300,s31,e34,e35,e36,s9,s11,s12,s302]⟩ ?_
  rintro q ⟨env2,S2⟩ ⟨k,hk',rfl,f2,f3,f4,f7,t2,t3,t4,t7,t300,t31,f55,f56,f57,t11,t12,t302⟩
  simp only at f2 f3 f4 f7 t2 t3 t4 t7 t300 t31 f55 f56 f57 t11 t12 t302
  unfold AE at t2 t3
  unfold Aa at t4
  by_cases hlt2:(k:Int) < b.moves.length
  ·obtain ⟨m,hm⟩:=Ab (show k < b.moves.length by omega)
   have hmm:=AM hm
   have hmt:=gb.to_ m hmm
   have hml:=(Mv.err_ok.1 (b2 m hmm)).2.1
   have hkl:((b.moves.take k).map (CS a.states)).length=k:=by
    rw [List.length_map,List.length_take]
    omega
   repeat' with_reducible first | refine W ?_ | refine Z0 ?_ | ((first | refine Wo fun K hK=>?_ | refine Wp ?_ | refine Wq ?_ | refine Wr ?_);(try simp only [go_sem,fN,seval,eT,iR,f2,f3,f4,f7,t2,t3,t4,t7,t300,t31,f55,f56,f57,t11,t12,t302,hlt2,hm,Ae,dT,dF,nL]);(repeat refine Ai ?_);(try (refine hK _ ?_;clear hK K));try refine iC ?_)
   refine IWP.ghost (Ad.ownC (C:=C) 12 1 302 3 1 (xs:=([]:List Int).map BK) (ty:=46) (cs:=[.st (.str m.name),.full [],.st (.int .i64 (m.to_ + a.states))]) (by simp [AD]) rfl (by simp [AD,t302]) FH) ?_
   refine IWP.loop (fun q s=>∃ i,i≤m.frm.length∧q=m.frm.length - i∧s.env 2=.one (.ptr 2 1 0 0)∧s.env 3=.one (.ptr 3 1 0 0)∧s.env 4=.one (.ptr 4 1 0 0)∧s.env 7=.one (.ptr 7 1 0 0)∧s.S 2=some (AE a)∧s.S 3=some (AE b)∧s.S 4=some Aa∧s.S 7=some (.box 25 [.st (.int .i64 (a.states + b.states)),.row 300 (a.moves ++ (b.moves.take k).map (CS a.states)).length,.row 31 (a.last).length])∧s.S 300=some (.arow 46 3 ((a.moves ++ (b.moves.take k).map (CS a.states)).map Ae))∧s.S 31=some (.arow 3 1 ((a.last).map BK))∧s.env 55=.one (.st (.list (b.moves.map Ae)))∧s.env 56=AK b.moves.length∧s.env 57=AK k∧s.env 11=.one (.ptr 11 1 0 0)∧s.S 11=some (.box 46 [.st (.str m.name),.st (.list (m.frm.map BK)),.st (.int .i64 m.to_)])∧s.env 12=.one (.ptr 12 1 0 0)∧s.S 12=some (.box 46 [.st (.str m.name),.row 302 i,.st (.int .i64 (m.to_ + a.states))])∧s.S 302=some (.arow 3 1 (((m.frm.take i).map (· + a.states)).map BK))∧s.env 70=.one (.st (.list (m.frm.map BK)))∧s.env 71=AK m.frm.length∧s.env 72=AK i) m.frm.length
    ⟨0,Nat.zero_le _,rfl,by simp [AS.set,AD,AE,Aa,f2,f3,f4,f7,t2,t3,t4,t7,t300,t31,f55,f56,f57,t11,t12,t302],by simp [AS.set,AD,AE,Aa,f2,f3,f4,f7,t2,t3,t4,t7,t300,t31,f55,f56,f57,t11,t12,t302],by simp [AS.set,AD,AE,Aa,f2,f3,f4,f7,t2,t3,t4,t7,t300,t31,f55,f56,f57,t11,t12,t302],by simp [AS.set,AD,AE,Aa,f2,f3,f4,f7,t2,t3,t4,t7,t300,t31,f55,f56,f57,t11,t12,t302],by simp [AS.set,AD,AE,Aa,f2,f3,f4,f7,t2,t3,t4,t7,t300,t31,f55,f56,f57,t11,t12,t302],by simp [AS.set,AD,AE,Aa,f2,f3,f4,f7,t2,t3,t4,t7,t300,t31,f55,f56,f57,t11,t12,t302],by simp [AS.set,AD,AE,Aa,f2,f3,f4,f7,t2,t3,t4,t7,t300,t31,f55,f56,f57,t11,t12,t302],by simp [AS.set,AD,AE,Aa,f2,f3,f4,f7,t2,t3,t4,t7,t300,t31,f55,f56,f57,t11,t12,t302],by simp [AS.set,AD,AE,Aa,f2,f3,f4,f7,t2,t3,t4,t7,t300,t31,f55,f56,f57,t11,t12,t302],by simp [AS.set,AD,AE,Aa,f2,f3,f4,f7,t2,t3,t4,t7,t300,t31,f55,f56,f57,t11,t12,t302],by simp [AS.set,AD,AE,Aa,f2,f3,f4,f7,t2,t3,t4,t7,t300,t31,f55,f56,f57,t11,t12,t302],by simp [AS.set,AD,AE,Aa,f2,f3,f4,f7,t2,t3,t4,t7,t300,t31,f55,f56,f57,t11,t12,t302],by simp [AS.set,AD,AE,Aa,f2,f3,f4,f7,t2,t3,t4,t7,t300,t31,f55,f56,f57,t11,t12,t302],by simp [AS.set,AD,AE,Aa,f2,f3,f4,f7,t2,t3,t4,t7,t300,t31,f55,f56,f57,t11,t12,t302],by simp [AS.set,AD,AE,Aa,f2,f3,f4,f7,t2,t3,t4,t7,t300,t31,f55,f56,f57,t11,t12,t302],by simp [AS.set,AD,AE,Aa,f2,f3,f4,f7,t2,t3,t4,t7,t300,t31,f55,f56,f57,t11,t12,t302],by simp [AS.set,AD,AE,Aa,f2,f3,f4,f7,t2,t3,t4,t7,t300,t31,f55,f56,f57,t11,t12,t302],by simp [AS.set,AD,AE,Aa,f2,f3,f4,f7,t2,t3,t4,t7,t300,t31,f55,f56,f57,t11,t12,t302],by simp [AS.set,AD,AE,Aa,f2,f3,f4,f7,t2,t3,t4,t7,t300,t31,f55,f56,f57,t11,t12,t302],by simp [AS.set,AD,AE,Aa,f2,f3,f4,f7,t2,t3,t4,t7,t300,t31,f55,f56,f57,t11,t12,t302],by simp [AS.set,AD,AE,Aa,f2,f3,f4,f7,t2,t3,t4,t7,t300,t31,f55,f56,f57,t11,t12,t302]⟩ ?_
   rintro q ⟨env3,S3⟩ ⟨i,hi,rfl,u2,u3,u4,u7,v2,v3,v4,v7,v300,v31,u55,u56,u57,u11,v11,u12,v12,v302,u70,u71,u72⟩
   simp only at u2 u3 u4 u7 v2 v3 v4 v7 v300 v31 u55 u56 u57 u11 v11 u12 v12 v302 u70 u71 u72
   unfold AE at v2 v3
   unfold Aa at v4
   have htk:((m.frm.take i).map (· + a.states)).length=i:=by
    rw [List.length_map,List.length_take]
    omega
   by_cases hil:(i:Int) < m.frm.length
   ·obtain ⟨x,hx⟩:=Ab (show i < m.frm.length by omega)
    have qx:=gb.frm m hmm x (AM hx)
    repeat' with_reducible first | refine W ?_ | refine Z0 ?_ | ((first | refine Wo fun K hK=>?_ | refine Wp ?_ | refine Wq ?_ | refine Wr ?_);(try simp only [go_sem,fN,seval,eT,iR,u2,u3,u4,u7,v2,v3,v4,v7,v300,v31,u55,u56,u57,u11,v11,u12,v12,v302,u70,u71,u72,hil,hx,htk,dT,dF,nL]);(repeat refine Ai ?_);(try (refine hK _ ?_;clear hK K));try refine iC ?_)
    refine AA ⟨m.frm.length - (i + 1),by omega,i + 1,by omega,rfl,?_⟩
    simp only [go_sem,fN,seval,eT,iR,u2,u3,u4,u7,v2,v3,v4,v7,v300,v31,u55,u56,u57,u11,v11,u12,v12,v302,u70,u71,u72,AE,Aa,htk]
    rw [AQ hx]
    simp
    try omega
   ·have hie:i=m.frm.length:=by omega
    rw [List.take_of_length_le (l:=m.frm) (i:=i) (by omega)] at v302 htk
    repeat' with_reducible first | refine W ?_ | refine Z0 ?_ | ((first | refine Wo fun K hK=>?_ | refine Wp ?_ | refine Wq ?_ | refine Wr ?_);(try simp only [go_sem,fN,seval,eT,iR,u2,u3,u4,u7,v2,v3,v4,v7,v300,v31,u55,u56,u57,u11,v11,u12,v12,v302,u70,u71,u72,hil,htk,hkl,dT,dF,nL]);(repeat refine Ai ?_);(try (refine hK _ ?_;clear hK K));try refine iC ?_)
    refine AA ⟨b.moves.length - (k + 1),by omega,k + 1,by omega,rfl,?_⟩
    simp only [go_sem,fN,seval,AS.drop,AY,AC.clears,AC.clear,AC.highs,AC.high,Bool.not_false,Bool.true_and,Bool.and_self,AV.purge,AV.purges,AC.purge,AL.purge,List.contains_cons,List.contains_nil,Nat.reduceBEq,Bool.or_self,Bool.or_false,Bool.false_or,Bool.or_true,eT,iR,u2,u3,u4,u7,v2,v3,v4,v7,v300,v31,u55,u56,u57,u11,v11,u12,v12,v302,u70,u71,u72,AE,Aa]
    rw [AQ hm]
    simp [CS,Ae]
    try omega
  ·rw [List.take_of_length_le (l:=b.moves) (i:=k) (by omega)] at t7 t300
   repeat' with_reducible first | refine W ?_ | refine Z0 ?_ | ((first | refine Wo fun K hK=>?_ | refine Wp ?_ | refine Wq ?_ | refine Wr ?_);(try simp only [go_sem,fN,seval,eT,iR,f2,f3,f4,f7,t2,t3,t4,t7,t300,t31,f55,f56,f57,t11,t12,t302,hlt2,dT,dF,nL]);(repeat refine Ai ?_);(try (refine hK _ ?_;clear hK K));try refine iC ?_)
   refine IWP.loop (fun q s=>∃ k,k≤b.last.length∧q=b.last.length - k∧s.env 2=.one (.ptr 2 1 0 0)∧s.env 3=.one (.ptr 3 1 0 0)∧s.env 4=.one (.ptr 4 1 0 0)∧s.env 7=.one (.ptr 7 1 0 0)∧s.S 2=some (AE a)∧s.S 3=some (AE b)∧s.S 4=some Aa∧s.S 7=some (.box 25 [.st (.int .i64 (a.states + b.states)),.row 300 (a.moves ++ b.moves.map (CS a.states)).length,.row 31 (a.last ++ (b.last.take k).map (· + a.states)).length])∧s.S 300=some (.arow 46 3 ((a.moves ++ b.moves.map (CS a.states)).map Ae))∧s.S 31=some (.arow 3 1 ((a.last ++ (b.last.take k).map (· + a.states)).map BK))∧s.env 94=.one (.st (.list (b.last.map BK)))∧s.env 95=AK b.last.length∧s.env 96=AK k) b.last.length
    ⟨0,Nat.zero_le _,rfl,by simp [AS.set,AD,AE,Aa,f2,f3,f4,f7,t2,t3,t4,t7,t300,t31,f55,f56,f57,t11,t12,t302],by simp [AS.set,AD,AE,Aa,f2,f3,f4,f7,t2,t3,t4,t7,t300,t31,f55,f56,f57,t11,t12,t302],by simp [AS.set,AD,AE,Aa,f2,f3,f4,f7,t2,t3,t4,t7,t300,t31,f55,f56,f57,t11,t12,t302],by simp [AS.set,AD,AE,Aa,f2,f3,f4,f7,t2,t3,t4,t7,t300,t31,f55,f56,f57,t11,t12,t302],by simp [AS.set,AD,AE,Aa,f2,f3,f4,f7,t2,t3,t4,t7,t300,t31,f55,f56,f57,t11,t12,t302],by simp [AS.set,AD,AE,Aa,f2,f3,f4,f7,t2,t3,t4,t7,t300,t31,f55,f56,f57,t11,t12,t302],by simp [AS.set,AD,AE,Aa,f2,f3,f4,f7,t2,t3,t4,t7,t300,t31,f55,f56,f57,t11,t12,t302],by simp [AS.set,AD,AE,Aa,f2,f3,f4,f7,t2,t3,t4,t7,t300,t31,f55,f56,f57,t11,t12,t302],by simp [AS.set,AD,AE,Aa,f2,f3,f4,f7,t2,t3,t4,t7,t300,t31,f55,f56,f57,t11,t12,t302],by simp [AS.set,AD,AE,Aa,f2,f3,f4,f7,t2,t3,t4,t7,t300,t31,f55,f56,f57,t11,t12,t302],by simp [AS.set,AD,AE,Aa,f2,f3,f4,f7,t2,t3,t4,t7,t300,t31,f55,f56,f57,t11,t12,t302],by simp [AS.set,AD,AE,Aa,f2,f3,f4,f7,t2,t3,t4,t7,t300,t31,f55,f56,f57,t11,t12,t302],by simp [AS.set,AD,AE,Aa,f2,f3,f4,f7,t2,t3,t4,t7,t300,t31,f55,f56,f57,t11,t12,t302]⟩ ?_
   rintro q ⟨env3,S3⟩ ⟨k,hk',rfl,x2,x3,x4,x7,y2,y3,y4,y7,y300,y31,x94,x95,x96⟩
   simp only at x2 x3 x4 x7 y2 y3 y4 y7 y300 y31 x94 x95 x96
   unfold AE at y2 y3
   unfold Aa at y4
   by_cases hlt3:(k:Int) < b.last.length
   ·obtain ⟨x,hx⟩:=Ab (show k < b.last.length by omega)
    have qx:=gb.last x (AM hx)
    have hkl:((b.last.take k).map (· + a.states)).length=k:=by
     rw [List.length_map,List.length_take]
     omega
    repeat' with_reducible first | refine W ?_ | refine Z0 ?_ | ((first | refine Wo fun K hK=>?_ | refine Wp ?_ | refine Wq ?_ | refine Wr ?_);(try simp only [go_sem,fN,seval,eT,iR,x2,x3,x4,x7,y2,y3,y4,y7,y300,y31,x94,x95,x96,hlt3,hx,hkl,dT,dF,nL]);(repeat refine Ai ?_);(try (refine hK _ ?_;clear hK K));try refine iC ?_)
    refine AA ⟨b.last.length - (k + 1),by omega,k + 1,by omega,rfl,?_⟩
    simp only [go_sem,fN,seval,eT,iR,x2,x3,x4,x7,y2,y3,y4,y7,y300,y31,x94,x95,x96,AE,Aa,hkl]
    rw [AQ hx]
    simp
    try omega
   ·rw [List.take_of_length_le (l:=b.last) (i:=k) (by omega)] at y7 y31
    repeat' with_reducible first | refine W ?_ | refine Z0 ?_ | ((first | refine Wo fun K hK=>?_ | refine Wp ?_ | refine Wq ?_ | refine Wr ?_);(try simp only [go_sem,fN,seval,eT,iR,x2,x3,x4,x7,y2,y3,y4,y7,y300,y31,x94,x95,x96,hlt3,dT,dF,nL]);(repeat refine Ai ?_);(try (refine hK _ ?_;clear hK K));try refine iC ?_)
    simp only [go_sem,fN,seval,AP,AS.result,AH,AI,AN,x2,x3,x4,x7,y2,y3,y4,y7,y300,y31,x94,x95,x96]
    simp [Au.either]

theorem HM:∀ {bs:List (List Bool)} {ss:List Int} {j:Nat} {b:List Bool} {s:Int},bs[j]?=some b→ss[j]?=some s→A9 (bs.take (j + 1)) (ss.take (j + 1))=(A9 (bs.take j) (ss.take j) && b.getD s.toNat false)
 | b0 :: bs,s0 :: ss,0,b,s,hb,hs=>by
  simp at hb hs
  subst hb hs
  simp [A9]
 | b0 :: bs,s0 :: ss,j + 1,b,s,hb,hs=>by
  simp only [List.take_succ_cons,A9]
  rw [HM (by simpa using hb) (by simpa using hs),Bool.and_assoc]
 | [],_,_,_,_,hb,_=>by simp at hb
 | _ :: _,[],_,_,_,_,hs=>by simp at hs
theorem I6:∀ {bs:List (List Bool)} {ss:List Int},¬ ss.length=bs.length→A9 bs ss=false
 | [],[],h=>absurd rfl h
 | [],_ :: _,_=>rfl
 | _ :: _,[],_=>rfl
 | b :: bs,s :: ss,h=>by
  rw [A9,I6 (fun e=>h (by simp [e]))]
  simp
theorem XK {l:List Bool} {i:Nat} (h:i < l.length):∃ b,l[i]?=some b∧l.getD i false=b:=by
 refine ⟨l[i],List.getElem?_eq_getElem h,?_⟩
 rw [List.getD_eq_getElem?_getD,List.getElem?_eq_getElem h]
 rfl
theorem Pb (a:Au) (ga:a.Good) (hs64:a.states≤64) (hm:a.moves.length≤100000) (n:ByteArray) (below:List (List Bool)) (hb:∀ l ∈ below,l.length=a.states.toNat) (hbl:below.length≤1000000) :
  AU Try.prog 52 [aAu a,Da n,XU below] (He (a.ending n below)):=by
 have hst:=ga.states
 refine P6.ac fun C hC=>?_
 unfold Jg
 repeat' with_reducible first | refine W ?_ | refine Z0 ?_ | ((first | refine Wo fun K hK=>?_ | refine Wp ?_ | refine Wq ?_ | refine Wr ?_);(try simp only [go_sem,fN,seval,eT,iR,dT,dF,nL]);(repeat refine Ai ?_);(try (refine hK _ ?_;clear hK K));try refine iC ?_)
 refine IWP.loopD [9] (fun q s=>∃ k,k≤a.moves.length∧q=a.moves.length - k∧s.env 1=Da n∧s.env 2=XU below∧s.env 3=.one (.ptr 3 1 0 0)∧s.S 3=some (AE a)∧s.env 7=.one (.row 14 a.states.toNat)∧s.S 14=some (.mrow 4 1 (((a.moves.take k).foldl (B8 n below) (List.replicate a.states.toNat false)).map Qd))∧s.env 8=AK k∧s.S 9=none) a.moves.length
  ⟨0,Nat.zero_le _,rfl,rfl,rfl,rfl,rfl,by simp [AD],by simp [AD],rfl,rfl⟩ ?_
 rintro q ⟨env,St⟩ ⟨k,hk,rfl,e1,e2,e3,s3,e7,s7,e8,s9⟩
 simp only at e1 e2 e3 s3 e7 s7 e8 s9
 unfold AE at s3
 by_cases hlt:(k:Int) < a.moves.length
 ·obtain ⟨m,hmk⟩:=Ab (show k < a.moves.length by omega)
  have hmm:=AM hmk
  have hto:=ga.to_ m hmm
  have hfold:(a.moves.take (k + 1)).foldl (B8 n below) (List.replicate a.states.toNat false)=B8 n below ((a.moves.take k).foldl (B8 n below) (List.replicate a.states.toNat false)) m:=by
   rw [AQ hmk,List.foldl_append]
   rfl
  have hfl:=Ef n below (a.moves.take k) (List.replicate a.states.toNat false)
  rw [List.length_replicate] at hfl
  generalize (a.moves.take k).foldl (B8 n below) (List.replicate a.states.toNat false)=L at *
  by_cases g1:m.name=n
  case neg =>
   have hf:m.fits n below=false:=by simp [Mv.fits,g1]
   repeat' with_reducible first | refine W ?_ | refine Z0 ?_ | ((first | refine Wo fun K hK=>?_ | refine Wp ?_ | refine Wq ?_ | refine Wr ?_);(try simp only [go_sem,fN,seval,eT,iR,e1,e2,e3,s3,e7,s7,e8,s9,hlt,hmk,Ae,g1,dT,dF,nL]);(repeat refine Ai ?_);(try (refine hK _ ?_;clear hK K));try refine iC ?_)
   refine AA ⟨a.moves.length - (k + 1),by omega,k + 1,by omega,rfl,?_⟩
   simp only [go_sem,fN,seval,AS.drop,AY,AC.clears,AC.clear,AC.highs,AC.high,Bool.not_false,Bool.true_and,Bool.and_self,AV.purge,AV.purges,AC.purge,AL.purge,List.contains_cons,List.contains_nil,Nat.reduceBEq,Bool.or_self,Bool.or_false,Bool.false_or,Bool.or_true,eT,iR,e1,e2,e3,s3,e7,s7,e8,s9,AE]
   simp [hfold,B8,hf]
  case pos =>
  by_cases g2:(m.frm.length:Int)=below.length
  case neg =>
   have hf:m.fits n below=false:=by
    unfold Mv.fits
    rw [I6 (by omega)]
    simp
   repeat' with_reducible first | refine W ?_ | refine Z0 ?_ | ((first | refine Wo fun K hK=>?_ | refine Wp ?_ | refine Wq ?_ | refine Wr ?_);(try simp only [go_sem,fN,seval,eT,iR,e1,e2,e3,s3,e7,s7,e8,s9,hlt,hmk,Ae,g1,g2,dT,dF,nL]);(repeat refine Ai ?_);(try (refine hK _ ?_;clear hK K));try refine iC ?_)
   refine AA ⟨a.moves.length - (k + 1),by omega,k + 1,by omega,rfl,?_⟩
   simp only [go_sem,fN,seval,AS.drop,AY,AC.clears,AC.clear,AC.highs,AC.high,Bool.not_false,Bool.true_and,Bool.and_self,AV.purge,AV.purges,AC.purge,AL.purge,List.contains_cons,List.contains_nil,Nat.reduceBEq,Bool.or_self,Bool.or_false,Bool.false_or,Bool.or_true,eT,iR,e1,e2,e3,s3,e7,s7,e8,s9,AE]
   simp [hfold,B8,hf]
  case pos =>
  have g2':m.frm.length=below.length:=by omega
  repeat' with_reducible first | refine W ?_ | refine Z0 ?_ | ((first | refine Wo fun K hK=>?_ | refine Wp ?_ | refine Wq ?_ | refine Wr ?_);(try simp only [go_sem,fN,seval,eT,iR,e1,e2,e3,s3,e7,s7,e8,s9,hlt,hmk,Ae,g1,g2,dT,dF,nL]);(repeat refine Ai ?_);(try (refine hK _ ?_;clear hK K));try refine iC ?_)
  refine IWP.loop (fun q s=>∃ j,j≤below.length∧q=below.length - j∧s.env 1=Da n∧s.env 2=XU below∧s.env 3=.one (.ptr 3 1 0 0)∧s.S 3=some (AE a)∧s.env 7=.one (.row 14 a.states.toNat)∧s.S 14=some (.mrow 4 1 (L.map Qd))∧s.env 8=AK k∧s.env 9=.one (.ptr 9 1 0 0)∧s.S 9=some (.box 46 [.st (.str m.name),.st (.list (m.frm.map BK)),.st (.int .i64 m.to_)])∧s.env 10=Ag (A9 (below.take j) (m.frm.take j))∧s.env 11=AK j) below.length
   ⟨0,Nat.zero_le _,rfl,by simp [AD,e1],by simp [AD,e2],by simp [AD,e3],by simp [AD,AE,s3],by simp [AD,e7],by simp [AD,s7],by simp [AD,e8],by simp [AD],by simp [AD,g1],by simp [AD,A9],by simp [AD]⟩ ?_
  rintro q ⟨env2,S2⟩ ⟨j,hj,rfl,f1,f2,f3,t3,f7,t7,f8,f9,t9,f10,f11⟩
  simp only at f1 f2 f3 t3 f7 t7 f8 f9 t9 f10 f11
  unfold AE at t3
  by_cases hjl:(j:Int) < below.length
  ·obtain ⟨bl,hbj⟩:=Ab (show j < below.length by omega)
   obtain ⟨x,hx⟩:=Ab (show j < m.frm.length by omega)
   have qx:=ga.frm m hmm x (AM hx)
   have hbll:=hb bl (AM hbj)
   obtain ⟨y,hy,hyd⟩:=XK (show x.toNat < bl.length by omega)
   have hst2:=HM hbj hx
   rw [hyd] at hst2
   generalize A9 (below.take j) (m.frm.take j)=ok at f10 hst2
   cases ok with
   | true =>
    repeat' with_reducible first | refine W ?_ | refine Z0 ?_ | ((first | refine Wo fun K hK=>?_ | refine Wp ?_ | refine Wq ?_ | refine Wr ?_);(try simp only [go_sem,fN,seval,eT,iR,f1,f2,f3,t3,f7,t7,f8,f9,t9,f10,f11,hjl,hbj,hx,hy,dT,dF,nL]);(repeat refine Ai ?_);(try (refine hK _ ?_;clear hK K));try refine iC ?_)
    refine AA ⟨below.length - (j + 1),by omega,j + 1,by omega,rfl,?_⟩
    simp only [go_sem,fN,seval,eT,iR,f1,f2,f3,t3,f7,t7,f8,f9,t9,f10,f11,AE]
    simp [hst2]
   | false =>
    repeat' with_reducible first | refine W ?_ | refine Z0 ?_ | ((first | refine Wo fun K hK=>?_ | refine Wp ?_ | refine Wq ?_ | refine Wr ?_);(try simp only [go_sem,fN,seval,eT,iR,f1,f2,f3,t3,f7,t7,f8,f9,t9,f10,f11,hjl,hbj,hx,hy,dT,dF,nL]);(repeat refine Ai ?_);(try (refine hK _ ?_;clear hK K));try refine iC ?_)
    refine AA ⟨below.length - (j + 1),by omega,j + 1,by omega,rfl,?_⟩
    simp only [go_sem,fN,seval,eT,iR,f1,f2,f3,t3,f7,t7,f8,f9,t9,f10,f11,AE]
    simp [hst2]
  ·rw [List.take_of_length_le (l:=below) (i:=j) (by omega),List.take_of_length_le (l:=m.frm) (i:=j) (by omega)] at f10
   have hf:m.fits n below=A9 below m.frm:=by simp [Mv.fits,g1]
   have hoo:=XK (show m.to_.toNat < L.length by omega)
   obtain ⟨z,hz,_⟩:=hoo
   by_cases g3:A9 below m.frm=true
   ·rw [g3] at f10 hf
    repeat' with_reducible first | refine W ?_ | refine Z0 ?_ | ((first | refine Wo fun K hK=>?_ | refine Wp ?_ | refine Wq ?_ | refine Wr ?_);(try simp only [go_sem,fN,seval,eT,iR,f1,f2,f3,t3,f7,t7,f8,f9,t9,f10,f11,hjl,hz,hfl,dT,dF,nL]);(repeat refine Ai ?_);(try (refine hK _ ?_;clear hK K));try refine iC ?_)
    refine AA ⟨a.moves.length - (k + 1),by omega,k + 1,by omega,rfl,?_⟩
    simp only [go_sem,fN,seval,AS.drop,AY,AC.clears,AC.clear,AC.highs,AC.high,Bool.not_false,Bool.true_and,Bool.and_self,AV.purge,AV.purges,AC.purge,AL.purge,List.contains_cons,List.contains_nil,Nat.reduceBEq,Bool.or_self,Bool.or_false,Bool.false_or,Bool.or_true,eT,iR,f1,f2,f3,t3,f7,t7,f8,f9,t9,f10,f11,AE]
    simp [hfold,B8,hf]
   ·have g3':A9 below m.frm=false:=by simpa using g3
    rw [g3'] at f10 hf
    repeat' with_reducible first | refine W ?_ | refine Z0 ?_ | ((first | refine Wo fun K hK=>?_ | refine Wp ?_ | refine Wq ?_ | refine Wr ?_);(try simp only [go_sem,fN,seval,eT,iR,f1,f2,f3,t3,f7,t7,f8,f9,t9,f10,f11,hjl,dT,dF,nL]);(repeat refine Ai ?_);(try (refine hK _ ?_;clear hK K));try refine iC ?_)
    refine AA ⟨a.moves.length - (k + 1),by omega,k + 1,by omega,rfl,?_⟩
    simp only [go_sem,fN,seval,AS.drop,AY,AC.clears,AC.clear,AC.highs,AC.high,Bool.not_false,Bool.true_and,Bool.and_self,AV.purge,AV.purges,AC.purge,AL.purge,List.contains_cons,List.contains_nil,Nat.reduceBEq,Bool.or_self,Bool.or_false,Bool.false_or,Bool.or_true,eT,iR,f1,f2,f3,t3,f7,t7,f8,f9,t9,f10,f11,AE]
    simp [hfold,B8,hf]
 ·rw [List.take_of_length_le (l:=a.moves) (i:=k) (by omega)] at s7
  have hle:a.ending n below=a.moves.foldl (B8 n below) (List.replicate a.states.toNat false):=rfl
  rw [← hle] at s7
  have hll:=a.ending_length n below
  refine IWP.ghost (Ad.share (C:=C) (id:=14) s7) ?_
  repeat' with_reducible first | refine W ?_ | refine Z0 ?_ | ((first | refine Wo fun K hK=>?_ | refine Wp ?_ | refine Wq ?_ | refine Wr ?_);(try simp only [go_sem,fN,seval,eT,iR,e1,e2,e3,s3,e7,s7,e8,s9,hlt,dT,dF,nL]);(repeat refine Ai ?_);(try (refine hK _ ?_;clear hK K));try refine iC ?_)
  simp only [go_sem,fN,seval,AP,AS.result,AH,AI,AN,e7,hll]

theorem Uf (a:Au) (ga:a.Good) (hs64:a.states≤64) (hm:a.moves.length≤100000) (t:Tm) (hz:t.size≤1000000):AU Try.prog 26 [aAu a,aTm t] (He (a.ends t)):=by
 induction h:SizeOf.sizeOf t using Nat.strongRecOn generalizing t with
 | _ N ih =>
 subst h
 have hs:=Tm.size_eq t
 have hkn:=Tm.length_le t.args
 refine Js.ac fun C hC=>?_
 unfold GS
 repeat' with_reducible first | refine W ?_ | refine Z0 ?_ | ((first | refine Wo fun K hK=>?_ | refine Wp ?_ | refine Wq ?_ | refine Wr ?_);(try simp only [go_sem,fN,seval,eT,iR,dT,dF,nL]);(repeat refine Ai ?_);(try (refine hK _ ?_;clear hK K));try refine iC ?_)
 refine IWP.ghost (Ad.own (C:=C) 5 50 55 1 (xs:=([]:List (List Bool)).map Ml) rfl rfl LC (by omega)) ?_
 refine IWP.loopD [] (fun q s=>∃ k,k≤t.args.length∧q=t.args.length - k∧s.env 2=.one (.ptr 2 1 0 0)∧s.S 2=some (AE a)∧s.env 3=.one (.ptr 3 1 0 0)∧s.S 3=some (.box 39 [.st (.str t.name),.st (.list (t.args.map A_))])∧s.env 5=.one (.row 50 k)∧s.S 50=some (.arow 55 1 (((t.args.take k).map a.ends).map Ml))∧s.env 6=AK k) t.args.length
  ⟨0,Nat.zero_le _,rfl,rfl,rfl,rfl,rfl,rfl,rfl,rfl⟩ ?_
 rintro q ⟨env,St⟩ ⟨k,hk,rfl,e2,s2,e3,s3,e5,s50,e6⟩
 simp only at e2 s2 e3 s3 e5 s50 e6
 unfold AE at s2
 by_cases hlt:(k:Int) < t.args.length
 ·obtain ⟨x,hx⟩:=Ab (show k < t.args.length by omega)
  have hxm:=AM hx
  have hsz:=Tm.size_mem hxm
  have hkl:((t.args.take k).map a.ends).length=k:=by
   rw [List.length_map,List.length_take]
   omega
  repeat' (first | (with_reducible first | refine W ?_ | refine Z0 ?_ | ((first | refine Wo fun K hK=>?_ | refine Wp ?_ | refine Wq ?_ | refine Wr ?_);(try simp only [go_sem,fN,seval,eT,iR,e2,s2,e3,s3,e5,s50,e6,hlt,hx,hkl,dT,dF,nL]);(repeat refine Ai ?_);(try (refine hK _ ?_;clear hK K));try refine iC ?_)) | refine Cg _ (ih _ (Tm.lt_of_arg hxm) x (by omega) rfl) ?_)
  refine AA ⟨t.args.length - (k + 1),by omega,k + 1,by omega,rfl,?_⟩
  simp only [go_sem,fN,seval,AS.drop,AY,AC.clears,AC.clear,AC.highs,AC.high,Bool.not_false,Bool.true_and,Bool.and_self,AV.purge,AV.purges,AC.purge,AL.purge,List.contains_cons,List.contains_nil,Nat.reduceBEq,Bool.or_self,Bool.or_false,Bool.false_or,Bool.or_true,eT,iR,e2,s2,e3,s3,e5,s50,e6,AE]
  rw [AQ hx]
  simp
  try omega
 ·rw [List.take_of_length_le (l:=t.args) (i:=k) (by omega)] at s50
  have hkl:(t.args.map a.ends).length=t.args.length:=List.length_map _
  have hke:k=t.args.length:=by omega
  have hE:=Pb a ga hs64 hm t.name (t.args.map a.ends) (fun l hl=>by
   obtain ⟨y,_,rfl⟩:=List.mem_map.1 hl
   exact a.ends_length y) (by omega)
  repeat' (first | (with_reducible first | refine W ?_ | refine Z0 ?_ | ((first | refine Wo fun K hK=>?_ | refine Wp ?_ | refine Wq ?_ | refine Wr ?_);(try simp only [go_sem,fN,seval,eT,iR,e2,s2,e3,s3,e5,s50,e6,hlt,hke,hkl,Nat.lt_irrefl,dT,dF,nL]);(repeat refine Ai ?_);(try (refine hK _ ?_;clear hK K));try refine iC ?_)) | refine Cg _ (hE) ?_)
  simp only [go_sem,fN,seval,AP,AS.result,AH,AI,AN]
  rw [Au.ends_eq,Au.endsL_eq]
theorem Sj (a:Au) (l:List Bool) (hl:∀ s ∈ a.last,0≤s∧s.toNat < l.length):AU Try.prog 53 [aAu a,He l] (Ag (a.last.any fun s=>l.getD s.toNat false)):=by
 refine Ra.ac fun C hC=>?_
 unfold Kl
 refine IWP.learn 0 (by omega) fun hkn=>?_
 obtain ⟨kM,kL,kF⟩:=Hu hkn
 repeat' with_reducible first | refine W ?_ | refine Z0 ?_ | ((first | refine Wo fun K hK=>?_ | refine Wp ?_ | refine Wq ?_ | refine Wr ?_);(try simp only [go_sem,fN,seval,eT,iR,dT,dF,nL]);(repeat refine Ai ?_);(try (refine hK _ ?_;clear hK K));try refine iC ?_)
 refine IWP.loop (fun q s=>∃ k,k≤a.last.length∧q=a.last.length - k∧s.env 1=He l∧s.env 2=.one (.ptr 2 1 0 0)∧s.S 2=some (AE a)∧s.env 5=AK k∧(a.last.take k).any (fun s=>l.getD s.toNat false)=false) a.last.length ⟨0,Nat.zero_le _,rfl,rfl,rfl,rfl,rfl,rfl⟩ ?_
 rintro q ⟨env,St⟩ ⟨k,hk,rfl,e1,e2,s2,e5,hno⟩
 simp only at e1 e2 s2 e5
 unfold AE at s2
 by_cases hlt:(k:Int) < a.last.length
 ·obtain ⟨x,hx⟩:=Ab (show k < a.last.length by omega)
  have qx:=hl x (AM hx)
  obtain ⟨y,hy,hyd⟩:=XK qx.2
  have hst:=JK (p:=fun s:Int=>l.getD s.toNat false) hx hno
  rw [hyd] at hst
  cases y with
  | true =>
   have hr:=SH (p:=fun s:Int=>l.getD s.toNat false) (k:=k + 1) hst
   repeat' with_reducible first | refine W ?_ | refine Z0 ?_ | ((first | refine Wo fun K hK=>?_ | refine Wp ?_ | refine Wq ?_ | refine Wr ?_);(try simp only [go_sem,fN,seval,eT,iR,e1,e2,s2,e5,hlt,hx,hy,dT,dF,nL]);(repeat refine Ai ?_);(try (refine hK _ ?_;clear hK K));try refine iC ?_)
   simp only [go_sem,fN,seval,AP,AS.result,AH,AI,AN,hr]
  | false =>
   repeat' with_reducible first | refine W ?_ | refine Z0 ?_ | ((first | refine Wo fun K hK=>?_ | refine Wp ?_ | refine Wq ?_ | refine Wr ?_);(try simp only [go_sem,fN,seval,eT,iR,e1,e2,s2,e5,hlt,hx,hy,dT,dF,nL]);(repeat refine Ai ?_);(try (refine hK _ ?_;clear hK K));try refine iC ?_)
   refine AA ⟨a.last.length - (k + 1),by omega,k + 1,by omega,rfl,?_⟩
   simp only [go_sem,fN,seval,eT,iR,e1,e2,s2,e5,AE]
   exact ⟨by congr 3,hst⟩
 ·rw [List.take_of_length_le (l:=a.last) (i:=k) (by omega)] at hno
  repeat' with_reducible first | refine W ?_ | refine Z0 ?_ | ((first | refine Wo fun K hK=>?_ | refine Wp ?_ | refine Wq ?_ | refine Wr ?_);(try simp only [go_sem,fN,seval,eT,iR,e1,e2,s2,e5,hlt,dT,dF,nL]);(repeat refine Ai ?_);(try (refine hK _ ?_;clear hK K));try refine iC ?_)
  simp only [go_sem,fN,seval,AP,AS.result,AH,AI,AN,hno]
theorem Dd (a:Au) (ga:a.Good) (hs64:a.states≤64) (hm:a.moves.length≤100000) (t:Tm) (hz:t.size≤1000000):AU Try.prog 27 [aAu a,aTm t] (Ag (a.acc t)):=by
 have hL:=Sj a (a.ends t) (fun s hs=>by
  have:=ga.last s hs
  rw [a.ends_length]
  omega)
 refine GL.ac fun C hC=>?_
 unfold ES
 repeat' (first | (with_reducible first | refine W ?_ | refine Z0 ?_ | ((first | refine Wo fun K hK=>?_ | refine Wp ?_ | refine Wq ?_ | refine Wr ?_);(try simp only [go_sem,fN,seval,eT,iR,dT,dF,nL]);(repeat refine Ai ?_);(try (refine hK _ ?_;clear hK K));try refine iC ?_)) | refine Cg _ (Uf a ga hs64 hm t hz) ?_ | refine Cg _ (hL) ?_)
 simp only [go_sem,fN,seval,AP,AS.result,AH,AI,AN]
 rfl
set_option maxRecDepth 100000 in
theorem PL (a b:Au) (t:Tm):AU Try.prog 18 [aAu a,aAu b,aTm t] (Ag true):=by
 have c100:100 < BO t.size 100 ↔ 100 < (t.size:Int):=by unfold BO;split <;> omega
 by_cases q1:a.huge=true
 ·refine B5.ac fun C hC=>?_
  unfold Bj
  repeat' (first | (with_reducible first | refine W ?_ | refine Z0 ?_ | ((first | refine Wo fun K hK=>?_ | refine Wp ?_ | refine Wq ?_ | refine Wr ?_);(try simp only [go_sem,fN,seval,eT,iR,q1,dT,dF,nL]);(repeat refine Ai ?_);(try (refine hK _ ?_;clear hK K));try refine iC ?_)) | refine Cg _ (AZ a) ?_)
  simp only [go_sem,fN,seval,AP,AS.result,AH,AI,AN]
 by_cases q2:b.huge=true
 ·refine B5.ac fun C hC=>?_
  unfold Bj
  repeat' (first | (with_reducible first | refine W ?_ | refine Z0 ?_ | ((first | refine Wo fun K hK=>?_ | refine Wp ?_ | refine Wq ?_ | refine Wr ?_);(try simp only [go_sem,fN,seval,eT,iR,q1,q2,dT,dF,nL]);(repeat refine Ai ?_);(try (refine hK _ ?_;clear hK K));try refine iC ?_)) | refine Cg _ (AZ a) ?_ | refine Cg _ (AZ b) ?_)
  simp only [go_sem,fN,seval,AP,AS.result,AH,AI,AN]
 by_cases q3:100 < (t.size:Int)
 ·refine B5.ac fun C hC=>?_
  unfold Bj
  repeat' (first | (with_reducible first | refine W ?_ | refine Z0 ?_ | ((first | refine Wo fun K hK=>?_ | refine Wp ?_ | refine Wq ?_ | refine Wr ?_);(try simp only [go_sem,fN,seval,eT,iR,q1,q2,c100,q3,dT,dF,nL]);(repeat refine Ai ?_);(try (refine hK _ ?_;clear hK K));try refine iC ?_)) | refine Cg _ (AZ a) ?_ | refine Cg _ (AZ b) ?_ | refine Cg _ (Dv t 100 (by decide) (by decide)) ?_)
  simp only [go_sem,fN,seval,AP,AS.result,AH,AI,AN]
 have hla:a.last.length≤100∧b.last.length≤100:=by
  simp only [Au.huge,Bool.or_eq_true,decide_eq_true_eq,not_or] at q1 q2
  omega
 by_cases ha:a.may 8 40=0
 case neg =>
  have he:A1 a b=a.may 8 40:=by
   unfold A1
   rw [if_neg ha]
  have hB:=PQ a b (by rw [he];exact ha)
  have hE:=Ku a b (by rw [he];exact ha)
  rw [he] at hB hE
  refine B5.ac fun C hC=>?_
  unfold Bj
  repeat' (first | (with_reducible first | refine W ?_ | refine Z0 ?_ | ((first | refine Wo fun K hK=>?_ | refine Wp ?_ | refine Wq ?_ | refine Wr ?_);(try simp only [go_sem,fN,seval,eT,iR,q1,q2,c100,q3,ha,SQ,dT,dF,nL]);(repeat refine Ai ?_);(try (refine hK _ ?_;clear hK K));try refine iC ?_)) | refine Cg _ (AZ a) ?_ | refine Cg _ (AZ b) ?_ | refine Cg _ (Dv t 100 (by decide) (by decide)) ?_ | refine Cg _ (B1 a 8 40) ?_ | refine Cg _ (hB) ?_ | refine Cg _ (hE) ?_)
  simp only [go_sem,fN,seval,AP,AS.result,AH,AI,AN]
 case pos =>
 by_cases hb:b.may 8 40=0
 case neg =>
  have he:A1 a b=b.may 8 40:=by
   unfold A1
   rw [if_pos ha]
  have hB:=PQ a b (by rw [he];exact hb)
  have hE:=Ku a b (by rw [he];exact hb)
  rw [he] at hB hE
  refine B5.ac fun C hC=>?_
  unfold Bj
  repeat' (first | (with_reducible first | refine W ?_ | refine Z0 ?_ | ((first | refine Wo fun K hK=>?_ | refine Wp ?_ | refine Wq ?_ | refine Wr ?_);(try simp only [go_sem,fN,seval,eT,iR,q1,q2,c100,q3,ha,hb,SQ,dT,dF,nL]);(repeat refine Ai ?_);(try (refine hK _ ?_;clear hK K));try refine iC ?_)) | refine Cg _ (AZ a) ?_ | refine Cg _ (AZ b) ?_ | refine Cg _ (Dv t 100 (by decide) (by decide)) ?_ | refine Cg _ (B1 a 8 40) ?_ | refine Cg _ (B1 b 8 40) ?_ | refine Cg _ (hB) ?_ | refine Cg _ (hE) ?_)
  simp only [go_sem,fN,seval,AP,AS.result,AH,AI,AN]
 case pos =>
 have ga:=Au.may_good ha
 have gb:=Au.may_good hb
 obtain ⟨a1,_,_⟩:=Au.may_ok.1 ha
 obtain ⟨b1,_,_⟩:=Au.may_ok.1 hb
 have hx:=VR ha hb
 have hy:=RX ha hb
 have gx:=Au.may_good hx
 have gy:=Au.may_good hy
 obtain ⟨x1,_,_⟩:=Au.may_ok.1 hx
 obtain ⟨y1,_,_⟩:=Au.may_ok.1 hy
 have hB:=XJ a b ha hb hla.1 hla.2
 have hE:=V4 a b ha hb hla.1 hla.2
 have eB:=WD ga gb t
 have eE:=RH ga gb t
 have lB:¬ (100000:Int) < (a.both b).last.length:=by
  have h1:(a.both b).last.length=a.last.length * b.last.length:=Dr _ _ _
  have h2:a.last.length * b.last.length≤100 * b.last.length:=Nat.mul_le_mul_right _ hla.1
  omega
 have lE:¬ (100000:Int) < (a.either b).last.length:=by
  have h1:(a.either b).last.length=a.last.length + b.last.length:=by simp [Au.either]
  omega
 generalize a.both b=x at *
 generalize a.either b=y at *
 have cA:=Dd a ga (by omega) (by omega) t (by omega)
 have cB:=Dd b gb (by omega) (by omega) t (by omega)
 have cX:=Dd x gx (by omega) (by omega) t (by omega)
 have cY:=Dd y gy (by omega) (by omega) t (by omega)
 rw [eB] at cX
 rw [eE] at cY
 cases hp:a.acc t <;> cases hq:b.acc t <;> rw [hp] at cA cX cY <;> rw [hq] at cB cX cY
 all_goals
  simp only [Bool.and_self,Bool.and_true,Bool.true_and,Bool.and_false,Bool.false_and,Bool.or_self,Bool.or_true,Bool.true_or,Bool.or_false,Bool.false_or] at cX cY
  refine B5.ac fun C hC=>?_
  unfold Bj
  repeat' (first | (with_reducible first | refine W ?_ | refine Z0 ?_ | ((first | refine Wo fun K hK=>?_ | refine Wp ?_ | refine Wq ?_ | refine Wr ?_);(try simp only [go_sem,fN,seval,eT,iR,q1,q2,c100,q3,ha,hb,hx,hy,lB,lE,dT,dF,nL]);(repeat refine Ai ?_);(try (refine hK _ ?_;clear hK K));try refine iC ?_)) | refine Cg _ (AZ a) ?_ | refine Cg _ (AZ b) ?_ | refine Cg _ (Dv t 100 (by decide) (by decide)) ?_ | refine Cg _ (B1 a 8 40) ?_ | refine Cg _ (B1 b 8 40) ?_ | refine Cg _ (B1 x 64 1600) ?_ | refine Cg _ (B1 y 64 1600) ?_ | refine Cg _ (hB) ?_ | refine Cg _ (hE) ?_ | refine Cg _ (cA) ?_ | refine Cg _ (cB) ?_ | refine Cg _ (cX) ?_ | refine Cg _ (cY) ?_)
  simp only [go_sem,fN,seval,AP,AS.result,AH,AI,AN]

set_option maxRecDepth 100000
def Av:IR :=
 (.seq (.ops [.i 2 (.box 25 (.t 0)),.i 3 (.box 25 (.t 1)),.i 4 (.mov (.c (.one (.st (.bool false)))))]) (.seq (.seq (.ops [.L 13 3 2,.i 14 (.call 7 [.t 13]),.m 15 14,.mk (some 16) (some (15,false)) (.load true 3 (.t 3)) .no,.mk (some 17) (some (15,false)) (.call 7 [.t 16]) .no,.i 18 (.pick (.t 15) (.c (.one (.st (.bool true)))) (.t 17))]) (.cond (.t 18) (.seq (.ops [.i 4 (.mov (.c (.one (.st (.bool true)))))]) .ret) .skip)) (.seq (.ops [.L 19 3 2,.i 20 (.call 8 [.t 19,.n 8,.n 40]),.m 5 20]) (.seq (.ops [.m 21 5,.m 6 21]) (.seq (.seq (.ops [.m 22 6,.i 23 (.bin .eql (.t 22) (.n 0))]) (.cond (.t 23) (.ops [.L 24 3 3,.i 25 (.call 8 [.t 24,.n 8,.n 40]),.m 6 25]) .skip)) (.seq (.seq (.ops [.m 26 5,.i 27 (.bin .eql (.t 26) (.n 0)),.m 28 27,.mk (some 29) (some (28,true)) (.load true 3 (.t 2)) .no,.mk (some 30) (some (28,true)) (.call 9 [.t 29]) .no,.mk (some 31) (some (28,true)) (.un .not (.t 30)) .no,.i 32 (.pick (.t 28) (.t 31) (.c (.one (.st (.bool false)))))]) (.cond (.t 32) (.ops [.i 5 (.mov (.n 3))]) .skip)) (.seq (.seq (.ops [.m 33 6,.i 34 (.bin .eql (.t 33) (.n 0)),.m 35 34,.mk (some 36) (some (35,true)) (.load true 3 (.t 2)) .no,.mk (some 37) (some (35,true)) (.call 9 [.t 36]) .no,.mk (some 38) (some (35,true)) (.un .not (.t 37)) .no,.mk (some 39) (some (35,true)) (.mov (.t 38)) .no,.mk (some 40) (some (39,false)) (.load true 3 (.t 3)) .no,.mk (some 41) (some (39,false)) (.call 9 [.t 40]) .no,.mk (some 42) (some (39,false)) (.un .not (.t 41)) .no,.mk (some 43) (some (35,true)) (.pick (.t 39) (.c (.one (.st (.bool true)))) (.t 42)) .no,.i 44 (.pick (.t 35) (.t 43) (.c (.one (.st (.bool false)))))]) (.cond (.t 44) (.ops [.i 6 (.mov (.n 3))]) .skip)) (.seq (.seq (.ops [.m 45 5,.i 46 (.bin .eql (.t 45) (.n 0)),.m 47 46,.mk (some 48) (some (47,true)) (.fieldAddr 1 (.t 2)) .no,.mk (some 49) (some (47,true)) (.load false 1 (.t 48)) .no,.mk (some 50) (some (47,true)) (.len false (.t 49)) .no,.mk (some 51) (some (47,true)) (.bin .gtr (.t 50) (.n 12)) .no,.i 52 (.pick (.t 47) (.t 51) (.c (.one (.st (.bool false))))),.m 53 52,.mk (some 54) (some (53,false)) (.mov (.t 6)) .no,.mk (some 55) (some (53,false)) (.bin .eql (.t 54) (.n 0)) .no,.mk (some 56) (some (53,false)) (.mov (.t 55)) .no,.mk (some 57) (some (56,true)) (.fieldAddr 1 (.t 3)) .no,.mk (some 58) (some (56,true)) (.load false 1 (.t 57)) .no,.mk (some 59) (some (56,true)) (.len false (.t 58)) .no,.mk (some 60) (some (56,true)) (.bin .gtr (.t 59) (.n 12)) .no,.mk (some 61) (some (53,false)) (.pick (.t 56) (.t 60) (.c (.one (.st (.bool false))))) .no,.i 62 (.pick (.t 53) (.c (.one (.st (.bool true)))) (.t 61))]) (.cond (.t 62) (.seq (.ops [.i 4 (.mov (.c (.one (.st (.bool true)))))]) .ret) .skip)) (.seq (.ops [.i 7 (.mov (.c (.one (.st (.bool false)))))]) (.seq (.ops [.i 8 (.mov (.n 0))]) (.seq (.seq (.ops [.m 63 5,.i 64 (.bin .eql (.t 63) (.n 0))]) (.cond (.t 64) (.ops [.L 65 3 2,.i 66 (.call 10 [.t 65]),.m 8 66]) .skip)) (.seq (.seq (.ops [.m 67 6,.i 68 (.bin .eql (.t 67) (.n 0))]) (.cond (.t 68) (.ops [.L 69 3 2,.L 70 3 3,.i 71 (.call 11 [.t 69,.t 70]),.m 7 71]) .skip)) (.seq (.ops [.L 73 3 2,.L 74 3 3,.i 75 (.call 12 [.t 73,.t 74]),.m 72 75,.i 76 (.extract 0 (.t 72)),.i 77 (.extract 1 (.t 72)),.m 9 76,.m 10 77]) (.seq (.ops [.L 79 3 2,.i 80 (.call 13 [.t 79]),.m 78 80,.i 81 (.extract 0 (.t 78)),.i 82 (.extract 1 (.t 78)),.m 11 81,.m 12 82]) (.seq (.ops [.m 83 9,.m 84 7,.i 85 (.eqB false (.t 83) (.t 84)),.m 86 85,.mk (some 87) (some (86,true)) (.mov (.t 10)) .no,.mk (some 88) (some (86,true)) (.mov (.t 6)) .no,.mk (some 89) (some (86,true)) (.bin .eql (.t 87) (.t 88)) .no,.i 90 (.pick (.t 86) (.t 89) (.c (.one (.st (.bool false))))),.m 91 90,.mk (some 92) (some (91,true)) (.mov (.t 11)) .no,.mk (some 93) (some (91,true)) (.mov (.t 8)) .no,.mk (some 94) (some (91,true)) (.bin .eql (.t 92) (.t 93)) .no,.i 95 (.pick (.t 91) (.t 94) (.c (.one (.st (.bool false))))),.m 96 95,.mk (some 97) (some (96,true)) (.mov (.t 12)) .no,.mk (some 98) (some (96,true)) (.mov (.t 5)) .no,.mk (some 99) (some (96,true)) (.bin .eql (.t 97) (.t 98)) .no,.i 100 (.pick (.t 96) (.t 99) (.c (.one (.st (.bool false))))),.m 4 100]) .ret)))))))))))))))
theorem Ay:OkF Try.prog 3 101 [] Av [.t 4]:=.of Try.func3 rfl rfl (by kernel_rfl) rfl
def En:IR :=
 (.seq (.ops [.i 8 (.mov (.c (.one (.st (.bool false)))))]) (.seq (.seq (.ops [.m 13 0,.i 14 (.len false (.t 13)),.i 15 (.bin .gtr (.t 14) (.n 256))]) (.cond (.t 15) (.seq (.ops [.i 8 (.mov (.c (.one (.st (.bool true)))))]) .ret) .skip)) (.seq (.ops [.m 16 0,.m 17 1,.i 18 (.call 15 [.t 17,.n 3]),.i 19 (.bin .add (.n 1) (.t 18)),.m 20 2,.i 21 (.call 15 [.t 20,.n 9]),.i 22 (.call 14 [.t 16,.n 0,.t 19,.t 21]),.i 9 (.alloc 25 [.st (.int .i64 0),.full [],.full []]),.s 3 9 22]) (.seq (.ops [.m 23 0,.m 24 3,.i 25 (.call 15 [.t 24,.n 3]),.i 26 (.bin .add (.n 1) (.t 25)),.m 27 3,.i 28 (.bin .quo (.t 27) (.n 3)),.i 29 (.call 15 [.t 28,.n 9]),.i 30 (.call 14 [.t 23,.n 60,.t 26,.t 29]),.i 10 (.alloc 25 [.st (.int .i64 0),.full [],.full []]),.s 3 10 30]) (.seq (.ops [.m 32 0,.i 33 (.call 16 [.t 32,.n 20,.n 12]),.m 31 33,.i 34 (.extract 0 (.t 31)),.i 35 (.extract 1 (.t 31)),.i 11 (.alloc 39 [.st (.str (ByteArray.mk (#[]))),.full []]),.s 2 11 34,.m 12 35]) (.seq (.ops [.L 36 3 9,.L 37 2 11,.i 38 (.call 17 [.t 36,.t 37]),.m 39 38,.mk (some 40) (some (39,true)) (.load true 3 (.t 9)) .no,.mk (some 41) (some (39,true)) (.load true 3 (.t 10)) .no,.mk (some 42) (some (39,true)) (.load true 2 (.t 11)) .no,.mk (some 43) (some (39,true)) (.call 18 [.t 40,.t 41,.t 42]) .no,.i 44 (.pick (.t 39) (.t 43) (.c (.one (.st (.bool false))))),.m 45 44,.mk (some 46) (some (45,true)) (.load true 3 (.t 9)) .no,.mk (some 47) (some (45,true)) (.load true 3 (.t 10)) .no,.mk (some 48) (some (45,true)) (.call 3 [.t 46,.t 47]) .no,.i 49 (.pick (.t 45) (.t 48) (.c (.one (.st (.bool false))))),.m 8 49]) .ret))))))
theorem Gu:OkF Try.prog 4 50 [] En [.t 8]:=.of Try.func4 rfl rfl (by kernel_rfl) rfl

def JZ:IR :=
 (.seq (.ops [.i 6 (.box 25 (.t 0)),.i 12 (.mov (.c (.one (.st (.bool false)))))]) (.seq (.seq (.ops [.i 13 (.mov (.n 0))]) (.block 0 (.loop (.seq (.seq (.ops [.m 20 13,.f 21 1 6,.l 22 21,.i 23 (.len false (.t 22)),.i 24 (.bin .lss (.t 20) (.t 23))]) (.cond (.t 24) .skip (.exit 0))) (.seq (.block 1 (.seq (.ops [.f 27 1 6,.l 28 27,.m 29 13,.i 30 (.indexAddr 3 (.t 28) (.t 29)),.f 31 1 30,.l 32 31,.i 33 (.len false (.t 32)),.m 14 33]) (.seq (.seq (.ops [.m 34 14,.i 35 (.bin .eql (.t 34) (.n 0)),.m 36 35,.mk (some 37) (some (36,false)) (.mov (.t 14)) .no,.mk (some 38) (some (36,false)) (.bin .gtr (.t 37) (.n 2)) .no,.i 39 (.pick (.t 36) (.c (.one (.st (.bool true)))) (.t 38))]) (.cond (.t 39) (.exit 1) .skip)) (.seq (.ops [.i 15 (.mov (.n 0))]) (.block 2 (.loop (.seq (.seq (.ops [.m 40 15,.m 41 14,.i 42 (.bin .lss (.t 40) (.t 41))]) (.cond (.t 42) .skip (.exit 2))) (.seq (.block 3 (.seq (.ops [.i 16 (.mov (.n 0))]) (.block 4 (.loop (.seq (.seq (.ops [.m 45 16,.m 46 1,.i 47 (.len false (.t 46)),.i 48 (.bin .lss (.t 45) (.t 47))]) (.cond (.t 48) .skip (.exit 4))) (.seq (.block 5 (.seq (.ops [.f 51 1 6,.l 52 51,.m 53 13,.i 54 (.indexAddr 3 (.t 52) (.t 53)),.f 55 0 54,.l 56 55,.i 57 (.build [.st (.str (ByteArray.mk (#[]))),.full []] [(0,1,.t 56)]),.i 17 (.alloc 39 [.st (.str (ByteArray.mk (#[]))),.full []]),.s 2 17 57]) (.seq (.ops [.f 58 1 6,.l 59 58,.m 60 13,.i 61 (.indexAddr 3 (.t 59) (.t 60)),.f 62 0 61,.l 63 62,.i 64 (.build [.st (.str (ByteArray.mk (#[]))),.full []] [(0,1,.t 63)]),.i 18 (.alloc 39 [.st (.str (ByteArray.mk (#[]))),.full []]),.s 2 18 64]) (.seq (.seq (.ops [.i 19 (.mov (.n 0))]) (.block 6 (.loop (.seq (.seq (.ops [.m 65 19,.m 66 14,.i 67 (.bin .lss (.t 65) (.t 66))]) (.cond (.t 67) .skip (.exit 6))) (.seq (.block 7 (.seq (.ops [.m 70 19,.m 71 15,.i 72 (.bin .eql (.t 70) (.t 71))]) (.cond (.t 72) (.seq (.ops [.f 73 1 17,.l 74 73,.m 75 1,.m 76 4,.i 77 (.indexAddr 2 (.t 75) (.t 76)),.L 78 2 77,.i 79 (.buildSlice false 39 2 [.t 78]),.i 80 (.append false 39 2 40 (.t 74) (.t 79)),.f 81 1 17,.s 1 81 80]) (.ops [.f 82 1 18,.l 83 82,.m 84 1,.m 85 5,.i 86 (.indexAddr 2 (.t 84) (.t 85)),.L 87 2 86,.i 88 (.buildSlice false 39 2 [.t 87]),.i 89 (.append false 39 2 40 (.t 83) (.t 88)),.f 90 1 18,.s 1 90 89])) (.seq (.ops [.f 91 1 17,.l 92 91,.m 93 1,.m 94 16,.i 95 (.indexAddr 2 (.t 93) (.t 94)),.L 96 2 95,.i 97 (.buildSlice false 39 2 [.t 96]),.i 98 (.append false 39 2 40 (.t 92) (.t 97)),.f 99 1 17,.s 1 99 98]) (.ops [.f 100 1 18,.l 101 100,.m 102 1,.m 103 16,.i 104 (.indexAddr 2 (.t 102) (.t 103)),.L 105 2 104,.i 106 (.buildSlice false 39 2 [.t 105]),.i 107 (.append false 39 2 40 (.t 101) (.t 106)),.f 108 1 18,.s 1 108 107]))))) (.ops [.m 68 19,.i 69 (.bin .add (.t 68) (.n 1)),.m 19 69])))))) (.seq (.ops [.m 109 3,.m 110 2,.L 111 3 6,.L 112 2 17,.i 113 (.call 26 [.t 111,.t 112]),.i 114 (.call 25 [.t 113]),.i 115 (.lookup none false (.one (.st (.int .i64 0))) (.t 110) (.t 114)),.i 116 (.indexAddr 1 (.t 109) (.t 115)),.l 117 116,.m 118 2,.L 119 3 6,.L 120 2 18,.i 121 (.call 26 [.t 119,.t 120]),.i 122 (.call 25 [.t 121]),.i 123 (.lookup none false (.one (.st (.int .i64 0))) (.t 118) (.t 122)),.i 124 (.indexAddr 1 (.t 117) (.t 123)),.l 125 124]) (.cond (.t 125) (.seq (.ops [.i 12 (.mov (.c (.one (.st (.bool true)))))]) .ret) .skip)))))) (.ops [.m 49 16,.i 50 (.bin .add (.t 49) (.n 1)),.m 16 50]))))))) (.ops [.m 43 15,.i 44 (.bin .add (.t 43) (.n 1)),.m 15 44]))))))))) (.ops [.m 25 13,.i 26 (.bin .add (.t 25) (.n 1)),.m 13 26])))))) (.seq (.ops [.i 12 (.mov (.c (.one (.st (.bool false)))))]) .ret)))
theorem Qb:OkF Try.prog 28 126 [] JZ [.t 12]:=.of Try.func28 rfl rfl (by kernel_rfl) rfl
def Ib:IR :=
 (.seq (.ops [.i 1 (.box 25 (.t 0)),.i 2 (.mov (.n 0))]) (.seq (.ops [.L 17 3 1,.i 18 (.build [.st (.int .i64 0),.full [],.full []] []),.i 19 (.call 24 [.t 17,.t 18]),.m 3 19]) (.seq (.ops [.m 20 3,.i 21 (.len false (.t 20)),.m 4 21]) (.seq (.ops [.i 22 (.makeMap none),.m 5 22]) (.seq (.seq (.ops [.i 6 (.mov (.n 0))]) (.block 0 (.loop (.seq (.seq (.ops [.m 23 6,.m 24 4,.i 25 (.bin .lss (.t 23) (.t 24))]) (.cond (.t 25) .skip (.exit 0))) (.seq (.block 1 (.ops [.m 28 5,.L 29 3 1,.m 30 3,.m 31 6,.i 32 (.indexAddr 2 (.t 30) (.t 31)),.L 33 2 32,.i 34 (.call 26 [.t 29,.t 33]),.i 35 (.call 25 [.t 34]),.m 36 6,.mk none none (.mapSet none (.t 28) (.t 35) (.t 36)) .no])) (.ops [.m 26 6,.i 27 (.bin .add (.t 26) (.n 1)),.m 6 27])))))) (.seq (.ops [.m 37 4,.i 38 (.makeSlice 55 1 24 [.list []] (.t 37) (.t 37)),.m 7 38]) (.seq (.seq (.ops [.i 8 (.mov (.n 0))]) (.block 2 (.loop (.seq (.seq (.ops [.m 39 8,.m 40 4,.i 41 (.bin .lss (.t 39) (.t 40))]) (.cond (.t 41) .skip (.exit 2))) (.seq (.block 3 (.seq (.ops [.m 44 7,.m 45 8,.m 46 4,.i 47 (.makeSlice 4 1 1 [.bool false] (.t 46) (.t 46)),.i 48 (.indexAddr 1 (.t 44) (.t 45)),.s 1 48 47]) (.seq (.ops [.i 9 (.mov (.n 0))]) (.block 4 (.loop (.seq (.seq (.ops [.m 49 9,.m 50 4,.i 51 (.bin .lss (.t 49) (.t 50))]) (.cond (.t 51) .skip (.exit 4))) (.seq (.block 5 (.ops [.m 54 7,.m 55 8,.i 56 (.indexAddr 1 (.t 54) (.t 55)),.l 57 56,.m 58 9,.L 59 3 1,.m 60 3,.m 61 8,.i 62 (.indexAddr 2 (.t 60) (.t 61)),.L 63 2 62,.i 64 (.call 27 [.t 59,.t 63]),.L 65 3 1,.m 66 3,.m 67 9,.i 68 (.indexAddr 2 (.t 66) (.t 67)),.L 69 2 68,.i 70 (.call 27 [.t 65,.t 69]),.i 71 (.eqB true (.t 64) (.t 70)),.i 72 (.indexAddr 1 (.t 57) (.t 58)),.s 1 72 71])) (.ops [.m 52 9,.i 53 (.bin .add (.t 52) (.n 1)),.m 9 53])))))))) (.ops [.m 42 8,.i 43 (.bin .add (.t 42) (.n 1)),.m 8 43])))))) (.seq (.seq (.ops [.i 10 (.mov (.c (.one (.st (.bool true)))))]) (.block 6 (.loop (.seq (.seq (.ops [.m 73 10]) (.cond (.t 73) .skip (.exit 6))) (.block 7 (.seq (.ops [.i 10 (.mov (.c (.one (.st (.bool false)))))]) (.seq (.ops [.i 11 (.mov (.n 0))]) (.block 8 (.loop (.seq (.seq (.ops [.m 74 11,.m 75 4,.i 76 (.bin .lss (.t 74) (.t 75))]) (.cond (.t 76) .skip (.exit 8))) (.seq (.block 9 (.seq (.ops [.i 12 (.mov (.n 0))]) (.block 10 (.loop (.seq (.seq (.ops [.m 79 12,.m 80 4,.i 81 (.bin .lss (.t 79) (.t 80))]) (.cond (.t 81) .skip (.exit 10))) (.seq (.block 11 (.seq (.ops [.m 84 7,.m 85 11,.i 86 (.indexAddr 1 (.t 84) (.t 85)),.l 87 86,.m 88 12,.i 89 (.indexAddr 1 (.t 87) (.t 88)),.l 90 89,.i 91 (.un .not (.t 90)),.m 92 91,.mk (some 93) (some (92,true)) (.load true 3 (.t 1)) .no,.mk (some 94) (some (92,true)) (.mov (.t 3)) .no,.mk (some 95) (some (92,true)) (.mov (.t 5)) .no,.mk (some 96) (some (92,true)) (.mov (.t 7)) .no,.mk (some 97) (some (92,true)) (.mov (.t 11)) .no,.mk (some 98) (some (92,true)) (.mov (.t 12)) .no,.mk (some 99) (some (92,true)) (.callR 28 [.t 93,.t 94,.t 95,.t 96,.t 97,.t 98]) .no,.i 100 (.pick (.t 92) (.t 99) (.c (.one (.st (.bool false)))))]) (.cond (.t 100) (.seq (.ops [.m 101 7,.m 102 11,.i 103 (.indexAddr 1 (.t 101) (.t 102)),.l 104 103,.m 105 12,.i 106 (.indexAddr 1 (.t 104) (.t 105)),.mk none none (.store 1 (.t 106) (.c (.one (.st (.bool true))))) .no]) (.seq (.ops [.m 107 7,.m 108 12,.i 109 (.indexAddr 1 (.t 107) (.t 108)),.l 110 109,.m 111 11,.i 112 (.indexAddr 1 (.t 110) (.t 111)),.mk none none (.store 1 (.t 112) (.c (.one (.st (.bool true))))) .no]) (.ops [.i 10 (.mov (.c (.one (.st (.bool true)))))]))) .skip))) (.ops [.m 82 12,.i 83 (.bin .add (.t 82) (.n 1)),.m 12 83]))))))) (.ops [.m 77 11,.i 78 (.bin .add (.t 77) (.n 1)),.m 11 78])))))))))))) (.seq (.ops [.i 13 (.mov (.n 0))]) (.seq (.seq (.ops [.i 14 (.mov (.n 0))]) (.block 12 (.loop (.seq (.seq (.ops [.m 113 14,.m 114 4,.i 115 (.bin .lss (.t 113) (.t 114))]) (.cond (.t 115) .skip (.exit 12))) (.seq (.block 13 (.seq (.ops [.i 15 (.mov (.c (.one (.st (.bool true)))))]) (.seq (.seq (.ops [.i 16 (.mov (.n 0))]) (.block 14 (.loop (.seq (.seq (.ops [.m 118 16,.m 119 14,.i 120 (.bin .lss (.t 118) (.t 119))]) (.cond (.t 120) .skip (.exit 14))) (.seq (.block 15 (.ops [.m 123 15,.m 124 123,.mk (some 125) (some (124,true)) (.mov (.t 7)) .no,.mk (some 126) (some (124,true)) (.mov (.t 14)) .no,.mk (some 127) (some (124,true)) (.indexAddr 1 (.t 125) (.t 126)) .no,.mk (some 128) (some (124,true)) (.load false 1 (.t 127)) .no,.mk (some 129) (some (124,true)) (.mov (.t 16)) .no,.mk (some 130) (some (124,true)) (.indexAddr 1 (.t 128) (.t 129)) .no,.mk (some 131) (some (124,true)) (.load false 1 (.t 130)) .no,.i 132 (.pick (.t 124) (.t 131) (.c (.one (.st (.bool false))))),.m 15 132])) (.ops [.m 121 16,.i 122 (.bin .add (.t 121) (.n 1)),.m 16 122])))))) (.seq (.ops [.m 133 15]) (.cond (.t 133) (.ops [.m 134 13,.i 135 (.bin .add (.t 134) (.n 1)),.m 13 135]) .skip))))) (.ops [.m 116 14,.i 117 (.bin .add (.t 116) (.n 1)),.m 14 117])))))) (.seq (.ops [.m 136 13,.m 2 136]) .ret)))))))))))
theorem OC:OkF Try.prog 10 137 [40000099] Ib [.t 2]:=.of Try.func10 rfl rfl (by kernel_rfl) rfl

def bN:List Bool→Nat
 | []=>0
 | b :: bs=>b.toNat + 2 * bN bs
theorem WO (b:Bool) (bs:List Bool):(b.toNat + 2 * bN bs) / 2=bN bs:=by cases b <;> simp [Bool.toNat] <;> omega
theorem BX:∀ (l:List Bool) (i:Nat),(bN l).testBit i=l.getD i false
 | [],i=>by simp [bN]
 | b :: bs,0=>by
  rw [bN,Nat.testBit_zero]
  cases b <;> simp [Bool.toNat] <;> omega
 | b :: bs,i + 1=>by
  rw [bN,Nat.testBit_succ,WO,BX bs i]
  simp
theorem U5:∀ l:List Bool,bN l < 2 ^ l.length
 | []=>by simp [bN]
 | b :: bs=>by
  have h:=U5 bs
  rw [bN,List.length_cons,Nat.pow_succ]
  cases b <;> simp [Bool.toNat] <;> omega
theorem Rz (n:Nat):bN (List.replicate n false)=0:=by
 induction n with
 | zero=>rfl
 | succ n ih=>rw [List.replicate_succ,bN,ih];rfl
theorem U_ {l:List Bool} {i:Nat} (h:i < l.length):bN l ||| 2 ^ i=bN (l.set i true):=by
 refine Nat.eq_of_testBit_eq fun j=>?_
 rw [Nat.testBit_or,BX,BX,Nat.testBit_two_pow]
 by_cases hj:i=j
 ·subst hj
  simp [List.getD_eq_getElem?_getD,h]
 ·simp [List.getD_eq_getElem?_getD,List.getElem?_set_ne hj,hj]
theorem XO (l:List Bool) (s:Nat):bN l / 2 ^ s % 2=(l.getD s false).toNat:=by
 rw [← BX,Nat.testBit_eq_decide_div_mod_eq]
 have:bN l / 2 ^ s % 2 < 2:=Nat.mod_lt _ (by omega)
 by_cases h:bN l / 2 ^ s % 2=1
 ·simp [h]
 ·simp [h];omega
theorem WY (x:Nat):x &&& 1=x % 2:=Nat.and_one_is_mod x
theorem Lz {l:List Bool} (h:l.length≤64):bN l≤18446744073709551615:=by
 have h1:=U5 l
 have h2:2 ^ l.length≤2 ^ 64:=Nat.pow_le_pow_right (by omega) h
 have h3:(2:Nat) ^ 64=18446744073709551616:=by decide
 omega
def Au.lastB (a:Au):List Bool:=a.last.foldl (fun l s=>l.set s.toNat true) (List.replicate a.states.toNat false)
theorem Dl:∀ (ss:List Int) (l:List Bool),(ss.foldl (fun l s=>l.set s.toNat true) l).length=l.length
 | [],_=>rfl
 | s :: ss,l=>by rw [List.foldl_cons,Dl ss];simp
theorem H9 (i:Nat):∀ (ss:List Int) (l:List Bool),i < l.length→(ss.foldl (fun l s=>l.set s.toNat true) l).getD i false=(l.getD i false || ss.any fun s=>decide (s.toNat=i))
 | [],l,h=>by simp
 | s :: ss,l,h=>by
  rw [List.foldl_cons,H9 i ss _ (by simpa using h),List.any_cons,← Bool.or_assoc]
  congr 1
  by_cases he:s.toNat=i
  ·subst he
   simp [List.getD_eq_getElem?_getD,h]
  ·simp [List.getD_eq_getElem?_getD,List.getElem?_set_ne he,he]
theorem Au.lastB_length (a:Au):a.lastB.length=a.states.toNat:=by
 unfold Au.lastB
 rw [Dl]
 simp
theorem Au.lastB_get (a:Au) (i:Nat) (h:i < a.states.toNat):a.lastB.getD i false=a.last.any fun s=>decide (s.toNat=i):=by
 unfold Au.lastB
 rw [H9 _ _ _ (by simpa using h)]
 simp [List.getD_eq_getElem?_getD,h]
theorem US {a:Au} (ga:a.Good) (t:Tm):(bN (a.ends t) &&& bN a.lastB ≠ 0) ↔ a.acc t=true:=by
 unfold Au.acc
 rw [List.any_eq_true]
 constructor
 ·intro h
  obtain ⟨i,hi⟩:=Nat.exists_testBit_of_ne_zero h
  rw [Nat.testBit_and,BX,BX,Bool.and_eq_true] at hi
  have hl:i < a.states.toNat:=by
   rcases Nat.lt_or_ge i a.lastB.length with q | q
   ·rwa [← a.lastB_length]
   ·have h2:=hi.2
    rw [List.getD_eq_getElem?_getD,List.getElem?_eq_none q] at h2
    cases h2
  rw [a.lastB_get i hl,List.any_eq_true] at hi
  obtain ⟨h1,s,hs,he⟩:=hi
  exact ⟨s,hs,by rw [of_decide_eq_true he];exact h1⟩
 ·rintro ⟨s,hs,h⟩ h0
  have hb:=ga.last s hs
  have:=congrArg (fun n=>Nat.testBit n s.toNat) h0
  simp only [Nat.testBit_and,BX,Nat.zero_testBit] at this
  rw [h,a.lastB_get _ (by omega),Bool.true_and,List.any_eq_false] at this
  exact this s hs (by simp)

def Bf (n m k:Nat):List Nat:=match m with
 | 0=>[]
 | 1=>[k]
 | _=>[k / n,k % n]
def Dq (n m:Nat):Nat:=match m with
 | 0=>1
 | 1=>n
 | _=>n * n
def Cx (n m:Nat):List (List Nat):=(List.range (Dq n m)).map (Bf n m)
theorem JE (n m k:Nat) (hm:m≤2):(Bf n m k).length=m:=by
 match m,hm with
 | 0,_=>rfl
 | 1,_=>rfl
 | 2,_=>rfl
theorem Uh {n m k:Nat} (hm:m≤2) (hk:k < Dq n m):∀ x ∈ Bf n m k,x < n:=by
 match m,hm with
 | 0,_=>simp [Bf]
 | 1,_=>simpa [Bf,Dq] using hk
 | 2,_ =>
  have hk:k < n * n:=hk
  have hn:0 < n:=by
   rcases Nat.eq_zero_or_pos n with h | h
   ·subst h;omega
   ·exact h
  intro x hx
  simp only [Bf,List.mem_cons,List.not_mem_nil,or_false] at hx
  rcases hx with rfl | rfl
  ·exact Nat.div_lt_of_lt_mul hk
  ·exact Nat.mod_lt _ hn
theorem EI {n m:Nat} (hm:m≤2) {l:List Nat}:l ∈ Cx n m ↔ l.length=m∧∀ x ∈ l,x < n:=by
 unfold Cx
 simp only [List.mem_map,List.mem_range]
 constructor
 ·rintro ⟨k,hk,rfl⟩
  exact ⟨JE n m k hm,Uh hm hk⟩
 ·rintro ⟨h1,h2⟩
  match m,hm,l,h1 with
  | 0,_,[],_=>exact ⟨0,by simp [Dq],rfl⟩
  | 1,_,[a],_=>exact ⟨a,by simpa [Dq] using h2 a (by simp),rfl⟩
  | 2,_,[a,b],_ =>
   have ha:=h2 a (by simp)
   have hb:=h2 b (by simp)
   refine ⟨a * n + b,?_,?_⟩
   ·show a * n + b < n * n
    calc a * n + b < a * n + n:=by omega
     _=(a + 1) * n:=by rw [Nat.add_mul,Nat.one_mul]
     _≤n * n:=Nat.mul_le_mul_right _ ha
   ·show [(a * n + b) / n,(a * n + b) % n]=[a,b]
    have hn:0 < n:=by omega
    rw [Nat.mul_comm a n,Nat.mul_add_div hn,Nat.div_eq_of_lt hb,Nat.mul_add_mod,Nat.mod_eq_of_lt hb]
    simp
theorem Sq {N k:Nat} (h:k≤N):List.range k <+: List.range N:=by
 obtain ⟨d,rfl⟩:=Nat.exists_eq_add_of_le h
 rw [List.range_add]
 exact List.prefix_append _ _
theorem VP {n m k:Nat} (h:k≤Dq n m):(List.range k).map (Bf n m) <+: Cx n m:=by
 obtain ⟨r,hr⟩:=Sq h
 exact ⟨r.map (Bf n m),by rw [Cx,← hr,List.map_append]⟩
def FT (n m k:Nat) (i:Int):List Nat→Prop:=fun row=>match m with
 | 0=>row=[]∧i=-1
 | 1=>(row=[k]∧i=0) ∨ (row=[0]∧i=-1∧k + 1=n)
 | _=>(row=[k / n,k % n]∧i=1) ∨ (row=[k / n,0]∧i=0∧k % n + 1=n) ∨ (row=[0,0]∧i=-1∧k % n + 1=n∧k / n + 1=n)
theorem OB {n m k:Nat} (hm:m≤2):FT n m k ((m:Int) - 1) (Bf n m k):=by
 match m,hm with
 | 0,_=>exact ⟨rfl,rfl⟩
 | 1,_=>exact .inl ⟨rfl,rfl⟩
 | 2,_=>exact .inl ⟨rfl,rfl⟩
theorem RD {n m k:Nat} {i:Int} {row:List Nat} (hm:m≤2) (h:FT n m k i row):row.length=m:=by
 match m,hm with
 | 0,_=>obtain ⟨rfl,_⟩:=h;rfl
 | 1,_=>rcases h with ⟨rfl,_⟩ | ⟨rfl,_⟩ <;> rfl
 | 2,_=>rcases h with ⟨rfl,_⟩ | ⟨rfl,_⟩ | ⟨rfl,_⟩ <;> rfl
theorem Sp {n m k:Nat} {i:Int} {row:List Nat} (hm:m≤2) (h:FT n m k i row):-1≤i∧i < m:=by
 match m,hm with
 | 0,_=>obtain ⟨_,rfl⟩:=h;omega
 | 1,_=>rcases h with ⟨_,rfl⟩ | ⟨_,rfl,_⟩ <;> omega
 | 2,_=>rcases h with ⟨_,rfl⟩ | ⟨_,rfl,_⟩ | ⟨_,rfl,_⟩ <;> omega
theorem Q8 {n m k:Nat} {i:Int} {row:List Nat} (hm:m≤2) (hk:k < Dq n m) (h:FT n m k i row):∀ x ∈ row,x < n:=by
 match m,hm with
 | 0,_=>obtain ⟨rfl,_⟩:=h;simp
 | 1,_ =>
  have hk:k < n:=hk
  rcases h with ⟨rfl,_⟩ | ⟨rfl,_⟩
  ·simpa using hk
  ·simp;omega
 | 2,_ =>
  have hk:k < n * n:=hk
  have hn:0 < n:=by
   rcases Nat.eq_zero_or_pos n with h | h
   ·subst h;omega
   ·exact h
  have hml:=Nat.mod_lt k hn
  have hq:k / n < n:=Nat.div_lt_of_lt_mul hk
  rcases h with ⟨rfl,_⟩ | ⟨rfl,_⟩ | ⟨rfl,_⟩
  ·simp [hml,hq]
  ·simp [hn,hq]
  ·simp [hn]
theorem Rb {n m k i:Nat} {row:List Nat} (hm:m≤2) (hk:k < Dq n m) (h:FT n m k i row) {x:Nat} (hx:row[i]?=some x) (hlt:x + 1 < n):k + 1 < Dq n m∧row.set i (x + 1)=Bf n m (k + 1):=by
 match m,hm with
 | 0,_=>obtain ⟨rfl,h2⟩:=h;omega
 | 1,_ =>
  rcases h with ⟨rfl,h2⟩ | ⟨rfl,h2,_⟩
  ·have:i=0:=by omega
   subst this
   simp at hx
   subst hx
   exact ⟨hlt,rfl⟩
  ·omega
 | 2,_ =>
  have hk:k < n * n:=hk
  have hn:0 < n:=by omega
  have hdm:=Nat.div_add_mod k n
  have hml:=Nat.mod_lt k hn
  rcases h with ⟨rfl,h2⟩ | ⟨rfl,h2,h3⟩ | ⟨rfl,h2,h3⟩
  ·have:i=1:=by omega
   subst this
   simp at hx
   subst hx
   have e:k + 1=n * (k / n) + (k % n + 1):=by omega
   have hq:k / n < n:=Nat.div_lt_of_lt_mul hk
   refine ⟨?_,?_⟩
   ·show k + 1 < n * n
    calc k + 1=n * (k / n) + (k % n + 1):=e
     _ < n * (k / n) + n:=by omega
     _=n * (k / n + 1):=by rw [Nat.mul_add,Nat.mul_one]
     _≤n * n:=Nat.mul_le_mul_left _ hq
   ·show [k / n,k % n + 1]=[(k + 1) / n,(k + 1) % n]
    rw [e,Nat.mul_add_div hn,Nat.div_eq_of_lt hlt,Nat.mul_add_mod,Nat.mod_eq_of_lt hlt]
    rfl
  ·have:i=0:=by omega
   subst this
   simp at hx
   subst hx
   have e:k + 1=n * (k / n + 1):=by rw [Nat.mul_add,Nat.mul_one];omega
   refine ⟨?_,?_⟩
   ·show k + 1 < n * n
    rw [e]
    exact Nat.mul_lt_mul_of_pos_left hlt hn
   ·show [k / n + 1,0]=[(k + 1) / n,(k + 1) % n]
    rw [e,Nat.mul_div_cancel_left _ hn,Nat.mul_mod_right]
  ·omega
theorem QN {n m k i:Nat} {row:List Nat} (hm:m≤2) (hk:k < Dq n m) (h:FT n m k i row) {x:Nat} (hx:row[i]?=some x) (hge:¬ x + 1 < n):FT n m k ((i:Int) - 1) ((row.set i (x + 1)).set i 0):=by
 match m,hm with
 | 0,_=>obtain ⟨rfl,h2⟩:=h;omega
 | 1,_ =>
  rcases h with ⟨rfl,h2⟩ | ⟨rfl,h2,_⟩
  ·have:i=0:=by omega
   subst this
   simp at hx
   subst hx
   have hk:k < n:=hk
   exact .inr ⟨rfl,rfl,by omega⟩
  ·omega
 | 2,_ =>
  have hk:k < n * n:=hk
  have hn:0 < n:=by
   rcases Nat.eq_zero_or_pos n with h | h
   ·subst h;omega
   ·exact h
  have hml:=Nat.mod_lt k hn
  have hq:k / n < n:=Nat.div_lt_of_lt_mul hk
  rcases h with ⟨rfl,h2⟩ | ⟨rfl,h2,h3⟩ | ⟨rfl,h2,h3⟩
  ·have:i=1:=by omega
   subst this
   simp at hx
   subst hx
   exact .inr (.inl ⟨rfl,rfl,by omega⟩)
  ·have:i=0:=by omega
   subst this
   simp at hx
   subst hx
   exact .inr (.inr ⟨rfl,rfl,h3,by omega⟩)
  ·omega
theorem RM {n m k:Nat} {row:List Nat} (hm:m≤2) (hk:k < Dq n m) (h:FT n m k (-1) row):k + 1=Dq n m:=by
 match m,hm with
 | 0,_=>have:k < 1:=hk;show k + 1=1;omega
 | 1,_ =>
  rcases h with ⟨_,h2⟩ | ⟨_,_,h2⟩
  ·omega
  ·exact h2
 | 2,_ =>
  rcases h with ⟨_,h2⟩ | ⟨_,h2,_⟩ | ⟨_,_,h2,h3⟩
  ·omega
  ·omega
  ·show k + 1=n * n
   have hdm:=Nat.div_add_mod k n
   have e:n * n=n * (k / n) + n:=by
    calc n * n=n * (k / n + 1):=by rw [h3]
     _=n * (k / n) + n:=by rw [Nat.mul_add,Nat.mul_one]
   omega

theorem MY:∀ l:List UInt8,Op.bytesLess l l=false
 | []=>by simp [Op.bytesLess]
 | x :: xs=>by simp [Op.bytesLess,MY xs]
theorem Oj:∀ (a b c:List UInt8),Op.bytesLess a b=true→Op.bytesLess b c=true→Op.bytesLess a c=true
 | _,[],_,h,_=>by simp [Op.bytesLess] at h
 | _,_ :: _,[],_,k=>by simp [Op.bytesLess] at k
 | [],_ :: _,_ :: _,_,_=>by simp [Op.bytesLess]
 | x :: xs,y :: ys,z :: zs,h,k=>by
  simp only [Op.bytesLess,Bool.or_eq_true,Bool.and_eq_true,decide_eq_true_eq,beq_iff_eq] at h k ⊢
  rcases h with h | ⟨rfl,h⟩
  ·rcases k with k | ⟨rfl,k⟩
   ·exact .inl (UInt8.lt_trans h k)
   ·exact .inl h
  ·rcases k with k | ⟨rfl,k⟩
   ·exact .inl k
   ·exact .inr ⟨rfl,Oj xs ys zs h k⟩
theorem P7:∀ (a b:List UInt8),Op.bytesLess a b=true ∨ a=b ∨ Op.bytesLess b a=true
 | [],[]=>.inr (.inl rfl)
 | [],_ :: _=>.inl (by simp [Op.bytesLess])
 | _ :: _,[]=>.inr (.inr (by simp [Op.bytesLess]))
 | x :: xs,y :: ys=>by
  simp only [Op.bytesLess,Bool.or_eq_true,Bool.and_eq_true,decide_eq_true_eq,beq_iff_eq,List.cons.injEq]
  rcases Nat.lt_trichotomy x.toNat y.toNat with h | h | h
  ·exact .inl (.inl h)
  ·have e:x=y:=UInt8.toNat_inj.1 h
   subst e
   rcases P7 xs ys with h | h | h
   ·exact .inl (.inr ⟨rfl,h⟩)
   ·exact .inr (.inl ⟨rfl,h⟩)
   ·exact .inr (.inr (.inr ⟨rfl,h⟩))
  ·exact .inr (.inr (.inl h))
theorem Ur {a b:ByteArray} (h:a.toList=b.toList):a=b:=by
 rw [ByteArray.toList_eq,ByteArray.toList_eq] at h
 cases a;cases b
 simp only at h
 congr 1
 exact Array.toList_inj.1 h
theorem RW (a:ByteArray):sLt a a=false:=MY _
theorem TD {a b c:ByteArray} (h:sLt a b=true) (k:sLt b c=true):sLt a c=true:=Oj _ _ _ h k
theorem TX (a b:ByteArray):sLt a b=true ∨ a=b ∨ sLt b a=true:=by
 rcases P7 a.toList b.toList with h | h | h
 ·exact .inl h
 ·exact .inr (.inl (Ur h))
 ·exact .inr (.inr h)
abbrev Bd:=ByteArray × Tm
def Xp (b:Bd):List SV:=[.str b.1,.str b.2.name,.list (b.2.args.map A_)]
instance:O2 Xp 3:=⟨fun _=>rfl⟩
def lookup (l:List Bd) (n:ByteArray):Option Tm:=(l.find? fun b=>decide (b.1=n)).map (·.2)
mutual
def Tm.on (s:List Bd):Tm→Tm
 | .mk n xs=>match (if xs.isEmpty then lookup s n else none) with
  | some x=>x
  | none=>.mk n (Tm.onL s xs)
def Tm.onL (s:List Bd):List Tm→List Tm
 | []=>[]
 | t :: ts=>t.on s :: Tm.onL s ts
end


abbrev Sym:=ByteArray × Nat
def EJ (a b:Sym):Bool:=if a.1=b.1 then decide (a.2 < b.2) else sLt a.1 b.1
theorem FO (a:Sym):EJ a a=false:=by simp [EJ]
theorem EZ {a b c:Sym} (h:EJ a b=true) (k:EJ b c=true):EJ a c=true:=by
 unfold EJ at *
 by_cases e1:a.1=b.1
 ·rw [if_pos e1] at h
  by_cases e2:b.1=c.1
  ·rw [if_pos e2] at k
   rw [if_pos (e1.trans e2)]
   simp at h k ⊢
   omega
  ·rw [if_neg e2] at k
   rw [if_neg (fun e=>e2 (e1.symm.trans e)),e1]
   exact k
 ·rw [if_neg e1] at h
  by_cases e2:b.1=c.1
  ·rw [if_pos e2] at k
   rw [if_neg (fun e=>e1 (e.trans e2.symm)),← e2]
   exact h
  ·rw [if_neg e2] at k
   have:=TD h k
   rw [if_neg (fun e=>by rw [e,RW] at this;cases this)]
   exact this
theorem GF (a b:Sym):EJ a b=true ∨ a=b ∨ EJ b a=true:=by
 obtain ⟨a,i⟩:=a
 obtain ⟨b,j⟩:=b
 unfold EJ
 by_cases e:a=b
 ·subst e
  simp only [if_true,decide_eq_true_eq,Prod.mk.injEq,true_and]
  omega
 ·have e':¬ b=a:=fun h=>e h.symm
  show (if a=b then _ else sLt a b)=true ∨ _ ∨ (if b=a then _ else sLt b a)=true
  rw [if_neg e,if_neg e']
  rcases TX a b with h | h | h
  ·exact .inl h
  ·exact absurd h e
  ·exact .inr (.inr h)
def Fm (l:List Sym):Prop:=l.Pairwise fun a b=>EJ a b=true
theorem N_ {l:List Sym} (h:Fm l):l.Nodup:=by
 rw [List.nodup_iff_pairwise_ne]
 exact h.imp fun {a b} h e=>by rw [e,FO] at h;cases h
theorem G1:∀ {l m:List Sym},Fm l→Fm m→(∀ x,x ∈ l ↔ x ∈ m)→l=m
 | [],[],_,_,_=>rfl
 | [],b :: m,_,_,h=>absurd ((h b).2 (by simp)) (by simp)
 | a :: l,[],_,_,h=>absurd ((h a).1 (by simp)) (by simp)
 | a :: l,c :: m,hl,hm,h=>by
  obtain ⟨l1,l2⟩:=List.pairwise_cons.1 hl
  obtain ⟨m1,m2⟩:=List.pairwise_cons.1 hm
  have hirr:∀ {a:Sym},¬ EJ a a=true:=fun {a} h=>by rw [FO] at h;cases h
  have e:a=c:=by
   rcases List.mem_cons.1 ((h a).1 (by simp)) with e | e
   ·exact e
   ·rcases List.mem_cons.1 ((h c).2 (by simp)) with e2 | e2
    ·exact e2.symm
    ·exact absurd (EZ (m1 a e) (l1 c e2)) hirr
  subst e
  refine congrArg (a :: ·) (G1 l2 m2 fun x=>?_)
  constructor
  ·intro hx
   rcases List.mem_cons.1 ((h x).1 (List.mem_cons_of_mem _ hx)) with e | e
   ·subst e;exact absurd (l1 _ hx) hirr
   ·exact e
  ·intro hx
   rcases List.mem_cons.1 ((h x).2 (List.mem_cons_of_mem _ hx)) with e | e
   ·subst e;exact absurd (m1 _ hx) hirr
   ·exact e
def JN (x:Sym):List Sym→List Sym
 | []=>[x]
 | y :: l=>if x=y then y :: l else if EJ x y=true then x :: y :: l else y :: JN x l
theorem Pj {x z:Sym} {l:List Sym}:z ∈ JN x l ↔ z=x ∨ z ∈ l:=by
 induction l with
 | nil=>simp [JN]
 | cons y l ih =>
  unfold JN
  split
  ·rename_i e;subst e;simp
  ·split
   ·simp
   ·simp only [List.mem_cons,ih]
    constructor
    ·rintro (h | h | h) <;> simp [h]
    ·rintro (h | h | h) <;> simp [h]
theorem UP {x:Sym} {l:List Sym} (h:Fm l):Fm (JN x l):=by
 induction l with
 | nil=>exact List.pairwise_singleton _ _
 | cons y l ih =>
  obtain ⟨h1,h2⟩:=List.pairwise_cons.1 h
  unfold JN
  split
  ·exact h
  ·rename_i e
   split
   ·rename_i hlt
    exact List.pairwise_cons.2 ⟨fun z hz=>by
     rcases List.mem_cons.1 hz with rfl | hz
     ·exact hlt
     ·exact EZ hlt (h1 z hz),h⟩
   ·rename_i hlt
    refine List.pairwise_cons.2 ⟨fun z hz=>?_,ih h2⟩
    rcases Pj.1 hz with rfl | hz
    ·rcases GF z y with q | q | q
     ·exact absurd q hlt
     ·exact absurd q e
     ·exact q
    ·exact h1 z hz
def Bs (l:List Sym):List Sym:=l.foldr JN []
theorem FI {l:List Sym} {x:Sym}:x ∈ Bs l ↔ x ∈ l:=by
 induction l with
 | nil=>simp [Bs]
 | cons y l ih =>
  show x ∈ JN y (Bs l) ↔ _
  rw [Pj,ih,List.mem_cons]
theorem JL (l:List Sym):Fm (Bs l):=by
 induction l with
 | nil=>exact List.Pairwise.nil
 | cons y l ih=>exact UP ih
theorem IP {l m:List Sym} (h:Fm m) (hm:∀ x,x ∈ m ↔ x ∈ l):m=Bs l :=
 G1 h (JL l) fun x=>(hm x).trans FI.symm
theorem KX {l m:List Sym} (h:∀ x,x ∈ l ↔ x ∈ m):Bs l=Bs m :=
 IP (JL l) fun x=>FI.trans (h x)
theorem CV {l:List Sym} (h:l.Nodup):(Bs l).length=l.length:=by
 have hp:(Bs l).Perm l:=by
  induction l with
  | nil=>exact List.Perm.nil
  | cons y l ih =>
   obtain ⟨h1,h2⟩:=List.nodup_cons.1 h
   have key:∀ {m:List Sym},y ∉ m→(JN y m).Perm (y :: m):=fun {m} hy=>by
    induction m with
    | nil=>exact List.Perm.refl _
    | cons z m ih2 =>
     unfold JN
     rw [if_neg (fun e=>hy (by simp [e]))]
     split
     ·exact List.Perm.refl _
     ·exact ((ih2 (fun hm=>hy (by simp [hm]))).cons z).trans (List.Perm.swap _ _ _)
   exact (key (fun hm=>h1 (FI.1 hm))).trans ((ih h2).cons y)
 exact hp.length_eq
def Mv.sym (m:Mv):Sym:=(m.name,m.frm.length)
def Ao (l:List Au):List Sym:=Bs (l.flatMap fun a=>a.moves.map Mv.sym)
theorem DF {l:List Au} {s:Sym}:s ∈ Ao l ↔ ∃ a ∈ l,∃ m ∈ a.moves,s=m.sym:=by
 unfold Ao
 rw [FI,List.mem_flatMap]
 simp only [List.mem_map,eq_comm]

def met {α:Type} (l:List α) (seen:List Nat):List α:=seen.filterMap fun j=>l[j]?
theorem Ut {α:Type} {l:List α} {seen:List Nat} {j:Nat} {b:α} (h:l[j]?=some b):met l (seen ++ [j])=met l seen ++ [b]:=by
 unfold met
 rw [List.filterMap_append,List.filterMap_cons_some h]
 rfl
theorem SC {α:Type} {l:List α}:∀ {seen:List Nat},(∀ j ∈ seen,j < l.length)→(met l seen).length=seen.length
 | [],_=>rfl
 | j :: seen,h=>by
  have hj:=h j (by simp)
  unfold met
  rw [List.filterMap_cons_some (List.getElem?_eq_getElem hj),List.length_cons,List.length_cons]
  exact congrArg (· + 1) (SC fun i hi=>h i (by simp [hi]))
theorem Kr {n:Nat} {seen:List Nat} (hn:seen.Nodup) (h:∀ j ∈ seen,j < n):seen.length≤n:=by
 have h1:seen.Perm ((List.range n).filter fun j=>decide (j ∈ seen)):=(List.perm_ext_iff_of_nodup hn (List.nodup_range.filter _)).2 fun j=>by
  rw [List.mem_filter,List.mem_range,decide_eq_true_eq]
  exact ⟨fun hj=>⟨h j hj,hj⟩,fun hj=>hj.2⟩
 rw [h1.length_eq]
 exact Nat.le_trans (List.length_filter_le _ _) (Nat.le_of_eq List.length_range)
theorem UX {α:Type} {l:List α} {seen:List Nat} (hn:seen.Nodup) (h:∀ j ∈ seen,j < l.length) (hall:∀ j,j < l.length→j ∈ seen):(met l seen).Perm l:=by
 have hp:seen.Perm (List.range l.length):=(List.perm_ext_iff_of_nodup hn List.nodup_range).2 fun j=>⟨fun hj=>List.mem_range.2 (h j hj),fun hj=>hall j (List.mem_range.1 hj)⟩
 have:=hp.filterMap fun j=>l[j]?
 rw [Dm] at this
 exact this

abbrev J:=List Bool × List Bool
def nxt (a b:Au) (n:ByteArray) (l:List J):J:=(a.ending n (l.map Prod.fst),b.ending n (l.map Prod.snd))
def Ax (out:List J) (l:List Nat):List J:=l.map fun i=>out.getD i ([],[])
open Classical in
noncomputable def Lr (out:List J) (j:J):List J:=if j ∈ out then out else out ++ [j]
noncomputable def Ds (a b:Au) (n:ByteArray) (out:List J) (l:List Nat):List J:=Lr out (nxt a b n (Ax out l))
noncomputable def FS (a b:Au) (out:List J) (s:Sym):List J:=(Cx out.length s.2).foldl (Ds a b s.1) out
noncomputable def Ja (a b:Au) (syms:List Sym) (out:List J):List J:=syms.foldl (FS a b) out
noncomputable def itJ (a b:Au) (syms:List Sym):Nat→List J
 | 0=>[]
 | k + 1=>Ja a b syms (itJ a b syms k)
theorem Ud (out:List J) (j:J):out <+: Lr out j:=by
 unfold Lr
 split
 ·exact List.prefix_refl _
 ·exact List.prefix_append _ _
theorem E3 {α:Type} {f:List J→α→List J} (h:∀ out x,out <+: f out x):∀ (l:List α) (out:List J),out <+: l.foldl f out
 | [],out=>List.prefix_refl _
 | x :: l,out=>(h out x).trans (E3 h l (f out x))
theorem Gc {a b:Au} {n:ByteArray} (out:List J) (l:List Nat):out <+: Ds a b n out l:=Ud _ _
theorem Ln {a b:Au} (out:List J) (s:Sym):out <+: FS a b out s:=E3 (fun out l=>Gc out l) _ _
theorem Mx {a b:Au} {syms:List Sym} (out:List J):out <+: Ja a b syms out:=E3 (fun out s=>Ln out s) _ _
inductive Gen (a b:Au) (syms:List Sym):J→Prop
 | mk {s:Sym} {l:List J}:s ∈ syms→l.length=s.2→(∀ x ∈ l,Gen a b syms x)→Gen a b syms (nxt a b s.1 l)
theorem Gen.len {a b:Au} {syms:List Sym} {j:J} (h:Gen a b syms j):j.1.length=a.states.toNat∧j.2.length=b.states.toNat:=by
 cases h
 exact ⟨Au.ending_length _ _ _,Au.ending_length _ _ _⟩
structure OkJ (a b:Au) (syms:List Sym) (out:List J):Prop where
 nod:out.Nodup
 gen:∀ j ∈ out,Gen a b syms j
section
variable {a b:Au} {syms:List Sym}
theorem OkJ.nil:OkJ a b syms []:=⟨List.nodup_nil,by simp⟩
theorem OkJ.add {out:List J} {j:J} (h:OkJ a b syms out) (hj:Gen a b syms j):OkJ a b syms (Lr out j):=by
 unfold Lr
 split
 ·exact h
 ·rename_i hm
  refine ⟨?_,fun x hx=>?_⟩
  ·rw [List.nodup_append]
   exact ⟨h.nod,by simp,fun x hx y hy e=>hm (by rw [← List.mem_singleton.1 hy,← e];exact hx)⟩
  ·rcases List.mem_append.1 hx with hx | hx
   ·exact h.gen x hx
   ·rw [List.mem_singleton.1 hx];exact hj
theorem E6 {out:List J} {l:List Nat} (hl:∀ i ∈ l,i < out.length):∀ x ∈ Ax out l,x ∈ out:=fun x hx=>by
 unfold Ax at hx
 obtain ⟨i,hi,rfl⟩:=List.mem_map.1 hx
 have:=hl i hi
 rw [List.getD_eq_getElem?_getD,List.getElem?_eq_getElem this]
 exact List.getElem_mem this
theorem Cr (out:List J) (l:List Nat):(Ax out l).length=l.length:=by simp [Ax]
theorem OkJ.step {out:List J} {s:Sym} {l:List Nat} (h:OkJ a b syms out) (hs:s ∈ syms) (hl:l.length=s.2) (hi:∀ i ∈ l,i < out.length):OkJ a b syms (Ds a b s.1 out l) :=
 h.add (.mk hs (by rw [Cr,hl]) fun x hx=>h.gen x (E6 hi x hx))
theorem OkJ.steps {s:Sym} (hs:s ∈ syms) {n:Nat}:∀ {ls:List (List Nat)} {out:List J},OkJ a b syms out→n≤out.length→(∀ l ∈ ls,l.length=s.2∧∀ i ∈ l,i < n)→OkJ a b syms (ls.foldl (Ds a b s.1) out)
 | [],out,h,hn,hl=>h
 | l :: ls,out,h,hn,hl=>by
  obtain ⟨h1,h2⟩:=hl l (by simp)
  show OkJ a b syms (ls.foldl (Ds a b s.1) (Ds a b s.1 out l))
  exact OkJ.steps hs (h.step hs h1 fun i hi=>Nat.lt_of_lt_of_le (h2 i hi) hn) (Nat.le_trans hn (Gc out l).length_le) fun l' hl'=>hl l' (by simp [hl'])
theorem OkJ.sym {out:List J} {s:Sym} (h:OkJ a b syms out) (hs:s ∈ syms) (h2:s.2≤2):OkJ a b syms (FS a b out s) :=
 OkJ.steps hs h (Nat.le_refl _) fun l hl=>(EI h2).1 hl
theorem OkJ.symsF (h2:∀ s ∈ syms,s.2≤2):∀ {ss:List Sym} {out:List J},(∀ s ∈ ss,s ∈ syms)→OkJ a b syms out→OkJ a b syms (ss.foldl (FS a b) out)
 | [],out,hs,h=>h
 | s :: ss,out,hs,h=>by
  show OkJ a b syms (ss.foldl (FS a b) (FS a b out s))
  exact OkJ.symsF h2 (fun x hx=>hs x (by simp [hx])) (h.sym (hs s (by simp)) (h2 s (hs s (by simp))))
theorem OkJ.pass (h2:∀ s ∈ syms,s.2≤2) {out:List J} (h:OkJ a b syms out):OkJ a b syms (Ja a b syms out):=OkJ.symsF h2 (fun s hs=>hs) h
theorem Np (h2:∀ s ∈ syms,s.2≤2):∀ k,OkJ a b syms (itJ a b syms k)
 | 0=>.nil
 | k + 1=>(Np h2 k).pass h2
theorem LD:∀ {l m:List Bool},l.length=m.length→bN l=bN m→l=m:=fun {l m} hl h=>by
 refine List.ext_getElem hl fun i h1 h2=>?_
 have e1:=BX l i
 have e2:=BX m i
 rw [h,e2] at e1
 simpa [List.getD_eq_getElem?_getD,h1,h2] using e1.symm
theorem OkJ.len {out:List J} (h:OkJ a b syms out) (ha:a.states≤3) (hb:b.states≤3):out.length≤64:=by
 have hlt:∀ {l:List Bool},l.length≤3→bN l < 8:=fun {l} hl=>Nat.lt_of_lt_of_le (U5 l) (Nat.pow_le_pow_right (by omega) hl)
 have hc:(out.map fun j=>bN j.1 * 8 + bN j.2).Nodup:=by
  rw [List.nodup_iff_pairwise_ne,List.pairwise_map]
  have:=h.nod
  rw [List.nodup_iff_pairwise_ne,List.pairwise_iff_getElem] at this
  rw [List.pairwise_iff_getElem]
  intro i j hi hj hij e
  refine this i j hi hj hij ?_
  obtain ⟨q1,q2⟩:=(h.gen _ (List.getElem_mem hi)).len
  obtain ⟨r1,r2⟩:=(h.gen _ (List.getElem_mem hj)).len
  have p1:=hlt (l:=out[i].2) (by omega)
  have p2:=hlt (l:=out[j].2) (by omega)
  exact Prod.ext (LD (by omega) (by omega)) (LD (by omega) (by omega))
 have:=Kr hc (n:=64) fun x hx=>by
  obtain ⟨j,hj,rfl⟩:=List.mem_map.1 hx
  obtain ⟨q1,q2⟩:=(h.gen j hj).len
  have p1:=hlt (l:=j.1) (by omega)
  have p2:=hlt (l:=j.2) (by omega)
  omega
 simpa using this
theorem Hf (h2:∀ s ∈ syms,s.2≤2) (ha:a.states≤3) (hb:b.states≤3):∃ k,k≤64∧itJ a b syms (k + 1)=itJ a b syms k:=by
 by_cases h:∃ k,k≤64∧itJ a b syms (k + 1)=itJ a b syms k
 ·exact h
 ·exfalso
  have hgrow:∀ k,k≤65→k≤(itJ a b syms k).length:=fun k=>by
   induction k with
   | zero=>intro _;omega
   | succ k ih =>
    intro hk
    have h1:=ih (by omega)
    have hp:=Mx (a:=a) (b:=b) (syms:=syms) (itJ a b syms k)
    have hne:¬ itJ a b syms (k + 1)=itJ a b syms k:=fun e=>h ⟨k,by omega,e⟩
    have hl:=hp.length_le
    have:(itJ a b syms k).length ≠ (Ja a b syms (itJ a b syms k)).length:=fun e=>hne (hp.eq_of_length e).symm
    show k + 1≤(Ja a b syms (itJ a b syms k)).length
    omega
  have h1:=hgrow 65 (Nat.le_refl _)
  have h2:=(Np (a:=a) (b:=b) h2 65).len ha hb
  omega
theorem Hw {k:Nat} (h:itJ a b syms (k + 1)=itJ a b syms k):∀ d,itJ a b syms (k + d)=itJ a b syms k
 | 0=>rfl
 | d + 1=>by
  show Ja a b syms (itJ a b syms (k + d))=_
  rw [Hw h d]
  exact h
noncomputable def BI (a b:Au) (syms:List Sym):List J:=itJ a b syms 64
theorem Mf {k:Nat} (h2:∀ s ∈ syms,s.2≤2) (ha:a.states≤3) (hb:b.states≤3) (h:itJ a b syms (k + 1)=itJ a b syms k):itJ a b syms k=BI a b syms:=by
 obtain ⟨k0,h0,hs⟩:=Hf (a:=a) (b:=b) h2 ha hb
 have e1:=Hw hs (64 - k0)
 rw [show k0 + (64 - k0)=64 by omega] at e1
 unfold BI
 rw [e1]
 rcases Nat.le_total k k0 with hk | hk
 ·have:=Hw h (k0 - k)
  rw [show k + (k0 - k)=k0 by omega] at this
  exact this.symm
 ·have:=Hw hs (k - k0)
  rw [show k0 + (k - k0)=k by omega] at this
  exact this
theorem Gn (h2:∀ s ∈ syms,s.2≤2):OkJ a b syms (BI a b syms):=Np h2 64
theorem Rd (h2:∀ s ∈ syms,s.2≤2) (ha:a.states≤3) (hb:b.states≤3):Ja a b syms (BI a b syms)=BI a b syms:=by
 obtain ⟨k0,h0,hs⟩:=Hf (a:=a) (b:=b) h2 ha hb
 rw [← Mf h2 ha hb hs]
 exact hs
theorem Li {α:Type} {f:List J→α→List J} (hp:∀ out x,out <+: f out x):∀ {l:List α} {out:List J},l.foldl f out=out→∀ x ∈ l,f out x=out
 | [],out,h,x,hx=>by cases hx
 | y :: l,out,h,x,hx=>by
  have h1:f out y=out:=by
   have p1:=hp out y
   have p2:=E3 hp l (f out y)
   have hl:(l.foldl f (f out y)).length=out.length:=congrArg List.length h
   exact (p1.eq_of_length (by have:=p1.length_le;have:=p2.length_le;omega)).symm
  rcases List.mem_cons.1 hx with rfl | hx
  ·exact h1
  ·refine Li hp (l:=l) ?_ x hx
   have h:l.foldl f (f out y)=out:=h
   rw [h1] at h
   exact h
theorem Eo (h2:∀ s ∈ syms,s.2≤2) (ha:a.states≤3) (hb:b.states≤3) {s:Sym} (hs:s ∈ syms) {l:List J} (hl:l.length=s.2) (hm:∀ x ∈ l,x ∈ BI a b syms):nxt a b s.1 l ∈ BI a b syms:=by
 have h1:=Li (fun out s=>Ln out s) (Rd (a:=a) (b:=b) h2 ha hb) s hs
 have hidx:∀ {l:List J},(∀ x ∈ l,x ∈ BI a b syms)→∃ is:List Nat,is.length=l.length∧(∀ i ∈ is,i < (BI a b syms).length)∧Ax (BI a b syms) is=l:=fun {l}=>by
  induction l with
  | nil=>intro _;exact ⟨[],rfl,by simp,rfl⟩
  | cons x l ih =>
   intro hm
   obtain ⟨is,q1,q2,q3⟩:=ih fun y hy=>hm y (by simp [hy])
   obtain ⟨i,hi⟩:=List.getElem?_of_mem (hm x (by simp))
   refine ⟨i :: is,by simp [q1],fun j hj=>?_,?_⟩
   ·rcases List.mem_cons.1 hj with rfl | hj
    ·exact (List.getElem?_eq_some_iff.1 hi).1
    ·exact q2 j hj
   ·show (BI a b syms).getD i ([],[]) :: Ax _ is=_
    rw [q3,List.getD_eq_getElem?_getD,hi]
    rfl
 obtain ⟨is,q1,q2,q3⟩:=hidx hm
 have h3:=Li (fun out l=>Gc out l) h1 is ((EI (h2 s hs)).2 ⟨by omega,q2⟩)
 unfold Ds at h3
 rw [q3] at h3
 unfold Lr at h3
 split at h3
 ·assumption
 ·exact absurd (congrArg List.length h3) (by simp)
theorem Pm (h2:∀ s ∈ syms,s.2≤2) (ha:a.states≤3) (hb:b.states≤3) {j:J} (h:Gen a b syms j):j ∈ BI a b syms:=by
 induction h with
 | mk hs hl _ ih=>exact Eo h2 ha hb hs hl ih
theorem Hk (h2:∀ s ∈ syms,s.2≤2) (ha:a.states≤3) (hb:b.states≤3) {j:J}:j ∈ BI a b syms ↔ Gen a b syms j :=
 ⟨(Gn h2).gen j,Pm h2 ha hb⟩
end

def Ar (a:Au):Bool:=decide (a.states≤3) && a.moves.all fun m=>decide (m.frm.length≤2)
def DI (l:List Au):Int:=if l.all Ar=true then 0 else 3
def Au.fin (a:Au) (x:List Bool):Bool:=a.last.any fun s=>x.getD s.toNat false
theorem KT {a:Au} (ga:a.Good) (x:List Bool):(bN x &&& bN a.lastB ≠ 0) ↔ a.fin x=true:=by
 unfold Au.fin
 rw [List.any_eq_true]
 constructor
 ·intro h
  obtain ⟨i,hi⟩:=Nat.exists_testBit_of_ne_zero h
  rw [Nat.testBit_and,BX,BX,Bool.and_eq_true] at hi
  have hl:i < a.states.toNat:=by
   rcases Nat.lt_or_ge i a.lastB.length with q | q
   ·rwa [← a.lastB_length]
   ·have h2:=hi.2
    rw [List.getD_eq_getElem?_getD,List.getElem?_eq_none q] at h2
    cases h2
  rw [a.lastB_get i hl,List.any_eq_true] at hi
  obtain ⟨h1,s,hs,he⟩:=hi
  exact ⟨s,hs,by rw [of_decide_eq_true he];exact h1⟩
 ·rintro ⟨s,hs,h⟩ h0
  have hb:=ga.last s hs
  have:=congrArg (fun n=>Nat.testBit n s.toNat) h0
  simp only [Nat.testBit_and,BX,Nat.zero_testBit] at this
  rw [h,a.lastB_get _ (by omega),Bool.true_and,List.any_eq_false] at this
  exact this s hs (by simp)
inductive Vv (syms:List Sym):Tm→Prop
 | mk {n:ByteArray} {ts:List Tm}:(n,ts.length) ∈ syms→(∀ t ∈ ts,Vv syms t)→Vv syms (.mk n ts)
section
variable {a b:Au} {syms:List Sym}
theorem Xf {t:Tm} (h:Vv syms t):Gen a b syms (a.ends t,b.ends t):=by
 induction h with
 | @mk n ts hs _ ih =>
  have:=Gen.mk (a:=a) (b:=b) (s:=(n,ts.length)) (l:=ts.map fun t=>(a.ends t,b.ends t)) hs (by simp) fun x hx=>by
   obtain ⟨t,ht,rfl⟩:=List.mem_map.1 hx
   exact ih t ht
  have e:nxt a b n (ts.map fun t=>(a.ends t,b.ends t))=(a.ends (.mk n ts),b.ends (.mk n ts)):=by
   unfold nxt
   rw [Au.ends_eq,Au.ends_eq,Au.endsL_eq,Au.endsL_eq,List.map_map,List.map_map]
   rfl
  rw [e] at this
  exact this
end
noncomputable def IM (a b:Au):Bool:=(BI a b (Ao [a,b])).all fun j=>!(a.fin j.1 && !b.fin j.2)
theorem K5 {a b:Au} (ha:Ar a=true) (hb:Ar b=true):∀ s ∈ Ao [a,b],s.2≤2:=fun s hs=>by
 obtain ⟨c,hc,m,hm,rfl⟩:=DF.1 hs
 unfold Ar at ha hb
 simp only [Bool.and_eq_true,List.all_eq_true,decide_eq_true_eq] at ha hb
 simp only [List.mem_cons,List.not_mem_nil,or_false] at hc
 rcases hc with rfl | rfl
 ·exact ha.2 m hm
 ·exact hb.2 m hm
theorem Al {a:Au} (ha:Ar a=true):a.states≤3:=by
 unfold Ar at ha
 simp only [Bool.and_eq_true,decide_eq_true_eq] at ha
 exact ha.1

def Cm:List ByteArray→ByteArray→Nat
 | [],_=>0
 | x :: l,n=>if x=n then 0 else Cm l n + 1
def Ie (l:List ByteArray) (n:ByteArray):List ByteArray:=if Cm l n < l.length then l else l ++ [n]
theorem Eb:∀ {l:List ByteArray} {n:ByteArray},Cm l n < l.length ↔ n ∈ l
 | [],n=>by simp [Cm]
 | x :: l,n=>by
  have ih:=Eb (l:=l) (n:=n)
  unfold Cm
  by_cases e:x=n
  ·subst e;simp
  ·have e':¬ n=x:=fun h=>e h.symm
   rw [if_neg e]
   simp only [List.length_cons,List.mem_cons,e',false_or,← ih]
   omega
theorem LR:∀ {l:List ByteArray} {n:ByteArray},Cm l n < l.length→l[Cm l n]?=some n
 | [],n,h=>by simp at h
 | x :: l,n,h=>by
  unfold Cm at h ⊢
  by_cases e:x=n
  ·rw [if_pos e,e];rfl
  ·rw [if_neg e] at h ⊢
   rw [List.getElem?_cons_succ]
   exact LR (by simpa using h)
theorem PM {l:List ByteArray} {m n:ByteArray} (hm:m ∈ l) (hn:n ∈ l) (h:Cm l m=Cm l n):m=n:=by
 have h1:=LR (Eb.2 hm)
 have h2:=LR (Eb.2 hn)
 rw [h,h2] at h1
 exact (Option.some.inj h1).symm
theorem Pv {l:List ByteArray} {n:ByteArray} (h:n ∈ l) (m:List ByteArray):Cm (l ++ m) n=Cm l n:=by
 induction l with
 | nil=>cases h
 | cons x l ih =>
  rw [List.cons_append]
  unfold Cm
  by_cases e:x=n
  ·rw [if_pos e,if_pos e]
  ·rw [if_neg e,if_neg e]
   rcases List.mem_cons.1 h with h | h
   ·exact absurd h.symm e
   ·rw [ih h]
theorem VT (l:List ByteArray) (n:ByteArray):l <+: Ie l n:=by
 unfold Ie
 split
 ·exact List.prefix_refl _
 ·exact List.prefix_append _ _
theorem QY {l:List ByteArray} {n x:ByteArray}:x ∈ Ie l n ↔ x ∈ l ∨ x=n:=by
 unfold Ie
 split
 ·rename_i h
  have:=Eb.1 h
  constructor
  ·exact .inl
  ·rintro (h | rfl)
   ·exact h
   ·exact this
 ·simp
theorem Rs {l:List ByteArray} {n:ByteArray} (h:l.Nodup):(Ie l n).Nodup:=by
 unfold Ie
 split
 ·exact h
 ·rename_i hm
  rw [List.nodup_append]
  exact ⟨h,by simp,fun x hx y hy e=>hm (Eb.2 (by rw [← List.mem_singleton.1 hy,← e];exact hx))⟩
theorem EN {α:Type}:∀ {l m:List α},l.Nodup→(∀ x ∈ l,x ∈ m)→l.length≤m.length
 | [],m,_,_=>Nat.zero_le _
 | x :: l,m,hn,hs=>by
  obtain ⟨h1,h2⟩:=List.nodup_cons.1 hn
  obtain ⟨p,q,hpq⟩:=List.append_of_mem (hs x (by simp))
  subst hpq
  have:=EN (m:=p ++ q) h2 fun y hy=>by
   have h3:=hs y (by simp [hy])
   have hne:¬ y=x:=fun e=>h1 (by rw [← e];exact hy)
   simp only [List.mem_append,List.mem_cons,hne,false_or] at h3 ⊢
   exact h3
  simp only [List.length_cons,List.length_append] at this ⊢
  omega
section
variable (a:Au) (syms:List Sym) (R:List J)
def stp (n:ByteArray) (l:List Nat):Nat:=(R.map Prod.fst).idxOf (a.ending n ((Ax R l).map Prod.fst))
def HV (part:List Nat) (n:ByteArray) (i:Nat) (key:List Nat) (l:List Nat):List Nat:=key ++ (List.range l.length).map fun k=>part.getD (stp a R n (l.set k i)) 0
def L2 (part:List Nat) (i:Nat) (key:List Nat) (s:Sym):List Nat:=(Cx R.length s.2).foldl (HV a R part s.1 i) key
def sig (part:List Nat) (i:Nat):List Nat:=syms.foldl (L2 a R part i) [part.getD i 0]
def Bo (l:List Nat):ByteArray:=⟨(l.map fun p=>UInt8.ofNat (p + 1)).toArray⟩
def Bi (part:List Nat) (k:Nat):List ByteArray:=(List.range k).foldl (fun L i=>Ie L (Bo (sig a syms R part i))) []
def fresh (part:List Nat):List Nat:=(List.range R.length).map fun i=>Cm (Bi a syms R part R.length) (Bo (sig a syms R part i))
def Ek:List Nat:=R.map fun j=>if a.fin j.1=true then 1 else 0
def A0:Nat→List Nat
 | 0=>Ek a R
 | t + 1=>fresh a syms R (A0 t)
def nK (t:Nat):Nat:=(Bi a syms R (A0 a syms R t) R.length).length
def Ct:Nat→Nat
 | 0=>0
 | t + 1=>nK a syms R t
end
section
variable {a:Au} {syms:List Sym} {R:List J}
theorem D8 {part:List Nat} (k:Nat):Bi a syms R part (k + 1)=Ie (Bi a syms R part k) (Bo (sig a syms R part k)):=by
 unfold Bi
 rw [List.range_succ,List.foldl_append]
 rfl
theorem Bh {part:List Nat}:∀ {k:Nat} {x:ByteArray},x ∈ Bi a syms R part k ↔ ∃ i,i < k∧x=Bo (sig a syms R part i)
 | 0,x=>by simp [Bi]
 | k + 1,x=>by
  rw [D8,QY,Bh]
  constructor
  ·rintro (⟨i,h1,h2⟩ | h)
   ·exact ⟨i,by omega,h2⟩
   ·exact ⟨k,by omega,h⟩
  ·rintro ⟨i,h1,h2⟩
   rcases Nat.lt_or_ge i k with h | h
   ·exact .inl ⟨i,h,h2⟩
   ·have:i=k:=by omega
    subst this
    exact .inr h2
theorem Dg {part:List Nat}:∀ {k:Nat},(Bi a syms R part k).Nodup
 | 0=>List.nodup_nil
 | k + 1=>by rw [D8];exact Rs Dg
theorem D4 {part:List Nat}:∀ {k:Nat},(Bi a syms R part k).length≤k
 | 0=>Nat.le_refl _
 | k + 1=>by
  rw [D8]
  have:=D4 (part:=part) (k:=k)
  unfold Ie
  split
  ·omega
  ·simp;omega
theorem MW {part:List Nat} {k:Nat}:∀ d,Bi a syms R part k <+: Bi a syms R part (k + d)
 | 0=>List.prefix_refl _
 | d + 1=>(MW d).trans (by rw [show k + (d + 1)=(k + d) + 1 from rfl,D8];exact VT _ _)
theorem VS {part:List Nat} {k i:Nat} (hi:i < k) (hk:k≤R.length):Cm (Bi a syms R part R.length) (Bo (sig a syms R part i))=Cm (Bi a syms R part k) (Bo (sig a syms R part i)):=by
 obtain ⟨d,hd⟩:=Nat.exists_eq_add_of_le hk
 obtain ⟨r,hr⟩:=MW (a:=a) (syms:=syms) (R:=R) (part:=part) (k:=k) d
 rw [hd,← hr]
 exact Pv (Bh.2 ⟨i,hi,rfl⟩) r
theorem JF {part:List Nat}:(fresh a syms R part).length=R.length:=by simp [fresh]
theorem DP {part:List Nat} {i:Nat} (hi:i < R.length):(fresh a syms R part).getD i 0=Cm (Bi a syms R part R.length) (Bo (sig a syms R part i)):=by
 unfold fresh
 rw [List.getD_eq_getElem?_getD,List.getElem?_map,List.getElem?_range hi]
 rfl
theorem UB {part:List Nat} {i:Nat} (hi:i < R.length):(fresh a syms R part).getD i 0 < R.length:=by
 rw [DP hi]
 exact Nat.lt_of_lt_of_le (Eb.2 (Bh.2 ⟨i,hi,rfl⟩)) D4
theorem NU:(Ek a R).length=R.length:=by simp [Ek]
theorem Su:∀ t,(A0 a syms R t).length=R.length
 | 0=>NU
 | t + 1=>JF
theorem Fy (i:Nat):∀ t,(A0 a syms R t).getD i 0≤R.length
 | 0=>by
  unfold A0 Ek
  rw [List.getD_eq_getElem?_getD,List.getElem?_map]
  rcases Nat.lt_or_ge i R.length with h | h
  ·rw [List.getElem?_eq_getElem h,Option.map_some,Option.getD_some]
   split <;> omega
  ·rw [List.getElem?_eq_none h]
   simp
 | t + 1=>by
  rcases Nat.lt_or_ge i R.length with h | h
  ·exact Nat.le_of_lt (UB h)
  ·unfold A0
   rw [List.getD_eq_getElem?_getD,List.getElem?_eq_none (by rw [JF];exact h)]
   exact Nat.zero_le _
theorem Ia:∀ {l m:List Nat},(∀ x ∈ l,x < 100)→(∀ x ∈ m,x < 100)→Bo l=Bo m→l=m:=fun {l m} hl hm h=>by
 have h1:l.map (fun p=>UInt8.ofNat (p + 1))=m.map (fun p=>UInt8.ofNat (p + 1)):=by
  have h2:=congrArg (fun b:ByteArray=>b.data.toList) h
  simpa [Bo] using h2
 have hlen:l.length=m.length:=by simpa using congrArg List.length h1
 refine List.ext_getElem hlen fun i p q=>?_
 have h3:=congrArg (fun k:List UInt8=>k[i]?) h1
 simp only [List.getElem?_map,List.getElem?_eq_getElem p,List.getElem?_eq_getElem q,Option.map_some,Option.some.injEq] at h3
 have a1:=hl _ (List.getElem_mem p)
 have a2:=hm _ (List.getElem_mem q)
 have h4:=congrArg UInt8.toNat h3
 rw [UInt8.toNat_ofNat',UInt8.toNat_ofNat'] at h4
 omega
theorem V3 {part:List Nat} {B:Nat} (hp:∀ i,part.getD i 0≤B) {n:ByteArray} {i:Nat} {key:List Nat} (h:∀ x ∈ key,x≤B) (l:List Nat):∀ x ∈ HV a R part n i key l,x≤B:=fun x hx=>by
 unfold HV at hx
 rcases List.mem_append.1 hx with hx | hx
 ·exact h x hx
 ·obtain ⟨k,_,rfl⟩:=List.mem_map.1 hx
  exact hp _
theorem JW {α:Type} {f:List Nat→α→List Nat} {B:Nat} (hf:∀ key x,(∀ y ∈ key,y≤B)→∀ y ∈ f key x,y≤B):∀ (l:List α) (key:List Nat),(∀ y ∈ key,y≤B)→∀ y ∈ l.foldl f key,y≤B
 | [],key,h=>h
 | x :: l,key,h=>JW hf l (f key x) (hf key x h)
theorem KA {part:List Nat} {B:Nat} (hp:∀ i,part.getD i 0≤B) (i:Nat):∀ x ∈ sig a syms R part i,x≤B :=
 JW (fun key s h=>JW (fun key l h=>V3 hp h l) _ _ h) _ _ fun y hy=>by
  rw [List.mem_singleton.1 hy]
  exact hp i
theorem Hb {α:Type} {f:List Nat→α→List Nat} (hf:∀ key x,key <+: f key x):∀ (l:List α) (key:List Nat),key <+: l.foldl f key
 | [],key=>List.prefix_refl _
 | x :: l,key=>(hf key x).trans (Hb hf l (f key x))
theorem QV (part:List Nat) (i:Nat):[part.getD i 0] <+: sig a syms R part i :=
 Hb (fun key s=>Hb (fun key l=>List.prefix_append _ _) _ _) _ _
theorem Lk {part:List Nat} {i j:Nat} (h:sig a syms R part i=sig a syms R part j):part.getD i 0=part.getD j 0:=by
 obtain ⟨r,hr⟩:=QV (a:=a) (syms:=syms) (R:=R) part i
 obtain ⟨s,hs⟩:=QV (a:=a) (syms:=syms) (R:=R) part j
 rw [← hr,← hs] at h
 exact (List.cons.inj h).1
theorem Jj (h64:R.length≤64) {t i j:Nat} (hi:i < R.length) (hj:j < R.length) (h:Bo (sig a syms R (A0 a syms R (t + 1)) i)=Bo (sig a syms R (A0 a syms R (t + 1)) j)):Bo (sig a syms R (A0 a syms R t) i)=Bo (sig a syms R (A0 a syms R t) j):=by
 have hb:∀ i,∀ x ∈ sig a syms R (A0 a syms R (t + 1)) i,x < 100:=fun i x hx=>by
  have:=KA (fun k=>Fy k (t + 1)) i x hx
  omega
 have h1:=Lk (Ia (hb i) (hb j) h)
 rw [show A0 a syms R (t + 1)=fresh a syms R (A0 a syms R t) from rfl,DP hi,DP hj] at h1
 exact PM (Bh.2 ⟨i,hi,rfl⟩) (Bh.2 ⟨j,hj,rfl⟩) h1
theorem Og {k:Nat} {f g:Nat→ByteArray} {F G:List ByteArray} (hG:G.Nodup) (hF:∀ i,i < k→f i ∈ F) (hg:∀ x ∈ G,∃ i,i < k∧x=g i) (h:∀ i j,i < k→j < k→f i=f j→g i=g j):G.length≤F.length:=by
 obtain ⟨c,hc⟩:=Classical.axiomOfChoice (r:=fun (x:ByteArray) i=>x ∈ G→i < k∧x=g i) fun x=>by
  by_cases hx:x ∈ G
  ·obtain ⟨i,h1,h2⟩:=hg x hx
   exact ⟨i,fun _=>⟨h1,h2⟩⟩
  ·exact ⟨0,fun h=>absurd h hx⟩
 have:=EN (l:=G.map fun x=>f (c x)) (m:=F) ?_ ?_
 ·simpa using this
 ·rw [List.nodup_iff_pairwise_ne,List.pairwise_map]
  rw [List.nodup_iff_pairwise_ne,List.pairwise_iff_getElem] at hG
  rw [List.pairwise_iff_getElem]
  intro i j hi hj hij e
  obtain ⟨p1,p2⟩:=hc _ (List.getElem_mem hi)
  obtain ⟨q1,q2⟩:=hc _ (List.getElem_mem hj)
  refine hG i j hi hj hij ?_
  rw [p2,q2]
  exact h _ _ p1 q1 e
 ·intro x hx
  obtain ⟨y,hy,rfl⟩:=List.mem_map.1 hx
  exact hF _ (hc y hy).1
theorem WI (h64:R.length≤64) (t:Nat):nK a syms R t≤nK a syms R (t + 1) :=
 Og (k:=R.length) (f:=fun i=>Bo (sig a syms R (A0 a syms R (t + 1)) i)) (g:=fun i=>Bo (sig a syms R (A0 a syms R t) i)) Dg (fun i hi=>Bh.2 ⟨i,hi,rfl⟩) (fun x hx=>Bh.1 hx) fun i j hi hj h=>Jj h64 hi hj h
theorem UD (h64:R.length≤64):∃ T,T≤65∧nK a syms R T=Ct a syms R T∧∀ t,t < T→¬ nK a syms R t=Ct a syms R t:=by
 have key:∀ n,(∃ T,T≤n∧nK a syms R T=Ct a syms R T∧∀ t,t < T→¬ nK a syms R t=Ct a syms R t) ∨ (n + 1≤nK a syms R n∧∀ t,t≤n→¬ nK a syms R t=Ct a syms R t):=fun n=>by
  induction n with
  | zero =>
   by_cases h:nK a syms R 0=Ct a syms R 0
   ·exact .inl ⟨0,Nat.le_refl _,h,fun t ht=>by omega⟩
   ·refine .inr ⟨?_,fun t ht=>by rw [show t=0 by omega];exact h⟩
    have h0:Ct a syms R 0=0:=rfl
    omega
  | succ n ih =>
   rcases ih with ⟨T,h1,h2,h3⟩ | ⟨h1,h2⟩
   ·exact .inl ⟨T,by omega,h2,h3⟩
   ·by_cases h:nK a syms R (n + 1)=Ct a syms R (n + 1)
    ·exact .inl ⟨n + 1,Nat.le_refl _,h,fun t ht=>h2 t (by omega)⟩
    ·refine .inr ⟨?_,fun t ht=>?_⟩
     ·have:=WI (a:=a) (syms:=syms) h64 n
      have h4:Ct a syms R (n + 1)=nK a syms R n:=rfl
      omega
     ·rcases Nat.lt_or_ge t (n + 1) with h5 | h5
      ·exact h2 t (by omega)
      ·rw [show t=n + 1 by omega];exact h
 rcases key 65 with h | ⟨h,_⟩
 ·exact h
 ·have:=D4 (a:=a) (syms:=syms) (R:=R) (part:=A0 a syms R 65) (k:=R.length)
  unfold nK at h
  omega
end

end Go.Proofs.Ytkegjgodjigjfaa
