/-
  Part 9 of the texts. Conditions: none.
-/
import Derived.Test.YtbhnmjkmieiadaaGreatDoord18
import Derived.Shelf.Strconv.Itoa3
import Derived.Shelf.SlSortCmp.WholeK
import Derived.Shelf.SlSortCmp.NoneTotal
import Derived.Test.YtbhnmjkmieiadaaGreatDoorProg
import Derived.Lib.AppendIntMem
import Derived.Lib.ItoaLen
import Derived.Lib.ItoaMem
namespace Go.Proofs.YtbhnmjkmieiadaaGreatDoor
open Go Go.RowKit
set_option linter.unusedVariables false
set_option linter.unusedSimpArgs false
set_option maxHeartbeats 800000
theorem XS (l:List Bd) (n:ByteArray) (i0:Nat) (hi0:i0≤l.length) (h40:l.length≤100000) (hlo:∀ k b,l[k]?=some b→k < i0→sLt b.1 n=true) (hhi:∀ k b,l[k]?=some b→i0≤k→sLt b.1 n=false) (r:Nat) (hr:1000≤r) (S:AA) (sr:S r=some (BR l)) :
  As Tryz.prog 142 [.one (.row r l.length),Bt n,.one (.fn 143 [])] S (.tup [AO i0,Aa (CO l n i0)]) S:=by
 have hplain:CC Tryz.prog 143=true:=by kernel_rfl
 refine BB.acS fun hS C hC=>?_
 unfold Aq
 repeat' with_reducible first | refine W ?_ | refine Z0 ?_ | ((first | refine Wo fun K hK=>?_ | refine Wq ?_ | refine Wr ?_);(try simp only [go_sem,fN,seval,eT,iR,sr]);(repeat refine Ai ?_);(try (refine hK _ ?_;clear hK K)))
 refine IWP.loop (fun m s=>∃ i j:Nat,i≤i0∧i0≤j∧j≤l.length∧m=j - i∧s.env 0=.one (.row r l.length)∧s.env 1=Bt n∧s.env 2=.one (.fn 143 [])∧s.env 8=AO l.length∧s.env 9=AO i∧s.env 10=AO j∧s.S=S) l.length ⟨0,l.length,Nat.zero_le _,hi0,Nat.le_refl _,rfl,rfl,rfl,rfl,rfl,rfl,rfl,rfl⟩ ?_
 rintro m ⟨env,S1⟩ ⟨i,j,hi,hj,hjl,rfl,e0,e1,e2,e8,e9,e10,hS1⟩
 simp only at e0 e1 e2 e8 e9 e10 hS1
 subst hS1
 by_cases hlt:(i:Int) < j
 ·obtain ⟨z1,z2,z3⟩:=AAd (show i < j by omega)
  obtain ⟨b,hb⟩:=Ag (show (i + j) / 2 < l.length by omega)
  repeat' with_reducible first | refine W ?_ | refine Z0 ?_ | ((first | refine Wo fun K hK=>?_ | refine Wq ?_ | refine Wr ?_);(try simp only [go_sem,fN,seval,eT,iR,e0,e1,e2,e8,e9,e10,hlt,sr]);(repeat refine Ai ?_);(try (refine hK _ ?_;clear hK K)))
  with_reducible refine Wp ?_
  simp only [go_sem,fN,seval,true_implies,false_implies,implies_true,dT,dF,nL,hlt]
  (try with_reducible refine iC ?_)
  have hbits:(1:Nat)≤IntKind.u64.bits:=by show 1≤64;omega
  have hz0:(0:Int)≤(((i + j) / 2:Nat):Int):=Int.natCast_nonneg _
  repeat' with_reducible first | refine W ?_ | refine Z0 ?_ | ((first | refine Wo fun K hK=>?_ | refine Wq ?_ | refine Wr ?_);(try simp only [go_sem,fN,seval,eT,iR,e0,e1,e2,e8,e9,e10,hlt,z1,z3,Hd,hbits,hb,C3,hplain,sr]);(repeat refine Ai ?_);(try (refine hK _ ?_;clear hK K)))
  refine ⟨_,_,LQ b n _,?_⟩
  cases hc:sLt b.1 n with
  | true =>
   have hneg:DG b.1 n < 0:=CU.2 hc
   repeat' with_reducible first | refine W ?_ | refine Z0 ?_ | ((first | refine Wo fun K hK=>?_ | refine Wq ?_ | refine Wr ?_);(try simp only [go_sem,fN,seval,eT,iR,hneg]);(repeat refine Ai ?_);(try (refine hK _ ?_;clear hK K)))
   with_reducible refine Wp ?_
   simp only [go_sem,fN,seval,true_implies,false_implies,implies_true,dT,dF,nL,hneg]
   (try with_reducible refine iC ?_)
   repeat' with_reducible first | refine W ?_ | refine Z0 ?_ | ((first | refine Wo fun K hK=>?_ | refine Wq ?_ | refine Wr ?_);(try simp only [go_sem,fN,seval,eT,iR,e0,e1,e2,e8,e9,e10]);(repeat refine Ai ?_);(try (refine hK _ ?_;clear hK K)))
   refine AI ⟨j - ((i + j) / 2 + 1),by omega,(i + j) / 2 + 1,j,?_,hj,hjl,rfl,?_⟩
   ·rcases Nat.lt_or_ge ((i + j) / 2) i0 with h | h
    ·omega
    ·rw [hhi _ b hb h] at hc;cases hc
   ·simp only [go_sem,fN,seval,eT,iR,e0,e1,e2,e8,e9,e10]
    congr 3
  | false =>
   have hneg:¬ DG b.1 n < 0:=fun h=>by rw [CU.1 h] at hc;cases hc
   repeat' with_reducible first | refine W ?_ | refine Z0 ?_ | ((first | refine Wo fun K hK=>?_ | refine Wq ?_ | refine Wr ?_);(try simp only [go_sem,fN,seval,eT,iR,hneg]);(repeat refine Ai ?_);(try (refine hK _ ?_;clear hK K)))
   with_reducible refine Wp ?_
   simp only [go_sem,fN,seval,true_implies,false_implies,implies_true,dT,dF,nL,hneg]
   (try with_reducible refine iC ?_)
   repeat' with_reducible first | refine W ?_ | refine Z0 ?_ | ((first | refine Wo fun K hK=>?_ | refine Wq ?_ | refine Wr ?_);(try simp only [go_sem,fN,seval,eT,iR,e0,e1,e2,e8,e9,e10]);(repeat refine Ai ?_);(try (refine hK _ ?_;clear hK K)))
   refine AI ⟨(i + j) / 2 - i,by omega,i,(i + j) / 2,hi,?_,by omega,rfl,?_⟩
   ·rcases Nat.lt_or_ge ((i + j) / 2) i0 with h | h
    ·rw [hlo _ b hb h] at hc;cases hc
    ·omega
   ·simp only [go_sem,fN,seval,eT,iR,e0,e1,e2,e8,e9,e10]
 ·have hii:i=i0:=by omega
  subst hii
  have hjj:j=i:=by omega
  subst hjj
  repeat' with_reducible first | refine W ?_ | refine Z0 ?_ | ((first | refine Wo fun K hK=>?_ | refine Wq ?_ | refine Wr ?_);(try simp only [go_sem,fN,seval,eT,iR,e0,e1,e2,e8,e9,e10,hlt,sr]);(repeat refine Ai ?_);(try (refine hK _ ?_;clear hK K)))
  with_reducible refine Wp ?_
  simp only [go_sem,fN,seval,true_implies,false_implies,implies_true,dT,dF,nL,hlt]
  (try with_reducible refine iC ?_)
  by_cases hil:(j:Int) < l.length
  ·have hil':j < l.length:=by omega
   obtain ⟨b,hb⟩:=Ag hil'
   repeat' with_reducible first | refine W ?_ | refine Z0 ?_ | ((first | refine Wo fun K hK=>?_ | refine Wq ?_ | refine Wr ?_);(try simp only [go_sem,fN,seval,eT,iR,e0,e1,e2,e8,e9,e10,hil,hil',hb,C3,hplain,sr]);(repeat refine Ai ?_);(try (refine hK _ ?_;clear hK K)))
   refine ⟨_,_,LQ b n _,?_⟩
   repeat' with_reducible first | refine W ?_ | refine Z0 ?_ | ((first | refine Wo fun K hK=>?_ | refine Wq ?_ | refine Wr ?_);(try simp only [go_sem,fN,seval,eT,iR]);(repeat refine Ai ?_);(try (refine hK _ ?_;clear hK K)))
   refine Av (.tup [AO j,Aa (CO l n j)]) hS trivial ?_ ?_ fun _ _=>rfl
   ·simp only [go_sem,fN,seval,eT,iR,AB,AD,AK,e9,e10]
    unfold CO
    rw [hb]
    simp only [Oj]
   ·rfl
  ·repeat' with_reducible first | refine W ?_ | refine Z0 ?_ | ((first | refine Wo fun K hK=>?_ | refine Wq ?_ | refine Wr ?_);(try simp only [go_sem,fN,seval,eT,iR,e0,e1,e2,e8,e9,e10,hil]);(repeat refine Ai ?_);(try (refine hK _ ?_;clear hK K)))
   refine Av (.tup [AO j,Aa (CO l n j)]) hS trivial ?_ ?_ fun _ _=>rfl
   ·simp only [go_sem,fN,seval,eT,iR,AB,AD,AK,e9,e10]
    unfold CO
    rw [List.getElem?_eq_none (by omega)]
   ·rfl
theorem XY (l:List Bd) (h40:l.length≤100000) (ho:BH l) (n:ByteArray) (r:Nat) (hr:1000≤r) (S:AA) (sr:S r=some (BR l)):As Tryz.prog 135 [.one (.row r l.length),Bt n] S (.tup [aTm ((lookup l n).getD Tm.nil),Aa (lookup l n).isSome]) S:=by
 obtain ⟨i,hi,hlo,hhi,_⟩:=Qb l h40 ho n
 refine Ls.acS fun hS C hC=>?_
 unfold HJ
 have n4:S 4=none:=AP hS (by omega)
 have r4:¬ r=4:=by omega
 repeat' with_reducible first | refine W ?_ | refine Z0 ?_ | ((first | refine Wo fun K hK=>?_ | refine Wq ?_ | refine Wr ?_);(try simp only [go_sem,fN,seval,eT,iR,n4]);(repeat refine Ai ?_);(try (refine hK _ ?_;clear hK K)))
 refine ⟨_,[(r,BR l)],DX (by (simp only [go_sem,fN,seval,eT,iR,r4,sr])),fun T hT=>XS l n i hi h40 hlo hhi (up1 r) (At r) (upS T) (by rw [A0,hT _ (List.mem_singleton.2 rfl)];rfl),?_⟩
 rcases JD hlo hhi ho with ⟨b,hb,he,hl⟩ | ⟨hf,hl⟩
 ·have hf:CO l n i=true:=by unfold CO;rw [hb];exact decide_eq_true he
  have hil:=CW hb
  repeat' with_reducible first | refine W ?_ | refine Z0 ?_ | ((first | refine Wo fun K hK=>?_ | refine Wq ?_ | refine Wr ?_);(try simp only [go_sem,fN,seval,eT,iR,hf]);(repeat refine Ai ?_);(try (refine hK _ ?_;clear hK K)))
  with_reducible refine Wp ?_
  simp only [go_sem,fN,seval,true_implies,false_implies,implies_true,dT,dF,nL,hf]
  (try with_reducible refine iC ?_)
  repeat' with_reducible first | refine W ?_ | refine Z0 ?_ | ((first | refine Wo fun K hK=>?_ | refine Wq ?_ | refine Wr ?_);(try simp only [go_sem,fN,seval,eT,iR,hb,C3,sr,r4,hil]);(repeat refine Ai ?_);(try (refine hK _ ?_;clear hK K)))
  refine Av (.tup [aTm b.2,Aa true]) hS trivial ?_ ?_ fun k hk=>?_
  ·simp only [go_sem,fN,seval,eT,iR,AB,AD,AK]
  ·simp only [go_sem,fN,seval,eT,iR]
   rw [hl]
   rfl
  ·have k4:¬ k=4:=by omega
   simp only [go_sem,fN,seval,eT,iR,k4]
 ·repeat' with_reducible first | refine W ?_ | refine Z0 ?_ | ((first | refine Wo fun K hK=>?_ | refine Wq ?_ | refine Wr ?_);(try simp only [go_sem,fN,seval,eT,iR,hf]);(repeat refine Ai ?_);(try (refine hK _ ?_;clear hK K)))
  with_reducible refine Wp ?_
  simp only [go_sem,fN,seval,true_implies,false_implies,implies_true,dT,dF,nL,hf]
  (try with_reducible refine iC ?_)
  repeat' with_reducible first | refine W ?_ | refine Z0 ?_ | ((first | refine Wo fun K hK=>?_ | refine Wq ?_ | refine Wr ?_);(try simp only [go_sem,fN,seval,eT,iR]);(repeat refine Ai ?_);(try (refine hK _ ?_;clear hK K)))
  refine Av (.tup [.agg [.st (.str ⟨#[]⟩),.full []],Aa false]) hS trivial ?_ ?_ fun k hk=>?_
  ·simp only [go_sem,fN,seval,eT,iR,AB,AD,AK]
  ·simp only [go_sem,fN,seval,eT,iR]
   rw [hl]
   rfl
  ·have k4:¬ k=4:=by omega
   simp only [go_sem,fN,seval,eT,iR,k4]
abbrev EU (r n:Nat) (left:Int):AL:=.box 150 [.row r n,.st (.int .i64 left)]
theorem MV (s:List Bd) (h40:s.length≤100000) (ho:BH s) (turn:Bool) (f:Tm→Tm) (t:Tm) (hl:turn=true→lookup s t.name=none)
  (ih:∀ a ∈ t.args,∀ (a0 r:Nat) (left:Int) (S:AA),1000≤a0→1000≤r→¬ r=a0→0≤left→left≤1000000→S a0=some (EU r s.length left)→S r=some (BR s) →
   As Tryz.prog 126 [.one (.ptr a0 1 0 0),aTm a,Aa turn] S (aTm (DE (f a) left).1) (AG S a0 (some (EU r s.length (DE (f a) left).2))))
  (a0 r:Nat) (left:Int) (S:AA) (ha0:1000≤a0) (hr0:1000≤r) (hra:¬ r=a0) (h0:0≤left) (h1:left≤1000000) (hSa:S a0=some (EU r s.length left)) (hSr:S r=some (BR s)) :
  As Tryz.prog 126 [.one (.ptr a0 1 0 0),aTm t,Aa turn] S (aTm (DE (.mk t.name (t.args.map f)) left).1) (AG S a0 (some (EU r s.length (DE (.mk t.name (t.args.map f)) left).2))):=by
 refine CA.acS fun hS C hC=>?_
 have hu:(Tm.mk t.name (t.args.map f)).size=1 + Tm.sizes (t.args.map f):=rfl
 have hlen:=Tm.length_le (t.args.map f)
 rw [List.length_map] at hlen
 have hhigh:∀ left,(EU r s.length left).high=true:=fun left=>by
  show ((AC.row r s.length).high && AC.highs [.st (.int .i64 left)])=true
  rw [It hr0]
  rfl
 have n4:S 4=none:=AP hS (by omega)
 have n6:S 6=none:=AP hS (by omega)
 have n7:S 7=none:=AP hS (by omega)
 have n9:S 9=none:=AP hS (by omega)
 have n11:S 11=none:=AP hS (by omega)
 have n900:S 900=none:=AP hS (by omega)
 have d4:¬ 4=a0:=by omega
 have d6:¬ 6=a0:=by omega
 have d7:¬ 7=a0:=by omega
 have d9:¬ 9=a0:=by omega
 have d11:¬ 11=a0:=by omega
 have d900:¬ 900=a0:=by omega
 have e4:¬ a0=4:=by omega
 have e6:¬ a0=6:=by omega
 have e7:¬ a0=7:=by omega
 have e9:¬ a0=9:=by omega
 have e11:¬ a0=11:=by omega
 have e900:¬ a0=900:=by omega
 have f4:¬ r=4:=by omega
 have f6:¬ r=6:=by omega
 have f7:¬ r=7:=by omega
 have f9:¬ r=9:=by omega
 have f11:¬ r=11:=by omega
 have f900:¬ r=900:=by omega
 unfold BU
 cases turn
 case' false =>
  repeat' with_reducible first | refine W ?_ | refine Z0 ?_ | ((first | refine Wo fun K hK=>?_ | refine Wq ?_ | refine Wr ?_);(try simp only [go_sem,fN,seval,eT,iR,hSa,n4,n6,n7,d4,d6,d7,e4,e6,e7]);(repeat refine Ai ?_);(try (refine hK _ ?_;clear hK K)))
  with_reducible refine Wp ?_
  simp only [go_sem,fN,seval,true_implies,false_implies,implies_true,dT,dF,nL]
  (try with_reducible refine iC ?_)
  repeat' with_reducible first | refine W ?_ | refine Z0 ?_ | ((first | refine Wo fun K hK=>?_ | refine Wq ?_ | refine Wr ?_);(try simp only [go_sem,fN,seval,eT,iR,hSa,n4,n6,n7,n9,d4,d6,d7,d9,e4,e6,e7,e9]);(repeat refine Ai ?_);(try (refine hK _ ?_;clear hK K)))
 case' true =>
  have hln:=hl rfl
  repeat' with_reducible first | refine W ?_ | refine Z0 ?_ | ((first | refine Wo fun K hK=>?_ | refine Wq ?_ | refine Wr ?_);(try simp only [go_sem,fN,seval,eT,iR,hSa,n4,n6,n7,d4,d6,d7,e4,e6,e7]);(repeat refine Ai ?_);(try (refine hK _ ?_;clear hK K)))
  with_reducible refine Wp ?_
  simp only [go_sem,fN,seval,true_implies,false_implies,implies_true,dT,dF,nL]
  (try with_reducible refine iC ?_)
  repeat' with_reducible first | refine W ?_ | refine Z0 ?_ | ((first | refine Wo fun K hK=>?_ | refine Wq ?_ | refine Wr ?_);(try simp only [go_sem,fN,seval,eT,iR,hSa,n4,n6,n7,d4,d6,d7,e4,e6,e7]);(repeat refine Ai ?_);(try (refine hK _ ?_;clear hK K)))
  refine ⟨_,[(r,BR s)],DX (by (simp only [go_sem,fN,seval,eT,iR,f4,f6,f7,hSr])),fun T hT=>XY s h40 ho t.name (up1 r) (At r) (upS T) (by rw [A0,hT _ (List.mem_singleton.2 rfl)];rfl),?_⟩
  repeat' with_reducible first | refine W ?_ | refine Z0 ?_ | ((first | refine Wo fun K hK=>?_ | refine Wq ?_ | refine Wr ?_);(try simp only [go_sem,fN,seval,eT,iR,hln,n7]);(repeat refine Ai ?_);(try (refine hK _ ?_;clear hK K)))
  with_reducible refine Wp ?_
  simp only [go_sem,fN,seval,true_implies,false_implies,implies_true,dT,dF,nL]
  (try with_reducible refine iC ?_)
  repeat' with_reducible first | refine W ?_ | refine Z0 ?_ | ((first | refine Wo fun K hK=>?_ | refine Wq ?_ | refine Wr ?_);(try simp only [go_sem,fN,seval,eT,iR,hSa,n4,n6,n7,n9,d4,d6,d7,d9,e4,e6,e7,e9]);(repeat refine Ai ?_);(try (refine hK _ ?_;clear hK K)))
 all_goals
  by_cases hz:left=0
  ·subst hz
   have hno:¬ ((Tm.mk t.name (t.args.map f)).size:Int)≤0:=by rw [hu];omega
   rw [Dz hno]
   with_reducible refine Wp ?_
   simp only [go_sem,fN,seval,true_implies,false_implies,implies_true,dT,dF,nL]
   (try with_reducible refine iC ?_)
   repeat' with_reducible first | refine W ?_ | refine Z0 ?_ | ((first | refine Wo fun K hK=>?_ | refine Wq ?_ | refine Wr ?_);(try simp only [go_sem,fN,seval,eT,iR,hSa,n4,n6,n7,n9,d4,d6,d7,d9,e4,e6,e7,e9]);(repeat refine Ai ?_);(try (refine hK _ ?_;clear hK K)))
   refine Bg (.agg [.st (.str ⟨#[]⟩),.full []]) hS ha0 (hhigh _) trivial ?_ ?_ ?_ fun i hi hne=>?_
   ·simp only [go_sem,fN,seval,eT,iR,AB,AD,AK,e4,e6,e7,e9,d4,d6,d7,d9]
   ·simp only [go_sem,fN,seval,eT,iR,Tm.nil]
    rfl
   ·simp only [go_sem,fN,seval,eT,iR,e4,e6,e7,e9]
   ·have i4:¬ i=4:=by omega
    have i6:¬ i=6:=by omega
    have i7:¬ i=7:=by omega
    simp only [go_sem,fN,seval,eT,iR,i4,i6,i7,hne]
  have hz':¬ left - 1 < 0:=by omega
  with_reducible refine Wp ?_
  simp only [go_sem,fN,seval,true_implies,false_implies,implies_true,dT,dF,nL,hz']
  (try with_reducible refine iC ?_)
  repeat' with_reducible first | refine W ?_ | refine Z0 ?_ | ((first | refine Wo fun K hK=>?_ | refine Wq ?_ | refine Wr ?_);(try simp only [go_sem,fN,seval,eT,iR,hSa,n4,n6,n7,n9,d4,d6,d7,d9,e4,e6,e7,e9]);(repeat refine Ai ?_);(try (refine hK _ ?_;clear hK K)))
  refine IWP.ghost (Ac.ownC 9 1 900 37 2 (xs:=([]:List Tm).map Ap) (by simp only [go_sem,fN,seval,eT,iR,d9,d4,d6,d7,e9];rfl) rfl (by simp only [go_sem,fN,seval,eT,iR,n900,d900]) EP) ?_
  refine IWP.loopD [11] (fun m x=>∃ k,k≤t.args.length∧m=t.args.length - k∧(Tm.sizes ((t.args.take k).map f):Int)≤left - 1∧x.env 0=.one (.ptr a0 1 0 0)∧x.env 2=Aa _∧x.env 6=.one (.ptr 6 1 0 0)∧x.env 9=.one (.ptr 9 1 0 0)∧x.env 44=.one (.st (.list (t.args.map Ap)))∧x.env 45=AO t.args.length∧x.env 46=AO k ∧
    x.S 6=some (.box 37 [.st (.str ⟨#[]⟩),.full []])∧x.S 9=some (.box 37 [.st (.str t.name),.row 900 k])∧x.S 900=some (.arow 37 2 (((t.args.take k).map f).map Ap))∧x.S 11=none∧x.S a0=some (EU r s.length (left - 1 - Tm.sizes ((t.args.take k).map f)))∧∀ i,1000≤i→i ≠ a0→x.S i=S i)
   t.args.length ⟨0,Nat.zero_le _,rfl,by show (0:Int)≤_;omega,rfl,rfl,rfl,rfl,rfl,rfl,rfl,by simp only [go_sem,fN,seval,eT,iR,d6,d4,d7,d9,e6],by (simp only [go_sem,fN,seval,eT,iR,d9]);rfl,by simp only [go_sem,fN,seval,eT,iR,e9],by simp only [go_sem,fN,seval,eT,iR,n11,d11],by (simp only [go_sem,fN,seval,eT,iR,e9,e900]);simp [Tm.sizes],fun i hi hne=>?_⟩ ?_
  ·have i4:¬ i=4:=by omega
   have i6:¬ i=6:=by omega
   have i7:¬ i=7:=by omega
   have i9:¬ i=9:=by omega
   have i900:¬ i=900:=by omega
   simp only [go_sem,fN,seval,eT,iR,i4,i6,i7,i9,i900,hne]
  rintro m ⟨env,S1⟩ ⟨k,hk,rfl,hsz,e0,e2,e6',e9',e44,e45,e46,s6,s9,s900,s11,sa,hrest⟩
  simp only at e0 e2 e6' e9' e44 e45 e46 s6 s9 s900 s11 sa hrest
  have hlk:(t.args.take k).length=k:=by rw [List.length_take];omega
  have hle:=Tm.sizes_take_le (t.args.map f) k
  rw [← List.map_take] at hle
  have hkl:=Tm.length_le ((t.args.take k).map f)
  rw [List.length_map,hlk] at hkl
  have hSr1:S1 r=some (BR s):=(hrest r hr0 hra).trans hSr
  by_cases hlt:(k:Int) < t.args.length
  ·obtain ⟨a,ha⟩:=Ag (show k < t.args.length by omega)
   have ha':(t.args.map f)[k]?=some (f a):=by rw [List.getElem?_map,ha];rfl
   have z1:=Tm.sizes_take ha'
   have z2:=Tm.sizes_take_le (t.args.map f) (k + 1)
   rw [← List.map_take,← List.map_take] at z1
   rw [← List.map_take] at z2
   repeat' with_reducible first | refine W ?_ | refine Z0 ?_ | ((first | refine Wo fun K hK=>?_ | refine Wq ?_ | refine Wr ?_);(try simp only [go_sem,fN,seval,eT,iR,e0,e2,e6',e9',e44,e45,e46,s6,s9,s900,s11,sa,hlt]);(repeat refine Ai ?_);(try (refine hK _ ?_;clear hK K)))
   with_reducible refine Wp ?_
   simp only [go_sem,fN,seval,true_implies,false_implies,implies_true,dT,dF,nL,hlt]
   (try with_reducible refine iC ?_)
   repeat' with_reducible first | refine W ?_ | refine Z0 ?_ | ((first | refine Wo fun K hK=>?_ | refine Wq ?_ | refine Wr ?_);(try simp only [go_sem,fN,seval,eT,iR,e0,e2,e6',e9',e44,e45,e46,s6,s9,s900,s11,sa,d11,d9,e11,ha]);(repeat refine Ai ?_);(try (refine hK _ ?_;clear hK K)))
   have hcall:=ih a (AQ ha) (up1 a0) (up1 r) (left - 1 - Tm.sizes ((t.args.take k).map f)) (upS (AG (AG S1 11 (some (.box 37 [.st (.str ⟨#[]⟩),.full []]))) 11 (some (.box 37 [.st (.str a.name),.st (.list (a.args.map Ap))])))) (At a0) (At r) (by unfold up1;omega) (by omega) (by omega) (by rw [A0,AH _ e11,AH _ e11,sa];rfl) (by rw [A0,AH _ f11,AH _ f11,hSr1];rfl)
   by_cases hfit:((f a).size:Int)≤left - 1 - Tm.sizes ((t.args.take k).map f)
   ·rw [EN hfit] at hcall
    refine ⟨_,_,hcall,?_⟩
    have hge:¬ left - 1 - Tm.sizes ((t.args.take k).map f) - (f a).size < 0:=by omega
    repeat' with_reducible first | refine W ?_ | refine Z0 ?_ | ((first | refine Wo fun K hK=>?_ | refine Wq ?_ | refine Wr ?_);(try simp only [go_sem,fN,seval,eT,iR,e0,e2,e6',e9',e44,e45,e46,s6,s9,s900,s11,d11,d9,e11,e9,e900,d900,hlk]);(repeat refine Ai ?_);(try (refine hK _ ?_;clear hK K)))
    with_reducible refine Wp ?_
    simp only [go_sem,fN,seval,true_implies,false_implies,implies_true,dT,dF,nL,hge]
    (try with_reducible refine iC ?_)
    repeat' with_reducible first | refine W ?_ | refine Z0 ?_ | ((first | refine Wo fun K hK=>?_ | refine Wq ?_ | refine Wr ?_);(try simp only [go_sem,fN,seval,eT,iR,e0,e2,e6',e9',e44,e45,e46,s6,s9,s900,s11,d11,d9,e11]);(repeat refine Ai ?_);(try (refine hK _ ?_;clear hK K)))
    refine AI ⟨t.args.length - (k + 1),by omega,k + 1,by omega,rfl,?_⟩
    have hib:(a0 == 11)=false:=by simp;omega
    have hrb:(r == 11)=false:=by simp;omega
    have hzz:((Tm.sizes ((t.args.take (k + 1)).map f):Nat):Int)=Tm.sizes ((t.args.take k).map f) + (f a).size:=by omega
    refine ⟨by omega,?_⟩
    simp only [go_sem,fN,seval,AS.drop,Ao,AC.clears,AC.clear,AC.highs,AC.high,Bool.not_false,Bool.true_and,Bool.and_self,AV.purge,AV.purges,AC.purge,AL.purge,List.contains_cons,List.contains_nil,Nat.reduceBEq,Bool.or_self,Bool.or_false,Bool.false_or,Bool.or_true,eT,iR,e0,e2,e6',e9',e44,e45,s6,s9,s900,d11,d9,e11,e9,e900,d900,d6,hib,hrb]
    refine ⟨by congr 3,by rw [Al ha,List.map_append,List.map_append,List.map_cons,List.map_nil,List.map_cons,List.map_nil,Af],?_,fun i hi hne=>?_⟩
    ·congr 5
     omega
    ·have i9:¬ i=9:=by omega
     have i11:¬ i=11:=by omega
     have i900:¬ i=900:=by omega
     have i11b:(i == 11)=false:=by simp;omega
     simp only [go_sem,fN,seval,AS.drop,Ao,AC.clears,AC.clear,AC.highs,AC.high,Bool.not_false,Bool.true_and,Bool.and_self,AV.purge,AV.purges,AC.purge,AL.purge,List.contains_cons,List.contains_nil,Nat.reduceBEq,Bool.or_self,Bool.or_false,Bool.false_or,Bool.or_true,eT,iR,i9,i11,i11b,i900,hne]
     rw [hrest i hi hne]
     exact TL (by decide) fun b hb=>(hS i b hb).2
   ·have hno:¬ ((Tm.mk t.name (t.args.map f)).size:Int)≤left:=by rw [hu];omega
    rw [Dz hfit] at hcall
    refine ⟨_,_,hcall,?_⟩
    repeat' with_reducible first | refine W ?_ | refine Z0 ?_ | ((first | refine Wo fun K hK=>?_ | refine Wq ?_ | refine Wr ?_);(try simp only [go_sem,fN,seval,eT,iR,e0,e2,e6',e9',e44,e45,e46,s6,s9,s900,s11,d11,d9,e11,e9,e900,d900,hlk]);(repeat refine Ai ?_);(try (refine hK _ ?_;clear hK K)))
    with_reducible refine Wp ?_
    simp only [go_sem,fN,seval,true_implies,false_implies,implies_true,dT,dF,nL]
    (try with_reducible refine iC ?_)
    repeat' with_reducible first | refine W ?_ | refine Z0 ?_ | ((first | refine Wo fun K hK=>?_ | refine Wq ?_ | refine Wr ?_);(try simp only [go_sem,fN,seval,eT,iR,e0,e2,e6',e9',e44,e45,e46,s6,s9,s900,s11,d11,d9,e11,e6,d6,d900,e900]);(repeat refine Ai ?_);(try (refine hK _ ?_;clear hK K)))
    rw [Dz hno]
    refine Bg (.agg [.st (.str ⟨#[]⟩),.full []]) hS ha0 (hhigh _) trivial ?_ ?_ ?_ fun i hi hne=>?_
    ·simp only [go_sem,fN,seval,eT,iR,AB,AD,AK,e6',s6,e6,e9,e11,e900,d6,d9,d11,d900]
    ·simp only [go_sem,fN,seval,eT,iR,Tm.nil]
     rfl
    ·simp only [go_sem,fN,seval,eT,iR,e6,e9,e11,e900]
    ·have i6:¬ i=6:=by omega
     have i9:¬ i=9:=by omega
     have i11:¬ i=11:=by omega
     have i900:¬ i=900:=by omega
     simp only [go_sem,fN,seval,eT,iR,i6,i9,i11,i900,hne]
     exact hrest i hi hne
  ·have hall:t.args.take k=t.args:=List.take_of_length_le (by omega)
   rw [hall] at hlk s900 hsz sa
   have hyes:((Tm.mk t.name (t.args.map f)).size:Int)≤left:=by rw [hu];omega
   repeat' with_reducible first | refine W ?_ | refine Z0 ?_ | ((first | refine Wo fun K hK=>?_ | refine Wq ?_ | refine Wr ?_);(try simp only [go_sem,fN,seval,eT,iR,e0,e2,e6',e9',e44,e45,e46,s6,s9,s900,s11,sa,hlt]);(repeat refine Ai ?_);(try (refine hK _ ?_;clear hK K)))
   with_reducible refine Wp ?_
   simp only [go_sem,fN,seval,true_implies,false_implies,implies_true,dT,dF,nL,hlt]
   (try with_reducible refine iC ?_)
   repeat' with_reducible first | refine W ?_ | refine Z0 ?_ | ((first | refine Wo fun K hK=>?_ | refine Wq ?_ | refine Wr ?_);(try simp only [go_sem,fN,seval,eT,iR,e0,e2,e6',e9',e44,e45,e46,s6,s9,s900,s11,sa,d6]);(repeat refine Ai ?_);(try (refine hK _ ?_;clear hK K)))
   rw [EN hyes]
   refine Bg (.agg [.st (.str t.name),.row 900 k]) hS ha0 (hhigh _) trivial ?_ ?_ ?_ fun i hi hne=>?_
   ·simp only [go_sem,fN,seval,eT,iR,AB,AD,AK,e6',s6]
   ·simp only [go_sem,fN,seval,eT,iR,s900,hlk]
    rfl
   ·simp only [go_sem,fN,seval,eT,iR,e6,sa,hu]
    rw [show left - 1 - (Tm.sizes (t.args.map f):Int)=left - ((1 + Tm.sizes (t.args.map f):Nat):Int) by omega]
   ·have i6:¬ i=6:=by omega
    simp only [go_sem,fN,seval,eT,iR,i6]
    exact hrest i hi hne
theorem ZQ (s:List Bd) (h40:s.length≤100000) (ho:BH s) (t:Tm):∀ (a0 r:Nat) (left:Int) (S:AA),1000≤a0→1000≤r→¬ r=a0→0≤left→left≤1000000→S a0=some (EU r s.length left)→S r=some (BR s) →
  As Tryz.prog 126 [.one (.ptr a0 1 0 0),aTm t,Aa false] S (aTm (DE t left).1) (AG S a0 (some (EU r s.length (DE t left).2))):=by
 induction h:SizeOf.sizeOf t using Nat.strongRecOn generalizing t with
 | _ N ih =>
 subst h
 intro a0 r left S h1 h1' h1'' h2 h3 h4 h5
 have:=MV s h40 ho false id t (fun h=>by cases h) (fun a ha=>ih _ (Tm.lt_of_arg ha) a rfl) a0 r left S h1 h1' h1'' h2 h3 h4 h5
 rw [List.map_id,Tm.eta] at this
 exact this
theorem Zf (s:List Bd) (h40:s.length≤100000) (ho:BH s) (t:Tm) (hv:∀ b ∈ s,AJ b.1=true) (hchk:t.chk=0):∀ (a0 r:Nat) (left:Int) (S:AA),1000≤a0→1000≤r→¬ r=a0→0≤left→left≤1000000→S a0=some (EU r s.length left)→S r=some (BR s) →
  As Tryz.prog 126 [.one (.ptr a0 1 0 0),aTm t,Aa true] S (aTm (DE (t.on s) left).1) (AG S a0 (some (EU r s.length (DE (t.on s) left).2))):=by
 induction h:SizeOf.sizeOf t using Nat.strongRecOn generalizing t with
 | _ N ih =>
 subst h
 intro a0 r left S ha0 hr0 hra h0 h1 hSa hSr
 obtain ⟨c1,c2⟩:=Tm.chk_args hchk
 cases hl:lookup s t.name with
 | none =>
  have:=MV s h40 ho true (Tm.on s) t (fun _=>hl) (fun a ha=>ih _ (Tm.lt_of_arg ha) a (c2 a ha) rfl) a0 r left S ha0 hr0 hra h0 h1 hSa hSr
  rw [← Tm.on_knot (.inl hl)] at this
  exact this
 | some x =>
  obtain ⟨b,hb,hbn,_⟩:=Cm hl
  have hargs:=c1 (by rw [← hbn];exact hv b hb)
  rw [Tm.on_leaf hl hargs]
  refine CA.acS fun hS C hC=>?_
  have n4:S 4=none:=AP hS (by omega)
  have n6:S 6=none:=AP hS (by omega)
  have n7:S 7=none:=AP hS (by omega)
  have e4:¬ a0=4:=by omega
  have e6:¬ a0=6:=by omega
  have e7:¬ a0=7:=by omega
  have d4:¬ 4=a0:=by omega
  have d6:¬ 6=a0:=by omega
  have d7:¬ 7=a0:=by omega
  have f4:¬ r=4:=by omega
  have f6:¬ r=6:=by omega
  have f7:¬ r=7:=by omega
  have hhigh:∀ left,(EU r s.length left).high=true:=fun left=>by
   show ((AC.row r s.length).high && AC.highs [.st (.int .i64 left)])=true
   rw [It hr0]
   rfl
  unfold BU
  repeat' with_reducible first | refine W ?_ | refine Z0 ?_ | ((first | refine Wo fun K hK=>?_ | refine Wq ?_ | refine Wr ?_);(try simp only [go_sem,fN,seval,eT,iR,hSa,n4,n6,n7,d4,d6,d7,e4,e6,e7]);(repeat refine Ai ?_);(try (refine hK _ ?_;clear hK K)))
  with_reducible refine Wp ?_
  simp only [go_sem,fN,seval,true_implies,false_implies,implies_true,dT,dF,nL]
  (try with_reducible refine iC ?_)
  repeat' with_reducible first | refine W ?_ | refine Z0 ?_ | ((first | refine Wo fun K hK=>?_ | refine Wq ?_ | refine Wr ?_);(try simp only [go_sem,fN,seval,eT,iR,hSa,n4,n6,n7,d4,d6,d7,e4,e6,e7]);(repeat refine Ai ?_);(try (refine hK _ ?_;clear hK K)))
  refine ⟨_,[(r,BR s)],DX (by (simp only [go_sem,fN,seval,eT,iR,f4,f6,f7,hSr])),fun T hT=>XY s h40 ho t.name (up1 r) (At r) (upS T) (by rw [A0,hT _ (List.mem_singleton.2 rfl)];rfl),?_⟩
  repeat' with_reducible first | refine W ?_ | refine Z0 ?_ | ((first | refine Wo fun K hK=>?_ | refine Wq ?_ | refine Wr ?_);(try simp only [go_sem,fN,seval,eT,iR,hl,n7]);(repeat refine Ai ?_);(try (refine hK _ ?_;clear hK K)))
  with_reducible refine Wp ?_
  simp only [go_sem,fN,seval,true_implies,false_implies,implies_true,dT,dF,nL]
  (try with_reducible refine iC ?_)
  repeat' with_reducible first | refine W ?_ | refine Z0 ?_ | ((first | refine Wo fun K hK=>?_ | refine Wq ?_ | refine Wr ?_);(try simp only [go_sem,fN,seval,eT,iR,hSa,n4,n6,n7,d4,d6,d7,e4,e6,e7]);(repeat refine Ai ?_);(try (refine hK _ ?_;clear hK K)))
  have hcall:=fun S' h h'=>ZQ s h40 ho x (up1 a0) (up1 r) left S' (At a0) (At r) (by unfold up1;omega) h0 h1 h h'
  refine ⟨_,_,hcall _ (by rw [A0];(simp only [go_sem,fN,seval,eT,iR,e4,e6,e7,hSa])) (by rw [A0];(simp only [go_sem,fN,seval,eT,iR,f4,f6,f7,hSr])),?_⟩
  repeat' with_reducible first | refine W ?_ | refine Z0 ?_ | ((first | refine Wo fun K hK=>?_ | refine Wq ?_ | refine Wr ?_);(try simp only [go_sem,fN,seval,eT,iR,e4,e6,e7,d4,d6,d7]);(repeat refine Ai ?_);(try (refine hK _ ?_;clear hK K)))
  refine Bg (aTm (DE x left).1) hS ha0 (hhigh _) trivial ?_ ?_ ?_ fun i hi hne=>?_
  ·simp only [go_sem,fN,seval,eT,iR,AB,AD,AK,e4,e6,e7,d4,d6,d7]
  ·simp only [go_sem,fN,seval,eT,iR]
  ·simp only [go_sem,fN,seval,eT,iR,e4,e6,e7]
  ·have i4:¬ i=4:=by omega
   have i6:¬ i=6:=by omega
   have i7:¬ i=7:=by omega
   simp only [go_sem,fN,seval,eT,iR,i4,i6,i7,hne]
theorem AAk (s:List Bd) (h40:s.length≤100000) (ho:BH s) (t:Tm) (hv:∀ b ∈ s,AJ b.1=true) (hchk:t.chk=0) (r:Nat) (hr:1000≤r) (S:AA) (sr:S r=some (BR s)) :
  As Tryz.prog 110 [.one (.row r s.length),aTm t] S (.tup [aTm (A7 s t).1,Aa (A7 s t).2]) S:=by
 refine Py.acS fun hS C hC=>?_
 unfold Iw
 have n3:S 3=none:=AP hS (by omega)
 have n4:S 4=none:=AP hS (by omega)
 have n7:S 7=none:=AP hS (by omega)
 have n10:S 10=none:=AP hS (by omega)
 have r3:¬ r=3:=by omega
 have r4:¬ r=4:=by omega
 have r7:¬ r=7:=by omega
 have r10:¬ r=10:=by omega
 repeat' with_reducible first | refine W ?_ | refine Z0 ?_ | ((first | refine Wo fun K hK=>?_ | refine Wq ?_ | refine Wr ?_);(try simp only [go_sem,fN,seval,eT,iR,n3,n4,n7,n10]);(repeat refine Ai ?_);(try (refine hK _ ?_;clear hK K)))
 have hcall:=fun S' h h'=>Zf s h40 ho t hv hchk (up1 10) (up1 r) 2000 S' (At 10) (At r) (by unfold up1;omega) (by omega) (by omega) h h'
 refine ⟨_,_,hcall _ (by rw [A0];rfl) (by rw [A0];(simp only [go_sem,fN,seval,eT,iR,r3,r4,r10,sr])),?_⟩
 by_cases hfit:((t.on s).size:Int)≤2000
 ·have e:A7 s t=(t.on s,true):=by
   unfold A7
   rw [if_pos (by omega)]
  rw [EN hfit]
  have hge:(0:Int)≤2000 - (t.on s).size:=by omega
  repeat' with_reducible first | refine W ?_ | refine Z0 ?_ | ((first | refine Wo fun K hK=>?_ | refine Wq ?_ | refine Wr ?_);(try simp only [go_sem,fN,seval,eT,iR,hge,n7]);(repeat refine Ai ?_);(try (refine hK _ ?_;clear hK K)))
  rw [e]
  refine Av (.tup [aTm (t.on s),Aa true]) hS trivial ?_ ?_ fun k hk=>?_
  ·simp only [go_sem,fN,seval,eT,iR,AB,AD,AK]
  ·simp only [go_sem,fN,seval,eT,iR]
  ·have k3:¬ k=3:=by omega
   have k4:¬ k=4:=by omega
   have k7:¬ k=7:=by omega
   have k10:¬ k=10:=by omega
   simp only [go_sem,fN,seval,eT,iR,k3,k4,k7,k10]
 ·have e:A7 s t=(Tm.nil,false):=by
   unfold A7
   rw [if_neg (by omega)]
  rw [Dz hfit]
  repeat' with_reducible first | refine W ?_ | refine Z0 ?_ | ((first | refine Wo fun K hK=>?_ | refine Wq ?_ | refine Wr ?_);(try simp only [go_sem,fN,seval,eT,iR,n7]);(repeat refine Ai ?_);(try (refine hK _ ?_;clear hK K)))
  rw [e]
  refine Av (.tup [aTm Tm.nil,Aa false]) hS trivial ?_ ?_ fun k hk=>?_
  ·simp only [go_sem,fN,seval,eT,iR,AB,AD,AK]
  ·simp only [go_sem,fN,seval,eT,iR]
  ·have k3:¬ k=3:=by omega
   have k4:¬ k=4:=by omega
   have k7:¬ k=7:=by omega
   have k10:¬ k=10:=by omega
   simp only [go_sem,fN,seval,eT,iR,k3,k4,k7,k10]

open Go.Proofs Go.Shelf
def Tryz.laysM171_ren:Go.Shelf.Ren:=⟨fun | 171=>123 | 243=>134 | 246=>141 | 283=>155 | 284=>156 | 285=>157 | 286=>158 | 129=>153 | 317=>164 | 318=>165 | 319=>166 | 320=>167 | 337=>169 | 338=>170 | n=>n,fun | 3=>3 | 9=>9 | 2=>2 | 4=>4 | 171=>178 | 0=>0 | 53=>176 | 37=>122 | 5=>5 | 173=>180 | 212=>190 | 51=>174 | 20=>20 | 213=>191 | 46=>160 | 232=>195 | 233=>196 | n=>n,fun | 17=>0 | 18=>1 | 19=>2 | n=>n⟩
theorem Tryz.laysM171:Go.Proofs.LaysM.n171 Tryz.prog Tryz.laysM171_ren:={
 mixed:=by kernel_rfl
 f129:=Tryz.func153.trans (congrArg some (by kernel_rfl))
 f171:=Tryz.func123.trans (congrArg some (by kernel_rfl))
 f243:=Tryz.func134.trans (congrArg some (by kernel_rfl))
 f246:=Tryz.func141.trans (congrArg some (by kernel_rfl))
 f283:=Tryz.func155.trans (congrArg some (by kernel_rfl))
 f284:=Tryz.func156.trans (congrArg some (by kernel_rfl))
 f285:=Tryz.func157.trans (congrArg some (by kernel_rfl))
 f286:=Tryz.func158.trans (congrArg some (by kernel_rfl))
 f317:=Tryz.func164.trans (congrArg some (by kernel_rfl))
 f318:=Tryz.func165.trans (congrArg some (by kernel_rfl))
 f319:=Tryz.func166.trans (congrArg some (by kernel_rfl))
 f320:=Tryz.func167.trans (congrArg some (by kernel_rfl))
 f337:=Tryz.func169.trans (congrArg some (by kernel_rfl))
 f338:=Tryz.func170.trans (congrArg some (by kernel_rfl))
 t0:=Tryz.underlying0
 a0:=Tryz.isAgg0
 z0:=Tryz.sizeOf0
 v0:=Tryz.zeroValue0
 t2:=Tryz.underlying2
 a2:=Tryz.isAgg2
 z2:=Tryz.sizeOf2
 v2:=Tryz.zeroValue2
 t3:=Tryz.underlying3
 a3:=Tryz.isAgg3
 z3:=Tryz.sizeOf3
 v3:=Tryz.zeroValue3
 t4:=Tryz.underlying4
 a4:=Tryz.isAgg4
 z4:=Tryz.sizeOf4
 v4:=Tryz.zeroValue4
 t5:=Tryz.underlying5
 a5:=Tryz.isAgg5
 z5:=Tryz.sizeOf5
 v5:=Tryz.zeroValue5
 t9:=Tryz.underlying9
 a9:=Tryz.isAgg9
 z9:=Tryz.sizeOf9
 v9:=Tryz.zeroValue9
 t20:=Tryz.underlying20
 a20:=Tryz.isAgg20
 z20:=Tryz.sizeOf20
 v20:=Tryz.zeroValue20
 t37:=Tryz.underlying122
 a37:=Tryz.isAgg122
 z37:=Tryz.sizeOf122
 v37:=Tryz.zeroValue122
 t46:=Tryz.underlying160
 a46:=Tryz.isAgg160
 z46:=Tryz.sizeOf160
 v46:=Tryz.zeroValue160
 t51:=Tryz.underlying174
 a51:=Tryz.isAgg174
 z51:=Tryz.sizeOf174
 v51:=Tryz.zeroValue174
 t53:=Tryz.underlying176
 a53:=Tryz.isAgg176
 z53:=Tryz.sizeOf176
 v53:=Tryz.zeroValue176
 t171:=Tryz.underlying178
 a171:=Tryz.isAgg178
 z171:=Tryz.sizeOf178
 v171:=Tryz.zeroValue178
 t173:=Tryz.underlying180
 a173:=Tryz.isAgg180
 z173:=Tryz.sizeOf180
 v173:=Tryz.zeroValue180
 t212:=Tryz.underlying190
 a212:=Tryz.isAgg190
 z212:=Tryz.sizeOf190
 v212:=Tryz.zeroValue190
 t213:=Tryz.underlying191
 a213:=Tryz.isAgg191
 z213:=Tryz.sizeOf191
 t232:=Tryz.underlying195
 a232:=Tryz.isAgg195
 z232:=Tryz.sizeOf195
 v232:=Tryz.zeroValue195
 t233:=Tryz.underlying196
 a233:=Tryz.isAgg196
 z233:=Tryz.sizeOf196
 v233:=Tryz.zeroValue196
 g17:=by kernel_rfl
 g18:=by kernel_rfl
 g19:=by kernel_rfl
 i0:=by kernel_rfl
 i2:=by kernel_rfl
 i3:=by kernel_rfl
 i4:=by kernel_rfl
 i5:=by kernel_rfl
 i9:=by kernel_rfl
 i20:=by kernel_rfl
 i37:=by kernel_rfl
 i46:=by kernel_rfl
 i51:=by kernel_rfl
 i53:=by kernel_rfl
 i171:=by kernel_rfl
 i173:=by kernel_rfl
 i212:=by kernel_rfl
 i232:=by kernel_rfl
 i233:=by kernel_rfl
 m17:=by kernel_rfl
 m18:=by kernel_rfl
 m19:=by kernel_rfl }
def Tryz.sortBd_ren:Go.Shelf.Ren:=⟨fun | 6=>130 | 15=>137 | 14=>136 | 28=>152 | 29=>153 | 20=>144 | 21=>145 | 22=>146 | 23=>147 | 24=>148 | 25=>149 | 26=>150 | 27=>151 | 46=>159 | 47=>160 | 48=>161 | 49=>162 | 50=>163 | 57=>168 | n=>n,fun | 22=>78 | 24=>82 | 25=>156 | 3=>3 | 39=>160 | 0=>0 | 53=>174 | 55=>176 | 4=>4 | 46=>168 | 45=>167 | 50=>163 | 5=>5 | 9=>9 | 66=>182 | 70=>186 | 76=>192 | 77=>193 | n=>n,fun | n=>n⟩
theorem Tryz.sortBd:Go.Proofs.SlLaysF0.n6 Tryz.prog Tryz.sortBd_ren:={
 mixed:=by kernel_rfl
 f6:=⟨Tryz.f130.name,by decide,Tryz.func130.trans (congrArg some (by kernel_rfl))⟩
 f14:=⟨Tryz.f136.name,by decide,Tryz.func136.trans (congrArg some (by kernel_rfl))⟩
 f15:=Tryz.func137.trans (congrArg some (by kernel_rfl))
 f20:=⟨Tryz.f144.name,by decide,Tryz.func144.trans (congrArg some (by kernel_rfl))⟩
 f21:=⟨Tryz.f145.name,by decide,Tryz.func145.trans (congrArg some (by kernel_rfl))⟩
 f22:=⟨Tryz.f146.name,by decide,Tryz.func146.trans (congrArg some (by kernel_rfl))⟩
 f23:=⟨Tryz.f147.name,by decide,Tryz.func147.trans (congrArg some (by kernel_rfl))⟩
 f24:=⟨Tryz.f148.name,by decide,Tryz.func148.trans (congrArg some (by kernel_rfl))⟩
 f25:=⟨Tryz.f149.name,by decide,Tryz.func149.trans (congrArg some (by kernel_rfl))⟩
 f26:=⟨Tryz.f150.name,by decide,Tryz.func150.trans (congrArg some (by kernel_rfl))⟩
 f27:=⟨Tryz.f151.name,by decide,Tryz.func151.trans (congrArg some (by kernel_rfl))⟩
 f28:=Tryz.func152.trans (congrArg some (by kernel_rfl))
 f29:=Tryz.func153.trans (congrArg some (by kernel_rfl))
 f46:=⟨Tryz.f159.name,by decide,Tryz.func159.trans (congrArg some (by kernel_rfl))⟩
 f47:=Tryz.func160.trans (congrArg some (by kernel_rfl))
 f48:=Tryz.func161.trans (congrArg some (by kernel_rfl))
 f49:=⟨Tryz.f162.name,by decide,Tryz.func162.trans (congrArg some (by kernel_rfl))⟩
 f50:=⟨Tryz.f163.name,by decide,Tryz.func163.trans (congrArg some (by kernel_rfl))⟩
 f57:=⟨Tryz.f168.name,by decide,Tryz.func168.trans (congrArg some (by kernel_rfl))⟩
 t0:=Tryz.underlying0
 a0:=Tryz.isAgg0
 z0:=Tryz.sizeOf0
 v0:=Tryz.zeroValue0
 t3:=Tryz.underlying3
 a3:=Tryz.isAgg3
 z3:=Tryz.sizeOf3
 v3:=Tryz.zeroValue3
 t4:=Tryz.underlying4
 a4:=Tryz.isAgg4
 z4:=Tryz.sizeOf4
 v4:=Tryz.zeroValue4
 t5:=Tryz.underlying5
 a5:=Tryz.isAgg5
 z5:=Tryz.sizeOf5
 v5:=Tryz.zeroValue5
 t9:=Tryz.underlying9
 a9:=Tryz.isAgg9
 z9:=Tryz.sizeOf9
 v9:=Tryz.zeroValue9
 t22:=Tryz.underlying78
 a22:=Tryz.isAgg78
 z22:=Tryz.sizeOf78
 v22:=Tryz.zeroValue78
 t25:=Tryz.underlying156
 a25:=Tryz.isAgg156
 z25:=Tryz.sizeOf156
 v25:=Tryz.zeroValue156
 t39:=Tryz.underlying160
 a39:=Tryz.isAgg160
 z39:=Tryz.sizeOf160
 v39:=Tryz.zeroValue160
 t45:=Tryz.underlying167
 a45:=Tryz.isAgg167
 z45:=Tryz.sizeOf167
 v45:=Tryz.zeroValue167
 t46:=Tryz.underlying168
 a46:=Tryz.isAgg168
 z46:=Tryz.sizeOf168
 v46:=Tryz.zeroValue168
 t50:=Tryz.underlying163
 a50:=Tryz.isAgg163
 z50:=Tryz.sizeOf163
 v50:=Tryz.zeroValue163
 t53:=Tryz.underlying174
 a53:=Tryz.isAgg174
 z53:=Tryz.sizeOf174
 v53:=Tryz.zeroValue174
 t55:=Tryz.underlying176
 a55:=Tryz.isAgg176
 z55:=Tryz.sizeOf176
 v55:=Tryz.zeroValue176
 t66:=Tryz.underlying182
 a66:=Tryz.isAgg182
 z66:=Tryz.sizeOf182
 v66:=Tryz.zeroValue182
 t70:=Tryz.underlying186
 a70:=Tryz.isAgg186
 z70:=Tryz.sizeOf186
 v70:=Tryz.zeroValue186
 t76:=Tryz.underlying192
 a76:=Tryz.isAgg192
 z76:=Tryz.sizeOf192
 v76:=Tryz.zeroValue192
 t77:=Tryz.underlying193
 a77:=Tryz.isAgg193
 z77:=Tryz.sizeOf193
 v77:=Tryz.zeroValue193 }

set_option maxRecDepth 100000
def G4:IR :=
 (.seq (.ops [.i 2 (.mov (.c (.one (.full []))))]) (.seq (.ops [.m 3 0,.i 4 (.callS 130 [.t 3,.c (.one (.fn 131 []))])]) (.seq (.ops [.m 5 0,.m 2 5]) .ret)))
theorem Lc:OkF Tryz.prog 117 6 [4] G4 [.t 2]:=.of Tryz.func117 rfl rfl (by kernel_rfl) rfl

open Go.Lib Go.Sort
set_option maxHeartbeats 1000000
theorem Yk {P:Program} {w:World} (t:TypeId) (x y:ByteArray):(binOp .gtr t (.string x) (.string y)).run P w=.ok (.bool (!(sLt x y || decide (x=y)))) w:=by
 simp only [binOp,Op.stringOp,Cy]
 rfl
attribute [go_sem] Yk
theorem Yc (s:ByteArray) (W:World):Calls Tryz.prog 138 #[.string s] W fun e w'=>e=.returned (.bool false)∧w'=W:=by
 go_enter Tryz.func138,Tryz.ntmps138
 go_wp2_with fail
 go_ret
 exact ⟨rfl,rfl⟩
theorem Vq (a b:ByteArray) (W:World):Calls Tryz.prog 132 #[.string a,.string b] W fun e w'=>e=.returned (.int .i64 (DG a b))∧w'=W:=by
 have h1:=Yc
 have hl:sLt a b=Op.bytesLess a.toList b.toList:=rfl
 have hc:DG a b=if sLt a b=true then -1 else if a=b then 0 else 1:=rfl
 generalize DG a b=r at hc ⊢
 go_enter Tryz.func132,Tryz.ntmps132
 go_wp2_with (go_at_call 138;refine (h1 _ _).mono ?_;rintro e w' ⟨rfl,rfl⟩)
 all_goals go_ret
 all_goals refine ⟨?_,rfl⟩
 all_goals simp_all
abbrev E0:=ByteArray × ByteArray × Option Addr × Nat × Nat
def Cb (x:E0):List Value:=[.string x.1,.string x.2.1,.slice x.2.2.1 x.2.2.2.1 x.2.2.2.2]
theorem Y6 (x y:E0) (W:World):Calls Tryz.prog 131 #[.agg (Cb x).toArray,.agg (Cb y).toArray] W fun e w'=>e=.returned (.int .i64 (DG x.1 y.1))∧∃ q os',w'=grow (W.drewN q) os':=by
 have hcon:=fun W'=>Vq x.1 y.1 W'
 generalize DG x.1 y.1=r at hcon ⊢
 unfold Cb
 go_enter Tryz.func131,Tryz.ntmps131
 go_wp2_with (go_at_call 132;refine (hcon _).mono ?_;rintro e w' ⟨rfl,rfl⟩)
 go_ret
 exact ⟨rfl,0,_,by rw [alloc_eq_grow,alloc_eq_grow,grow_grow];rfl⟩
theorem Vd:SWO (ltOf fun x y:E0=>DG x.1 y.1) where
 irrefl x:=by
  simp only [ltOf,decide_eq_false_iff_not]
  intro h
  have:=CU.1 h
  rw [Br] at this
  cases this
 trans x y z h k:=by
  simp only [ltOf,decide_eq_true_eq] at *
  exact CU.2 (Dh (CU.1 h) (CU.1 k))
 ntrans x y z h k:=by
  simp only [ltOf,decide_eq_false_iff_not] at *
  intro e
  have e:=CU.1 e
  have h:sLt x.1 y.1=false:=by
   cases hx:sLt x.1 y.1 with
   | false=>rfl
   | true=>exact absurd (CU.2 hx) h
  have k:sLt y.1 z.1=false:=by
   cases hx:sLt y.1 z.1 with
   | false=>rfl
   | true=>exact absurd (CU.2 hx) k
  rcases Fg y.1 z.1 with q | q | q
  ·rw [q] at k;cases k
  ·rw [q] at h;rw [e] at h;cases h
  ·have:=Dh e q
   rw [this] at h
   cases h
def X0 (σ:Sto) (x:E0) (b:Bd):Prop:=x.1=b.1∧Ad (Au σ) (Cb x) (C3 b)
theorem Uj {α β:Type} {R:α→β→Prop} {l1 l2:List α} (hp:l1.Perm l2):∀ {m1:List β},Ad R l1 m1→∃ m2,Ad R l2 m2∧m1.Perm m2:=by
 induction hp with
 | nil=>intro m1 h;exact ⟨m1,h,List.Perm.refl _⟩
 | cons x _ ih =>
  intro m1 h
  cases h with
  | cons h1 h2 =>
   obtain ⟨m2,q1,q2⟩:=ih h2
   exact ⟨_ :: m2,.cons h1 q1,q2.cons _⟩
 | swap x y l =>
  intro m1 h
  cases h with
  | cons h1 h2 =>
   cases h2 with
   | cons h2 h3=>exact ⟨_,.cons h2 (.cons h1 h3),List.Perm.swap _ _ _⟩
 | trans _ _ ih1 ih2 =>
  intro m1 h
  obtain ⟨m2,q1,q2⟩:=ih1 h
  obtain ⟨m3,q3,q4⟩:=ih2 q1
  exact ⟨m3,q3,q2.trans q4⟩
theorem ZB {σ:Sto} {b:Bd} {v1 v2 v3:Value} (h1:Au σ v1 (.str b.1)) (h2:Au σ v2 (.str b.2.name)) (h3:Au σ v3 (.list (b.2.args.map Ap))):∃ x:E0,[v1,v2,v3]=Cb x∧X0 σ x b:=by
 have e1:=(ES (S:=noS) (ι:=noH) (.one (.st h1))).1
 have e2:=(ES (S:=noS) (ι:=noH) (.one (.st h2))).1
 obtain ⟨p,cap,e3,_⟩:=CM h3
 subst e1 e2 e3
 exact ⟨(b.1,b.2.name,p,_,cap),rfl,rfl,.cons h1 (.cons h2 (.cons h3 .nil))⟩
theorem Mp {σ:Sto} {vs:Array Value}:∀ (l:List Bd) (base:Nat),(∀ k b,l[k]?=some b→∀ j a,(C3 b)[j]?=some a→∃ v,vs[base + k * 3 + j]?=some v∧Au σ v a) →
  ∃ d:List E0,Ad (X0 σ) d l∧∀ k x j v,d[k]?=some x→(Cb x)[j]?=some v→vs[base + k * 3 + j]?=some v
 | [],base,_=>⟨[],.nil,by simp⟩
 | b :: l,base,h=>by
  obtain ⟨d,d1,d2⟩:=Mp l (base + 3) (fun k c hc j a ha=>by
   obtain ⟨v,v1,v2⟩:=h (k + 1) c (by simpa using hc) j a ha
   exact ⟨v,by rw [← v1];congr 1;omega,v2⟩)
  obtain ⟨u1,p1,q1⟩:=h 0 b rfl 0 _ rfl
  obtain ⟨u2,p2,q2⟩:=h 0 b rfl 1 _ rfl
  obtain ⟨u3,p3,q3⟩:=h 0 b rfl 2 _ rfl
  obtain ⟨x,x1,x2⟩:=ZB q1 q2 q3
  refine ⟨x :: d,.cons x2 d1,fun k y j v hy hv=>?_⟩
  cases k with
  | zero =>
   simp only [List.getElem?_cons_zero,Option.some.injEq] at hy
   subst hy
   rw [← x1] at hv
   match j,hv with
   | 0,hv=>cases hv;exact p1
   | 1,hv=>cases hv;exact p2
   | 2,hv=>cases hv;exact p3
   | j + 3,hv=>simp at hv
  | succ k =>
   have:=d2 k y j v (by simpa using hy) hv
   rw [← this]
   congr 1
   omega
theorem Jn (x:E0):(Cb x).length=3:=rfl
theorem QC {d:Array E0} {t:Nat} (h:t < d.size * 3):∃ x v,d[t / 3]?=some x∧(Cb x)[t % 3]?=some v∧(flatK Cb 3 d)[t]! = v:=by
 have hk:t / 3 < d.size:=by omega
 have hj:t % 3 < (Cb d[t / 3]).length:=by rw [Jn];omega
 refine ⟨d[t / 3],(Cb d[t / 3])[t % 3],Array.getElem?_eq_getElem hk,List.getElem?_eq_getElem hj,?_⟩
 rw [get_flatK _ _ _ _ h,getElem!_pos d (t / 3) hk,getElem!_pos (Cb d[t / 3]) (t % 3) hj]
theorem U7 (w:World) (g n:Nat) (d:Array E0) (os:Array Obj) (vs:Array Value) (e:TypeId) (hg:w.heap[g]?=some (.cells vs e (0,0))) :
  (sortWorldK Cb 3 w g 0 n d os).heap[g]?=some (.cells (putCells id 0 (flatK Cb 3 d) vs) e (0,0))∧(∀ k,k < w.heap.size→k ≠ g→(sortWorldK Cb 3 w g 0 n d os).heap[k]?=w.heap[k]?)∧w.heap.size≤(sortWorldK Cb 3 w g 0 n d os).heap.size:=by
 have hlt:=(Array.getElem?_eq_some_iff.1 hg).1
 have hsz:(putRowK Cb 3 (Sort.ahead w n) g 0 d).heap.size=w.heap.size:=by simp [putRowK,putRow,mapBlock,Sort.ahead]
 refine ⟨?_,fun k hk hne=>?_,?_⟩
 ·unfold sortWorldK
  rw [heap_grow_old _ _ (by rw [hsz];exact hlt)]
  simp [putRowK,putRow,mapBlock,Sort.ahead,Array.getElem?_modify,hg,onCells]
 ·unfold sortWorldK
  rw [heap_grow_old _ _ (by rw [hsz];exact hk)]
  simp [putRowK,putRow,mapBlock,Sort.ahead,Array.getElem?_modify,Ne.symm hne]
 ·unfold sortWorldK
  rw [Go.Sort.size_grow,hsz]
  omega
theorem ZM {d:Array E0} {vs:Array Value} (hs:d.size * 3≤vs.size) {k:Nat} {x:E0} {j:Nat} {v:Value} (hx:d[k]?=some x) (hv:(Cb x)[j]?=some v):(putCells id 0 (flatK Cb 3 d) vs)[k * 3 + j]?=some v:=by
 have hk:=(Array.getElem?_eq_some_iff.1 hx).1
 have hj:j < 3:=by have:=(List.getElem?_eq_some_iff.1 hv).1;rw [Jn] at this;exact this
 have hlt:k * 3 + j < d.size * 3:=by omega
 obtain ⟨y,u,h1,h2,h3⟩:=QC hlt
 have e1:(k * 3 + j) / 3=k:=by omega
 have e2:(k * 3 + j) % 3=j:=by omega
 rw [e1,hx] at h1
 cases h1
 rw [e2,hv] at h2
 cases h2
 unfold putCells
 rw [Array.getElem?_mapIdx,Array.getElem?_eq_getElem (by omega),Option.map_some,if_pos (by rw [size_flatK];omega)]
 simp only [Nat.sub_zero,id,h3]
theorem WR (d:Array E0) (vs:Array Value):(putCells id 0 (flatK Cb 3 d) vs).size=vs.size:=by simp [putCells]
theorem Yj {S:AA} {r:Nat} {b:AL} (h:S r=some b):AG S r (some b)=S:=by
 funext k
 unfold AG
 split
 ·rename_i e;rw [e,h]
 ·rfl
theorem Vv {d:Array E0} {vs:Array Value} {t:Nat} (h:d.size * 3≤t):(putCells id 0 (flatK Cb 3 d) vs)[t]?=vs[t]?:=by
 unfold putCells
 rw [Array.getElem?_mapIdx]
 cases hv:vs[t]? with
 | none=>rfl
 | some v=>rw [Option.map_some,if_neg (by rw [size_flatK];omega)]
abbrev Ga (l:List Bd) (ys:List (List SV)):AL:=.mrow 82 3 (l.map C3 ++ ys)
theorem Uh (l:List Bd) (ys:List (List SV)) (hys:∀ y ∈ ys,y.length=3) (hn:Bc l) (hl:l.length≤100000) (r:Nat) (hr:1000≤r) (S:AA) (sr:S r=some (Ga l ys)) (hS:Ax S) (σ:Sto) (w:World) (ι:Az) (hF:Fit σ w) (hO:Fo σ S ι w) :
  Calls Tryz.prog 130 #[.slice (ι r).p l.length (ι r).cap,.func (.func 131) #[] #[]] w fun e w'=>∃ v σ' ι',e=.returned v∧Ax (AG S r (some (Ga (BS l) ys)))∧Upd S ι (AG S r (some (Ga (BS l) ys))) ι'∧Fo σ' (AG S r (some (Ga (BS l) ys))) ι' w'∧AT σ' (AG S r (some (Ga (BS l) ys))) ι' v (.tup [])∧Fit σ' w'∧(∀ p x,σ p=some x→σ' p=some x) ∧
   (∀ p:Addr,p.block < w.heap.size→Ce S ι p.block→σ' p=σ p)∧(w'.os=w.os∧w'.tape=w.tape∧w'.output=w.output)∧w.heap.size≤w'.heap.size ∧
   (∀ g,g < w.heap.size→Ce S ι g→w'.heap[g]?=w.heap[g]?)∧(∀ id b g,AG S r (some (Ga (BS l) ys)) id=some b→(ι' id).g=some g→w.heap.size≤g ∨ ¬ Ce S ι g):=by
 have hS':Ax (AG S r (some (Ga (BS l) ys))):=B0 hS hr rfl
 have hb:B7 σ S ι w (ι r) (.mrow 82 3 (l.map C3 ++ ys)):=hO.1 r _ sr
 generalize hxs:l.map C3 ++ ys=xs at hb
 have hlen:xs.length=l.length + ys.length:=by rw [← hxs,List.length_append,List.length_map]
 generalize hh:ι r=hd at hb
 cases hb with
 | mnil k1 k2 =>
  obtain ⟨hl0,hy0⟩:l=[]∧ys=[]:=by simpa using hxs
  subst hl0 hy0
  refine (AnyF.slices_SortFunc_none Tryz.sortBd hd.p hd.cap _ w).mono fun e w' ⟨he,hw⟩=>?_
  subst hw
  have hid:AG S r (some (Ga (BS []) []))=S:=Yj sr
  rw [hid]
  exact ⟨_,σ,ι,he,hS,Upd.refl _ _,hO,.tup (fun _=>undef) rfl (by simp) (by simp),hF,fun _ _ h=>h,fun _ _ _=>rfl,⟨rfl,rfl,rfl⟩,Nat.le_refl _,fun _ _ _=>rfl,fun id b g h1 h2=>.inr fun hno=>hno id b h1 h2⟩
 | @mrow _ _ _ g cs k1 k2 k3 k4 k5 k6 k7 k8 k9 =>
  subst hxs
  obtain ⟨d,d1,d2⟩:=Mp (σ:=σ) (vs:=cs) l 0 (fun k b hb j a ha=>by
   obtain ⟨v,v1,v2⟩:=k8 k (C3 b) j a (by rw [List.getElem?_append_left (by rw [List.length_map];exact CW hb),List.getElem?_map,hb];rfl) ha
   exact ⟨v,by rw [Nat.zero_add];exact v1,v2⟩)
  have dlen:d.length=l.length:=d1.len
  have hcap:l.length≤hd.cap:=by omega
  have hfits:d.toArray.size * 3≤cs.size:=by
   rw [k6]
   simp only [List.size_toArray,dlen]
   exact Nat.mul_le_mul_right 3 hcap
  have hH:HoldsK Cb 3 w g 0 d.toArray:=fun j hj=>by
   rw [size_flatK] at hj
   obtain ⟨x,v,q1,q2,q3⟩:=QC hj
   have q1:d[j / 3]?=some x:=by simpa using q1
   have hc:=d2 _ _ _ _ q1 q2
   have e:0 + j / 3 * 3 + j % 3=j:=by omega
   rw [e] at hc
   refine ⟨?_,?_⟩
   ·rw [cell_of_row w g _ _ _ _ k3,Nat.zero_add,hc,q3]
    rfl
   ·exact Blk.frozen k3 _
  have eg:∀ args w,(callFunc 131 args).run Tryz.prog w=.ok (.enter 131 args) w:=enters_of Tryz.func131 (by kernel_rfl) rfl
  have hgl:g < w.heap.size:=(Array.getElem?_eq_some_iff.1 k3).1
  have hcon:=AnyQ.slices_SortFunc Tryz.sortBd 3 Tryz.isAgg82 Tryz.sizeOf82 Cb Jn (fun x v hv=>by simp [Cb] at hv;rcases hv with rfl | rfl | rfl <;> rfl) (fun x y:E0=>DG x.1 y.1) Vd 131 #[] g 0 hd.cap d.toArray w eg (fun _ _ _ _ x y=>Y6 x y _) hH hgl (by simp [dlen];omega)
  rw [show d.toArray.size=l.length by simp [dlen]] at hcon
  rw [k2,show (l.length)=l.length from rfl]
  refine Calls.mono hcon fun e w' ⟨he,d',n,os,hp,hs,hw⟩=>?_
  obtain ⟨hp1,hp2,hp3⟩:=hp
  have hd'l:d'.size=l.length:=by rw [hp1];simp [dlen]
  have hperm:d.Perm d'.toList:=by
   have e1:d'.extract 0 l.length=d':=by rw [← hd'l];exact Array.extract_size
   have e2:d.toArray.extract 0 l.length=d.toArray:=by
    rw [show l.length=d.toArray.size by simp [dlen]]
    exact Array.extract_size
   rw [e1,e2] at hp3
   exact hp3.symm
  obtain ⟨l',l1,l2⟩:=Uj hperm d1
  have hl'len:l'.length=l.length:=l2.length_eq.symm
  have hord:BH l':=by
   unfold BH
   rw [List.pairwise_iff_getElem]
   intro i j hi hj hij
   obtain ⟨x,x1,x2,_⟩:=l1.get (List.getElem?_eq_getElem hi)
   obtain ⟨y,y1,y2,_⟩:=l1.get (List.getElem?_eq_getElem hj)
   have hso:=hs i j (Nat.zero_le _) hij (by omega)
   have e1:d'[i]! = x:=by
    rw [Array.getElem?_toList] at x1
    rw [getElem!_def,x1]
   have e2:d'[j]! = y:=by
    rw [Array.getElem?_toList] at y1
    rw [getElem!_def,y1]
   rw [e1,e2] at hso
   simp only [ltOf,decide_eq_false_iff_not] at hso
   have hno:sLt l'[j].1 l'[i].1=false:=by
    cases hx:sLt l'[j].1 l'[i].1 with
    | false=>rfl
    | true=>exact absurd (CU.2 (by rw [x2,y2];exact hx)) hso
   have hdiff:l'[i].1 ≠ l'[j].1:=by
    have hn':=Dk l2 hn
    unfold Bc at hn'
    rw [List.nodup_iff_pairwise_ne,List.pairwise_map,List.pairwise_iff_getElem] at hn'
    exact hn' i j hi hj hij
   rcases Fg l'[i].1 l'[j].1 with q | q | q
   ·exact q
   ·exact absurd q hdiff
   ·rw [q] at hno;cases hno
  have hl':l'=BS l:=El hord (Bo hn) ((l2.symm).trans (CL l).symm)
  subst hl'
  obtain ⟨w1,w2,w3⟩:=U7 w g n d' os cs _ k3
  rw [← hw] at w1 w2 w3
  have hfits':d'.size * 3≤cs.size:=by rw [hd'l];rw [← dlen];simpa using hfits
  have hupd:Upd S ι (AG S r (some (Ga (BS l) ys))) ι:=fun id b hb=>by
   by_cases e:id=r
   ·subst e
    rw [sr] at hb
    cases hb
    exact ⟨_,AE _ _ _,by simp [AL.len,BY],fun _=>⟨rfl,rfl⟩⟩
   ·exact ⟨b,by rw [AH _ e];exact hb,Nat.le_refl _,fun _=>⟨rfl,rfl⟩⟩
  have hotherg:∀ id b g',id ≠ r→S id=some b→(ι id).g=some g'→g' ≠ g:=fun id b g' hne hb hg' e=>by
   subst e
   exact hne (hO.2 id r b _ g' hb sr hg' (by rw [hh];exact k1))
  have hFit:Fit σ w':=fun p x hp=>by
   have hlt:=hF.lt hp
   by_cases e:p.block=g
   ·rw [k9 p e] at hp;cases hp
   ·exact (Cw (w2 _ hlt e)).trans (hF p x hp)
  refine ⟨_,σ,ι,he,hS',hupd,⟨fun id b hb=>?_,fun id id' b b' g' q1 q2 q3 q4=>?_⟩,.tup (fun _=>undef) rfl (by simp) (by simp),hFit,fun _ _ h=>h,fun _ _ _=>rfl,?_,w3,fun g' q1 q2=>?_,fun id b g' q1 q2=>?_⟩
  ·by_cases e:id=r
   ·subst e
    rw [AE] at hb
    cases hb
    rw [hh]
    have hlen':((BS l).map C3 ++ ys).length=l.length + ys.length:=by rw [List.length_append,List.length_map,BY]
    refine .mrow k1 k2 w1 (by rw [hlen',← hlen];exact k4) k5 (by rw [WR];exact k6) (fun x hx=>?_) (fun k x j a hx ha=>?_) k9
    ·rcases List.mem_append.1 hx with hx | hx
     ·exact V1 x hx
     ·exact hys x hx
    rcases Nat.lt_or_ge k l.length with hk | hk
    ·rw [List.getElem?_append_left (by rw [List.length_map,BY];exact hk),List.getElem?_map,Option.map_eq_some_iff] at hx
     obtain ⟨b,hb,rfl⟩:=hx
     obtain ⟨y,y1,y2,y3⟩:=l1.get hb
     obtain ⟨v,v1,v2⟩:=y3.get ha
     exact ⟨v,ZM hfits' (by simpa using y1) v1,v2⟩
    ·rw [List.getElem?_append_right (by rw [List.length_map,BY];exact hk),List.length_map,BY] at hx
     obtain ⟨v,v1,v2⟩:=k8 k x j a (by rw [List.getElem?_append_right (by rw [List.length_map];exact hk),List.length_map];exact hx) ha
     exact ⟨v,by rw [Vv (by rw [hd'l];omega)];exact v1,v2⟩
   ·rw [AH _ e] at hb
    refine (hO.1 id b hb).mono (fun _ _ h=>h) hupd (fun g' hg'=>w2 g' ((hO.1 id b hb).gsome hg') (hotherg id b g' e hb hg')) (fun _ _ _ _=>rfl)
  ·have back:∀ i c,AG S r (some (Ga (BS l) ys)) i=some c→∃ c',S i=some c':=fun i c hc=>by
    by_cases e:i=r
    ·subst e;exact ⟨_,sr⟩
    ·rw [AH _ e] at hc;exact ⟨c,hc⟩
   obtain ⟨c1,c1'⟩:=back _ _ q1
   obtain ⟨c2,c2'⟩:=back _ _ q2
   exact hO.2 _ _ _ _ _ c1' c2' q3 q4
  ·rw [hw]
   exact ⟨rfl,rfl,rfl⟩
  ·exact w2 g' q1 fun e=>q2 r _ sr (by rw [hh,e];exact k1)
  ·refine .inr fun hno=>?_
   by_cases e:id=r
   ·subst e;exact hno id _ sr q2
   ·rw [AH _ e] at q1;exact hno id _ q1 q2
theorem S6 (l:List Bd) (hn:Bc l) (hl:l.length≤100000) (r:Nat) (hr:1000≤r) (S:AA) (sr:S r=some (BR l)) :
  As Tryz.prog 130 [.one (.row r l.length),.one (.fn 131 [])] S (.tup []) (AG S r (some (BR (BS l)))):=by
 intro hS σ w vs ι hG hF hO hv
 cases hv with
 | @cons v1 _ _ _ h1 hv =>
 cases hv with
 | @cons v2 _ _ _ h2 hv =>
 cases hv
 obtain ⟨b,b1,b2,b3⟩:=Ck (AY h1)
 rw [sr] at b1
 cases b1
 have hv1:=b3 (by simp [AL.len])
 subst hv1
 have hv2:v2=.func (.func 131) #[] #[]:=by
  cases AY h2 with
  | @fn _ vs _ c q1 q2 q3 =>
   have e:vs=#[]:=Array.eq_empty_of_size_eq_zero (by simpa using q1)
   rw [e]
 subst hv2
 have e:∀ m:List Bd,BR m=Ga m []:=fun m=>by rw [Ga,List.append_nil]
 rw [e] at sr ⊢
 exact Uh l [] (by simp) hn hl r hr S sr hS σ w ι hF hO
theorem Sn (l:List Bd) (hn:Bc l) (hl:l.length≤100000) (r:Nat) (hr:1000≤r) (S:AA) (sr:S r=some (BR l)) :
  As Tryz.prog 117 [.one (.row r l.length)] S (.one (.row r l.length)) (AG S r (some (BR (BS l)))):=by
 refine Lc.acS fun hS C hC=>?_
 unfold G4
 repeat' with_reducible first | refine W ?_ | refine Z0 ?_ | ((first | refine Wo fun K hK=>?_ | refine Wq ?_ | refine Wr ?_);(try simp only [go_sem,fN,seval,eT,iR]);(repeat refine Ai ?_);(try (refine hK _ ?_;clear hK K)))
 refine ⟨_,_,S6 l hn hl (up1 r) (At r) (upS S) (by rw [A0,sr];rfl),?_⟩
 repeat' with_reducible first | refine W ?_ | refine Z0 ?_ | ((first | refine Wo fun K hK=>?_ | refine Wq ?_ | refine Wr ?_);(try simp only [go_sem,fN,seval,eT,iR]);(repeat refine Ai ?_);(try (refine hK _ ?_;clear hK K)))
 have hc:=B0 (b:=BR (BS l)) hS hr rfl
 refine Va trivial ?_ (It (n:=l.length) hr) (fun i b _ h=>(hc i b h).2) (IG hc) hc
 simp only [go_sem,fN,seval,eT,iR,AB,AD,AK]



def GS:IR :=
 (.seq (.ops [.i 3 (.box 37 (.t 1)),.i 4 (.mov (.c (.one (.st (.bool false)))))]) (.seq (.seq (.ops [.f 7 0 3,.l 8 7,.m 9 0,.i 10 (.bin .eql (.t 8) (.t 9))]) (.cond (.t 10) (.seq (.ops [.i 4 (.mov (.c (.one (.st (.bool true)))))]) .ret) .skip)) (.seq (.seq (.ops [.f 11 1 3,.l 12 11,.i 13 (.len false (.t 12)),.i 14 (.mov (.n 0))]) (.block 0 (.loop (.seq (.ops [.i 15 (.bin .lss (.t 14) (.t 13))]) (.seq (.cond (.t 15) .skip (.exit 0)) (.seq (.block 1 (.seq (.ops [.i 16 (.indexAddr 2 (.t 12) (.t 14)),.L 17 2 16,.i 6 (.alloc 37 [.st (.str (ByteArray.mk (#[]))),.full []]),.s 2 6 17]) (.seq (.ops [.m 18 0,.L 19 2 6,.i 20 (.call 116 [.t 18,.t 19])]) (.cond (.t 20) (.seq (.ops [.i 4 (.mov (.c (.one (.st (.bool true)))))]) .ret) .skip)))) (.ops [.i 21 (.bin .add (.t 14) (.n 1)),.m 14 21]))))))) (.seq (.ops [.i 4 (.mov (.c (.one (.st (.bool false)))))]) .ret))))
theorem LE:OkF Tryz.prog 116 22 [] GS [.t 4]:=.of Tryz.func116 rfl rfl (by kernel_rfl) rfl
def HB:IR :=
 (.seq (.ops [.i 2 (.mov (.c (.one (.full [])))),.i 3 (.mov (.n 0))]) (.seq (.ops [.i 4 (.mov (.c (.one (.full []))))]) (.seq (.ops [.i 5 (.mov (.c (.one (.full []))))]) (.seq (.seq (.ops [.m 15 0,.i 16 (.len false (.t 15)),.i 17 (.bin .sub (.t 16) (.n 1)),.m 6 17]) (.block 0 (.loop (.seq (.seq (.ops [.m 18 6,.i 19 (.bin .geq (.t 18) (.n 0))]) (.cond (.t 19) .skip (.exit 0))) (.seq (.block 1 (.ops [.m 22 5,.m 23 0,.m 24 6,.i 25 (.indexAddr 4 (.t 23) (.t 24)),.L 26 4 25,.i 27 (.buildSlice false 40 4 [.t 26]),.i 28 (.appP 40 4 80 (.t 22) (.t 27)),.m 5 28])) (.ops [.m 20 6,.i 21 (.bin .sub (.t 20) (.n 1)),.m 6 21])))))) (.seq (.block 2 (.loop (.seq (.seq (.ops [.m 29 5,.i 30 (.len false (.t 29)),.i 31 (.bin .gtr (.t 30) (.n 0))]) (.cond (.t 31) .skip (.exit 2))) (.block 3 (.seq (.ops [.m 32 5,.m 33 5,.i 34 (.len false (.t 33)),.i 35 (.bin .sub (.t 34) (.n 1)),.i 36 (.indexP 4 (.t 32) (.t 35)),.L 37 4 36,.i 7 (.alloc 40 [.st (.str (ByteArray.mk (#[]))),.full [],.st (.str (ByteArray.mk (#[]))),.full []]),.s 4 7 37]) (.seq (.ops [.m 38 5,.m 39 5,.i 40 (.len false (.t 39)),.i 41 (.bin .sub (.t 40) (.n 1)),.i 42 (.cutP 4 (.t 38) (.t 41)),.m 5 42]) (.seq (.ops [.m 44 4,.f 45 0 7,.L 46 2 45,.i 47 (.callR 110 [.t 44,.t 46]),.m 43 47,.i 48 (.extract 0 (.t 43)),.i 49 (.extract 1 (.t 43)),.i 8 (.alloc 37 [.st (.str (ByteArray.mk (#[]))),.full []]),.s 2 8 48,.m 9 49]) (.seq (.ops [.m 51 4,.f 52 2 7,.L 53 2 52,.i 54 (.callR 110 [.t 51,.t 53]),.m 50 54,.i 55 (.extract 0 (.t 50)),.i 56 (.extract 1 (.t 50)),.i 10 (.alloc 37 [.st (.str (ByteArray.mk (#[]))),.full []]),.s 2 10 55,.m 11 56]) (.seq (.seq (.ops [.m 57 9,.i 58 (.un .not (.t 57)),.m 59 58,.mk (some 60) (some (59,false)) (.mov (.t 11)) .no,.mk (some 61) (some (59,false)) (.un .not (.t 60)) .no,.i 62 (.pick (.t 59) (.c (.one (.st (.bool true)))) (.t 61))]) (.cond (.t 62) (.seq (.ops [.i 2 (.mov (.c (.one (.full [])))),.i 3 (.mov (.n 8))]) .ret) .skip)) (.block 4 (.seq (.ops [.f 86 0 8,.l 87 86,.i 88 (.call 67 [.t 87]),.m 89 88,.mk (some 90) (some (89,true)) (.fieldAddr 0 (.t 8)) .no,.mk (some 91) (some (89,true)) (.load false 1 (.t 90)) .no,.mk (some 92) (some (89,true)) (.fieldAddr 0 (.t 10)) .no,.mk (some 93) (some (89,true)) (.load false 1 (.t 92)) .no,.mk (some 94) (some (89,true)) (.bin .eql (.t 91) (.t 93)) .no,.i 95 (.pick (.t 89) (.t 94) (.c (.one (.st (.bool false))))),.m 85 95]) (.cond (.t 85) .skip (.seq (.ops [.f 97 0 8,.l 98 97,.i 99 (.call 67 [.t 98]),.m 100 99,.mk (some 101) (some (100,false)) (.fieldAddr 0 (.t 10)) .no,.mk (some 102) (some (100,false)) (.load false 1 (.t 101)) .no,.mk (some 103) (some (100,false)) (.call 67 [.t 102]) .no,.i 104 (.pick (.t 100) (.c (.one (.st (.bool true)))) (.t 103)),.m 96 104]) (.cond (.t 96) (.seq (.seq (.ops [.f 105 0 8,.l 106 105,.i 107 (.call 67 [.t 106]),.i 108 (.un .not (.t 107))]) (.cond (.t 108) (.ops [.L 109 2 10,.L 110 2 8,.s 2 8 109,.s 2 10 110]) .skip)) (.seq (.seq (.ops [.f 111 0 8,.l 112 111,.L 113 2 10,.i 114 (.call 116 [.t 112,.t 113])]) (.cond (.t 114) (.seq (.ops [.i 2 (.mov (.c (.one (.full [])))),.i 3 (.mov (.n 6))]) .ret) .skip)) (.seq (.ops [.f 115 0 8,.l 116 115,.L 117 2 10,.i 118 (.build [.st (.str (ByteArray.mk (#[]))),.st (.str (ByteArray.mk (#[]))),.full []] [(0,1,.t 116),(1,2,.t 117)]),.i 119 (.buildSlice false 82 3 [.t 118]),.m 12 119]) (.seq (.seq (.ops [.m 120 4,.i 121 (.len false (.t 120)),.i 122 (.mov (.n 0))]) (.block 7 (.loop (.seq (.ops [.i 123 (.bin .lss (.t 122) (.t 121))]) (.seq (.cond (.t 123) .skip (.exit 7)) (.seq (.block 8 (.seq (.ops [.m 124 122,.m 13 124]) (.seq (.ops [.m 126 4,.m 127 13,.m 128 12,.m 129 4,.m 130 13,.i 131 (.indexAddr 3 (.t 129) (.t 130)),.f 132 1 131,.L 133 2 132,.i 134 (.call 110 [.t 128,.t 133]),.m 125 134,.i 135 (.extract 0 (.t 125)),.i 136 (.extract 1 (.t 125)),.i 137 (.indexAddr 3 (.t 126) (.t 127)),.f 138 1 137,.s 2 138 135,.m 9 136]) (.seq (.ops [.m 139 9,.i 140 (.un .not (.t 139))]) (.cond (.t 140) (.seq (.ops [.i 2 (.mov (.c (.one (.full [])))),.i 3 (.mov (.n 8))]) .ret) .skip))))) (.ops [.i 141 (.bin .add (.t 122) (.n 1)),.m 122 141]))))))) (.ops [.m 142 4,.m 143 12,.i 144 (.indexAddr 3 (.t 143) (.n 0)),.L 145 3 144,.i 146 (.buildSlice false 82 3 [.t 145]),.i 147 (.append false 82 3 56 (.t 142) (.t 146)),.i 148 (.callS 117 [.t 147]),.m 4 148]))))) (.seq (.ops [.f 150 0 8,.l 151 150,.f 152 0 10,.l 153 152,.i 154 (.bin .neq (.t 151) (.t 153)),.m 155 154,.mk (some 156) (some (155,false)) (.fieldAddr 1 (.t 8)) .no,.mk (some 157) (some (155,false)) (.load false 1 (.t 156)) .no,.mk (some 158) (some (155,false)) (.len false (.t 157)) .no,.mk (some 159) (some (155,false)) (.fieldAddr 1 (.t 10)) .no,.mk (some 160) (some (155,false)) (.load false 1 (.t 159)) .no,.mk (some 161) (some (155,false)) (.len false (.t 160)) .no,.mk (some 162) (some (155,false)) (.bin .neq (.t 158) (.t 161)) .no,.i 163 (.pick (.t 155) (.c (.one (.st (.bool true)))) (.t 162)),.m 149 163]) (.cond (.t 149) (.seq (.ops [.i 2 (.mov (.c (.one (.full [])))),.i 3 (.mov (.n 5))]) .ret) (.seq (.ops [.f 63 1 8,.l 64 63,.i 65 (.len false (.t 64)),.i 66 (.bin .sub (.t 65) (.n 1)),.m 14 66]) (.block 5 (.loop (.seq (.seq (.ops [.m 67 14,.i 68 (.bin .geq (.t 67) (.n 0))]) (.cond (.t 68) .skip (.exit 5))) (.seq (.block 6 (.ops [.m 71 5,.f 72 1 8,.l 73 72,.m 74 14,.i 75 (.indexAddr 2 (.t 73) (.t 74)),.L 76 2 75,.f 77 1 10,.l 78 77,.m 79 14,.i 80 (.indexAddr 2 (.t 78) (.t 79)),.L 81 2 80,.i 82 (.build [.st (.str (ByteArray.mk (#[]))),.full [],.st (.str (ByteArray.mk (#[]))),.full []] [(0,2,.t 76),(2,2,.t 81)]),.i 83 (.buildSlice false 40 4 [.t 82]),.i 84 (.appP 40 4 80 (.t 71) (.t 83)),.m 5 84])) (.ops [.m 69 14,.i 70 (.bin .sub (.t 69) (.n 1)),.m 14 70])))))))))))))))))))))) (.seq (.ops [.m 164 4,.m 2 164,.i 3 (.mov (.n 0))]) .ret))))))
theorem Ln:OkF Tryz.prog 86 165 [30000028,30000036,30000042,30000084,40000047,40000054,148] HB [.t 2,.t 3]:=.of Tryz.func86 rfl rfl (by kernel_rfl) rfl



theorem YX (x:ByteArray) (t:Tm):AU Tryz.prog 116 [Bt x,aTm t] (Aa (occ x t)):=by
 induction h:SizeOf.sizeOf t using Nat.strongRecOn generalizing t with
 | _ N ih =>
 subst h
 rw [TA]
 refine LE.ac fun C hC=>?_
 unfold GS
 refine IWP.learn 1 (by omega) fun hkn=>?_
 have hkn:=G_ hkn
 by_cases hn:t.name=x
 ·repeat' with_reducible first | refine W ?_ | refine Z0 ?_ | ((first | refine Wo fun K hK=>?_ | refine Wp ?_ | refine Wq ?_ | refine Wr ?_);(try simp only [go_sem,fN,seval,eT,iR,hn,dT,dF,nL]);(repeat refine Ai ?_);(try (refine hK _ ?_;clear hK K));try refine iC ?_)
  simp only [go_sem,fN,seval,AN,AS.result,AB,AD,AK]
  rw [Bool.true_or]
 rw [decide_eq_false hn,Bool.false_or]
 repeat' with_reducible first | refine W ?_ | refine Z0 ?_ | ((first | refine Wo fun K hK=>?_ | refine Wp ?_ | refine Wq ?_ | refine Wr ?_);(try simp only [go_sem,fN,seval,eT,iR,hn,dT,dF,nL]);(repeat refine Ai ?_);(try (refine hK _ ?_;clear hK K));try refine iC ?_)
 refine IWP.loopD [6] (fun m s=>∃ k,k≤t.args.length∧m=t.args.length - k∧(t.args.take k).any (occ x)=false∧s.env 0=Bt x∧s.env 12=.one (.st (.list (t.args.map Ap)))∧s.env 13=AO t.args.length∧s.env 14=AO k∧s.S 6=none) t.args.length ⟨0,Nat.zero_le _,rfl,rfl,rfl,rfl,rfl,rfl,rfl⟩ ?_
 rintro m ⟨env,S⟩ ⟨k,hk,rfl,h0,e0,e12,e13,e14,s6⟩
 simp only at e0 e12 e13 e14 s6
 by_cases hlt:(k:Int) < t.args.length
 ·obtain ⟨a,ha⟩:=Ag (show k < t.args.length by omega)
  repeat' with_reducible first | refine W ?_ | refine Z0 ?_ | ((first | refine Wo fun K hK=>?_ | refine Wp ?_ | refine Wq ?_ | refine Wr ?_);(try simp only [go_sem,fN,seval,eT,iR,e0,e12,e13,e14,s6,hlt,ha,dT,dF,nL]);(repeat refine Ai ?_);(try (refine hK _ ?_;clear hK K));try refine iC ?_)
  refine ⟨_,ih _ (Tm.lt_of_arg (AQ ha)) a rfl,?_⟩
  cases hc:occ x a with
  | true =>
   repeat' with_reducible first | refine W ?_ | refine Z0 ?_ | ((first | refine Wo fun K hK=>?_ | refine Wp ?_ | refine Wq ?_ | refine Wr ?_);(try simp only [go_sem,fN,seval,eT,iR,hc,dT,dF,nL]);(repeat refine Ai ?_);(try (refine hK _ ?_;clear hK K));try refine iC ?_)
   simp only [go_sem,fN,seval,AN,AS.result,AB,AD,AK]
   have:t.args.any (occ x)=true:=List.any_eq_true.2 ⟨a,AQ ha,hc⟩
   rw [this]
  | false =>
   repeat' with_reducible first | refine W ?_ | refine Z0 ?_ | ((first | refine Wo fun K hK=>?_ | refine Wp ?_ | refine Wq ?_ | refine Wr ?_);(try simp only [go_sem,fN,seval,eT,iR,hc,e0,e12,e13,e14,s6,dT,dF,nL]);(repeat refine Ai ?_);(try (refine hK _ ?_;clear hK K));try refine iC ?_)
   refine AI ⟨t.args.length - (k + 1),by omega,k + 1,by omega,rfl,by rw [Al ha,List.any_append,h0];simp [hc],?_⟩
   simp only [go_sem,fN,seval,AS.drop,Ao,AC.clears,AC.clear,AC.highs,AC.high,Bool.not_false,Bool.true_and,Bool.and_self,AV.purge,AV.purges,AC.purge,AL.purge,List.contains_cons,List.contains_nil,Nat.reduceBEq,Bool.or_self,Bool.or_false,Bool.false_or,Bool.or_true,eT,iR,e0,e12,e13,e14,s6]
   congr 3
 ·repeat' with_reducible first | refine W ?_ | refine Z0 ?_ | ((first | refine Wo fun K hK=>?_ | refine Wp ?_ | refine Wq ?_ | refine Wr ?_);(try simp only [go_sem,fN,seval,eT,iR,e0,e12,e13,e14,s6,hlt,dT,dF,nL]);(repeat refine Ai ?_);(try (refine hK _ ?_;clear hK K));try refine iC ?_)
  simp only [go_sem,fN,seval,AN,AS.result,AB,AD,AK]
  rw [List.take_of_length_le (by omega)] at h0
  rw [h0]
def HI:List Pr→Int
 | []=>0
 | p :: l=>if CY p.1 p.2=0 then HI l else CY p.1 p.2
def D6 (l:List Pr):Int:=if 40 < l.length then 3 else HI l
theorem NN {l:List Pr} (h:D6 l=0):l.length≤40∧∀ p ∈ l,p.1.may=0∧p.2.may=0:=by
 unfold D6 at h
 split at h
 ·cases h
 ·refine ⟨by omega,?_⟩
  have key:∀ {l:List Pr},HI l=0→∀ p ∈ l,p.1.may=0∧p.2.may=0:=by
   intro l
   induction l with
   | nil=>simp
   | cons p l ih =>
    intro h q hq
    simp only [HI] at h
    split at h
    ·rename_i h2
     rcases List.mem_cons.1 hq with rfl | hq
     ·unfold CY at h2
      split at h2
      ·exact ⟨by assumption,h2⟩
      ·rename_i h3;exact absurd h2 h3
     ·exact ih h q hq
    ·rename_i h2;exact absurd h h2
  exact key h

theorem UV {m:Nat} {s:List Bd} {p:Pr} {l:List Pr} {r:List Bd × Int} (h:DM m s (p :: l) r):(∃ e,CF s p=.err e∧r=([],e)) ∨ ∃ s' ps n,CF s p=.go s' ps∧n < m∧DM n s' (ps ++ l) r:=by
 cases h with
 | err h=>exact .inl ⟨_,h,rfl⟩
 | go h1 h2=>exact .inr ⟨_,_,_,h1,by omega,h2⟩
structure RO (U:List ByteArray) (s:List Bd) (t:Tm):Prop where
 chk:t.chk=0
 siz:t.size≤2000
 free:MC s t
 inU:∀ y,occ y t=true→y ∈ U
abbrev Yn (t:Tm):AL:=.box 37 [.st (.str t.name),.st (.list (t.args.map Ap))]
def PT (U:List ByteArray) (s:List Bd) (p:Pr) (u t:Tm):Prop:=RO U s u∧RO U s t ∧
 ((AJ u.name=true∧CF s p=Da s u.name t) ∨ (AJ u.name=false∧CF s p=if u.name=t.name∧u.args.length=t.args.length then .go s (u.args.zip t.args) else .err 5))
theorem Ya {U:List ByteArray} {s:List Bd} {p:Pr} (ha:RO U s (p.1.on s)) (hb:RO U s (p.2.on s)) (hne:¬ (AJ (p.1.on s).name=true∧(p.1.on s).name=(p.2.on s).name)) (hv:AJ (p.1.on s).name=true ∨ AJ (p.2.on s).name=false):PT U s p (p.1.on s) (p.2.on s):=by
 have h0:¬ (2000 < (p.1.on s).size ∨ 2000 < (p.2.on s).size):=by have:=ha.siz;have:=hb.siz;omega
 refine ⟨ha,hb,?_⟩
 cases h1:AJ (p.1.on s).name with
 | true =>
  refine .inl ⟨rfl,?_⟩
  unfold CF
  rw [if_neg h0,if_neg hne,if_pos h1]
 | false =>
  have h2:AJ (p.2.on s).name=false:=hv.resolve_left (by rw [h1];simp)
  refine .inr ⟨rfl,?_⟩
  unfold CF
  rw [if_neg h0,if_neg hne,if_neg (by rw [h1];simp),if_neg (by rw [h2];simp)]
theorem W9 {U:List ByteArray} {s:List Bd} {p:Pr} (ha:RO U s (p.1.on s)) (hb:RO U s (p.2.on s)) (h1:AJ (p.1.on s).name=false) (h2:AJ (p.2.on s).name=true):PT U s p (p.2.on s) (p.1.on s):=by
 have h0:¬ (2000 < (p.1.on s).size ∨ 2000 < (p.2.on s).size):=by have:=ha.siz;have:=hb.siz;omega
 refine ⟨hb,ha,.inl ⟨h2,?_⟩⟩
 unfold CF
 rw [if_neg h0,if_neg (by rw [h1];simp),if_neg (by rw [h1];simp),if_pos h2]

set_option maxHeartbeats 2000000
def Stk (xs:List (List SV)) (l:List Pr):Prop:=xs.take l.length=l.reverse.map Bf∧l.length≤xs.length
theorem Stk.push {xs:List (List SV)} {l:List Pr} (h:Stk xs l) (p:Pr):Stk (xs.take l.length ++ [Bf p] ++ xs.drop (l.length + 1)) (p :: l):=by
 obtain ⟨h1,h2⟩:=h
 have hl:(xs.take l.length).length=l.length:=by rw [List.length_take];omega
 refine ⟨?_,by simp only [List.length_append,List.length_take,List.length_cons,List.length_nil];omega⟩
 rw [List.length_cons,List.take_append_of_le_length (by rw [List.length_append,hl];simp),List.take_of_length_le (by rw [List.length_append,hl];simp),h1,List.reverse_cons,List.map_append]
 rfl
theorem Stk.pushLen {xs:List (List SV)} {l:List Pr} (h:Stk xs l) (p:Pr):(xs.take l.length ++ [Bf p] ++ xs.drop (l.length + 1)).length=if xs.length≤l.length + 1 then l.length + 1 else xs.length:=by
 have:=h.2
 simp only [List.length_append,List.length_take,List.length_drop,List.length_cons,List.length_nil]
 split <;> omega
theorem Stk.top {xs:List (List SV)} {p:Pr} {l:List Pr} (h:Stk xs (p :: l)):xs[l.length]?=some (Bf p):=by
 obtain ⟨h1,h2⟩:=h
 have e:(xs.take (p :: l).length)[l.length]?=xs[l.length]?:=by rw [List.getElem?_take,if_pos (by simp)]
 rw [← e,h1,List.reverse_cons,List.map_append,List.getElem?_append_right (by simp)]
 simp
theorem Stk.pop {xs:List (List SV)} {p:Pr} {l:List Pr} (h:Stk xs (p :: l)):Stk xs l:=by
 obtain ⟨h1,h2⟩:=h
 rw [List.length_cons] at h2
 refine ⟨?_,by omega⟩
 have e:xs.take l.length=(xs.take (p :: l).length).take l.length:=by rw [List.take_take,List.length_cons,Nat.min_eq_left (by omega)]
 rw [e,h1,List.reverse_cons,List.map_append,List.take_append_of_le_length (by simp),List.take_of_length_le (by simp)]
def Eb (s:List Bd) (x:ByteArray) (t:Tm) (i:Nat):List Bd:=(s.take i).map (fun b=>(b.1,b.2.on [(x,t)])) ++ s.drop i
theorem SL (s:List Bd) (x:ByteArray) (t:Tm) (i:Nat):(Eb s x t i).length=s.length:=by
 have:=congrArg List.length (List.take_append_drop i s)
 unfold Eb
 rw [List.length_append] at this ⊢
 rw [List.length_map]
 exact this
theorem SM {s:List Bd} {x:ByteArray} {t:Tm} {i:Nat} {b:Bd} (h:s[i]?=some b):(Eb s x t i)[i]?=some b:=by
 have:=CW h
 unfold Eb
 rw [List.getElem?_append_right (by rw [List.length_map,List.length_take];omega),List.length_map,List.length_take,Nat.min_eq_left (by omega),Nat.sub_self,Bi h]
 rfl
theorem TI {s:List Bd} {x:ByteArray} {t:Tm} {i:Nat} {b:Bd} (h:s[i]?=some b):(Eb s x t i).set i (b.1,b.2.on [(x,t)])=Eb s x t (i + 1):=by
 have:=CW h
 unfold Eb
 rw [List.set_append_right _ _ (by rw [List.length_map,List.length_take];omega),List.length_map,List.length_take,Nat.min_eq_left (by omega),Nat.sub_self,Bi h,Al h,List.map_append,List.append_assoc]
 rfl
theorem S8 (s:List Bd) (x:ByteArray) (t:Tm):Eb s x t s.length=s.map fun b=>(b.1,b.2.on [(x,t)]):=by
 unfold Eb
 rw [List.take_length,List.drop_length,List.append_nil]
theorem Y1 (U:List ByteArray) (hU:U.length≤20000) (C0:Nat) (hC0:C0≤100000000000) (n:Nat) (l:List Pr) (r:List Bd × Int) (hr:DM n [] l r) (hg:CT U C0 [] l):AU Tryz.prog 86 [CH l] (.tup [Uk r.1,AO r.2]):=by
 have hll:l.length≤100000000001:=by have:=hg.stack;omega
 refine Ln.ac fun C hC=>?_
 unfold HB
 repeat' with_reducible first | refine W ?_ | refine Z0 ?_ | ((first | refine Wo fun K hK=>?_ | refine Wp ?_ | refine Wq ?_ | refine Wr ?_);(try simp only [go_sem,fN,seval,eT,iR,dT,dF,nL]);(repeat refine Ai ?_);(try (refine hK _ ?_;clear hK K));try refine iC ?_)
 refine IWP.ghost (Ac.ownM 4 500 82 3 rfl rfl (by rw [hC];decide)) ?_
 refine IWP.ghost (Ac.ownM 5 501 40 4 rfl rfl (by rw [hC];decide)) ?_
 refine IWP.ghost (Ac.toPart 5 501 0 rfl (by rw [hC];decide)) ?_
 refine IWP.loop (fun m x=>∃ (k:Nat) (xs:List (List SV)),k≤l.length∧m=k∧Stk xs (l.drop k)∧x.env 0=CH l∧x.env 4=.one (.row 500 0)∧x.env 5=.one (.part 501 (l.drop k).length xs.length)∧x.env 6=.one (.st (.int .i64 ((k:Int) - 1)))∧x.S 500=some (BR [])∧x.S 501=some (.mrow 40 4 xs)∧x.S 7=none∧x.S 8=none∧x.S 10=none) l.length ⟨l.length,[],Nat.le_refl _,rfl,?_⟩ ?_
 ·rw [List.drop_length]
  exact ⟨⟨rfl,Nat.le_refl _⟩,rfl,rfl,rfl,rfl,rfl,rfl,rfl,rfl,rfl⟩
 ·rintro k ⟨env,S⟩ ⟨_,xs,hk,rfl,hstk,e0,e4,e5,e6,s500,s501,s7,s8,s10⟩
  simp only at e0 e4 e5 e6 s500 s501 s7 s8 s10
  by_cases hk0:0≤(k:Int) - 1
  ·obtain ⟨k,rfl⟩:∃ q,k=q + 1:=⟨k - 1,by omega⟩
   obtain ⟨p,hp⟩:=Ag (show k < l.length by omega)
   have hz:(((k + 1:Nat):Int) - 1).toNat=k:=by omega
   have hp':l[(((k + 1:Nat):Int) - 1).toNat]?=some p:=by rw [hz];exact hp
   have hdl:(List.drop (k + 1) l).length≤100000000001:=by rw [List.length_drop];omega
   repeat' with_reducible first | refine W ?_ | refine Z0 ?_ | ((first | refine Wo fun K hK=>?_ | refine Wp ?_ | refine Wq ?_ | refine Wr ?_);(try simp only [go_sem,fN,seval,eT,iR,e0,e4,e5,e6,s500,s501,s7,s8,s10,hk0,hz,hp,Bf,dT,dF,nL]);(repeat refine Ai ?_);(try (refine hK _ ?_;clear hK K));try refine iC ?_)
   refine AI ⟨k,by omega,k,_,by omega,rfl,by rw [Bi hp];exact hstk.push p,?_⟩
   simp only [go_sem,fN,seval,eT,iR,e0,e4,e5,e6,s500,s7,s8,s10]
   have hpl:(List.take (List.drop (k + 1) l).length xs).length + 1 + (List.drop ((List.drop (k + 1) l).length + 1) xs).length=if xs.length≤(List.drop (k + 1) l).length + 1 then (List.drop (k + 1) l).length + 1 else xs.length:=by
    have:=hstk.pushLen p
    simpa only [List.length_append,List.length_cons,List.length_nil,Nat.zero_add] using this
   rw [hpl,Bi hp]
   refine ⟨rfl,?_,rfl⟩
   congr 3
   omega
  ·obtain rfl:k=0:=by omega
   rw [List.drop_zero] at hstk e5
   repeat' with_reducible first | refine W ?_ | refine Z0 ?_ | ((first | refine Wo fun K hK=>?_ | refine Wp ?_ | refine Wq ?_ | refine Wr ?_);(try simp only [go_sem,fN,seval,eT,iR,e6,hk0,dT,dF,nL]);(repeat refine Ai ?_);(try (refine hK _ ?_;clear hK K));try refine iC ?_)
   refine IWP.loopD [7,8,10] (fun m x=>∃ s l xs,DM m s l r∧CT U C0 s l∧Stk xs l∧x.env 4=.one (.row 500 s.length)∧x.env 5=.one (.part 501 l.length xs.length)∧x.S 500=some (BR s)∧x.S 501=some (.mrow 40 4 xs)∧x.S 7=none∧x.S 8=none∧x.S 10=none) n ⟨[],l,xs,hr,hg,hstk,?_⟩ ?_
   ·simp only [go_sem,fN,seval,eT,iR,e4,e5,s500,s501,s7,s8,s10]
   clear hr hg hstk e0 e4 e5 e6 s500 s501 s7 s8 s10 hll hk hk0 env S xs
   rintro m ⟨env,S⟩ ⟨s,l,xs,hr,hg,hstk,e4,e5,s500,s501,s7,s8,s10⟩
   simp only at e4 e5 s500 s501 s7 s8 s10
   have hsl:s.length≤20000:=Nat.le_trans hg.len hU
   cases l with
   | nil =>
    cases hr
    refine IWP.ghost (Ac.share (id:=500) s500) ?_
    repeat' with_reducible first | refine W ?_ | refine Z0 ?_ | ((first | refine Wo fun K hK=>?_ | refine Wp ?_ | refine Wq ?_ | refine Wr ?_);(try simp only [go_sem,fN,seval,eT,iR,e4,e5,s501,dT,dF,nL]);(repeat refine Ai ?_);(try (refine hK _ ?_;clear hK K));try refine iC ?_)
    simp only [go_sem,fN,seval,AN,AS.result,AB,AD,AK]
   | cons p l =>
    have hinv:=UV hr
    obtain ⟨hc1,hc2⟩:=hg.lchk p (by simp)
    have hUp:=hg.lU p (by simp)
    obtain ⟨hz1,hz2⟩:=hg.lsiz p (by simp)
    obtain ⟨a1,a2,a3⟩:=onU hg hc1 fun y=>(hUp y).1
    obtain ⟨b1,b2,b3⟩:=onU hg hc2 fun y=>(hUp y).2
    have hl0:(0:Int) < ((l.length + 1:Nat):Int):=by omega
    have hl1:(((l.length + 1:Nat):Int) - 1)=(l.length:Int):=by omega
    have hl2:(l.length:Int) < ((l.length + 1:Nat):Int):=by omega
    have hl3:(l.length:Int)≤((l.length + 1:Nat):Int):=by omega
    have hlb:l.length≤100000000000:=by have:=hg.stack;rw [List.length_cons] at this;omega
    have htop:=hstk.top
    have hstk':=hstk.pop
    rw [List.length_cons] at e5
    have onc:∀ t:Tm,t.chk=0→∀ T:AA,(∀ q ∈ [(500,BR s)],T q.1=some q.2)→As Tryz.prog 110 [.one (.row (up1 500) s.length),aTm t] (upS T) (.tup [aTm (A7 s t).1,Aa (A7 s t).2]) (upS T) :=
     fun t ht T hT=>AAk s (by omega) hg.ord t hg.var ht (up1 500) (At 500) (upS T) (by rw [A0,hT _ (List.mem_singleton.2 rfl)];rfl)
    by_cases ha:(p.1.on s).size≤2000
    case neg =>
     have he:A7 s p.1=(Tm.nil,false):=by unfold A7;rw [if_neg ha]
     have hst:CF s p=.err 8:=by unfold CF;rw [if_pos (by omega)]
     repeat' with_reducible first | refine W ?_ | refine Z0 ?_ | ((first | refine Wo fun K hK=>?_ | refine Wp ?_ | refine Wq ?_ | refine Wr ?_);(try simp only [go_sem,fN,seval,eT,iR,e4,e5,s500,s501,s7,s8,s10,hl0,hl1,hl2,hl3,htop,Bf,dT,dF,nL]);(repeat refine Ai ?_);(try (refine hK _ ?_;clear hK K));try refine iC ?_)
     refine ⟨_,[(500,BR s)],DX (by (simp only [go_sem,fN,seval,eT,iR,s500])),onc p.1 hc1,?_⟩
     repeat' with_reducible first | refine W ?_ | refine Z0 ?_ | ((first | refine Wo fun K hK=>?_ | refine Wp ?_ | refine Wq ?_ | refine Wr ?_);(try simp only [go_sem,fN,seval,eT,iR,he,e4,e5,s8,s10,dT,dF,nL]);(repeat refine Ai ?_);(try (refine hK _ ?_;clear hK K));try refine iC ?_)
     refine ⟨_,[(500,BR s)],DX (by (simp only [go_sem,fN,seval,eT,iR,s500])),onc p.2 hc2,?_⟩
     repeat' with_reducible first | refine W ?_ | refine Z0 ?_ | ((first | refine Wo fun K hK=>?_ | refine Wp ?_ | refine Wq ?_ | refine Wr ?_);(try simp only [go_sem,fN,seval,eT,iR,he,e4,e5,s8,s10,dT,dF,nL]);(repeat refine Ai ?_);(try (refine hK _ ?_;clear hK K));try refine iC ?_)
     simp only [go_sem,fN,seval,AN,AS.result,AB,AD,AK]
     rcases hinv with ⟨e,h1,rfl⟩ | ⟨s',ps,q,h1,_⟩
     ·rw [hst] at h1
      cases h1
      rfl
     ·rw [hst] at h1
      cases h1
    by_cases hb:(p.2.on s).size≤2000
    case neg =>
     have he:A7 s p.1=(p.1.on s,true):=by unfold A7;rw [if_pos ha]
     have he2:A7 s p.2=(Tm.nil,false):=by unfold A7;rw [if_neg hb]
     have hst:CF s p=.err 8:=by unfold CF;rw [if_pos (by omega)]
     repeat' with_reducible first | refine W ?_ | refine Z0 ?_ | ((first | refine Wo fun K hK=>?_ | refine Wp ?_ | refine Wq ?_ | refine Wr ?_);(try simp only [go_sem,fN,seval,eT,iR,e4,e5,s500,s501,s7,s8,s10,hl0,hl1,hl2,hl3,htop,Bf,dT,dF,nL]);(repeat refine Ai ?_);(try (refine hK _ ?_;clear hK K));try refine iC ?_)
     refine ⟨_,[(500,BR s)],DX (by (simp only [go_sem,fN,seval,eT,iR,s500])),onc p.1 hc1,?_⟩
     repeat' with_reducible first | refine W ?_ | refine Z0 ?_ | ((first | refine Wo fun K hK=>?_ | refine Wp ?_ | refine Wq ?_ | refine Wr ?_);(try simp only [go_sem,fN,seval,eT,iR,he,e4,e5,s8,s10,dT,dF,nL]);(repeat refine Ai ?_);(try (refine hK _ ?_;clear hK K));try refine iC ?_)
     refine ⟨_,[(500,BR s)],DX (by (simp only [go_sem,fN,seval,eT,iR,s500])),onc p.2 hc2,?_⟩
     repeat' with_reducible first | refine W ?_ | refine Z0 ?_ | ((first | refine Wo fun K hK=>?_ | refine Wp ?_ | refine Wq ?_ | refine Wr ?_);(try simp only [go_sem,fN,seval,eT,iR,he,he2,e4,e5,s8,s10,dT,dF,nL]);(repeat refine Ai ?_);(try (refine hK _ ?_;clear hK K));try refine iC ?_)
     simp only [go_sem,fN,seval,AN,AS.result,AB,AD,AK]
     rcases hinv with ⟨e,h1,rfl⟩ | ⟨s',ps,q,h1,_⟩
     ·rw [hst] at h1
      cases h1
      rfl
     ·rw [hst] at h1
      cases h1
    have he:A7 s p.1=(p.1.on s,true):=by unfold A7;rw [if_pos ha]
    have he2:A7 s p.2=(p.2.on s,true):=by unfold A7;rw [if_pos hb]
    have hta:RO U s (p.1.on s):=⟨a1,ha,a2,a3⟩
    have htb:RO U s (p.2.on s):=⟨b1,hb,b2,b3⟩
    repeat' with_reducible first | refine W ?_ | refine Z0 ?_ | ((first | refine Wo fun K hK=>?_ | refine Wp ?_ | refine Wq ?_ | refine Wr ?_);(try simp only [go_sem,fN,seval,eT,iR,e4,e5,s500,s501,s7,s8,s10,hl0,hl1,hl2,hl3,htop,Bf,dT,dF,nL]);(repeat refine Ai ?_);(try (refine hK _ ?_;clear hK K));try refine iC ?_)
    refine ⟨_,[(500,BR s)],DX (by (simp only [go_sem,fN,seval,eT,iR,s500])),onc p.1 hc1,?_⟩
    repeat' with_reducible first | refine W ?_ | refine Z0 ?_ | ((first | refine Wo fun K hK=>?_ | refine Wp ?_ | refine Wq ?_ | refine Wr ?_);(try simp only [go_sem,fN,seval,eT,iR,he,e4,e5,s8,s10,dT,dF,nL]);(repeat refine Ai ?_);(try (refine hK _ ?_;clear hK K));try refine iC ?_)
    refine ⟨_,[(500,BR s)],DX (by (simp only [go_sem,fN,seval,eT,iR,s500])),onc p.2 hc2,?_⟩
    repeat' with_reducible first | refine W ?_ | refine Z0 ?_ | ((first | refine Wo fun K hK=>?_ | refine Wp ?_ | refine Wq ?_ | refine Wr ?_);(try simp only [go_sem,fN,seval,eT,iR,he,he2,e4,e5,s8,s10,dT,dF,nL]);(repeat refine Ai ?_);(try (refine hK _ ?_;clear hK K));try refine iC ?_)
    refine ⟨_,Am _,?_⟩
    by_cases hsame:AJ (p.1.on s).name=true∧(p.1.on s).name=(p.2.on s).name
    ·have hst:CF s p=.go s []:=by unfold CF;rw [if_neg (by omega),if_pos hsame]
     have hsv:AJ (p.2.on s).name=true:=by rw [← hsame.2];exact hsame.1
     repeat' with_reducible first | refine W ?_ | refine Z0 ?_ | ((first | refine Wo fun K hK=>?_ | refine Wp ?_ | refine Wq ?_ | refine Wr ?_);(try simp only [go_sem,fN,seval,eT,iR,hsame.1,hsv,hsame.2,e4,e5,dT,dF,nL]);(repeat refine Ai ?_);(try (refine hK _ ?_;clear hK K));try refine iC ?_)
     rcases hinv with ⟨e,h1,_⟩ | ⟨s',ps,q,h1,h2,h3⟩
     ·rw [hst] at h1
      cases h1
     rw [hst] at h1
     cases h1
     refine AI ⟨q,h2,s,l,xs,h3,hg.tail,hstk',?_⟩
     simp only [go_sem,fN,seval,AS.drop,Ao,AC.clears,AC.clear,AC.highs,AC.high,Bool.not_false,Bool.true_and,Bool.and_self,AV.purge,AV.purges,AC.purge,AL.purge,List.contains_cons,List.contains_nil,Nat.reduceBEq,Bool.or_self,Bool.or_false,Bool.false_or,Bool.or_true,eT,iR,e4,s500,s501]
    by_cases hvv:AJ (p.1.on s).name=true ∨ AJ (p.2.on s).name=true
    ·apply AAh
     ·intro rest
      cases hv:AJ (p.1.on s).name with
      | true =>
       have hne:¬ (p.1.on s).name=(p.2.on s).name:=fun h=>hsame ⟨hv,h⟩
       repeat' with_reducible first | refine W ?_ | refine Z0 ?_ | ((first | refine Wo fun K hK=>?_ | refine Wp ?_ | refine Wq ?_ | refine Wr ?_);(try simp only [go_sem,fN,seval,eT,iR,hv,hne,dT,dF,nL]);(repeat refine Ai ?_);(try (refine hK _ ?_;skip));try refine iC ?_)
       refine ⟨_,Am _,?_⟩
       repeat' with_reducible first | refine W ?_ | refine Z0 ?_ | ((first | refine Wo fun K hK=>?_ | refine Wq ?_ | refine Wr ?_);(try simp only [go_sem,fN,seval,eT,iR,hv]);(repeat refine Ai ?_);(try (refine hK _ ?_;skip)))
       with_reducible refine Wp ?_
       simp only [go_sem,fN,seval,true_implies,false_implies,implies_true,dT,dF,nL]
       (try with_reducible refine iC ?_)
       refine IWP.mid (fun x=>∃ u t,PT U s p u t∧AJ u.name=true∧x.env 4=.one (.row 500 s.length)∧x.env 5=.one (.part 501 l.length xs.length)∧x.env 8=.one (.ptr 8 1 0 0)∧x.env 10=.one (.ptr 10 1 0 0)∧x.S 500=some (BR s)∧x.S 501=some (.mrow 40 4 xs)∧x.S 8=some (Yn u)∧x.S 10=some (Yn t)) ?_ rest
       repeat' with_reducible first | refine W ?_ | refine Z0 ?_ | ((first | refine Wo fun K hK=>?_ | refine Wp ?_ | refine Wq ?_ | refine Wr ?_);(try simp only [go_sem,fN,seval,eT,iR,dT,dF,nL]);(repeat refine Ai ?_);(try (refine hK _ ?_;skip));try refine iC ?_)
       refine ⟨_,Am _,?_⟩
       repeat' with_reducible first | refine W ?_ | refine Z0 ?_ | ((first | refine Wo fun K hK=>?_ | refine Wp ?_ | refine Wq ?_ | refine Wr ?_);(try simp only [go_sem,fN,seval,eT,iR,hv,dT,dF,nL]);(repeat refine Ai ?_);(try (refine hK _ ?_;skip));try refine iC ?_)
       refine ⟨rfl,_,_,Ya hta htb hsame (.inl hv),hv,?_⟩
       simp only [go_sem,fN,seval,eT,iR,e4,s500,s501]
      | false =>
       have hw:AJ (p.2.on s).name=true:=hvv.resolve_left (by rw [hv];simp)
       repeat' with_reducible first | refine W ?_ | refine Z0 ?_ | ((first | refine Wo fun K hK=>?_ | refine Wp ?_ | refine Wq ?_ | refine Wr ?_);(try simp only [go_sem,fN,seval,eT,iR,hv,dT,dF,nL]);(repeat refine Ai ?_);(try (refine hK _ ?_;skip));try refine iC ?_)
       refine ⟨_,Am _,?_⟩
       repeat' with_reducible first | refine W ?_ | refine Z0 ?_ | ((first | refine Wo fun K hK=>?_ | refine Wp ?_ | refine Wq ?_ | refine Wr ?_);(try simp only [go_sem,fN,seval,eT,iR,hv,dT,dF,nL]);(repeat refine Ai ?_);(try (refine hK _ ?_;skip));try refine iC ?_)
       refine ⟨_,Am _,?_⟩
       repeat' with_reducible first | refine W ?_ | refine Z0 ?_ | ((first | refine Wo fun K hK=>?_ | refine Wq ?_ | refine Wr ?_);(try simp only [go_sem,fN,seval,eT,iR,hv,hw]);(repeat refine Ai ?_);(try (refine hK _ ?_;skip)))
       with_reducible refine Wp ?_
       simp only [go_sem,fN,seval,true_implies,false_implies,implies_true,dT,dF,nL]
       (try with_reducible refine iC ?_)
       refine IWP.mid (fun x=>∃ u t,PT U s p u t∧AJ u.name=true∧x.env 4=.one (.row 500 s.length)∧x.env 5=.one (.part 501 l.length xs.length)∧x.env 8=.one (.ptr 8 1 0 0)∧x.env 10=.one (.ptr 10 1 0 0)∧x.S 500=some (BR s)∧x.S 501=some (.mrow 40 4 xs)∧x.S 8=some (Yn u)∧x.S 10=some (Yn t)) ?_ rest
       repeat' with_reducible first | refine W ?_ | refine Z0 ?_ | ((first | refine Wo fun K hK=>?_ | refine Wp ?_ | refine Wq ?_ | refine Wr ?_);(try simp only [go_sem,fN,seval,eT,iR,dT,dF,nL]);(repeat refine Ai ?_);(try (refine hK _ ?_;skip));try refine iC ?_)
       refine ⟨_,Am _,?_⟩
       repeat' with_reducible first | refine W ?_ | refine Z0 ?_ | ((first | refine Wo fun K hK=>?_ | refine Wp ?_ | refine Wq ?_ | refine Wr ?_);(try simp only [go_sem,fN,seval,eT,iR,hv,dT,dF,nL]);(repeat refine Ai ?_);(try (refine hK _ ?_;skip));try refine iC ?_)
       refine ⟨rfl,_,_,W9 hta htb hv hw,hw,?_⟩
       simp only [go_sem,fN,seval,eT,iR,e4,s500,s501]
     clear e4 e5 s500 s501 s7 s8 s10
     rintro ⟨env,S⟩ ⟨u,t,⟨hu,ht,hst⟩,hv,e4,e5,e8,e10,s500,s501,s8,s10⟩
     simp only at e4 e5 e8 e10 s500 s501 s8 s10
     have hst:CF s p=Da s u.name t:=by
      rcases hst with ⟨_,h⟩ | ⟨h,_⟩
      ·exact h
      ·rw [hv] at h;cases h
     rw [hst] at hinv
     repeat' with_reducible first | refine W ?_ | refine Z0 ?_ | ((first | refine Wo fun K hK=>?_ | refine Wp ?_ | refine Wq ?_ | refine Wr ?_);(try simp only [go_sem,fN,seval,eT,iR,e4,e5,e8,e10,s500,s501,s8,s10,dT,dF,nL]);(repeat refine Ai ?_);(try (refine hK _ ?_;clear hK K));try refine iC ?_)
     refine ⟨_,YX u.name t,?_⟩
     cases ho:occ u.name t with
     | true =>
      have hbv:Da s u.name t=.err 6:=by unfold Da;rw [if_pos ho]
      repeat' with_reducible first | refine W ?_ | refine Z0 ?_ | ((first | refine Wo fun K hK=>?_ | refine Wp ?_ | refine Wq ?_ | refine Wr ?_);(try simp only [go_sem,fN,seval,eT,iR,ho,dT,dF,nL]);(repeat refine Ai ?_);(try (refine hK _ ?_;clear hK K));try refine iC ?_)
      simp only [go_sem,fN,seval,AN,AS.result,AB,AD,AK]
      rcases hinv with ⟨e,h1,rfl⟩ | ⟨s',ps,q,h1,_⟩
      ·rw [hbv] at h1
       cases h1
       rfl
      ·rw [hbv] at h1
       cases h1
     | false =>
      repeat' with_reducible first | refine W ?_ | refine Z0 ?_ | ((first | refine Wo fun K hK=>?_ | refine Wp ?_ | refine Wq ?_ | refine Wr ?_);(try simp only [go_sem,fN,seval,eT,iR,ho,e4,e5,e8,e10,s500,s501,s8,s10,dT,dF,nL]);(repeat refine Ai ?_);(try (refine hK _ ?_;clear hK K));try refine iC ?_)
      refine IWP.loop (fun m x=>∃ i,i≤s.length∧m=s.length - i∧(∀ c ∈ s.take i,(c.2.on [(u.name,t)]).size≤2000)∧x.env 4=.one (.row 500 s.length)∧x.env 5=.one (.part 501 l.length xs.length)∧x.env 12=.one (.full [C3 (u.name,t)])∧x.env 121=AO s.length∧x.env 122=AO i∧x.S 500=some (BR (Eb s u.name t i))∧x.S 501=some (.mrow 40 4 xs)) s.length ⟨0,Nat.zero_le _,rfl,by simp,?_⟩ ?_
      ·simp only [go_sem,fN,seval,eT,iR,e4,e5,s500,s501,C3]
       rfl
      rintro mm ⟨env,S⟩ ⟨i,hi,rfl,h20,e4,e5,e12,e121,e122,s500,s501⟩
      simp only at e4 e5 e12 e121 e122 s500 s501
      have hhl:=SL s u.name t i
      by_cases hlt:(i:Int) < s.length
      ·have hlt':i < s.length:=by omega
       obtain ⟨b,hb⟩:=Ag hlt'
       have hbz:=hg.siz b (AQ hb)
       have hbh:=SM (x:=u.name) (t:=t) hb
       have hone:∀ c ∈ ([(u.name,t)]:List Bd),AJ c.1=true:=by simp [hv]
       repeat' with_reducible first | refine W ?_ | refine Z0 ?_ | ((first | refine Wo fun K hK=>?_ | refine Wp ?_ | refine Wq ?_ | refine Wr ?_);(try simp only [go_sem,fN,seval,eT,iR,e4,e5,e12,e121,e122,s500,s501,hlt,hlt',hhl,hbh,C3,dT,dF,nL]);(repeat refine Ai ?_);(try (refine hK _ ?_;clear hK K));try refine iC ?_)
       refine ⟨_,Nt [(u.name,t)] (by simp) (List.pairwise_singleton _ _) b.2 hone (hg.chk b (AQ hb)),?_⟩
       by_cases hz:(b.2.on [(u.name,t)]).size≤2000
       ·have hon:A7 [(u.name,t)] b.2=(b.2.on [(u.name,t)],true):=by unfold A7;rw [if_pos hz]
        repeat' with_reducible first | refine W ?_ | refine Z0 ?_ | ((first | refine Wo fun K hK=>?_ | refine Wp ?_ | refine Wq ?_ | refine Wr ?_);(try simp only [go_sem,fN,seval,eT,iR,hon,e4,e5,e12,e121,e122,s500,s501,hlt,hlt',hhl,hbh,C3,dT,dF,nL]);(repeat refine Ai ?_);(try (refine hK _ ?_;clear hK K));try refine iC ?_)
        refine AI ⟨s.length - (i + 1),by omega,i + 1,by omega,rfl,fun c hc=>?_,?_⟩
        ·rw [Al hb] at hc
         rcases List.mem_append.1 hc with hc | hc
         ·exact h20 c hc
         ·rw [List.mem_singleton.1 hc];exact hz
        ·simp only [go_sem,fN,seval,eT,iR,e4,e5,e12,e121,e122,s500,s501]
         refine ⟨rfl,by congr 3,?_⟩
         show AL.mrow _ _ (((Eb s u.name t i).map C3).set i (C3 (b.1,b.2.on [(u.name,t)])))=_
         rw [← List.map_set,TI hb]
       ·have hon:A7 [(u.name,t)] b.2=(Tm.nil,false):=by unfold A7;rw [if_neg hz]
        have hbv:Da s u.name t=.err 8:=by
         unfold Da
         rw [if_neg (by rw [ho];simp),if_neg]
         intro hall
         have:=List.all_eq_true.1 hall b (AQ hb)
         exact hz (by simpa using this)
        repeat' with_reducible first | refine W ?_ | refine Z0 ?_ | ((first | refine Wo fun K hK=>?_ | refine Wp ?_ | refine Wq ?_ | refine Wr ?_);(try simp only [go_sem,fN,seval,eT,iR,hon,e4,e5,e12,e121,e122,s500,s501,hlt,hlt',hhl,hbh,C3,dT,dF,nL]);(repeat refine Ai ?_);(try (refine hK _ ?_;clear hK K));try refine iC ?_)
        simp only [go_sem,fN,seval,AN,AS.result,AB,AD,AK]
        rcases hinv with ⟨e,h1,rfl⟩ | ⟨s',ps,q,h1,_⟩
        ·rw [hbv] at h1
         cases h1
         rfl
        ·rw [hbv] at h1
         cases h1
      ·obtain rfl:i=s.length:=by omega
       rw [List.take_of_length_le (Nat.le_refl _)] at h20
       rw [S8] at s500
       have hbv:Da s u.name t=.go (BS (s.map (fun b=>(b.1,b.2.on [(u.name,t)])) ++ [(u.name,t)])) []:=by
        unfold Da
        rw [if_neg (by rw [ho];simp),if_pos]
        exact List.all_eq_true.2 fun b hb=>by simpa using h20 b hb
       obtain ⟨hg',_⟩:=FN hg (hst.trans hbv)
       rcases hinv with ⟨e,h1,_⟩ | ⟨s',ps,q,h1,h2,h3⟩
       ·rw [hbv] at h1
        cases h1
       rw [hbv] at h1
       cases h1
       have hnamed:=Dk (CL _) (C4 hg'.ord)
       have hL:(s.map (fun b=>(b.1,b.2.on [(u.name,t)]))).map C3 ++ [[SV.str u.name,SV.str t.name,SV.list (t.args.map Ap)]]=(s.map (fun b=>(b.1,b.2.on [(u.name,t)])) ++ [(u.name,t)]).map C3:=by
        rw [List.map_append]
        rfl
       have hLl:(s.map (fun b=>(b.1,b.2.on [(u.name,t)])) ++ [(u.name,t)]).length=s.length + 1:=by simp
       have hsort:=fun S h=>Sn _ hnamed (by omega) (up1 500) (At 500) S h
       have hsl2:=BY (s.map (fun b=>(b.1,b.2.on [(u.name,t)])) ++ [(u.name,t)])
       rw [hLl] at hsort hsl2
       repeat' with_reducible first | refine W ?_ | refine Z0 ?_ | ((first | refine Wo fun K hK=>?_ | refine Wp ?_ | refine Wq ?_ | refine Wr ?_);(try simp only [go_sem,fN,seval,eT,iR,e4,e5,e12,e121,e122,s500,s501,hlt,C3,dT,dF,nL]);(repeat refine Ai ?_);(try (refine hK _ ?_;clear hK K));try refine iC ?_)
       rw [hL]
       refine ⟨_,_,hsort _ (by rw [A0,AE];rfl),?_⟩
       repeat' with_reducible first | refine W ?_ | refine Z0 ?_ | ((first | refine Wo fun K hK=>?_ | refine Wp ?_ | refine Wq ?_ | refine Wr ?_);(try simp only [go_sem,fN,seval,eT,iR,e5,s501,dT,dF,nL]);(repeat refine Ai ?_);(try (refine hK _ ?_;clear hK K));try refine iC ?_)
       refine AI ⟨q,h2,_,l,xs,h3,hg',hstk',?_⟩
       simp only [go_sem,fN,seval,AS.drop,Ao,AC.clears,AC.clear,AC.highs,AC.high,Bool.not_false,Bool.true_and,Bool.and_self,AV.purge,AV.purges,AC.purge,AL.purge,List.contains_cons,List.contains_nil,Nat.reduceBEq,Bool.or_self,Bool.or_false,Bool.false_or,Bool.or_true,eT,iR,e5,s501,hsl2]
    ·-- two knots
     have hv:AJ (p.1.on s).name=false:=by
      cases h:AJ (p.1.on s).name with
      | false=>rfl
      | true=>exact absurd (.inl h) hvv
     have hw:AJ (p.2.on s).name=false:=by
      cases h:AJ (p.2.on s).name with
      | false=>rfl
      | true=>exact absurd (.inr h) hvv
     have hst:CF s p=if (p.1.on s).name=(p.2.on s).name∧(p.1.on s).args.length=(p.2.on s).args.length then .go s ((p.1.on s).args.zip (p.2.on s).args) else .err 5:=by
      unfold CF
      rw [if_neg (by omega),if_neg hsame,if_neg (by rw [hv];simp),if_neg (by rw [hw];simp)]
     rw [hst] at hinv
     have huk:=Tm.length_le (p.1.on s).args
     have hus:=Tm.size_eq (p.1.on s)
     have htk:=Tm.length_le (p.2.on s).args
     have hts:=Tm.size_eq (p.2.on s)
     by_cases hsame2:(p.1.on s).name=(p.2.on s).name∧(p.1.on s).args.length=(p.2.on s).args.length
     ·rw [if_pos hsame2] at hst hinv
      obtain ⟨hg',_⟩:=FN hg hst
      rcases hinv with ⟨e,h1,_⟩ | ⟨s',ps,q,h1,h2,h3⟩
      ·cases h1
      cases h1
      repeat' (first | (with_reducible first | refine W ?_ | refine Z0 ?_ | ((first | refine Wo fun K hK=>?_ | refine Wp ?_ | refine Wq ?_ | refine Wr ?_);(try simp only [go_sem,fN,seval,eT,iR,hv,hw,e4,e5,s500,s501,hsame2.1,hsame2.2,dT,dF,nL]);(repeat refine Ai ?_);(try (refine hK _ ?_;clear hK K));try refine iC ?_)) | refine Cg _ (Am _) ?_)
      have hzl:((p.1.on s).args.zip (p.2.on s).args).length=(p.2.on s).args.length:=by rw [List.length_zip,hsame2.2,Nat.min_self]
      refine IWP.loop (fun m x=>∃ (k:Nat) (xs:List (List SV)) (n1 n2:ByteArray),k≤(p.2.on s).args.length∧m=k∧Stk xs (((p.1.on s).args.zip (p.2.on s).args).drop k ++ l)∧x.env 4=.one (.row 500 s.length)∧x.env 5=.one (.part 501 (((p.1.on s).args.zip (p.2.on s).args).drop k ++ l).length xs.length)∧x.env 8=.one (.ptr 8 1 0 0)∧x.env 10=.one (.ptr 10 1 0 0)∧x.env 14=.one (.st (.int .i64 ((k:Int) - 1)))∧x.S 500=some (BR s)∧x.S 501=some (.mrow 40 4 xs) ∧
        x.S 8=some (.box 37 [.st (.str n1),.st (.list ((p.1.on s).args.map Ap))])∧x.S 10=some (.box 37 [.st (.str n2),.st (.list ((p.2.on s).args.map Ap))])) (p.2.on s).args.length ⟨(p.2.on s).args.length,xs,(p.2.on s).name,(p.2.on s).name,Nat.le_refl _,rfl,?_⟩ ?_
      ·rw [← hzl,List.drop_length,hzl]
       refine ⟨hstk',?_⟩
       simp only [go_sem,fN,seval,eT,iR,e4,s500,s501,hsame2.1]
      rintro k ⟨env,S⟩ ⟨_,xs,n1,n2,hk,rfl,hstk,e4,e5,e8,e10,e14,s500,s501,s8,s10⟩
      simp only at e4 e5 e8 e10 e14 s500 s501 s8 s10
      by_cases hk0:0≤(k:Int) - 1
      ·obtain ⟨k,rfl⟩:∃ q,k=q + 1:=⟨k - 1,by omega⟩
       obtain ⟨x,hx⟩:=Ag (show k < (p.1.on s).args.length by omega)
       obtain ⟨y,hy⟩:=Ag (show k < (p.2.on s).args.length by omega)
       have hxy:((p.1.on s).args.zip (p.2.on s).args)[k]?=some (x,y):=List.getElem?_zip_eq_some.2 ⟨hx,hy⟩
       have hz:(((k + 1:Nat):Int) - 1).toNat=k:=by omega
       have hdl:(((p.1.on s).args.zip (p.2.on s).args).drop (k + 1) ++ l).length≤100000002000:=by rw [List.length_append,List.length_drop,hzl];omega
       generalize hD:((p.1.on s).args.zip (p.2.on s).args).drop (k + 1) ++ l=D at *
       repeat' with_reducible first | refine W ?_ | refine Z0 ?_ | ((first | refine Wo fun K hK=>?_ | refine Wp ?_ | refine Wq ?_ | refine Wr ?_);(try simp only [go_sem,fN,seval,eT,iR,e4,e5,e8,e10,e14,s500,s501,s8,s10,hk0,hz,hx,hy,dT,dF,nL]);(repeat refine Ai ?_);(try (refine hK _ ?_;clear hK K));try refine iC ?_)
       have hcons:((p.1.on s).args.zip (p.2.on s).args).drop k ++ l=(x,y) :: D:=by rw [Bi hxy,List.cons_append,hD]
       have hDl:(((p.1.on s).args.zip (p.2.on s).args).drop k).length + l.length=D.length + 1:=by rw [← List.length_append,hcons,List.length_cons]
       refine AI ⟨k,by omega,k,_,n1,n2,by omega,rfl,by rw [hcons];exact hstk.push (x,y),?_⟩
       have hpl:(List.take D.length xs).length + 1 + (List.drop (D.length + 1) xs).length=if xs.length≤D.length + 1 then D.length + 1 else xs.length:=by
        have:=hstk.pushLen (x,y)
        simpa only [List.length_append,List.length_cons,List.length_nil,Nat.zero_add] using this
       simp only [go_sem,fN,seval,eT,iR,e4,e5,e8,e10,e14,s500,s501,s8,s10,hDl,hpl]
       refine ⟨?_,rfl⟩
       congr 3
       omega
      ·obtain rfl:k=0:=by omega
       rw [List.drop_zero] at hstk e5
       repeat' with_reducible first | refine W ?_ | refine Z0 ?_ | ((first | refine Wo fun K hK=>?_ | refine Wp ?_ | refine Wq ?_ | refine Wr ?_);(try simp only [go_sem,fN,seval,eT,iR,e4,e5,e14,hk0,dT,dF,nL]);(repeat refine Ai ?_);(try (refine hK _ ?_;clear hK K));try refine iC ?_)
       refine AI ⟨q,h2,s,_,xs,h3,hg',hstk,?_⟩
       simp only [go_sem,fN,seval,AS.drop,Ao,AC.clears,AC.clear,AC.highs,AC.high,Bool.not_false,Bool.true_and,Bool.and_self,AV.purge,AV.purges,AC.purge,AL.purge,List.contains_cons,List.contains_nil,Nat.reduceBEq,Bool.or_self,Bool.or_false,Bool.false_or,Bool.or_true,eT,iR,e4,e5,s500,s501]
     ·rw [if_neg hsame2] at hst hinv
      by_cases hn:(p.1.on s).name=(p.2.on s).name
      ·have hl:¬ ((p.1.on s).args.length:Int)=(p.2.on s).args.length:=fun h=>hsame2 ⟨hn,by omega⟩
       repeat' (first | (with_reducible first | refine W ?_ | refine Z0 ?_ | ((first | refine Wo fun K hK=>?_ | refine Wp ?_ | refine Wq ?_ | refine Wr ?_);(try simp only [go_sem,fN,seval,eT,iR,hv,hw,e4,e5,hn,hl,dT,dF,nL]);(repeat refine Ai ?_);(try (refine hK _ ?_;clear hK K));try refine iC ?_)) | refine Cg _ (Am _) ?_)
       simp only [go_sem,fN,seval,AN,AS.result,AB,AD,AK]
       rcases hinv with ⟨e,h1,rfl⟩ | ⟨s',ps,q,h1,_⟩
       ·cases h1
        rfl
       ·cases h1
      ·repeat' (first | (with_reducible first | refine W ?_ | refine Z0 ?_ | ((first | refine Wo fun K hK=>?_ | refine Wp ?_ | refine Wq ?_ | refine Wr ?_);(try simp only [go_sem,fN,seval,eT,iR,hv,hw,e4,e5,hn,dT,dF,nL]);(repeat refine Ai ?_);(try (refine hK _ ?_;clear hK K));try refine iC ?_)) | refine Cg _ (Am _) ?_)
       simp only [go_sem,fN,seval,AN,AS.result,AB,AD,AK]
       rcases hinv with ⟨e,h1,rfl⟩ | ⟨s',ps,q,h1,_⟩
       ·cases h1
        rfl
       ·cases h1

def HS (l:List Pr):List ByteArray:=l.flatMap fun p=>(p.1.knots ++ p.2.knots).map (·.name)
theorem Rk {l:List Pr} (h:∀ p ∈ l,p.1.size≤200∧p.2.size≤200):(HS l).length≤400 * l.length:=by
 unfold HS
 induction l with
 | nil=>simp
 | cons p l ih =>
  have:=ih fun q hq=>h q (by simp [hq])
  have h1:=h p (by simp)
  rw [List.flatMap_cons,List.length_append,List.length_map,List.length_append,Tm.knots_length,Tm.knots_length,List.length_cons]
  omega
theorem MS (v:Nat) (hv:v≤16000) (s:List Bd):∀ (l:List Pr),l.length≤40→J_ 100000000000 v s l
 | [],_=>trivial
 | p :: l,h=>by
  rw [List.length_cons] at h
  have:=Nat.min_le_right (p.1.on s).size 2000
  exact ⟨by omega,MS v hv s l (by omega)⟩
theorem Dj {l:List Pr} (h:D6 l=0):(HS l).length≤20000∧CT (HS l) 100000000000 [] l:=by
 obtain ⟨h1,h2⟩:=NN h
 have hc:∀ p ∈ l,(p.1.chk=0∧p.1.size≤200)∧(p.2.chk=0∧p.2.size≤200):=fun p hp=>⟨Tm.may_chk (h2 p hp).1,Tm.may_chk (h2 p hp).2⟩
 have hlen:=Rk fun p hp=>⟨(hc p hp).1.2,(hc p hp).2.2⟩
 refine ⟨by omega,⟨List.Pairwise.nil,by simp,by simp,by simp,by simp,by simp,by simp,fun p hp=>⟨(hc p hp).1.1,(hc p hp).2.1⟩,fun p hp y=>⟨fun hy=>?_,fun hy=>?_⟩,fun p hp=>?_,MS _ (by simp;omega) [] l h1⟩⟩
 ·unfold occ at hy
  obtain ⟨k,hk,e⟩:=List.any_eq_true.1 hy
  exact List.mem_flatMap.2 ⟨p,hp,List.mem_map.2 ⟨k,by simp [hk],by simpa using e⟩⟩
 ·unfold occ at hy
  obtain ⟨k,hk,e⟩:=List.any_eq_true.1 hy
  exact List.mem_flatMap.2 ⟨p,hp,List.mem_map.2 ⟨k,by simp [hk],by simpa using e⟩⟩
 ·have:=hc p hp
  omega
theorem QL {l:List Pr} (h:D6 l=0):∃ n r,DM n [] l r:=J7 _ _ [] l (Dj h).2 rfl rfl

theorem Vr:∀ {n m:Nat} {s:List Bd} {l:List Pr} {r r':List Bd × Int},DM n s l r→DM m s l r'→r=r':=by
 intro n m s l r r' h
 induction h generalizing m with
 | nil =>
  intro k
  cases k
  rfl
 | err he =>
  intro k
  cases k with
  | err h2 =>
   rw [he] at h2
   cases h2
   rfl
  | go h2 _ =>
   rw [he] at h2
   cases h2
 | go hg hr ih =>
  intro k
  cases k with
  | err h2 =>
   rw [hg] at h2
   cases h2
  | go h2 h3 =>
   rw [hg] at h2
   cases h2
   exact ih h3
noncomputable def Kz (l:List Pr):List Bd × Int:=open Classical in if h:∃ r n,DM n [] l r then h.choose else ([],0)
theorem O1 {n:Nat} {l:List Pr} {r:List Bd × Int} (h:DM n [] l r):Kz l=r:=by
 unfold Kz
 have hx:∃ r n,DM n [] l r:=⟨r,n,h⟩
 rw [dif_pos hx]
 obtain ⟨m,hm⟩:=hx.choose_spec
 exact Vr hm h
section
variable {f:ByteArray→ByteArray}
end
def Gq (l r:Tm):Pr:=((l.cn []).1,(r.cn (l.cn []).2).1)
noncomputable def Cc (a b:Pr) (same:Bool) (p:List Int):Option (List Pr):=match a.1.atP p with
 | none=>some []
 | some x=>if AJ x.name=true ∨ (same=true∧p=[]) then some []
  else if (Kz [(x,b.1)]).2=8 then none
  else if (Kz [(x,b.1)]).2 ≠ 0 then some []
  else if (A7 (Kz [(x,b.1)]).1 a.2).2=true∧(A7 (Kz [(x,b.1)]).1 (a.1.putP p b.2)).2=true then some [Gq (A7 (Kz [(x,b.1)]).1 a.2).1 (A7 (Kz [(x,b.1)]).1 (a.1.putP p b.2)).1]
  else none
theorem GB {x y:Tm} (hx:x.may=0) (hy:y.may=0):D6 [(x,y)]=0:=by
 simp [D6,HI,CY,hx,hy]
theorem GD {t:Tm} (hc:t.chk=0) (hz:t.size≤200):t.may=0:=by
 unfold Tm.may
 rw [if_neg (by omega),hc]
noncomputable def EH (a b:Pr) (same:Bool):List (List Int)→Option (List Pr)
 | []=>some []
 | p :: ps=>match Cc a b same p with
  | none=>none
  | some x=>(EH a b same ps).map (x ++ ·)
noncomputable def Rl (a b:Pr) (same:Bool):Option (List Pr):=EH a b same a.1.places
theorem MX {U:List ByteArray} {C:Nat} {n:Nat} {s:List Bd} {l:List Pr} {r:List Bd × Int} (hr:DM n s l r):CT U C s l→r.2=0→CT U C r.1 []:=fun h h0=>(My hr h h0).1
theorem Oq {l:List Pr} (h:D6 l=0) (h0:(Kz l).2=0):CT (HS l) 100000000000 (Kz l).1 []:=by
 obtain ⟨_,hg⟩:=Dj h
 obtain ⟨n,r,hr⟩:=J7 _ _ _ _ hg rfl rfl
 rw [O1 hr] at h0 ⊢
 exact MX hr hg h0
theorem JC:∀ (p:List Int) (t x:Tm),t.chk=0→x.chk=0→(t.putP p x).chk=0
 | [],t,x,_,hx=>by rw [Tm.putP_nil];exact hx
 | i :: p,t,x,ht,hx=>by
  rw [Tm.putP_cons]
  split
  ·rename_i a ha
   have hl:=(List.getElem?_eq_some_iff.1 ha).1
   refine JF (n:=t.name) (xs:=t.args) (by cases t;exact ht) hl ?_
   exact JC p a x ((Tm.chk_args ht).2 a (List.mem_of_getElem? ha)) hx
  ·exact ht
theorem Qd {s:List Bd} (hs:∀ b ∈ s,b.2.chk=0) {t:Tm} (hc:t.chk=0) (h:(A7 s t).2=true):(A7 s t).1.chk=0:=by
 unfold A7 at h ⊢
 split
 ·exact IJ hs hc
 ·rename_i hn
  rw [if_neg hn] at h
  cases h
theorem IU:∀ (l:List ByteArray) (k:Nat) {b:Bd},b ∈ Dm k l→∃ j,j < k + l.length∧b.2=Lw j
 | [],k,b,h=>by simp [Dm] at h
 | n :: l,k,b,h=>by
  rw [Dm] at h
  rcases List.mem_cons.1 h with rfl | h
  ·exact ⟨k,by simp,rfl⟩
  ·obtain ⟨j,h1,h2⟩:=IU l (k + 1) h
   exact ⟨j,by rw [List.length_cons];omega,h2⟩
theorem Pd (c:UInt8):∀ (l:List ByteArray) (k:Nat) {b:Bd},b ∈ nmB c k l→∃ j,j < k + l.length∧b.2=.mk (C5 c j) []
 | [],k,b,h=>by simp [nmB] at h
 | n :: l,k,b,h=>by
  rw [nmB] at h
  rcases List.mem_cons.1 h with rfl | h
  ·exact ⟨k,by simp,rfl⟩
  ·obtain ⟨j,h1,h2⟩:=Pd c l (k + 1) h
   exact ⟨j,by rw [List.length_cons];omega,h2⟩
theorem TR {s:List Bd} (hs:∀ b ∈ s,b.2.size=1) (t:Tm):(t.on s).size=t.size:=by
 induction hN:SizeOf.sizeOf t using Nat.strongRecOn generalizing t with
 | _ N ih =>
 subst hN
 have key:(Tm.mk t.name (t.args.map (Tm.on s))).size=t.size:=by
  rw [Tm.size_eq,Tm.size_eq t]
  show 1 + Tm.sizes (t.args.map (Tm.on s))=_
  have:∀ l:List Tm,(∀ a ∈ l,(a.on s).size=a.size)→Tm.sizes (l.map (Tm.on s))=Tm.sizes l:=fun l h=>by
   induction l with
   | nil=>rfl
   | cons a l ih2 =>
    rw [List.map_cons,Tm.sizes,Tm.sizes,h a (by simp),ih2 fun b hb=>h b (List.mem_cons_of_mem _ hb)]
  rw [this _ fun a ha=>ih _ (Tm.lt_of_arg ha) a rfl]
 by_cases h0:t.args=[]
 ·cases hl:lookup s t.name with
  | some x =>
   obtain ⟨b,hb,_,rfl⟩:=Cm hl
   rw [Tm.on_leaf hl h0,hs b hb,Tm.size_eq t,h0]
   rfl
  | none=>rw [Tm.on_knot (.inl hl)];exact key
 ·rw [Tm.on_knot (.inr h0)]
  exact key
theorem W2 {t:Tm} (hc:t.chk=0) {l:List ByteArray} (hl:∀ n ∈ (t.cn l).2,AJ n=true) (hk:(t.cn l).2.length < 900000):(t.cn l).1.chk=0:=by
 rw [Ry t hc l _ hl ⟨[],by simp⟩]
 refine IJ (fun b hb=>?_) hc
 obtain ⟨j,h1,h2⟩:=IU _ _ hb
 rw [h2]
 exact Un (by omega)
def En (cr:Nat→Nat→Option (List Pr)):List (Nat × Nat)→List Pr→List Pr × Int
 | [],acc=>(acc,0)
 | q :: l,acc=>match cr q.1 q.2 with
  | none=>([],8)
  | some x=>if 400 < (acc ++ x).length then ([],3) else En cr l (acc ++ x)
def FS (n i j:Nat):List (Nat × Nat):=(List.range' j (n - j)).map (fun j=>(i,j)) ++ (List.range' (i + 1) (n - (i + 1))).flatMap fun i=>(List.range' 0 n).map fun j=>(i,j)
theorem Yt {n i j:Nat} (h:j < n):FS n i j=(i,j) :: FS n i (j + 1):=by
 unfold FS
 rw [show n - j=(n - (j + 1)) + 1 by omega,List.range'_succ]
 rfl
theorem Xk {n i:Nat} (h:i + 1 < n):FS n i n=FS n (i + 1) 0:=by
 unfold FS
 rw [Nat.sub_self,show n - (i + 1)=(n - (i + 1 + 1)) + 1 by omega,List.range'_succ,List.flatMap_cons,Nat.sub_zero]
 rfl
theorem XJ {n i:Nat} (h:n≤i + 1):FS n i n=[]:=by
 unfold FS
 rw [Nat.sub_self,show n - (i + 1)=0 by omega]
 rfl
noncomputable def crR (R:List Pr) (c d:UInt8) (k:Nat) (i j:Nat):Option (List Pr):=match R[i]?,R[j]? with
 | some a,some b=>Rl (D8 c k a) (D8 d k b) (decide (i=j))
 | _,_=>none
noncomputable def CZ (R:List Pr) (c d:UInt8) (k:Nat):List Pr × Int:=if R.length=0 then ([],0) else En (crR R c d k) (FS R.length 0 0) []
theorem Cn {c:UInt8} (h1:65≤c.toNat) (h2:c.toNat≤90) {k:Nat} (hk:k≤1) {t:Tm} {V:List ByteArray} (hV:V.length≤1000) (ht:t.chk=0):(t.on (nmB c k V)).chk=0∧(t.on (nmB c k V)).size=t.size:=by
 refine ⟨IJ (fun b hb=>?_) ht,TR (fun b hb=>?_) t⟩
 ·obtain ⟨j,q1,q2⟩:=Pd c V k hb
  rw [q2]
  exact Q2 (XC h1 h2 (by omega))
 ·obtain ⟨j,q1,q2⟩:=Pd c V k hb
  rw [q2]
  rfl

theorem TS {t:Tm} (hc:t.chk=0) {l:List ByteArray} (hl:∀ n ∈ (t.cn l).2,AJ n=true):(t.cn l).1.size=t.size:=by
 rw [Ry t hc l _ hl ⟨[],by simp⟩]
 refine TR (fun b hb=>?_) t
 obtain ⟨j,h1,h2⟩:=IU _ _ hb
 rw [h2]
 rfl
structure Fy (q:Pr):Prop where
 c1:q.1.chk=0
 c2:q.2.chk=0
 z1:q.1.size≤2000
 z2:q.2.size≤2000
theorem LN {t:Tm} (hc:t.chk=0) {l:List ByteArray} (hl:∀ n ∈ l,AJ n=true):∀ n ∈ (t.cn l).2,AJ n=true:=by
 rw [I8 t hc]
 exact JQ _ l hl
theorem U3 {l r:Tm} (h1:l.chk=0) (h2:r.chk=0) (z1:l.size≤2000) (z2:r.size≤2000):Fy (Gq l r):=by
 have v1:=LN h1 (l:=[]) (by simp)
 have v2:=LN h2 v1
 have n1:=F8 l []
 have n2:=F8 r (l.cn []).2
 rw [List.length_nil] at n1
 exact ⟨W2 h1 v1 (by omega),W2 h2 v2 (by omega),by show (l.cn []).1.size≤_;rw [TS h1 v1];exact z1,by show (r.cn _).1.size≤_;rw [TS h2 v2];exact z2⟩
theorem Se {A B:Pr} (a1:A.1.chk=0) (a2:A.2.chk=0) (z1:A.1.size≤200) (b1:B.1.chk=0) (b2:B.2.chk=0) (bz:B.1.size≤200) {same:Bool} {p:List Int} (hp:p ∈ A.1.places) {x:List Pr} (h:Cc A B same p=some x):x.length≤1∧∀ q ∈ x,Fy q:=by
 obtain ⟨t,ht,hk⟩:=DC A.1 p hp
 have hxc:=DS A.1 t a1 hk
 have hxz:=DD A.1 t hk
 have hmay:=GB (GD hxc (by omega)) (GD b1 bz)
 unfold Cc at h
 simp only [ht] at h
 split at h
 ·cases h
  exact ⟨by simp,by simp⟩
 split at h
 ·cases h
 split at h
 ·cases h
  exact ⟨by simp,by simp⟩
 rename_i h8 h0
 have h0:(Kz [(t,B.1)]).2=0:=by
  rcases Decidable.em ((Kz [(t,B.1)]).2=0) with h | h
  ·exact h
  ·exact absurd h h0
 have hg:=Oq hmay h0
 split at h
 ·rename_i hb
  cases h
  refine ⟨by simp,fun q hq=>?_⟩
  rw [List.mem_singleton.1 hq]
  exact U3 (Qd hg.chk a2 hb.1) (Qd hg.chk (JC p A.1 B.2 a1 b2) hb.2) Fl Fl
 ·cases h
theorem Qc {A B:Pr} (a1:A.1.chk=0) (a2:A.2.chk=0) (z1:A.1.size≤200) (b1:B.1.chk=0) (b2:B.2.chk=0) (bz:B.1.size≤200) {same:Bool}:∀ {ps:List (List Int)},(∀ p ∈ ps,p ∈ A.1.places)→∀ {x:List Pr},EH A B same ps=some x→x.length≤ps.length∧∀ q ∈ x,Fy q
 | [],_,x,h=>by
  cases h
  exact ⟨by simp,by simp⟩
 | p :: ps,hps,x,h=>by
  rw [EH] at h
  split at h
  ·cases h
  ·rename_i y hy
   rw [Option.map_eq_some_iff] at h
   obtain ⟨z,h1,rfl⟩:=h
   obtain ⟨k1,k2⟩:=Se a1 a2 z1 b1 b2 bz (hps p (by simp)) hy
   obtain ⟨k3,k4⟩:=Qc a1 a2 z1 b1 b2 bz (fun q hq=>hps q (List.mem_cons_of_mem _ hq)) h1
   refine ⟨by simp only [List.length_append,List.length_cons];omega,fun q hq=>?_⟩
   rcases List.mem_append.1 hq with hq | hq
   ·exact k2 q hq
   ·exact k4 q hq
theorem TP {cr:Nat→Nat→Option (List Pr)}:∀ (l:List (Nat × Nat)) (acc:List Pr),(∀ q ∈ acc,Fy q)→acc.length≤400→(∀ q ∈ l,∀ x,cr q.1 q.2=some x→∀ p ∈ x,Fy p)→(∀ q ∈ (En cr l acc).1,Fy q)∧(En cr l acc).1.length≤400
 | [],acc,h,hl,_=>⟨h,hl⟩
 | q :: l,acc,h,hl,hc=>by
  rw [En]
  split
  ·exact ⟨by simp,by simp⟩
  ·rename_i x hx
   split
   ·exact ⟨by simp,by simp⟩
   ·refine TP l (acc ++ x) (fun p hp=>?_) (by omega) fun q' hq'=>hc q' (List.mem_cons_of_mem _ hq')
    rcases List.mem_append.1 hp with hp | hp
    ·exact h p hp
    ·exact hc q (by simp) x hx p hp

section
variable {P:Program} {C:Ctx} {a:Act} {w:World} {σ:Sto} {ι:Az} {s:AS} {Q:Exit→Act→World→Prop} {o:Oper}
end
section
variable {P:Program} {C:Ctx} {mu:List Nat} {Q:AX→AS→Prop} {s:AS}
end

def Ev:IR :=
 (.seq (.ops [.i 2 (.box 40 (.t 0)),.i 4 (.alloc 40 [.st (.str (ByteArray.mk (#[]))),.full [],.st (.str (ByteArray.mk (#[]))),.full []])]) (.seq (.ops [.i 5 (.mov (.c (.one (.full []))))]) (.seq (.seq (.ops [.f 12 0 2,.L 13 2 12,.i 14 (.call 104 [.t 13]),.i 15 (.len false (.t 14)),.i 16 (.mov (.n 0))]) (.block 0 (.loop (.seq (.ops [.i 17 (.bin .lss (.t 16) (.t 15))]) (.seq (.cond (.t 17) .skip (.exit 0)) (.seq (.block 1 (.seq (.ops [.m 18 16,.i 19 (.indexAddr 1 (.t 14) (.t 16)),.l 20 19,.m 6 18,.m 7 20]) (.ops [.m 21 5,.m 22 7,.m 23 1,.m 24 6,.i 25 (.bin .add (.t 24) (.n 1)),.i 26 (.call 123 [.t 25]),.i 27 (.bin .add (.t 23) (.t 26)),.i 28 (.build [.st (.str (ByteArray.mk (#[]))),.full []] [(0,1,.t 27)]),.i 29 (.build [.st (.str (ByteArray.mk (#[]))),.st (.str (ByteArray.mk (#[]))),.full []] [(0,1,.t 22),(1,2,.t 28)]),.i 30 (.buildSlice false 82 3 [.t 29]),.i 31 (.append true 82 3 56 (.t 21) (.t 30)),.m 5 31]))) (.ops [.i 32 (.bin .add (.t 16) (.n 1)),.m 16 32]))))))) (.seq (.ops [.m 33 5,.i 34 (.callS 117 [.t 33]),.m 5 34]) (.seq (.ops [.m 36 5,.f 37 0 2,.L 38 2 37,.i 39 (.call 110 [.t 36,.t 38]),.m 35 39,.i 40 (.extract 0 (.t 35)),.i 41 (.extract 1 (.t 35)),.i 8 (.alloc 37 [.st (.str (ByteArray.mk (#[]))),.full []]),.s 2 8 40,.m 9 41]) (.seq (.ops [.m 43 5,.f 44 2 2,.L 45 2 44,.i 46 (.call 110 [.t 43,.t 45]),.m 42 46,.i 47 (.extract 0 (.t 42)),.i 48 (.extract 1 (.t 42)),.i 10 (.alloc 37 [.st (.str (ByteArray.mk (#[]))),.full []]),.s 2 10 47,.m 11 48]) (.seq (.ops [.L 49 2 8,.L 50 2 10,.i 51 (.build [.st (.str (ByteArray.mk (#[]))),.full [],.st (.str (ByteArray.mk (#[]))),.full []] [(0,2,.t 49),(2,2,.t 50)]),.s 4 4 51]) .ret)))))))
theorem JY:OkF Tryz.prog 107 52 [31,34] Ev [.cell 4 true 4]:=.of Tryz.func107 rfl rfl (by kernel_rfl) rfl
def EI:IR :=
 (.seq (.ops [.i 3 (.box 40 (.t 0)),.i 4 (.box 40 (.t 1)),.i 6 (.mov (.c (.one (.full [])))),.i 7 (.mov (.n 0))]) (.seq (.ops [.i 8 (.mov (.c (.one (.full []))))]) (.seq (.ops [.L 22 4 3,.i 23 (.call 107 [.t 22,.c (.one (.st (.str (ByteArray.mk (#[88])))))]),.L 24 4 4,.i 25 (.call 107 [.t 24,.c (.one (.st (.str (ByteArray.mk (#[89])))))]),.i 9 (.alloc 40 [.st (.str (ByteArray.mk (#[]))),.full [],.st (.str (ByteArray.mk (#[]))),.full []]),.i 10 (.alloc 40 [.st (.str (ByteArray.mk (#[]))),.full [],.st (.str (ByteArray.mk (#[]))),.full []]),.s 4 9 23,.s 4 10 25]) (.seq (.seq (.ops [.f 26 0 9,.L 27 2 26,.i 28 (.call 108 [.t 27]),.i 29 (.len false (.t 28)),.i 30 (.mov (.n 0))]) (.block 0 (.loop (.seq (.ops [.i 31 (.bin .lss (.t 30) (.t 29))]) (.seq (.cond (.t 31) .skip (.exit 0)) (.seq (.block 1 (.seq (.ops [.i 32 (.indexAddr 1 (.t 28) (.t 30)),.l 33 32,.m 12 33]) (.seq (.ops [.f 35 0 9,.L 36 2 35,.m 37 12,.i 38 (.call 109 [.t 36,.t 37]),.m 34 38,.i 39 (.extract 0 (.t 34)),.i 40 (.extract 1 (.t 34)),.i 13 (.alloc 37 [.st (.str (ByteArray.mk (#[]))),.full []]),.s 2 13 39,.m 14 40]) (.seq (.seq (.ops [.f 41 0 13,.l 42 41,.i 43 (.call 67 [.t 42]),.m 44 43,.mk (some 45) (some (44,false)) (.mov (.t 2)) .no,.mk (some 46) (some (44,false)) (.mov (.t 45)) .no,.mk (some 47) (some (46,true)) (.mov (.t 12)) .no,.mk (some 48) (some (46,true)) (.len false (.t 47)) .no,.mk (some 49) (some (46,true)) (.bin .eql (.t 48) (.n 0)) .no,.mk (some 50) (some (44,false)) (.pick (.t 46) (.t 49) (.c (.one (.st (.bool false))))) .no,.i 51 (.pick (.t 44) (.c (.one (.st (.bool true)))) (.t 50))]) (.cond (.t 51) (.exit 1) .skip)) (.seq (.ops [.L 53 2 13,.f 54 0 10,.L 55 2 54,.i 56 (.build [.st (.str (ByteArray.mk (#[]))),.full [],.st (.str (ByteArray.mk (#[]))),.full []] [(0,2,.t 53),(2,2,.t 55)]),.i 57 (.buildSlice false 40 4 [.t 56]),.i 58 (.call 86 [.t 57]),.m 52 58,.i 59 (.extract 0 (.t 52)),.i 60 (.extract 1 (.t 52)),.m 15 59,.m 16 60]) (.seq (.seq (.ops [.m 61 16,.i 62 (.bin .eql (.t 61) (.n 8))]) (.cond (.t 62) (.seq (.ops [.m 63 16,.i 6 (.mov (.c (.one (.full [])))),.m 7 63]) .ret) .skip)) (.seq (.seq (.ops [.m 64 16,.i 65 (.bin .neq (.t 64) (.n 0))]) (.cond (.t 65) (.exit 1) .skip)) (.seq (.ops [.m 67 15,.f 68 2 9,.L 69 2 68,.i 70 (.call 110 [.t 67,.t 69]),.m 66 70,.i 71 (.extract 0 (.t 66)),.i 72 (.extract 1 (.t 66)),.i 17 (.alloc 37 [.st (.str (ByteArray.mk (#[]))),.full []]),.s 2 17 71,.m 18 72]) (.seq (.ops [.m 74 15,.f 75 0 9,.L 76 2 75,.m 77 12,.f 78 2 10,.L 79 2 78,.i 80 (.call 111 [.t 76,.t 77,.t 79]),.i 81 (.call 110 [.t 74,.t 80]),.m 73 81,.i 82 (.extract 0 (.t 73)),.i 83 (.extract 1 (.t 73)),.i 19 (.alloc 37 [.st (.str (ByteArray.mk (#[]))),.full []]),.s 2 19 82,.m 20 83]) (.seq (.seq (.ops [.m 84 18,.i 85 (.un .not (.t 84)),.m 86 85,.mk (some 87) (some (86,false)) (.mov (.t 20)) .no,.mk (some 88) (some (86,false)) (.un .not (.t 87)) .no,.i 89 (.pick (.t 86) (.c (.one (.st (.bool true)))) (.t 88))]) (.cond (.t 89) (.seq (.ops [.i 6 (.mov (.c (.one (.full [])))),.i 7 (.mov (.n 8))]) .ret) .skip)) (.seq (.ops [.L 90 2 17,.L 91 2 19,.i 92 (.buildSlice false 37 2 [.t 90,.t 91]),.i 93 (.call 71 [.t 92]),.m 21 93]) (.ops [.m 94 8,.m 95 21,.i 96 (.indexAddr 2 (.t 95) (.n 0)),.L 97 2 96,.m 98 21,.i 99 (.indexAddr 2 (.t 98) (.n 1)),.L 100 2 99,.i 101 (.build [.st (.str (ByteArray.mk (#[]))),.full [],.st (.str (ByteArray.mk (#[]))),.full []] [(0,2,.t 97),(2,2,.t 100)]),.i 102 (.buildSlice false 40 4 [.t 101]),.i 103 (.append false 40 4 80 (.t 94) (.t 102)),.m 8 103])))))))))))) (.ops [.i 104 (.bin .add (.t 30) (.n 1)),.m 30 104]))))))) (.seq (.ops [.m 105 8,.m 6 105,.i 7 (.mov (.n 0))]) .ret)))))
theorem Hm:OkF Tryz.prog 74 106 [] EI [.t 6,.t 7]:=.of Tryz.func74 rfl rfl (by kernel_rfl) rfl
def Es:IR :=
 (.seq (.ops [.i 2 (.mov (.c (.one (.full [])))),.i 3 (.mov (.n 0))]) (.seq (.seq (.ops [.m 12 0,.i 13 (.call 73 [.t 12]),.m 4 13]) (.seq (.ops [.m 14 4,.i 15 (.bin .neq (.t 14) (.n 0))]) (.cond (.t 15) (.seq (.ops [.m 16 4,.i 2 (.mov (.c (.one (.full [])))),.m 3 16]) .ret) .skip))) (.seq (.ops [.i 5 (.mov (.c (.one (.full []))))]) (.seq (.seq (.ops [.m 17 0,.i 18 (.len false (.t 17)),.i 19 (.mov (.n 0))]) (.block 0 (.loop (.seq (.ops [.i 20 (.bin .lss (.t 19) (.t 18))]) (.seq (.cond (.t 20) .skip (.exit 0)) (.seq (.block 1 (.seq (.ops [.m 21 19,.i 22 (.indexAddr 4 (.t 17) (.t 19)),.L 23 4 22,.i 7 (.alloc 40 [.st (.str (ByteArray.mk (#[]))),.full [],.st (.str (ByteArray.mk (#[]))),.full []]),.m 6 21,.s 4 7 23]) (.seq (.ops [.m 24 0,.i 25 (.len false (.t 24)),.i 26 (.mov (.n 0))]) (.block 2 (.loop (.seq (.ops [.i 27 (.bin .lss (.t 26) (.t 25))]) (.seq (.cond (.t 27) .skip (.exit 2)) (.seq (.block 3 (.seq (.ops [.m 28 26,.i 29 (.indexAddr 4 (.t 24) (.t 26)),.L 30 4 29,.i 9 (.alloc 40 [.st (.str (ByteArray.mk (#[]))),.full [],.st (.str (ByteArray.mk (#[]))),.full []]),.m 8 28,.s 4 9 30]) (.seq (.ops [.L 32 4 7,.L 33 4 9,.m 34 6,.m 35 8,.i 36 (.bin .eql (.t 34) (.t 35)),.i 37 (.call 74 [.t 32,.t 33,.t 36]),.m 31 37,.i 38 (.extract 0 (.t 31)),.i 39 (.extract 1 (.t 31)),.m 10 38,.m 11 39]) (.seq (.seq (.ops [.m 40 11,.i 41 (.bin .neq (.t 40) (.n 0))]) (.cond (.t 41) (.seq (.ops [.m 42 11,.i 2 (.mov (.c (.one (.full [])))),.m 3 42]) .ret) .skip)) (.seq (.ops [.m 43 5,.m 44 10,.i 45 (.append false 40 4 80 (.t 43) (.t 44)),.m 5 45]) (.seq (.ops [.m 46 5,.i 47 (.len false (.t 46)),.i 48 (.bin .gtr (.t 47) (.n 400))]) (.cond (.t 48) (.seq (.ops [.i 2 (.mov (.c (.one (.full [])))),.i 3 (.mov (.n 3))]) .ret) .skip))))))) (.ops [.i 49 (.bin .add (.t 26) (.n 1)),.m 26 49]))))))))) (.ops [.i 50 (.bin .add (.t 19) (.n 1)),.m 19 50]))))))) (.seq (.ops [.m 51 5,.m 2 51,.i 3 (.mov (.n 0))]) .ret)))))
theorem Ix:OkF Tryz.prog 35 52 [] Es [.t 2,.t 3]:=.of Tryz.func35 rfl rfl (by kernel_rfl) rfl
def CB:IR :=
 (.seq (.ops [.i 4 (.mov (.c (.one (.st (.bool false))))),.i 5 (.mov (.n 0))]) (.seq (.ops [.m 13 0,.i 14 (.call 35 [.t 13]),.m 12 14,.i 15 (.extract 0 (.t 12)),.i 16 (.extract 1 (.t 12)),.m 6 15,.m 7 16]) (.seq (.seq (.ops [.m 17 7,.i 18 (.bin .eql (.t 17) (.n 0)),.m 19 18,.mk (some 20) (some (19,true)) (.mov (.t 1)) .no,.mk (some 21) (some (19,true)) (.bin .lss (.t 20) (.n 0)) .no,.mk (some 22) (some (19,true)) (.mov (.t 21)) .no,.mk (some 23) (some (22,false)) (.mov (.t 1)) .no,.mk (some 24) (some (22,false)) (.bin .gtr (.t 23) (.n 400)) .no,.mk (some 25) (some (19,true)) (.pick (.t 22) (.c (.one (.st (.bool true)))) (.t 24)) .no,.i 26 (.pick (.t 19) (.t 25) (.c (.one (.st (.bool false)))))]) (.cond (.t 26) (.ops [.i 7 (.mov (.n 10))]) .skip)) (.seq (.seq (.ops [.m 27 7,.i 28 (.bin .neq (.t 27) (.n 0))]) (.cond (.t 28) (.seq (.ops [.m 29 7,.i 4 (.mov (.c (.one (.st (.bool false))))),.m 5 29]) .ret) .skip)) (.seq (.seq (.ops [.m 30 6,.i 31 (.len false (.t 30)),.i 32 (.mov (.n 0))]) (.block 0 (.loop (.seq (.ops [.i 33 (.bin .lss (.t 32) (.t 31))]) (.seq (.cond (.t 33) .skip (.exit 0)) (.seq (.block 1 (.seq (.ops [.i 34 (.indexAddr 4 (.t 30) (.t 32)),.L 35 4 34,.i 9 (.alloc 40 [.st (.str (ByteArray.mk (#[]))),.full [],.st (.str (ByteArray.mk (#[]))),.full []]),.s 4 9 35]) (.seq (.ops [.m 37 0,.f 38 0 9,.L 39 2 38,.f 40 2 9,.L 41 2 40,.m 42 1,.i 43 (.call 36 [.t 37,.t 39,.t 41,.t 42]),.m 36 43,.i 44 (.extract 0 (.t 36)),.i 45 (.extract 1 (.t 36)),.m 10 44,.m 11 45]) (.seq (.seq (.ops [.m 46 11,.i 47 (.bin .neq (.t 46) (.n 0))]) (.cond (.t 47) (.seq (.ops [.m 48 11,.i 4 (.mov (.c (.one (.st (.bool false))))),.m 5 48]) .ret) .skip)) (.seq (.ops [.m 49 10,.i 50 (.un .not (.t 49))]) (.cond (.t 50) (.seq (.ops [.i 4 (.mov (.c (.one (.st (.bool false))))),.i 5 (.mov (.n 0))]) .ret) .skip)))))) (.ops [.i 51 (.bin .add (.t 32) (.n 1)),.m 32 51]))))))) (.seq (.ops [.i 4 (.mov (.c (.one (.st (.bool true))))),.i 5 (.mov (.n 0))]) .ret))))))
theorem Co:OkF Tryz.prog 13 52 [] CB [.t 4,.t 5]:=.of Tryz.func13 rfl rfl (by kernel_rfl) rfl

def H8:IR :=
 (.seq (.ops [.i 2 (.box 37 (.t 0)),.i 3 (.box 37 (.t 1)),.i 4 (.mov (.n 0))]) (.seq (.seq (.ops [.L 6 2 2,.i 7 (.call 46 [.t 6]),.m 5 7]) (.seq (.ops [.m 8 5,.i 9 (.bin .neq (.t 8) (.n 0))]) (.cond (.t 9) (.seq (.ops [.m 10 5,.m 4 10]) .ret) .skip))) (.seq (.ops [.L 11 2 3,.i 12 (.call 46 [.t 11]),.m 4 12]) .ret)))
theorem NC:OkF Tryz.prog 103 13 [] H8 [.t 4]:=.of Tryz.func103 rfl rfl (by kernel_rfl) rfl

theorem PG (a b:Tm):AU Tryz.prog 103 [aTm a,aTm b] (AO (CY a b)):=by
 refine NC.ac fun C hC=>?_
 unfold H8
 repeat' with_reducible first | refine W ?_ | refine Z0 ?_ | ((first | refine Wo fun K hK=>?_ | refine Wp ?_ | refine Wq ?_ | refine Wr ?_);(try simp only [go_sem,fN,seval,eT,iR,dT,dF,nL]);(repeat refine Ai ?_);(try (refine hK _ ?_;clear hK K));try refine iC ?_)
 refine ⟨_,EV a,?_⟩
 by_cases h:a.may=0
 ·repeat' (first | (with_reducible first | refine W ?_ | refine Z0 ?_ | ((first | refine Wo fun K hK=>?_ | refine Wp ?_ | refine Wq ?_ | refine Wr ?_);(try simp only [go_sem,fN,seval,eT,iR,h,dT,dF,nL]);(repeat refine Ai ?_);(try (refine hK _ ?_;clear hK K));try refine iC ?_)) | refine Cg _ (EV b) ?_)
  simp only [go_sem,fN,seval,AN,AS.result,AB,AD,AK]
  unfold CY
  rw [if_pos h]
 ·repeat' with_reducible first | refine W ?_ | refine Z0 ?_ | ((first | refine Wo fun K hK=>?_ | refine Wp ?_ | refine Wq ?_ | refine Wr ?_);(try simp only [go_sem,fN,seval,eT,iR,h,dT,dF,nL]);(repeat refine Ai ?_);(try (refine hK _ ?_;clear hK K));try refine iC ?_)
  simp only [go_sem,fN,seval,AN,AS.result,AB,AD,AK]
  unfold CY
  rw [if_neg h]

def GX:IR :=
 (.seq (.ops [.i 2 (.mov (.c (.one (.st (.str (ByteArray.mk (#[])))))))]) (.seq (.ops [.m 3 0,.i 4 (.bin .add (.t 3) (.n 1)),.i 5 (.call 123 [.t 4]),.i 6 (.bin .add (.c (.one (.st (.str (ByteArray.mk (#[90])))))) (.t 5)),.m 2 6]) .ret))
theorem LA:OkF Tryz.prog 102 7 [] GX [.t 2]:=.of Tryz.func102 rfl rfl (by kernel_rfl) rfl

theorem Y9 {σ:Sto} {vs:List Value} {x:AV} (h:Ad (AT σ noS noH) vs [x]):∃ v,vs=[v]∧AT σ noS noH v x:=by
 cases h with
 | cons h1 h2 =>
  cases h2
  exact ⟨_,rfl,h1⟩
theorem YL (n:Nat) (hn:n < 1000000):AU Tryz.prog 123 [AO n] (Bt (Rc n)):=by
 intro σ w vs hG hF hv
 obtain ⟨v,rfl,h1⟩:=Y9 hv
 obtain ⟨rfl,hin⟩:=A_ h1
 have ht : Lib.TabIs Tryz.prog w "internal/strconv.uint64pow10" .u64 Lib.pow10Tab := hG.ints hF (g := 0) (by kernel_rfl) (by kernel_rfl)
 refine (Any.strconv_Itoa Tryz.laysM171 n (by omega) (by omega) w ht).mono fun e w' ⟨he,k,os,hw⟩=>?_
 have hb:Below w.heap.size w w':=by
  rw [hw]
  exact Lib.below_grow _ _ (Nat.le_refl _) _ _
 have hd:(⟨(Lib.itoa (n:Int)).toArray⟩:ByteArray)=Rc n:=by rw [Lib.itoa_nonneg];rfl
 rw [hd] at he
 refine ⟨_,σ,he,.one (.st (.str ?_)),hF.below hb,Ext.refl _ _,hb⟩
 have:=F5 hn
 rw [Fr]
 omega
theorem Vc (k:Nat) (hk:k + 1 < 1000000):AU Tryz.prog 102 [AO k] (Bt (CK k)):=by
 have h:=YL (k + 1) hk
 rw [show (((k + 1:Nat):Int))=(k:Int) + 1 by omega] at h
 have z:=F5 hk
 have z1:(⟨#[90]⟩:ByteArray).size=1:=rfl
 refine LA.ac fun C hC=>?_
 unfold GX
 repeat' (first | (with_reducible first | refine W ?_ | refine Z0 ?_ | ((first | refine Wo fun K hK=>?_ | refine Wp ?_ | refine Wq ?_ | refine Wr ?_);(try simp only [go_sem,fN,seval,eT,iR,z1,dT,dF,nL]);(repeat refine Ai ?_);(try (refine hK _ ?_;clear hK K));try refine iC ?_)) | refine Cg _ (h) ?_)
 simp only [go_sem,fN,seval,AN,AS.result,AB,AD,AK]
 rfl

def Ab:IR :=
 (.seq (.ops [.i 6 (.mov (.c (.one (.st (.bool false)))))]) (.seq (.seq (.ops [.m 10 0,.i 11 (.len false (.t 10)),.m 12 1,.i 13 (.len false (.t 12)),.i 14 (.bin .neq (.t 11) (.t 13))]) (.cond (.t 14) (.seq (.ops [.i 6 (.mov (.c (.one (.st (.bool false)))))]) .ret) .skip)) (.seq (.seq (.ops [.m 15 0,.i 16 (.len false (.t 15)),.i 17 (.mov (.n 0))]) (.block 0 (.loop (.seq (.ops [.i 18 (.bin .lss (.t 17) (.t 16))]) (.seq (.cond (.t 18) .skip (.exit 0)) (.seq (.block 1 (.seq (.ops [.m 19 17,.i 20 (.indexAddr 2 (.t 15) (.t 17)),.L 21 2 20,.i 8 (.alloc 37 [.st (.str (ByteArray.mk (#[]))),.full []]),.m 7 19,.s 2 8 21]) (.seq (.ops [.m 22 1,.m 23 7,.i 24 (.indexAddr 2 (.t 22) (.t 23)),.L 25 2 24,.i 9 (.alloc 37 [.st (.str (ByteArray.mk (#[]))),.full []]),.s 2 9 25]) (.seq (.ops [.m 26 2,.L 27 2 8,.L 28 2 9,.i 29 (.callV (.t 26) [.t 27,.t 28]),.i 30 (.un .not (.t 29))]) (.cond (.t 30) (.seq (.ops [.i 6 (.mov (.c (.one (.st (.bool false)))))]) .ret) .skip))))) (.ops [.i 31 (.bin .add (.t 17) (.n 1)),.m 17 31]))))))) (.seq (.ops [.i 6 (.mov (.c (.one (.st (.bool true)))))]) .ret))))
theorem Aw:OkF Tryz.prog 99 32 [] Ab [.t 6]:=.of Tryz.func99 rfl rfl (by kernel_rfl) rfl
def JA:IR :=
 (.seq (.ops [.i 2 (.box 37 (.t 0)),.i 3 (.box 37 (.t 1)),.i 4 (.mov (.c (.one (.st (.bool false)))))]) (.seq (.ops [.f 5 0 2,.l 6 5,.f 7 0 3,.l 8 7,.i 9 (.bin .eql (.t 6) (.t 8)),.m 10 9,.mk (some 11) (some (10,true)) (.fieldAddr 1 (.t 2)) .no,.mk (some 12) (some (10,true)) (.load false 1 (.t 11)) .no,.mk (some 13) (some (10,true)) (.fieldAddr 1 (.t 3)) .no,.mk (some 14) (some (10,true)) (.load false 1 (.t 13)) .no,.mk (some 15) (some (10,true)) (.call 99 [.t 12,.t 14,.c (.one (.fn 69 []))]) .no,.i 16 (.pick (.t 10) (.t 15) (.c (.one (.st (.bool false))))),.m 4 16]) .ret))
theorem O3:OkF Tryz.prog 69 17 [] JA [.t 4]:=.of Tryz.func69 rfl rfl (by kernel_rfl) rfl

end Go.Proofs.YtbhnmjkmieiadaaGreatDoor
