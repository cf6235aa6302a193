/-
  Part 9 of the texts. Conditions: none.
-/
import Derived.Test.YtbhnmjkmieiadaaGreatDoorCMa8
import Derived.Lib.AppendIntMem
import Derived.Lib.ItoaLen
import Derived.Lib.ItoaMem
namespace Go.Proofs.YtbhnmjkmieiadaaGreatDoor
open Go Go.RowKit
set_option linter.unusedVariables false
def FE:List Int→Int
 | []=>0
 | x::xs=>if x≠0 then x else FE xs
theorem Ux(row:List ByteArray)(a b:Tm):Cf row a b=FE [FY (B2 row a.name) (B2 row b.name),DZ a.name b.name,FY a.args.length b.args.length]:=by
 unfold Cf;simp only[FE];split
 ·rfl
 ·split
  ·rfl
  ·split
   ·rfl
   ·omega
def ID:List ByteArray→List ByteArray→Int
 | _,[]=>0
 | seen,x::xs=>if BA x=true∧AP x=false then(if Dt x seen=true then 4 else ID (seen++[x]) xs) else 1
def EB(row:List ByteArray):Int:=if 40<row.length then 3 else ID [] row

def met{α:Type}(l:List α)(seen:List Nat):List α:=seen.filterMap fun j=>l[j]?
theorem Zh{α:Type}{l:List α}{seen:List Nat}{j:Nat}{b:α}(h:l[j]?=some b):met l (seen++[j])=met l seen++[b]:=by
 unfold met;rw[List.filterMap_append,List.filterMap_cons_some h];rfl
theorem VS{α:Type}{l:List α}:∀{seen:List Nat},(∀j∈seen,j<l.length)→(met l seen).length=seen.length
 | [],_=>rfl
 | j::seen,h=>by
  have hj:=h j (by simp);unfold met;rw[List.filterMap_cons_some (List.getElem?_eq_getElem hj),List.length_cons,List.length_cons];exact congrArg (·+1) (VS fun i hi=>h i (by simp[hi]))
theorem RY{n:Nat}{seen:List Nat}(hn:seen.Nodup)(h:∀j∈seen,j<n):seen.length≤n:=by
 have h1:seen.Perm ((List.range n).filter fun j=>decide (j∈seen)):=(List.perm_ext_iff_of_nodup hn (List.nodup_range.filter _)).2 fun j=>by
  rw[List.mem_filter,List.mem_range,decide_eq_true_eq];exact⟨fun hj=>⟨h j hj,hj⟩,fun hj=>hj.2⟩
 rw[h1.length_eq];exact Nat.le_trans (List.length_filter_le _ _) (Nat.le_of_eq List.length_range)
theorem Zj{α:Type}{l:List α}{seen:List Nat}(hn:seen.Nodup)(h:∀j∈seen,j<l.length)(hall:∀j,j<l.length→j∈seen):(met l seen).Perm l:=by
 have hp:seen.Perm (List.range l.length):=(List.perm_ext_iff_of_nodup hn List.nodup_range).2 fun j=>⟨fun hj=>List.mem_range.2 (h j hj),fun hj=>hall j (List.mem_range.1 hj)⟩
 have:=hp.filterMap fun j=>l[j]?;rw[ET]at this;exact this

set_option maxRecDepth 100000
def Ak:IR :=
 (.seq (.ops [.i 6 (.mov (.c (.one (.st (.bool false)))))]) (.seq (.seq (.ops [.m 10 0,.i 11 (.len false (.t 10)),.m 12 1,.i 13 (.len false (.t 12)),.i 14 (.bin .neq (.t 11) (.t 13))]) (.cond (.t 14) (.seq (.ops [.i 6 (.mov (.c (.one (.st (.bool false)))))]) .ret) .skip)) (.seq (.seq (.ops [.m 15 0,.i 16 (.len false (.t 15)),.i 17 (.mov (.n 0))]) (.block 0 (.loop (.seq (.ops [.i 18 (.bin .lss (.t 17) (.t 16))]) (.seq (.cond (.t 18) .skip (.exit 0)) (.seq (.block 1 (.seq (.ops [.m 19 17,.i 20 (.indexAddr 2 (.t 15) (.t 17)),.L 21 2 20,.i 8 (.alloc 37 [.st (.str (ByteArray.mk (#[]))),.full []]),.m 7 19,.s 2 8 21]) (.seq (.ops [.m 22 1,.m 23 7,.i 24 (.indexAddr 2 (.t 22) (.t 23)),.L 25 2 24,.i 9 (.alloc 37 [.st (.str (ByteArray.mk (#[]))),.full []]),.s 2 9 25]) (.seq (.ops [.m 26 2,.L 27 2 8,.L 28 2 9,.i 29 (.callV (.t 26) [.t 27,.t 28]),.i 30 (.un .not (.t 29))]) (.cond (.t 30) (.seq (.ops [.i 6 (.mov (.c (.one (.st (.bool false)))))]) .ret) .skip))))) (.ops [.i 31 (.bin .add (.t 17) (.n 1)),.m 17 31]))))))) (.seq (.ops [.i 6 (.mov (.c (.one (.st (.bool true)))))]) .ret))))
theorem A0:OkF Tryz.prog 99 32 [] Ak [.t 6]:=.of Tryz.func99 rfl rfl (by kernel_rfl) rfl
def KD:IR :=
 (.seq (.ops [.i 2 (.box 37 (.t 0)),.i 3 (.box 37 (.t 1)),.i 4 (.mov (.c (.one (.st (.bool false)))))]) (.seq (.ops [.f 5 0 2,.l 6 5,.f 7 0 3,.l 8 7,.i 9 (.bin .eql (.t 6) (.t 8)),.m 10 9,.mk (some 11) (some (10,true)) (.fieldAddr 1 (.t 2)) .no,.mk (some 12) (some (10,true)) (.load false 1 (.t 11)) .no,.mk (some 13) (some (10,true)) (.fieldAddr 1 (.t 3)) .no,.mk (some 14) (some (10,true)) (.load false 1 (.t 13)) .no,.mk (some 15) (some (10,true)) (.call 99 [.t 12,.t 14,.c (.one (.fn 69 []))]) .no,.i 16 (.pick (.t 10) (.t 15) (.c (.one (.st (.bool false))))),.m 4 16]) .ret))
theorem QC:OkF Tryz.prog 69 17 [] KD [.t 4]:=.of Tryz.func69 rfl rfl (by kernel_rfl) rfl

set_option linter.unusedSimpArgs false
set_option maxHeartbeats 800000
theorem Tm.beqL_no{xs ys:List Tm}(h:xs≠ys):Tm.beqL xs ys=false:=by
 rw[←Bool.not_eq_true,Tm.beqL_iff];exact h
theorem SX(xs ys:List Tm)(ih:∀x∈xs,∀y,AW Tryz.prog 69 [aTm x,aTm y] (AZ (x.beq y))) :
  AW Tryz.prog 99 [CJ xs,CJ ys,.one (.fn 69 [])] (AZ (Tm.beqL xs ys)):=by
 have hplain:CY Tryz.prog 69=true:=by kernel_rfl
 refine A0.ac fun C hC=>?_;unfold Ak;refine IWP.learn 0 (by omega) fun hkn=>?_;have hkx:=DT hkn;rw[List.length_map]at hkx;by_cases hl:xs.length=ys.length
 ·have hl':(xs.length:Int)=ys.length:=by omega
  refine Gf hl' ?_;refine IWP.loopD [8,9] (fun n s=>∃k,k≤xs.length∧n=xs.length-k∧xs.take k=ys.take k∧s.env 1=CJ ys∧s.env 2=.one (.fn 69 [])∧s.env 15=CJ xs∧s.env 16=AO xs.length∧s.env 17=AO k∧s.S 8=none∧s.S 9=none) xs.length ⟨0,Nat.zero_le _,rfl,rfl,rfl,rfl,rfl,by simp only[go_sem,fN,seval,eT,iR,hl'],rfl,rfl,rfl⟩ ?_;rintro n ⟨env,S⟩ ⟨k,hk,rfl,h0,e1,e2,e15,e16,e17,s8,s9⟩;simp only at e1 e2 e15 e16 e17 s8 s9;by_cases hlt:(k:Int)<xs.length
  ·obtain⟨x,hx⟩:=Aa (show k<xs.length by omega);obtain⟨y,hy⟩:=Aa (show k<ys.length by omega);repeat' first|refine Gf (F11 e1 e2 e15 e16 e17 s8 s9 hlt hx hy hplain) ?_|refine Mm fun K hK=>?_
   refine⟨_,_,(ih x (AN hx) y).toS rfl,?_⟩;cases hxy:x.beq y with
   | false =>
    refine Gf hxy ?_;simp only[go_sem,fN,seval,AQ,AS.result,AB,AD,AM];rw[Tm.beqL_no fun e=>by
     subst e;rw[hx]at hy;cases hy;rw[Tm.beq_refl]at hxy;cases hxy]
   | true =>
    have hxy':=(Tm.beq_iff x y).1 hxy;refine Gf (F8 hxy e1 e2 e15 e16 e17 s8 s9) ?_;refine AE ⟨xs.length-(k+1),by omega,k+1,by omega,rfl,?_,?_⟩
    ·rw[Ab hx,Ab hy,h0,hxy']
    ·simp only[go_sem,fN,seval,AS.drop,AT,AC.clears,AC.clear,AC.highs,AC.high,zD,AV.purge,AV.purges,AC.purge,AJ.purge,Nat.reduceBEq,eT,iR,e1,e2,e15,e16,e17,s8,s9];congr 3
  ·refine Gf (F6 e1 e2 e15 e16 e17 hlt) ?_;simp only[go_sem,fN,seval,AQ,AS.result,AB,AD,AM];rw[List.take_of_length_le (by omega),List.take_of_length_le (by omega)]at h0;rw[(Tm.beqL_iff xs ys).2 h0]
 ·have hl':¬(xs.length:Int)=ys.length:=by omega
  refine Gf hl' ?_;simp only[go_sem,fN,seval,AQ,AS.result,AB,AD,AM];rw[Tm.beqL_no fun e=>hl (by rw[e])]
theorem MH(a b:Tm):AW Tryz.prog 69 [aTm a,aTm b] (AZ (a.beq b)):=by
 induction h:SizeOf.sizeOf a using Nat.strongRecOn generalizing a b with
 | _ N ih =>
 subst h;have hE:=SX a.args b.args fun x hx y=>ih _ (Tm.lt_of_arg hx) x y rfl;have he:a.beq b=(decide (a.name=b.name)&&Tm.beqL a.args b.args):=by cases a;cases b;rfl
 refine QC.ac fun C hC=>?_;unfold KD;by_cases hn:a.name=b.name
 ·repeat' first|refine Gf hn ?_|refine Mm fun K hK=>?_|refine Cg _ (hE) ?_
  simp only[go_sem,fN,seval,AQ,AS.result,AB,AD,AM];rw[he,decide_eq_true hn];rfl
 ·refine Gf hn ?_;simp only[go_sem,fN,seval,AQ,AS.result,AB,AD,AM];rw[he,decide_eq_false hn];rfl

def JD:IR :=
 (.seq (.ops [.i 1 (.box 37 (.t 0)),.i 2 (.mov (.n 0))]) (.seq (.ops [.i 3 (.mov (.n 1))]) (.seq (.seq (.ops [.f 6 1 1,.l 7 6,.i 8 (.len false (.t 7)),.i 9 (.mov (.n 0))]) (.block 0 (.loop (.seq (.ops [.i 10 (.bin .lss (.t 9) (.t 8))]) (.seq (.cond (.t 10) .skip (.exit 0)) (.seq (.block 1 (.seq (.ops [.i 11 (.indexAddr 2 (.t 7) (.t 9)),.L 12 2 11,.i 5 (.alloc 37 [.st (.str (ByteArray.mk (#[]))),.full []]),.s 2 5 12]) (.ops [.m 13 3,.L 14 2 5,.i 15 (.call 44 [.t 14]),.i 16 (.bin .add (.t 13) (.t 15)),.m 3 16]))) (.ops [.i 17 (.bin .add (.t 9) (.n 1)),.m 9 17]))))))) (.seq (.ops [.m 18 3,.m 2 18]) .ret))))
theorem QP:OkF Tryz.prog 44 19 [] JD [.t 2]:=.of Tryz.func44 rfl rfl (by kernel_rfl) rfl

theorem GZ(t:Tm)(hz:t.size≤1000000):AW Tryz.prog 44 [aTm t] (AO t.size):=by
 induction h:SizeOf.sizeOf t using Nat.strongRecOn generalizing t with
 | _ N ih =>
 subst h;have hs:=Tm.size_eq t;have hln:=Tm.length_le t.args;refine QP.ac fun C hC=>?_;unfold JD;refine Gg ?_;refine IWP.loopD [5] (fun m s=>∃k,k≤t.args.length∧m=t.args.length-k∧s.env 3=AO ((1+Tm.sizes (t.args.take k):Nat):Int)∧s.env 7=CJ t.args∧s.env 8=AO t.args.length∧s.env 9=AO k∧s.S 5=none) t.args.length ⟨0,Nat.zero_le _,rfl,rfl,rfl,rfl,rfl,rfl⟩ ?_;rintro m ⟨env,S⟩ ⟨k,hk,rfl,e3,e7,e8,e9,s5⟩;simp only at e3 e7 e8 e9 s5;by_cases hlt:(k:Int)<t.args.length
 ·obtain⟨a,ha⟩:=Aa (show k<t.args.length by omega);have h1:=Tm.sizes_take ha;have h2:=Tm.sizes_take_le t.args (k+1);repeat' first|refine Gf (F7 e3 e7 e8 e9 s5 hlt ha) ?_|refine Mm fun K hK=>?_|refine Cg _ (ih _ (Tm.lt_of_arg (AN ha)) a (by omega) rfl) ?_
  refine AE ⟨t.args.length-(k+1),by omega,k+1,by omega,rfl,?_⟩;simp only[go_sem,fN,seval,AS.drop,AT,AC.clears,AC.clear,AC.highs,AC.high,zD,AV.purge,AV.purges,AC.purge,AJ.purge,Nat.reduceBEq,eT,iR,e3,e7,e8,e9,s5];exact⟨by rw[h1];congr 3;omega,by congr 3⟩
 ·refine Gf (F5 e3 e7 e8 e9 hlt) ?_;simp only[go_sem,fN,seval,AQ,AS.result,AB,AD,AM];rw[List.take_of_length_le (by omega),hs]

set_option maxHeartbeats 1000000
theorem TS(l:List ByteArray)(x:ByteArray):AW Tryz.prog 98 [Bn l,Bs x] (AO (B2 l x)):=by
 refine D6.ac fun C hC=>?_;unfold Cd;refine IWP.learn 0 (by omega) fun hkn=>?_;have hkn:=DT hkn;rw[List.length_map]at hkn;refine Gg ?_;refine IWP.loop (fun n s=>∃k,k≤l.length∧n=l.length-k∧B2 l x=HC (l.drop k) x k∧s.env 0=Bn l∧s.env 1=Bs x∧s.env 7=AO l.length∧s.env 8=AO k) l.length ⟨0,Nat.zero_le _,rfl,rfl,rfl,rfl,rfl,rfl⟩ ?_;rintro n ⟨env,S⟩ ⟨k,hk,rfl,hr,e0,e1,e7,e8⟩;simp only at e0 e1 e7 e8;by_cases hlt:(k:Int)<l.length
 ·obtain⟨a,ha⟩:=Aa (show k<l.length by omega);rw[A5 ha,HC]at hr;by_cases he:x=a
  ·subst he;rw[if_pos rfl]at hr;refine Gf (F6 e0 e1 e7 e8 hlt ha) ?_;simp only[go_sem,fN,seval,AQ,AS.result,AB,AD,AM];rw[hr]
  ·rw[if_neg fun e=>he e.symm]at hr;refine Gf (F7 e0 e1 e7 e8 hlt ha he) ?_;refine AE ⟨l.length-(k+1),by omega,k+1,by omega,rfl,by rw[hr];rfl,?_⟩;simp only[go_sem,fN,seval,eT,iR,e0,e1,e7,e8];congr 3
 ·rw[List.drop_of_length_le (by omega),HC]at hr;refine Gf (F5 e0 e1 e7 e8 hlt) ?_;simp only[go_sem,fN,seval,AQ,AS.result,AB,AD,AM];rw[hr]
theorem Fc(x:Int):AW Tryz.prog 154 [AO x] (AZ false):=by
 refine Kl.ac fun C hC=>?_;unfold Ft;refine Gg ?_;simp only[go_sem,fN,seval,AQ,AS.result,AB,AD,AM]
theorem Tj(x y:Int):AW Tryz.prog 140 [AO x,AO y] (AO (FY x y)):=by
 refine Ii.ac fun C hC=>?_;unfold Ex;rcases Int.lt_trichotomy x y with h|h|h
 ·have hc:FY x y=-1:=by unfold FY;rw[if_pos h]
  rw[hc];repeat' first|refine Gf h ?_|refine Mm fun K hK=>?_|refine Cg _ (Fc x) ?_|refine Cg _ (Fc y) ?_
  simp only[go_sem,fN,seval,AQ,AS.result,AB,AD,AM]
 ·have hc:FY x y=0:=Fb.2 h;have h1:¬y<y:=by omega
  rw[hc];repeat' first|refine Gf (F2 h h1) ?_|refine Mm fun K hK=>?_|refine Cg _ (Fc x) ?_|refine Cg _ (Fc y) ?_
  simp only[go_sem,fN,seval,AQ,AS.result,AB,AD,AM]
 ·have hc:FY x y=1:=by unfold FY;rw[if_neg (by omega),if_pos h]
  have h1:¬x<y:=by omega
  rw[hc];repeat' first|refine Gf (F2 h h1) ?_|refine Mm fun K hK=>?_|refine Cg _ (Fc x) ?_|refine Cg _ (Fc y) ?_
  simp only[go_sem,fN,seval,AQ,AS.result,AB,AD,AM]
theorem AB2(l:List Int):AW Tryz.prog 139 [Gx l] (AO (FE l)):=by
 refine OH.ac fun C hC=>?_;unfold IM;refine IWP.learn 0 (by omega) fun hkn=>?_;have hkn:=DT hkn;rw[List.length_map]at hkn;refine Gg ?_;refine IWP.loop (fun n s=>∃k,k≤l.length∧n=l.length-k∧FE l=FE (l.drop k)∧s.env 3=AO 0∧s.env 6=Gx l∧s.env 7=AO l.length∧s.env 8=AO k) l.length ⟨0,Nat.zero_le _,rfl,rfl,rfl,rfl,rfl,rfl⟩ ?_;rintro n ⟨env,S⟩ ⟨k,hk,rfl,hr,e3,e6,e7,e8⟩;simp only at e3 e6 e7 e8;by_cases hlt:(k:Int)<l.length
 ·obtain⟨a,ha⟩:=Aa (show k<l.length by omega);rw[A5 ha,FE]at hr;by_cases he:a=0
  ·rw[if_neg (by omega)]at hr;refine Gf (F7 e3 e6 e7 e8 hlt ha he) ?_;refine AE ⟨l.length-(k+1),by omega,k+1,by omega,rfl,hr,?_⟩;simp only[go_sem,fN,seval,eT,iR,e3,e6,e7,e8];congr 3
  ·rw[if_pos he]at hr;refine Gf (F7 e3 e6 e7 e8 hlt ha he) ?_;simp only[go_sem,fN,seval,AQ,AS.result,AB,AD,AM];rw[hr]
 ·rw[List.drop_of_length_le (by omega),FE]at hr;refine Gf (F5 e3 e6 e7 e8 hlt) ?_;simp only[go_sem,fN,seval,AQ,AS.result,AB,AD,AM];rw[hr]
theorem XV(row:List ByteArray)(a b:Tm):AW Tryz.prog 133 [Bn row,aTm a,aTm b] (AO (Cf row a b)):=by
 have h:=Ux row a b;have ho:=AB2 [FY (B2 row a.name) (B2 row b.name),DZ a.name b.name,FY a.args.length b.args.length];rw[←h]at ho;refine Ki.ac fun C hC=>?_;unfold Fl;repeat' first|refine Gg ?_|refine Mm fun K hK=>?_|refine Cg _ (TS row a.name) ?_|refine Cg _ (TS row b.name) ?_|refine Cg _ (Tj _ _) ?_|refine Cg _ (Oh a.name b.name) ?_|refine Cg _ (ho) ?_
 simp only[go_sem,fN,seval,AQ,AS.result,AB,AD,AM]
theorem Tr(row:List ByteArray):AW Tryz.prog 31 [Bn row] (AO (EB row)):=by
 refine NJ.ac fun C hC=>?_;unfold HF;by_cases h40:40<row.length
 ·have h40':(40:Int)<row.length:=by omega
  refine Gf h40' ?_;simp only[go_sem,fN,seval,AQ,AS.result,AB,AD,AM];unfold EB;rw[if_pos h40]
 ·have h40':¬(40:Int)<row.length:=by omega
  have hm:EB row=ID [] row:=by unfold EB;rw[if_neg h40]
  refine Gf h40' ?_;refine IWP.loop (fun n s=>∃k,k≤row.length∧n=row.length-k∧EB row=ID (row.take k) (row.drop k)∧s.env 0=Bn row∧s.env 8=Bn row∧s.env 9=AO row.length∧s.env 10=AO k) row.length ⟨0,Nat.zero_le _,rfl,hm,rfl,rfl,rfl,rfl⟩ ?_;rintro n ⟨env,S⟩ ⟨k,hk,rfl,hr,e0,e8,e9,e10⟩;simp only at e0 e8 e9 e10;by_cases hlt:(k:Int)<row.length
  ·obtain⟨a,ha⟩:=Aa (show k<row.length by omega);rw[A5 ha,ID]at hr;have htk:(row.map CV).take k=(row.take k).map CV:=(List.map_take).symm;have hw1:∀x∈row.map CV,x.length=1:=Fa;repeat' first|refine Gf (F6 e0 e8 e9 e10 hlt ha) ?_|refine Mm fun K hK=>?_
   refine⟨_,ZP a,?_⟩;cases h1:BA a with
   | false =>
    rw[if_neg (by rw[h1];simp)]at hr;refine Gf (F5 h1 e0 e8 e9 e10) ?_;simp only[go_sem,fN,seval,AQ,AS.result,AB,AD,AM];rw[hr]
   | true =>
    refine Gf (F5 h1 e0 e8 e9 e10) ?_;refine⟨_,Az a,?_⟩;cases h2:AP a with
    | true =>
     rw[if_neg (by rw[h2];simp)]at hr;refine Gf (F6 h1 h2 e0 e8 e9 e10) ?_;simp only[go_sem,fN,seval,AQ,AS.result,AB,AD,AM];rw[hr]
    | false =>
     rw[if_pos ⟨h1,h2⟩]at hr;repeat' first|refine Gf (F6 h1 h2 e0 e8 e9 e10) ?_|refine Mm fun K hK=>?_
     have hcon:AW Tryz.prog 68 [.one (.st (.list ((row.map CV).take k))),Bs a] (AZ (Dt a (row.take k))):=by
      rw[htk];exact I1 _ _
     refine⟨_,hcon,?_⟩;cases h3:Dt a (row.take k) with
     | true =>
      rw[if_pos h3]at hr;refine Gf (F5 h3 e0 e8 e9 e10) ?_;simp only[go_sem,fN,seval,AQ,AS.result,AB,AD,AM];rw[hr]
     | false =>
      rw[if_neg (by rw[h3];simp),←Ab ha]at hr;refine Gf (F5 h3 e0 e8 e9 e10) ?_;refine AE ⟨row.length-(k+1),by omega,k+1,by omega,rfl,hr,?_⟩;simp only[go_sem,fN,seval,eT,iR,e0,e8,e9,e10];congr 3
  ·rw[List.drop_of_length_le (by omega),ID]at hr;refine Gf (F5 e0 e8 e9 e10 hlt) ?_;simp only[go_sem,fN,seval,AQ,AS.result,AB,AD,AM];rw[hr]

def HZ(row:List ByteArray)(cs ds:List SV)(x:SV):Prop:=∃a b,cs=Al a∧ds=Al b∧x=.bool (paB row a b)
def KT(row:List ByteArray)(m:Nat):AJ:=.box 130 [.st (.list (row.map CV)),.mptr m]
abbrev Lx(t:Tm):AV:=.one (.eptr [.str t.name,.list (t.args.map Al)])
theorem Zk{row:List ByteArray}{a b:Tm}{cs ds:List SV}{x:SV}(h1:W2 (Al a) cs)(h2:W2 (Al b) ds)(h:HZ row cs ds x):x=.bool (paB row a b):=by
 obtain⟨a',b',rfl,rfl,rfl⟩:=h;rw[Vq h1,Vq h2]
def K8(row:List ByteArray)(a b:Tm):Prop:=∀(p m:Nat) (S:AA),1000≤p→1000≤m→S p=some (KT row m)→S m=some (.memo (HZ row)) →
 Ah Tryz.prog 100 [.one (.ptr p 1 0 0),Lx a,Lx b] S (AZ (paB row a b)) S
def ABs(row:List ByteArray)(a b:Tm):Prop:=∀(p m:Nat) (S:AA),1000≤p→1000≤m→S p=some (KT row m)→S m=some (.memo (HZ row)) →
 Ah Tryz.prog 122 [.one (.ptr p 1 0 0),Lx a,Lx b] S (AZ (paB row a b)) S
theorem AAp{row:List ByteArray}{a b:Tm}(hask:AP a.name=false→ABs row a b):K8 row a b:=fun p m S hp hm sp sm=>by
 refine D2.acS fun hS C hC=>?_;unfold Cc;have n7:S 7=none:=AK hS (by omega);have p7:¬p=7:=by omega
 have m7:¬m=7:=by omega
 unfold KT at sp;cases hv:AP a.name with
 | true =>
  repeat' first|refine Gf hv ?_|refine Mm fun K hK=>?_|refine Cg _ (Az a.name) ?_
  refine Aq (AZ false) hS trivial ?_ ?_ fun _ _=>rfl
  ·simp only[go_sem,fN,seval,eT,iR,AB,AD,AM]
  ·simp only[go_sem,fN,seval,eT,iR];rw[VF hv]
 | false =>
  repeat' (first|(with_reducible first|refine W ?_|refine Z0 ?_|((first|refine Wo fun K hK=>?_|refine Wp ?_|refine Wq ?_|refine Wr ?_);(try simp only[go_sem,fN,seval,eT,iR,hv,n7,p7,m7,sp,sm,AS.caps,FX,KS,Pz,JP,dT,dF,nL]);(repeat refine Ai ?_);(try(refine hK _ ?_;clear hK K));try refine iC ?_))|refine Cg _ (Az a.name) ?_)
  refine⟨rfl,?_,fun cs' ds' x t1 t2 hf=>?_⟩
  ·refine hK _ ?_;clear hK K;refine Wb ?_;repeat' first|refine Gf (F6 hv n7 p7 m7 sp sm) ?_|refine Mm fun K hK=>?_
   refine⟨_,[(p,KT row m),(m,.memo (HZ row))],fun q hq=>?_,fun T hT=>hask hv (up1 p) (up1 m) (upS T) (Ap p) (Ap m) (by rw[Ax,hT (p,KT row m) (by simp)];rfl) (by rw[Ax,hT (m,.memo (HZ row)) (by simp)];rfl),?_⟩
   ·simp only[List.mem_cons,List.not_mem_nil,or_false]at hq;rcases hq with rfl|rfl
    ·simp only[go_sem,fN,seval,eT,iR,p7,sp,KT]
    ·simp only[go_sem,fN,seval,eT,iR,m7,sm]
   repeat' with_reducible first|refine W ?_|refine Z0 ?_|((first|refine Wo fun K hK=>?_|refine Wp ?_|refine Wq ?_|refine Wr ?_);(try simp only[go_sem,fN,seval,eT,iR,hv,n7,p7,m7,sp,sm,AS.caps,FX,KS,Pz,dT,dF,nL]);(repeat refine Ai ?_);(try(refine hK _ ?_;clear hK K));try refine iC ?_)
   refine⟨rfl,⟨a,b,(Ao a).symm,(Ao b).symm,rfl⟩,?_⟩;refine hK _ ?_;clear hK K;refine Wb ?_;refine Gf n7 ?_;refine Aq (AZ (paB row a b)) hS trivial ?_ ?_ fun k hk=>?_
   ·simp only[go_sem,fN,seval,eT,iR,AB,AD,AM]
   ·rfl
   ·have k7:¬k=7:=by omega
    simp only[go_sem,fN,seval,eT,iR,k7]
  ·have hx:=Zk (a:=a) (b:=b) (by rw[Ao];exact t1) (by rw[Ao];exact t2) hf;subst hx;refine hK _ ?_;clear hK K;refine Wb ?_;refine Gf (F6 hv n7 p7 m7 sp sm) ?_;refine Aq (AZ (paB row a b)) hS trivial ?_ ?_ fun k hk=>?_
   ·simp only[go_sem,fN,seval,eT,iR,AB,AD,AM]
   ·rfl
   ·have k7:¬k=7:=by omega
    simp only[go_sem,fN,seval,eT,iR,k7]
theorem Qn{a b:Tm}:a.beq b=true↔a=b:=Tm.beq_iff a b
theorem ABm{row:List ByteArray}{a b:Tm}(hv:AP a.name=false)(ha:a.size≤1000000)(hb:b.size≤1000000)(ih1:∀x∈a.args,K8 row x b)(ih2:∀y∈b.args,K8 row a y)(ih3:∀x∈a.args,∀y∈b.args,K8 row x y):ABs row a b:=fun p m S hp hm sp sm=>by
 refine EV.acS fun hS C hC=>?_;unfold Co;have hla:=Tm.length_le a.args;have hlb:=Tm.length_le b.args;have hsa:=Tm.size_eq a;have hsb:=Tm.size_eq b;have sp0:=sp;unfold KT at sp;have rows:∀q∈[(p,KT row m),(m,AJ.memo (HZ row))],S q.1=some q.2:=fun q hq=>by
  simp only[List.mem_cons,List.not_mem_nil,or_false]at hq;rcases hq with rfl|rfl
  ·exact sp0
  ·exact sm
 have call:∀x y:Tm,K8 row x y→∀T:AA,(∀q∈[(p,KT row m),(m,AJ.memo (HZ row))],T q.1=some q.2)→Ah Tryz.prog 100 [.one (.ptr (up1 p) 1 0 0),Lx x,Lx y] (upS T) (AZ (paB row x y)) (upS T):=fun x y h T hT =>
  h (up1 p) (up1 m) (upS T) (Ap p) (Ap m) (by rw[Ax,hT (p,KT row m) (by simp)];rfl) (by rw[Ax,hT (m,.memo (HZ row)) (by simp)];rfl)
 refine Gg ?_;refine IWP.loop (fun n s=>∃k,k≤a.args.length∧n=a.args.length-k∧(∀x∈a.args.take k,x≠b∧paB row x b=false)∧s.env 0=.one (.ptr p 1 0 0)∧s.env 1=Lx a∧s.env 2=Lx b∧s.env 6=AZ false∧s.env 15=AO a.args.length∧s.env 16=AO k∧s.S=S) a.args.length ⟨0,Nat.zero_le _,rfl,by simp,by(simp only[go_sem,fN,seval,eT,iR]),by(simp only[go_sem,fN,seval,eT,iR]),by(simp only[go_sem,fN,seval,eT,iR]),by(simp only[go_sem,fN,seval,eT,iR]),by(simp only[go_sem,fN,seval,eT,iR]),by(simp only[go_sem,fN,seval,eT,iR]),rfl⟩ ?_;rintro n ⟨env,S1⟩ ⟨k,hk,rfl,hno,e0,e1,e2,e6,e15,e16,hS1⟩;simp only at e0 e1 e2 e6 e15 e16 hS1;subst hS1;by_cases hlt:(k:Int)<a.args.length
 ·obtain⟨x,hx⟩:=Aa (show k<a.args.length by omega);have hxm:=AN hx;cases hxb:x.beq b with
  | true =>
   repeat' first|refine Gf (F10 e0 e1 e2 e6 e15 e16 hlt hx hxb @Ao) ?_|refine Mm fun K hK=>?_|refine Cg _ (MH x b) ?_
   refine Aq (AZ true) hS trivial ?_ ?_ fun _ _=>rfl
   ·simp only[go_sem,fN,seval,eT,iR,AB,AD,AM]
   ·simp only[go_sem,fN,seval,eT,iR];rw[MB hv hxm (.inl (Qn.1 hxb))]
  | false =>
   repeat' first|refine Gf (F10 e0 e1 e2 e6 e15 e16 hlt hx hxb @Ao) ?_|refine Mm fun K hK=>?_|refine Cg _ (MH x b) ?_
   refine⟨_,_,rows,call x b (ih1 x hxm),?_⟩;cases hp1:paB row x b with
   | true =>
    refine Gf (F11 e0 e1 e2 e6 e15 e16 hlt hx hxb hp1 @Ao) ?_;refine Aq (AZ true) hS trivial ?_ ?_ fun _ _=>rfl
    ·simp only[go_sem,fN,seval,eT,iR,AB,AD,AM]
    ·simp only[go_sem,fN,seval,eT,iR];rw[MB hv hxm (.inr hp1)]
   | false =>
    refine Gf (F11 e0 e1 e2 e6 e15 e16 hlt hx hxb hp1 @Ao) ?_;refine AE ⟨a.args.length-(k+1),by omega,k+1,by omega,rfl,fun y hy=>?_,?_⟩
    ·rw[Ab hx,List.mem_append,List.mem_singleton]at hy;rcases hy with hy|rfl
     ·exact hno y hy
     ·exact⟨fun e=>(by rw[Qn.2 e]at hxb;cases hxb),hp1⟩
    ·simp only[go_sem,fN,seval,eT,iR,e0,e1,e2,e6,e15,e16];congr 3
 ·rw[List.take_of_length_le (by omega)]at hno;repeat' first|refine Gf (F8 e0 e1 e2 e6 e15 e16 hlt @Ao) ?_|refine Mm fun K hK=>?_
  refine⟨_,Az b.name,?_⟩;cases hvb:AP b.name with
  | true =>
   refine Gf (F6 e0 e1 e2 e6 hvb @Ao) ?_;refine Aq (AZ false) hS trivial ?_ ?_ fun _ _=>rfl
   ·simp only[go_sem,fN,seval,eT,iR,AB,AD,AM]
   ·simp only[go_sem,fN,seval,eT,iR];rw[Fs hv hno (.inl hvb)]
  | false =>
   repeat' first|refine Gf (F7 e0 e1 e2 e6 hvb sp @Ao) ?_|refine Mm fun K hK=>?_
   refine⟨_,XV row a b,?_⟩;by_cases hsy:Cf row a b<0
   ·refine Gf (F7 e0 e1 e2 e6 hvb hsy @Ao) ?_;refine Aq (AZ false) hS trivial ?_ ?_ fun _ _=>rfl
    ·simp only[go_sem,fN,seval,eT,iR,AB,AD,AM]
    ·simp only[go_sem,fN,seval,eT,iR];rw[Fs hv hno (.inr (.inl hsy))]
   ·refine Gf (F7 e0 e1 e2 e6 hvb hsy @Ao) ?_;refine IWP.loop (fun n s=>∃j,j≤b.args.length∧n=b.args.length-j∧(∀y∈b.args.take j,paB row a y=true)∧s.env 0=.one (.ptr p 1 0 0)∧s.env 1=Lx a∧s.env 2=Lx b∧s.env 6=AZ false∧s.env 8=AO (Cf row a b)∧s.env 64=AO b.args.length∧s.env 65=AO j∧s.S=S1) b.args.length ⟨0,Nat.zero_le _,rfl,by simp,by(simp only[go_sem,fN,seval,eT,iR,e0]),by(simp only[go_sem,fN,seval,eT,iR,e1]),by(simp only[go_sem,fN,seval,eT,iR,e2]),by(simp only[go_sem,fN,seval,eT,iR,e6]),by(simp only[go_sem,fN,seval,eT,iR]),by(simp only[go_sem,fN,seval,eT,iR]),by(simp only[go_sem,fN,seval,eT,iR]),rfl⟩ ?_;clear e0 e1 e2 e6 e15 e16 hlt;rintro n ⟨env,S2⟩ ⟨j,hj,rfl,hall,e0,e1,e2,e6,e8,e64,e65,hS2⟩;simp only at e0 e1 e2 e6 e8 e64 e65 hS2;subst hS2;by_cases hlt:(j:Int)<b.args.length
    ·obtain⟨y,hy⟩:=Aa (show j<b.args.length by omega);have hym:=AN hy;repeat' first|refine Gf (F10 e0 e1 e2 e6 e8 e64 e65 hlt hy @Ao) ?_|refine Mm fun K hK=>?_
     refine⟨_,_,rows,call a y (ih2 y hym),?_⟩;cases hq:paB row a y with
     | false =>
      refine Gf (F11 e0 e1 e2 e6 e8 e64 e65 hlt hy hq @Ao) ?_;refine Aq (AZ false) hS trivial ?_ ?_ fun _ _=>rfl
      ·simp only[go_sem,fN,seval,eT,iR,AB,AD,AM]
      ·simp only[go_sem,fN,seval,eT,iR];rw[Fs hv hno (.inr (.inr ⟨y,hym,hq⟩))]
     | true =>
      refine Gf (F11 e0 e1 e2 e6 e8 e64 e65 hlt hy hq @Ao) ?_;refine AE ⟨b.args.length-(j+1),by omega,j+1,by omega,rfl,fun u hu=>?_,?_⟩
      ·rw[Ab hy,List.mem_append,List.mem_singleton]at hu;rcases hu with hu|rfl
       ·exact hall u hu
       ·exact hq
      ·simp only[go_sem,fN,seval,eT,iR,e0,e1,e2,e6,e8,e64,e65];congr 3
    ·rw[List.take_of_length_le (by omega)]at hall;by_cases hgt:0<Cf row a b
     ·refine Gf (F10 e0 e1 e2 e6 e8 e64 e65 hlt hgt @Ao) ?_;refine Aq (AZ true) hS trivial ?_ ?_ fun _ _=>rfl
      ·simp only[go_sem,fN,seval,eT,iR,AB,AD,AM]
      ·simp only[go_sem,fN,seval,eT,iR];rw[Yq hv hvb hgt hall]
     ·have hz:Cf row a b=0:=by omega
      have hll:=(Hh.1 hz).2;refine Gf (F10 e0 e1 e2 e6 e8 e64 e65 hlt hgt @Ao) ?_;refine IWP.loop (fun n s=>∃i,i≤a.args.length∧n=a.args.length-i∧a.args.take i=b.args.take i∧s.env 0=.one (.ptr p 1 0 0)∧s.env 1=Lx a∧s.env 2=Lx b∧s.env 6=AZ false∧s.env 85=AO a.args.length∧s.env 86=AO i∧s.S=S2) a.args.length ⟨0,Nat.zero_le _,rfl,by simp,by(simp only[go_sem,fN,seval,eT,iR,e0]),by(simp only[go_sem,fN,seval,eT,iR,e1]),by(simp only[go_sem,fN,seval,eT,iR,e2]),by(simp only[go_sem,fN,seval,eT,iR,e6]),by(simp only[go_sem,fN,seval,eT,iR]),by(simp only[go_sem,fN,seval,eT,iR]),rfl⟩ ?_;clear e0 e1 e2 e6 e8 e64 e65 hlt;rintro n ⟨env,S3⟩ ⟨i,hi,rfl,hpre,e0,e1,e2,e6,e85,e86,hS3⟩;simp only at e0 e1 e2 e6 e85 e86 hS3;subst hS3;by_cases hlt:(i:Int)<a.args.length
      ·obtain⟨x,hx⟩:=Aa (show i<a.args.length by omega);obtain⟨y,hy⟩:=Aa (show i<b.args.length by omega);repeat' first|refine Gf (F10 e0 e1 e2 e6 e85 e86 hlt hx hy @Ao) ?_|refine Mm fun K hK=>?_
       refine⟨_,MH x y,?_⟩;cases hxy:x.beq y with
       | true =>
        refine Gf (F11 e0 e1 e2 e6 e85 e86 hlt hx hy hxy @Ao) ?_;refine AE ⟨a.args.length-(i+1),by omega,i+1,by omega,rfl,?_,?_⟩
        ·rw[Ab hx,Ab hy,hpre,Qn.1 hxy]
        ·simp only[go_sem,fN,seval,eT,iR,e0,e1,e2,e6,e85,e86];congr 3
       | false =>
        repeat' first|refine Gf (F11 e0 e1 e2 e6 e85 e86 hlt hx hy hxy @Ao) ?_|refine Mm fun K hK=>?_
        refine⟨_,_,rows,call x y (ih3 x (AN hx) y (AN hy)),?_⟩;repeat' first|refine Gf (F11 e0 e1 e2 e6 e85 e86 hlt hx hy hxy @Ao) ?_|refine Mm fun K hK=>?_
        refine Aq (AZ (paB row x y)) hS trivial ?_ ?_ fun _ _=>rfl
        ·simp only[go_sem,fN,seval,eT,iR,AB,AD,AM]
        ·rw[P5 hv hvb hno hz hall hpre hx hy fun e=>by rw[Qn.2 e]at hxy;cases hxy];rfl
      ·have hae:a.args=b.args:=by
        rw[List.take_of_length_le (by omega),List.take_of_length_le (by omega)]at hpre;exact hpre
       refine Gf (F8 e0 e1 e2 e6 e85 e86 hlt @Ao) ?_;refine Aq (AZ false) hS trivial ?_ ?_ fun _ _=>rfl
       ·simp only[go_sem,fN,seval,eT,iR,AB,AD,AM,e6]
       ·simp only[go_sem,fN,seval,eT,iR];rw[RR hv hno hz hae]
theorem Hs(row:List ByteArray):∀(N:Nat) (a b:Tm),SizeOf.sizeOf a+SizeOf.sizeOf b<N→a.size≤1000000→b.size≤1000000→K8 row a b
 | 0,_,_,h,_,_=>absurd h (Nat.not_lt_zero _)
 | N+1,a,b,h,ha,hb=>AAp fun hv=>ABm hv ha hb
   (fun x hx=>Hs row N x b (by have:=Tm.lt_of_arg hx;omega) (by have:=Tm.size_mem hx;have:=Tm.size_eq a;omega) hb)
   (fun y hy=>Hs row N a y (by have:=Tm.lt_of_arg hy;omega) ha (by have:=Tm.size_mem hy;have:=Tm.size_eq b;omega))
   (fun x hx y hy=>Hs row N x y (by have:=Tm.lt_of_arg hx;have:=Tm.lt_of_arg hy;omega) (by have:=Tm.size_mem hx;have:=Tm.size_eq a;omega) (by have:=Tm.size_mem hy;have:=Tm.size_eq b;omega))
def U4(t:Tm):AJ:=.box 37 ([SV.str t.name,SV.list (t.args.map Al)].map .st)
theorem R3(row:List ByteArray)(a b:Tm)(ha:a.size≤1000000)(hb:b.size≤1000000):AW Tryz.prog 70 [Bn row,aTm a,aTm b] (AZ (paB row a b)):=by
 refine NA.ac fun C hC=>?_;unfold HW;refine IWP.mid (fun x=>x.env 0=Bn row∧x.env 4=.one (.ptr 4 1 0 0)∧x.env 5=.one (.ptr 5 1 0 0)∧x.S=AI (AI noS 4 (some (U4 a))) 5 (some (U4 b))) ?_ ?_
 ·refine Hf @Ao ?_;exact⟨rfl,rfl,rfl,rfl,rfl⟩
 rintro⟨env,S⟩ ⟨e0,e4,e5,hS⟩;simp only at e0 e4 e5 hS;subst hS;refine IWP.mid (fun x=>x.env 4=.one (.ptr 4 1 0 0)∧x.env 5=.one (.ptr 5 1 0 0)∧x.env 7=.one (.ptr 11 1 0 0)∧x.S=AI (AI (AI (AI noS 4 (some (U4 a))) 5 (some (U4 b))) 9 (some (.memo fun _ _ _=>False))) 11 (some (KT row 9))) ?_ ?_
 ·refine Hf (F4 e0 e4 e5 @Ao) ?_;exact⟨rfl,e4,e5,rfl,rfl⟩
 rintro⟨env,S⟩ ⟨e4,e5,e7,hS⟩;simp only at e4 e5 e7 hS;subst hS;refine IWP.ghost (AY.memoWeak (id:=9) (f':=HZ row) rfl fun _ _ _ h=>h.elim) ?_;refine IWP.ghost (AY.freeze 4 [4] (ty:=37) (xs:=[SV.str a.name,SV.list (a.args.map Al)]) rfl (Nat.succ_pos _) (fun t ht=>by rw[List.mem_singleton]at ht;subst ht;exact e4)) ?_;refine IWP.ghost (AY.freeze 5 [5] (ty:=37) (xs:=[SV.str b.name,SV.list (b.args.map Al)]) rfl (Nat.succ_pos _) (fun t ht=>by rw[List.mem_singleton]at ht;subst ht;exact e5)) ?_;repeat' with_reducible first|refine W ?_|refine Z0 ?_|((first|refine Wo fun K hK=>?_|refine Wp ?_|refine Wq ?_|refine Wr ?_);(try simp only[go_sem,fN,seval,eT,iR,e4,e5,e7,AS.set,List.mem_singleton,dT,dF,nL]);(repeat refine Ai ?_);(try(refine hK _ ?_;clear hK K));try refine iC ?_)
 refine⟨_,[(11,KT row 9),(9,.memo (HZ row))],fun q hq=>?_,fun T hT=>Hs row _ a b (Nat.lt_succ_self _) ha hb (up1 11) (up1 9) (upS T) (Ap _) (Ap _) (by rw[Ax,hT (11,KT row 9) (by simp)];rfl) (by rw[Ax,hT (9,.memo (HZ row)) (by simp)];rfl),?_⟩
 ·simp only[List.mem_cons,List.not_mem_nil,or_false]at hq;rcases hq with rfl|rfl <;> rfl
 repeat' with_reducible first|refine W ?_|refine Z0 ?_|((first|refine Wo fun K hK=>?_|refine Wp ?_|refine Wq ?_|refine Wr ?_);(try simp only[go_sem,fN,seval,eT,iR,e4,e5,e7,AS.set,List.mem_singleton,dT,dF,nL]);(repeat refine Ai ?_);(try(refine hK _ ?_;clear hK K));try refine iC ?_)
 simp only[go_sem,fN,seval,AQ,AS.result,AB,AD,AM]

def Sq:Nat→List Bd→List Pr→Option (List Bd×Int)
 | 0,_,_=>none
 | f+1,s,[]=>some (s,0)
 | f+1,s,p::l=>match Bp s p with
  | .err e=>some ([],e)
  | .go s' ps=>Sq f s' (ps++l)
theorem M2:∀{f:Nat} {s:List Bd} {l:List Pr} {r:List Bd×Int},Sq f s l=some r→∃n,C6 n s l r
 | 0,_,_,_,h=>by cases h
 | f+1,s,[],r,h=>by
  cases h;exact⟨0,.nil⟩
 | f+1,s,p::l,r,h=>by
  unfold Sq at h;split at h
  ·rename_i e he;cases h;exact⟨1,.err he⟩
  ·rename_i s' ps he;obtain⟨n,hn⟩:=M2 h;exact⟨n+1,.go he hn⟩
def J3(f:Nat)(a b:Pr)(same:Bool)(p:List Int):Option (Option (List Pr)):=match a.1.atP p with
 | none=>some (some [])
 | some x=>if AP x.name=true∨(same=true∧p=[]) then some (some [])
  else match Sq f [] [(x,b.1)] with
   | none=>none
   | some r=>if r.2=8 then some none
    else if r.2≠0 then some (some [])
    else if(Au r.1 a.2).2=true∧(Au r.1 (a.1.putP p b.2)).2=true then some (some [Bv (Au r.1 a.2).1 (Au r.1 (a.1.putP p b.2)).1])
    else some none
theorem R6{f:Nat}{a b:Pr}{same:Bool}{p:List Int}{r:Option (List Pr)}(h:J3 f a b same p=some r):Cm a b same p=r:=by
 unfold J3 at h;unfold Cm;split at h
 ·rename_i e;rw[e];simpa using h
 ·rename_i x e;rw[e];simp only;by_cases h1:AP x.name=true∨(same=true∧p=[])
  ·rw[if_pos h1]at h ⊢;simpa using h
  ·rw[if_neg h1]at h ⊢;cases hs:Sq f [] [(x,b.1)] with
   | none=>rw[hs]at h;cases h
   | some q =>
    rw[hs]at h;obtain⟨n,hn⟩:=M2 hs;rw[JK hn];simp only at h;split at h
    ·rename_i h2;rw[if_pos h2];simpa using h
    ·rename_i h2;rw[if_neg h2];split at h
     ·rename_i h3;rw[if_pos h3];simpa using h
     ·rename_i h3;rw[if_neg h3];split at h
      ·rename_i h4;rw[if_pos h4];simpa using h
      ·rename_i h4;rw[if_neg h4];simpa using h
def RD(f:Nat)(a b:Pr)(same:Bool):List (List Int)→Option (Option (List Pr))
 | []=>some (some [])
 | p::ps=>match J3 f a b same p with
  | none=>none
  | some none=>some none
  | some (some x)=>(RD f a b same ps).map fun r=>r.map (x++·)
def TX(f:Nat)(a b:Pr)(same:Bool):Option (Option (List Pr)):=RD f a b same a.1.places
theorem Pk{f:Nat}{a b:Pr}{same:Bool}:∀{ps:List (List Int)} {r:Option (List Pr)},RD f a b same ps=some r→DE a b same ps=r
 | [],r,h=>by
  cases h;rfl
 | p::ps,r,h=>by
  unfold RD at h;unfold DE;cases h1:J3 f a b same p with
  | none=>rw[h1]at h;cases h
  | some o =>
   rw[h1]at h;rw[R6 h1];cases o with
   | none=>simpa using h
   | some x =>
    simp only[Option.map_eq_some_iff]at h;obtain⟨q,hq,rfl⟩:=h;rw[Pk hq]
theorem Ca{f:Nat}{a b:Pr}{same:Bool}{r:Option (List Pr)}(h:TX f a b same=some r):Nv a b same=r:=Pk h
def WJ(P:Tm→Tm→Bool):List Tm→List Tm→Bool
 | x::xs,y::ys=>if x.beq y=true then WJ P xs ys else P x y&&decide (xs.length=ys.length)
 | _,_=>false
def paF(row:List ByteArray):Nat→Tm→Tm→Bool
 | 0,_,_=>false
 | f+1,a,b=>!AP a.name&&(a.args.any (fun x=>x.beq b||paF row f x b)||(!AP b.name&&!decide (Cf row a b<0)&&(decide (0<Cf row a b)||WJ (paF row f) a.args b.args)&&b.args.all fun y=>paF row f a y))
theorem TL{P:Tm→Tm→Bool}{R:Tm→Tm→Prop}:∀{xs ys:List Tm},(∀x∈xs,∀y∈ys,P x y=true↔R x y)→(WJ P xs ys=true↔Lex R xs ys)
 | [],ys,_=>by
  simp only[WJ,Bool.false_eq_true,false_iff];intro h;cases h
 | x::xs,[],_=>by
  simp only[WJ,Bool.false_eq_true,false_iff];intro h;cases h
 | x::xs,y::ys,h=>by
  rw[WJ];by_cases e:x.beq y=true
  ·rw[if_pos e];have e':=(Tm.beq_iff _ _).1 e;subst e';rw[TL fun a ha b hb=>h a (by simp[ha]) b (by simp[hb])];constructor
   ·exact fun k=>.on k
   ·intro k;cases k with
    | here hne _ _=>exact absurd rfl hne
    | on k=>exact k
  ·rw[if_neg e,Bool.and_eq_true,decide_eq_true_eq,h x (by simp) y (by simp)];have hne:x≠y:=fun q=>e ((Tm.beq_iff _ _).2 q);constructor
   ·rintro⟨k1,k2⟩;exact .here hne k1 k2
   ·intro k;cases k with
    | here _ k1 k2=>exact⟨k1,k2⟩
    | on k=>exact absurd rfl hne
theorem L9{row:List ByteArray}:∀(f:Nat) (a b:Tm),a.size+b.size<f→(paF row f a b=true↔Pa row a b)
 | 0,a,b,h=>absurd h (Nat.not_lt_zero _)
 | f+1,a,b,h=>by
  have sa:∀x∈a.args,x.size<a.size:=fun x hx=>by have:=Tm.size_mem hx;have:=Tm.size_eq a;omega
  have sb:∀x∈b.args,x.size<b.size:=fun x hx=>by have:=Tm.size_mem hx;have:=Tm.size_eq b;omega
  rw[QU,paF];simp only[Bool.and_eq_true,Bool.or_eq_true,Bool.not_eq_true',List.any_eq_true,List.all_eq_true,decide_eq_true_eq,decide_eq_false_iff_not,Tm.beq_iff];refine and_congr_right fun _=>or_congr ?_ ?_
  ·refine exists_congr fun x=>and_congr_right fun hx=>or_congr_right ?_;exact L9 f x b (by have:=sa x hx;omega)
  ·rw[TL (R:=Pa row) fun x hx y hy=>L9 f x y (by have:=sa x hx;have:=sb y hy;omega)];have hall:(∀y∈b.args,paF row f a y=true)↔∀y∈b.args,Pa row a y:=forall_congr' fun y=>imp_congr_right fun hy=>L9 f a y (by have:=sb y hy;omega);rw[hall];constructor
   ·rintro⟨⟨⟨h1,h2⟩,h3⟩,h4⟩;exact⟨h1,h2,h4,h3⟩
   ·rintro⟨h1,h2,h4,h3⟩;exact⟨⟨⟨h1,h2⟩,h3⟩,h4⟩
theorem RE(row:List ByteArray)(a b:Tm):paF row (a.size+b.size+1) a b=paB row a b:=by
 rw[Bool.eq_iff_iff,L9 _ a b (Nat.lt_succ_self _),FI]
def JC(r:Pr):List Pr→List Pr→List Pr→Option (List Pr×List Pr)
 | [],left,todo=>some (left,todo)
 | o::R,left,todo=>match KW [r] o.1 with
  | none=>none
  | some l=>if l.isEmpty=true then JC r R (left++[o]) todo else JC r R left (todo++[o])
def LP:Nat→Nat→List Pr→Option (List Pr×Int)
 | 0,_,R=>some (R,0)
 | k+1,i,R=>if Bc R≠0 then none else match R[i]? with
  | none=>none
  | some r=>match CM (Tm.inn R) 100 0 r.2 with
   | (y,_,e)=>if e≠0 then some (R,e) else if 200<y.size then some (R,8) else LP k (i+1) (R.set i (r.1,y))
def GA(f:Nat)(r:Pr):List Pr→List Pr→Option (List Pr×Int)
 | [],todo=>some (todo,0)
 | o::R,todo=>match TX f (DI 88 1 o) (DI 89 1 r) R.isEmpty with
  | none=>none
  | some none=>some (todo,8)
  | some (some l)=>if R.isEmpty=true then some (todo++l,0) else match TX f (DI 88 1 r) (DI 89 1 o) false with
   | none=>none
   | some none=>some (todo++l,8)
   | some (some l')=>GA f r R (todo++l++l')
def G8(f:Nat)(R T:List Pr)(r:Pr):Option (List Pr×List Pr×Int) :=
 if 200<r.1.size∨200<r.2.size then some (R,T,8) else if Bc [r]≠0∨Bc R≠0 then none else
 match JC r R [] T with
 | none=>none
 | some (left,todo)=>if 40<left.length+1 then some (left++[r],todo,3) else
  match LP (left.length+1) 0 (left++[r]) with
  | none=>none
  | some (R',e)=>if e≠0 then some (R',todo,e) else match R'.getLast? with
   | none=>none
   | some r'=>if Bc R'≠0 then none else match GA f r' R' todo with
    | none=>none
    | some (todo',e)=>if e≠0 then some (R',todo',e) else if 400<todo'.length then some (R',todo',3) else some (R',todo',0)
def In(f:Nat)(row:List ByteArray)(R T:List Pr)(p:Pr):Option (List Pr×List Pr×Int) :=
 if Bq p.1 p.2≠0∨Bc R≠0 then none else
 match CM (Tm.inn R) 100 0 p.1 with
 | (a,_,e)=>if e≠0 then some (R,T,e) else match CM (Tm.inn R) 100 0 p.2 with
  | (b,_,e')=>if e'≠0 then some (R,T,e') else
   if a.beq b=true then some (R,T,0)
   else if paF row (a.size+b.size+1) a b=true then G8 f R T (Bv a b)
   else if paF row (b.size+a.size+1) b a=true then G8 f R T (Bv b a)
   else some (R,T,14)
def EZ(f:Nat)(row:List ByteArray):Nat→List Pr→List Pr→Option (List Pr×Int)
 | n,R,[]=>some (R,0)
 | 0,R,_::_=>some ([],9)
 | n+1,R,p::T=>match In f row R T p with
  | none=>none
  | some (R',T',e)=>if e≠0 then some ([],e) else EZ f row n R' T'
theorem N2{f:Nat}{row:List ByteArray}:∀(n d:Nat) (R T:List Pr) (x:List Pr×Int),EZ f row (n+d) R T=some x→EZ f row n R T=some x∨EZ f row n R T=some ([],9)
 | n,d,R,[],x,h=>by
  left;cases n <;> (rw[EZ];cases d <;> simpa[EZ]using h)
 | 0,d,R,p::T,x,h=>.inr rfl
 | n+1,d,R,p::T,x,h=>by
  rw[show n+1+d=(n+d)+1 by omega,EZ]at h;rw[EZ];split at h
  ·cases h
  ·rename_i R' T' e hk;by_cases he:e≠0
   ·rw[if_pos he]at h ⊢;exact .inl h
   ·rw[if_neg he]at h ⊢;exact N2 n d R' T' x h

section
variable {P:Program} {C:Ctx} {a:Act} {w:World} {σ:Sto} {ι:A6} {s:AS} {Q:Exit→Act→World→Prop} {o:Oper}
end
section
variable {P:Program} {C:Ctx} {mu:List Nat} {Q:AX→AS→Prop} {s:AS}
end

def FM:IR :=
 (.seq (.ops [.i 2 (.box 40 (.t 0)),.i 4 (.alloc 40 [.st (.str (ByteArray.mk (#[]))),.full [],.st (.str (ByteArray.mk (#[]))),.full []])]) (.seq (.ops [.i 5 (.mov (.c (.one (.full []))))]) (.seq (.seq (.ops [.f 12 0 2,.L 13 2 12,.i 14 (.call 104 [.t 13]),.i 15 (.len false (.t 14)),.i 16 (.mov (.n 0))]) (.block 0 (.loop (.seq (.ops [.i 17 (.bin .lss (.t 16) (.t 15))]) (.seq (.cond (.t 17) .skip (.exit 0)) (.seq (.block 1 (.seq (.ops [.m 18 16,.i 19 (.indexAddr 1 (.t 14) (.t 16)),.l 20 19,.m 6 18,.m 7 20]) (.ops [.m 21 5,.m 22 7,.m 23 1,.m 24 6,.i 25 (.bin .add (.t 24) (.n 1)),.i 26 (.call 123 [.t 25]),.i 27 (.bin .add (.t 23) (.t 26)),.i 28 (.build [.st (.str (ByteArray.mk (#[]))),.full []] [(0,1,.t 27)]),.i 29 (.build [.st (.str (ByteArray.mk (#[]))),.st (.str (ByteArray.mk (#[]))),.full []] [(0,1,.t 22),(1,2,.t 28)]),.i 30 (.buildSlice false 82 3 [.t 29]),.i 31 (.append true 82 3 56 (.t 21) (.t 30)),.m 5 31]))) (.ops [.i 32 (.bin .add (.t 16) (.n 1)),.m 16 32]))))))) (.seq (.ops [.m 33 5,.i 34 (.callS 117 [.t 33]),.m 5 34]) (.seq (.ops [.m 36 5,.f 37 0 2,.L 38 2 37,.i 39 (.call 110 [.t 36,.t 38]),.m 35 39,.i 40 (.extract 0 (.t 35)),.i 41 (.extract 1 (.t 35)),.i 8 (.alloc 37 [.st (.str (ByteArray.mk (#[]))),.full []]),.s 2 8 40,.m 9 41]) (.seq (.ops [.m 43 5,.f 44 2 2,.L 45 2 44,.i 46 (.call 110 [.t 43,.t 45]),.m 42 46,.i 47 (.extract 0 (.t 42)),.i 48 (.extract 1 (.t 42)),.i 10 (.alloc 37 [.st (.str (ByteArray.mk (#[]))),.full []]),.s 2 10 47,.m 11 48]) (.seq (.ops [.L 49 2 8,.L 50 2 10,.i 51 (.build [.st (.str (ByteArray.mk (#[]))),.full [],.st (.str (ByteArray.mk (#[]))),.full []] [(0,2,.t 49),(2,2,.t 50)]),.s 4 4 51]) .ret)))))))
theorem Jy:OkF Tryz.prog 107 52 [31,34] FM [.cell 4 true 4]:=.of Tryz.func107 rfl rfl (by kernel_rfl) rfl
def IH:IR :=
 (.seq (.ops [.i 2 (.box 40 (.t 0)),.i 4 (.alloc 40 [.st (.str (ByteArray.mk (#[]))),.full [],.st (.str (ByteArray.mk (#[]))),.full []])]) (.seq (.ops [.f 8 0 2,.L 9 2 8,.i 10 (.call 60 [.t 9]),.m 5 10]) (.seq (.ops [.i 6 (.mov (.c (.one (.full []))))]) (.seq (.seq (.ops [.i 7 (.mov (.n 0))]) (.block 0 (.loop (.seq (.seq (.ops [.m 11 7,.m 12 5,.i 13 (.len false (.t 12)),.i 14 (.bin .lss (.t 11) (.t 13))]) (.cond (.t 14) .skip (.exit 0))) (.seq (.block 1 (.ops [.m 17 6,.m 18 5,.m 19 7,.i 20 (.indexAddr 1 (.t 18) (.t 19)),.l 21 20,.m 22 1,.m 23 7,.i 24 (.call 61 [.t 23]),.i 25 (.bin .add (.t 22) (.t 24)),.i 26 (.build [.st (.str (ByteArray.mk (#[]))),.full []] [(0,1,.t 25)]),.i 27 (.build [.st (.str (ByteArray.mk (#[]))),.st (.str (ByteArray.mk (#[]))),.full []] [(0,1,.t 21),(1,2,.t 26)]),.i 28 (.buildSlice false 82 3 [.t 27]),.i 29 (.append false 82 3 56 (.t 17) (.t 28)),.m 6 29])) (.ops [.m 15 7,.i 16 (.bin .add (.t 15) (.n 1)),.m 7 16])))))) (.seq (.ops [.m 30 6,.f 31 0 2,.L 32 2 31,.i 33 (.call 62 [.t 30,.t 32]),.m 34 6,.f 35 2 2,.L 36 2 35,.i 37 (.call 62 [.t 34,.t 36]),.i 38 (.build [.st (.str (ByteArray.mk (#[]))),.full [],.st (.str (ByteArray.mk (#[]))),.full []] [(0,2,.t 33),(2,2,.t 37)]),.s 4 4 38]) .ret)))))
theorem OY:OkF Tryz.prog 95 39 [] IH [.cell 4 true 4]:=.of Tryz.func95 rfl rfl (by kernel_rfl) rfl
def Ea:IR :=
 (.seq (.ops [.i 3 (.box 40 (.t 0)),.i 4 (.box 40 (.t 1)),.i 6 (.mov (.c (.one (.full [])))),.i 7 (.mov (.n 0))]) (.seq (.ops [.i 8 (.mov (.c (.one (.full []))))]) (.seq (.ops [.L 22 4 3,.i 23 (.call 107 [.t 22,.c (.one (.st (.str (ByteArray.mk (#[88])))))]),.L 24 4 4,.i 25 (.call 107 [.t 24,.c (.one (.st (.str (ByteArray.mk (#[89])))))]),.i 9 (.alloc 40 [.st (.str (ByteArray.mk (#[]))),.full [],.st (.str (ByteArray.mk (#[]))),.full []]),.i 10 (.alloc 40 [.st (.str (ByteArray.mk (#[]))),.full [],.st (.str (ByteArray.mk (#[]))),.full []]),.s 4 9 23,.s 4 10 25]) (.seq (.seq (.ops [.f 26 0 9,.L 27 2 26,.i 28 (.call 108 [.t 27]),.i 29 (.len false (.t 28)),.i 30 (.mov (.n 0))]) (.block 0 (.loop (.seq (.ops [.i 31 (.bin .lss (.t 30) (.t 29))]) (.seq (.cond (.t 31) .skip (.exit 0)) (.seq (.block 1 (.seq (.ops [.i 32 (.indexAddr 1 (.t 28) (.t 30)),.l 33 32,.m 12 33]) (.seq (.ops [.f 35 0 9,.L 36 2 35,.m 37 12,.i 38 (.call 109 [.t 36,.t 37]),.m 34 38,.i 39 (.extract 0 (.t 34)),.i 40 (.extract 1 (.t 34)),.i 13 (.alloc 37 [.st (.str (ByteArray.mk (#[]))),.full []]),.s 2 13 39,.m 14 40]) (.seq (.seq (.ops [.f 41 0 13,.l 42 41,.i 43 (.call 67 [.t 42]),.m 44 43,.mk (some 45) (some (44,false)) (.mov (.t 2)) .no,.mk (some 46) (some (44,false)) (.mov (.t 45)) .no,.mk (some 47) (some (46,true)) (.mov (.t 12)) .no,.mk (some 48) (some (46,true)) (.len false (.t 47)) .no,.mk (some 49) (some (46,true)) (.bin .eql (.t 48) (.n 0)) .no,.mk (some 50) (some (44,false)) (.pick (.t 46) (.t 49) (.c (.one (.st (.bool false))))) .no,.i 51 (.pick (.t 44) (.c (.one (.st (.bool true)))) (.t 50))]) (.cond (.t 51) (.exit 1) .skip)) (.seq (.ops [.L 53 2 13,.f 54 0 10,.L 55 2 54,.i 56 (.build [.st (.str (ByteArray.mk (#[]))),.full [],.st (.str (ByteArray.mk (#[]))),.full []] [(0,2,.t 53),(2,2,.t 55)]),.i 57 (.buildSlice false 40 4 [.t 56]),.i 58 (.call 86 [.t 57]),.m 52 58,.i 59 (.extract 0 (.t 52)),.i 60 (.extract 1 (.t 52)),.m 15 59,.m 16 60]) (.seq (.seq (.ops [.m 61 16,.i 62 (.bin .eql (.t 61) (.n 8))]) (.cond (.t 62) (.seq (.ops [.m 63 16,.i 6 (.mov (.c (.one (.full [])))),.m 7 63]) .ret) .skip)) (.seq (.seq (.ops [.m 64 16,.i 65 (.bin .neq (.t 64) (.n 0))]) (.cond (.t 65) (.exit 1) .skip)) (.seq (.ops [.m 67 15,.f 68 2 9,.L 69 2 68,.i 70 (.call 110 [.t 67,.t 69]),.m 66 70,.i 71 (.extract 0 (.t 66)),.i 72 (.extract 1 (.t 66)),.i 17 (.alloc 37 [.st (.str (ByteArray.mk (#[]))),.full []]),.s 2 17 71,.m 18 72]) (.seq (.ops [.m 74 15,.f 75 0 9,.L 76 2 75,.m 77 12,.f 78 2 10,.L 79 2 78,.i 80 (.call 111 [.t 76,.t 77,.t 79]),.i 81 (.call 110 [.t 74,.t 80]),.m 73 81,.i 82 (.extract 0 (.t 73)),.i 83 (.extract 1 (.t 73)),.i 19 (.alloc 37 [.st (.str (ByteArray.mk (#[]))),.full []]),.s 2 19 82,.m 20 83]) (.seq (.seq (.ops [.m 84 18,.i 85 (.un .not (.t 84)),.m 86 85,.mk (some 87) (some (86,false)) (.mov (.t 20)) .no,.mk (some 88) (some (86,false)) (.un .not (.t 87)) .no,.i 89 (.pick (.t 86) (.c (.one (.st (.bool true)))) (.t 88))]) (.cond (.t 89) (.seq (.ops [.i 6 (.mov (.c (.one (.full [])))),.i 7 (.mov (.n 8))]) .ret) .skip)) (.seq (.ops [.L 90 2 17,.L 91 2 19,.i 92 (.buildSlice false 37 2 [.t 90,.t 91]),.i 93 (.call 71 [.t 92]),.m 21 93]) (.ops [.m 94 8,.m 95 21,.i 96 (.indexAddr 2 (.t 95) (.n 0)),.L 97 2 96,.m 98 21,.i 99 (.indexAddr 2 (.t 98) (.n 1)),.L 100 2 99,.i 101 (.build [.st (.str (ByteArray.mk (#[]))),.full [],.st (.str (ByteArray.mk (#[]))),.full []] [(0,2,.t 97),(2,2,.t 100)]),.i 102 (.buildSlice false 40 4 [.t 101]),.i 103 (.append false 40 4 80 (.t 94) (.t 102)),.m 8 103])))))))))))) (.ops [.i 104 (.bin .add (.t 30) (.n 1)),.m 30 104]))))))) (.seq (.ops [.m 105 8,.m 6 105,.i 7 (.mov (.n 0))]) .ret)))))
theorem H_:OkF Tryz.prog 74 106 [] Ea [.t 6,.t 7]:=.of Tryz.func74 rfl rfl (by kernel_rfl) rfl
def E9:IR :=
 (.seq (.ops [.i 3 (.box 40 (.t 0)),.i 4 (.box 40 (.t 1)),.i 6 (.mov (.c (.one (.full [])))),.i 7 (.mov (.n 0))]) (.seq (.ops [.L 22 4 3,.i 23 (.call 95 [.t 22,.c (.one (.st (.str (ByteArray.mk (#[80])))))]),.i 8 (.alloc 40 [.st (.str (ByteArray.mk (#[]))),.full [],.st (.str (ByteArray.mk (#[]))),.full []]),.s 4 8 23]) (.seq (.ops [.L 24 4 4,.i 25 (.call 95 [.t 24,.c (.one (.st (.str (ByteArray.mk (#[81])))))]),.i 9 (.alloc 40 [.st (.str (ByteArray.mk (#[]))),.full [],.st (.str (ByteArray.mk (#[]))),.full []]),.s 4 9 25]) (.seq (.ops [.f 26 0 8,.L 27 2 26,.i 28 (.call 89 [.t 27]),.m 10 28]) (.seq (.ops [.i 11 (.mov (.c (.one (.full []))))]) (.seq (.seq (.ops [.i 12 (.mov (.n 0))]) (.block 0 (.loop (.seq (.seq (.ops [.m 29 12,.m 30 10,.i 31 (.len false (.t 30)),.i 32 (.bin .lss (.t 29) (.t 31))]) (.cond (.t 32) .skip (.exit 0))) (.seq (.block 1 (.seq (.ops [.f 36 0 8,.L 37 2 36,.m 38 10,.m 39 12,.i 40 (.indexAddr 1 (.t 38) (.t 39)),.l 41 40,.i 42 (.call 54 [.t 37,.t 41]),.m 35 42,.i 43 (.extract 0 (.t 35)),.i 44 (.extract 1 (.t 35)),.i 13 (.alloc 37 [.st (.str (ByteArray.mk (#[]))),.full []]),.s 2 13 43,.m 14 44]) (.seq (.seq (.ops [.f 45 0 13,.l 46 45,.i 47 (.call 50 [.t 46]),.m 48 47,.mk (some 49) (some (48,false)) (.mov (.t 2)) .no,.mk (some 50) (some (48,false)) (.mov (.t 49)) .no,.mk (some 51) (some (50,true)) (.mov (.t 12)) .no,.mk (some 52) (some (50,true)) (.bin .eql (.t 51) (.n 0)) .no,.mk (some 53) (some (48,false)) (.pick (.t 50) (.t 52) (.c (.one (.st (.bool false))))) .no,.i 54 (.pick (.t 48) (.c (.one (.st (.bool true)))) (.t 53))]) (.cond (.t 54) (.exit 1) .skip)) (.seq (.ops [.L 56 2 13,.f 57 0 9,.L 58 2 57,.i 59 (.build [.st (.str (ByteArray.mk (#[]))),.full [],.st (.str (ByteArray.mk (#[]))),.full []] [(0,2,.t 56),(2,2,.t 58)]),.i 60 (.buildSlice false 40 4 [.t 59]),.i 61 (.call 96 [.t 60]),.m 55 61,.i 62 (.extract 0 (.t 55)),.i 63 (.extract 1 (.t 55)),.m 15 62,.m 16 63]) (.seq (.seq (.ops [.m 64 16,.i 65 (.bin .eql (.t 64) (.n 8))]) (.cond (.t 65) (.seq (.ops [.m 66 16,.i 6 (.mov (.c (.one (.full [])))),.m 7 66]) .ret) .skip)) (.seq (.seq (.ops [.m 67 16,.i 68 (.bin .neq (.t 67) (.n 0))]) (.cond (.t 68) (.exit 1) .skip)) (.seq (.ops [.m 70 15,.f 71 2 8,.L 72 2 71,.i 73 (.call 92 [.t 70,.t 72]),.m 69 73,.i 74 (.extract 0 (.t 69)),.i 75 (.extract 1 (.t 69)),.i 17 (.alloc 37 [.st (.str (ByteArray.mk (#[]))),.full []]),.s 2 17 74,.m 18 75]) (.seq (.ops [.m 77 15,.f 78 0 8,.L 79 2 78,.m 80 10,.m 81 12,.i 82 (.indexAddr 1 (.t 80) (.t 81)),.l 83 82,.f 84 2 9,.L 85 2 84,.i 86 (.call 56 [.t 79,.t 83,.t 85]),.i 87 (.call 92 [.t 77,.t 86]),.m 76 87,.i 88 (.extract 0 (.t 76)),.i 89 (.extract 1 (.t 76)),.i 19 (.alloc 37 [.st (.str (ByteArray.mk (#[]))),.full []]),.s 2 19 88,.m 20 89]) (.seq (.seq (.ops [.m 90 18,.i 91 (.un .not (.t 90)),.m 92 91,.mk (some 93) (some (92,false)) (.mov (.t 20)) .no,.mk (some 94) (some (92,false)) (.un .not (.t 93)) .no,.i 95 (.pick (.t 92) (.c (.one (.st (.bool true)))) (.t 94))]) (.cond (.t 95) (.seq (.ops [.i 6 (.mov (.c (.one (.full [])))),.i 7 (.mov (.n 8))]) .ret) .skip)) (.seq (.ops [.L 96 2 17,.L 97 2 19,.i 98 (.buildSlice false 37 2 [.t 96,.t 97]),.i 99 (.call 28 [.t 98]),.m 21 99]) (.ops [.m 100 11,.m 101 21,.i 102 (.indexAddr 2 (.t 101) (.n 0)),.L 103 2 102,.m 104 21,.i 105 (.indexAddr 2 (.t 104) (.n 1)),.L 106 2 105,.i 107 (.build [.st (.str (ByteArray.mk (#[]))),.full [],.st (.str (ByteArray.mk (#[]))),.full []] [(0,2,.t 103),(2,2,.t 106)]),.i 108 (.buildSlice false 40 4 [.t 107]),.i 109 (.append false 40 4 80 (.t 100) (.t 108)),.m 11 109]))))))))))) (.ops [.m 33 12,.i 34 (.bin .add (.t 33) (.n 1)),.m 12 34])))))) (.seq (.ops [.m 110 11,.m 6 110,.i 7 (.mov (.n 0))]) .ret)))))))
theorem JG:OkF Tryz.prog 64 111 [] E9 [.t 6,.t 7]:=.of Tryz.func64 rfl rfl (by kernel_rfl) rfl
def LV:IR :=
 (.seq (.ops [.i 8 (.mov (.c (.one (.st (.bool false)))))]) (.seq (.seq (.ops [.m 10 3,.i 11 (.bin .neq (.t 10) (.n 0))]) (.cond (.t 11) (.seq (.ops [.m 12 1,.m 13 3,.i 14 (.bin .eql (.t 12) (.t 13)),.m 15 14,.mk (some 16) (some (15,true)) (.mov (.t 0)) .no,.mk (some 17) (some (15,true)) (.len false (.t 16)) .no,.mk (some 18) (some (15,true)) (.bin .eql (.t 17) (.n 0)) .no,.i 19 (.pick (.t 15) (.t 18) (.c (.one (.st (.bool false))))),.m 8 19]) .ret) .skip)) (.seq (.seq (.ops [.m 20 1,.i 21 (.bin .neq (.t 20) (.n 0)),.m 22 21,.mk (some 23) (some (22,false)) (.mov (.t 0)) .no,.mk (some 24) (some (22,false)) (.len false (.t 23)) .no,.mk (some 25) (some (22,false)) (.mov (.t 2)) .no,.mk (some 26) (some (22,false)) (.len false (.t 25)) .no,.mk (some 27) (some (22,false)) (.bin .neq (.t 24) (.t 26)) .no,.i 28 (.pick (.t 22) (.c (.one (.st (.bool true)))) (.t 27))]) (.cond (.t 28) (.seq (.ops [.i 8 (.mov (.c (.one (.st (.bool false)))))]) .ret) .skip)) (.seq (.seq (.ops [.i 9 (.mov (.n 0))]) (.block 0 (.loop (.seq (.seq (.ops [.m 29 9,.m 30 0,.i 31 (.len false (.t 30)),.i 32 (.bin .lss (.t 29) (.t 31))]) (.cond (.t 32) .skip (.exit 0))) (.seq (.block 1 (.seq (.ops [.m 35 0,.m 36 9,.i 37 (.indexAddr 4 (.t 35) (.t 36)),.f 38 0 37,.L 39 2 38,.m 40 2,.m 41 9,.i 42 (.indexAddr 4 (.t 40) (.t 41)),.f 43 0 42,.L 44 2 43,.i 45 (.call 19 [.t 39,.t 44]),.i 46 (.un .not (.t 45)),.m 47 46,.mk (some 48) (some (47,false)) (.mov (.t 0)) .no,.mk (some 49) (some (47,false)) (.mov (.t 9)) .no,.mk (some 50) (some (47,false)) (.indexAddr 4 (.t 48) (.t 49)) .no,.mk (some 51) (some (47,false)) (.fieldAddr 2 (.t 50)) .no,.mk (some 52) (some (47,false)) (.load true 2 (.t 51)) .no,.mk (some 53) (some (47,false)) (.mov (.t 2)) .no,.mk (some 54) (some (47,false)) (.mov (.t 9)) .no,.mk (some 55) (some (47,false)) (.indexAddr 4 (.t 53) (.t 54)) .no,.mk (some 56) (some (47,false)) (.fieldAddr 2 (.t 55)) .no,.mk (some 57) (some (47,false)) (.load true 2 (.t 56)) .no,.mk (some 58) (some (47,false)) (.call 19 [.t 52,.t 57]) .no,.mk (some 59) (some (47,false)) (.un .not (.t 58)) .no,.i 60 (.pick (.t 47) (.c (.one (.st (.bool true)))) (.t 59))]) (.cond (.t 60) (.seq (.ops [.i 8 (.mov (.c (.one (.st (.bool false)))))]) .ret) .skip))) (.ops [.m 33 9,.i 34 (.bin .add (.t 33) (.n 1)),.m 9 34])))))) (.seq (.ops [.i 8 (.mov (.c (.one (.st (.bool true)))))]) .ret)))))
theorem RU:OkF Tryz.prog 11 61 [] LV [.t 8]:=.of Tryz.func11 rfl rfl (by kernel_rfl) rfl

def Gq:IR :=
 (.seq (.ops [.i 2 (.mov (.c (.one (.st (.str (ByteArray.mk (#[])))))))]) (.seq (.ops [.m 3 0,.i 4 (.bin .add (.t 3) (.n 1)),.i 5 (.call 123 [.t 4]),.i 6 (.bin .add (.c (.one (.st (.str (ByteArray.mk (#[90])))))) (.t 5)),.m 2 6]) .ret))
theorem Lw:OkF Tryz.prog 102 7 [] Gq [.t 2]:=.of Tryz.func102 rfl rfl (by kernel_rfl) rfl
def SK:IR :=
 (.seq (.ops [.i 2 (.mov (.c (.one (.st (.str (ByteArray.mk (#[])))))))]) (.seq (.seq (.ops [.m 3 0,.i 4 (.bin .lss (.t 3) (.n 10))]) (.cond (.t 4) (.seq (.ops [.m 5 0,.i 6 (.bin .add (.n 48) (.t 5)),.i 7 (.conv .u8 (.t 6)),.i 8 (.buildFlat [.t 7]),.i 9 (.strOf false (.t 8)),.m 2 9]) .ret) .skip)) (.seq (.ops [.m 10 0,.i 11 (.bin .quo (.t 10) (.n 10)),.i 12 (.call 61 [.t 11]),.m 13 0,.i 14 (.bin .rem (.t 13) (.n 10)),.i 15 (.call 61 [.t 14]),.i 16 (.bin .add (.t 12) (.t 15)),.m 2 16]) .ret)))
theorem YJ:OkF Tryz.prog 61 17 [] SK [.t 2]:=.of Tryz.func61 rfl rfl (by kernel_rfl) rfl

theorem AAO{σ:Sto}{vs:List Value}{x:AV}(h:An (Ae σ noS noH) vs [x]):∃v,vs=[v]∧Ae σ noS noH v x:=by
 cases h with
 | cons h1 h2 =>
  cases h2;exact⟨_,rfl,h1⟩
theorem Xu(n:Nat)(hn:n<1000000):AW Tryz.prog 123 [AO n] (Bs (IA n)):=by
 intro σ w vs hG hF hv;obtain⟨v,rfl,h1⟩:=AAO hv;obtain⟨rfl,hin⟩:=BL h1;have ht : Lib.TabIs Tryz.prog w "internal/strconv.uint64pow10" .u64 Lib.pow10Tab := hG.ints hF (g := 0) (by kernel_rfl) (by kernel_rfl)
 refine(Any.strconv_Itoa Tryz.laysM171 n (by omega) (by omega) w ht).mono fun e w' ⟨he,k,os,hw⟩=>?_;have hb:Below w.heap.size w w':=by
  rw[hw];exact Lib.below_grow _ _ (Nat.le_refl _) _ _
 have hd:(⟨(Lib.itoa (n:Int)).toArray⟩:ByteArray)=IA n:=by rw[Lib.itoa_nonneg];rfl
 rw[hd]at he;refine⟨_,σ,he,.one (.st (.str ?_)),hF.below hb,Ext.refl _ _,hb⟩;have:=Cl hn;rw[Em];omega
theorem YZ(n:Nat)(hn:n<1000000):AW Tryz.prog 61 [AO n] (Bs (IA n)):=by
 induction n using Nat.strongRecOn with
 | _ n ih =>
 refine YJ.ac fun C hC=>?_;unfold SK;by_cases h:(n:Int)<10
 ·have hb:JY [[SV.int .u8 (48+(n:Int))]]=some [48+(n:Int)]:=rfl;have hr:inR .u8 (48+(n:Int)):=by simp[inR,IntKind.min,IntKind.max,IntKind.signed,IntKind.bits];omega
  have hs:strOfNums [48+(n:Int)]=IA n:=by
   rw[M_ (by omega)];unfold strOfNums;have e:(48+(n:Int)).toNat=48+n:=by omega
   simp only[List.map_cons,List.map_nil,e]
  refine Gf (F4 h hb hr hs) ?_;simp only[go_sem,fN,seval,AQ,AS.result,AB,AD,AM]
 ·have q1:(n:Int).tdiv 10=((n / 10:Nat):Int):=by rw[Int.tdiv_eq_ediv_of_nonneg (by omega)];omega
  have q2:(n:Int).tmod 10=((n % 10:Nat):Int):=by rw[Int.tmod_eq_emod_of_nonneg (by omega)];omega
  have h1:=ih (n / 10) (by omega) (by omega);have h2:=ih (n % 10) (by omega) (by omega);have z1:=Cl (n:=n / 10) (by omega);have z2:=Cl (n:=n % 10) (by omega);repeat' first|refine Gf (F3 h q1 q2) ?_|refine Mm fun K hK=>?_|refine Cg _ (h1) ?_|refine Cg _ (h2) ?_
  simp only[go_sem,fN,seval,AQ,AS.result,AB,AD,AM];rw[Yt (n:=n) (by omega)]
theorem WK(k:Nat)(hk:k+1<1000000):AW Tryz.prog 102 [AO k] (Bs (DS k)):=by
 have h:=Xu (k+1) hk;rw[show(((k+1:Nat):Int))=(k:Int)+1 by omega]at h;have z:=Cl hk;have z1:(⟨#[90]⟩:ByteArray).size=1:=rfl;refine Lw.ac fun C hC=>?_;unfold Gq;repeat' first|refine Gf z1 ?_|refine Mm fun K hK=>?_|refine Cg _ (h) ?_
 simp only[go_sem,fN,seval,AQ,AS.result,AB,AD,AM];rfl

abbrev Bo(l:List Pr):AJ:=.arow 40 4 (l.map Ag)



def Ez:IR :=
 (.seq (.ops [.i 3 (.box 37 (.t 0)),.i 4 (.alloc 37 [.st (.str (ByteArray.mk (#[]))),.full []])]) (.seq (.seq (.ops [.f 8 0 3,.l 9 8,.i 10 (.call 67 [.t 9])]) (.cond (.t 10) (.seq (.seq (.ops [.l 11 1,.f 12 0 3,.l 13 12,.i 14 (.lookup none false (.one (.st (.str (ByteArray.mk (#[]))))) (.t 11) (.t 13)),.i 15 (.bin .eql (.t 14) (.c (.one (.st (.str (ByteArray.mk (#[])))))))]) (.cond (.t 15) (.ops [.l 16 1,.f 17 0 3,.l 18 17,.l 19 1,.i 20 (.lenM (.t 19)),.i 21 (.call 102 [.t 20]),.mk none none (.mapSet none (.t 16) (.t 18) (.t 21)) .no]) .skip)) (.seq (.ops [.l 22 1,.f 23 0 3,.l 24 23,.i 25 (.lookup none false (.one (.st (.str (ByteArray.mk (#[]))))) (.t 22) (.t 24)),.i 26 (.build [.st (.str (ByteArray.mk (#[]))),.full []] [(0,1,.t 25)]),.s 2 4 26]) .ret)) .skip)) (.seq (.ops [.f 27 0 3,.l 28 27,.i 29 (.build [.st (.str (ByteArray.mk (#[]))),.full []] [(0,1,.t 28)]),.i 5 (.alloc 37 [.st (.str (ByteArray.mk (#[]))),.full []]),.s 2 5 29]) (.seq (.seq (.ops [.f 30 1 3,.l 31 30,.i 32 (.len false (.t 31)),.i 33 (.mov (.n 0))]) (.block 0 (.loop (.seq (.ops [.i 34 (.bin .lss (.t 33) (.t 32))]) (.seq (.cond (.t 34) .skip (.exit 0)) (.seq (.block 1 (.seq (.ops [.i 35 (.indexAddr 2 (.t 31) (.t 33)),.L 36 2 35,.i 7 (.alloc 37 [.st (.str (ByteArray.mk (#[]))),.full []]),.s 2 7 36]) (.ops [.mk (some 37) none (.fieldAddr 1 (.t 5)) (.onb 5),.mk (some 38) none (.load false 1 (.t 37)) (.onb 5),.l 39 2,.L 40 2 7,.mk (some 41) none (.callV (.t 39) [.t 40]) (.keeps [5,5]),.i 42 (.buildSlice false 37 2 [.t 41]),.i 43 (.append false 37 2 40 (.t 38) (.t 42)),.f 44 1 5,.s 1 44 43]))) (.ops [.i 45 (.bin .add (.t 33) (.n 1)),.m 33 45]))))))) (.seq (.ops [.L 46 2 5,.s 2 4 46]) .ret)))))
theorem If:OkF Tryz.prog 101 47 [41] Ez [.cell 4 true 2]:=.of Tryz.func101 rfl rfl (by kernel_rfl) rfl
def Fp:IR :=
 (.seq (.ops [.i 2 (.mov (.c (.one (.full []))))]) (.seq (.ops [.i 8 (.makeMap none),.i 3 (.alloc 133 [.st (.lit (.map none))]),.s 1 3 8]) (.seq (.ops [.i 4 (.alloc 73 [.st (.lit .nilFunc)])]) (.seq (.ops [.i 9 (.makeFunc 101 [.t 3,.t 4]),.s 1 4 9]) (.seq (.ops [.i 5 (.mov (.c (.one (.full []))))]) (.seq (.seq (.ops [.m 10 0,.i 11 (.len false (.t 10)),.i 12 (.mov (.n 0))]) (.block 0 (.loop (.seq (.ops [.i 13 (.bin .lss (.t 12) (.t 11))]) (.seq (.cond (.t 13) .skip (.exit 0)) (.seq (.block 1 (.seq (.ops [.i 14 (.indexAddr 2 (.t 10) (.t 12)),.L 15 2 14,.i 7 (.alloc 37 [.st (.str (ByteArray.mk (#[]))),.full []]),.s 2 7 15]) (.ops [.m 16 5,.l 17 4,.L 18 2 7,.i 19 (.callV (.t 17) [.t 18]),.i 20 (.buildSlice false 37 2 [.t 19]),.i 21 (.append false 37 2 40 (.t 16) (.t 20)),.m 5 21]))) (.ops [.i 22 (.bin .add (.t 12) (.n 1)),.m 12 22]))))))) (.seq (.ops [.m 23 5,.m 2 23]) .ret)))))))
theorem K_:OkF Tryz.prog 71 24 [19] Fp [.t 2]:=.of Tryz.func71 rfl rfl (by kernel_rfl) rfl
def Nl:IR :=
 (.seq (.ops [.i 2 (.mov (.c (.one (.full []))))]) (.seq (.ops [.i 3 (.mov (.c (.one (.full []))))]) (.seq (.seq (.ops [.i 4 (.mov (.n 0))]) (.block 0 (.loop (.seq (.seq (.ops [.m 11 4,.m 12 0,.i 13 (.len false (.t 12)),.i 14 (.bin .lss (.t 11) (.t 13))]) (.cond (.t 14) .skip (.exit 0))) (.seq (.block 1 (.seq (.ops [.m 17 0,.m 18 4,.i 19 (.indexAddr 2 (.t 17) (.t 18)),.L 20 2 19,.i 21 (.call 60 [.t 20]),.m 5 21]) (.seq (.ops [.i 6 (.mov (.n 0))]) (.block 2 (.loop (.seq (.seq (.ops [.m 22 6,.m 23 5,.i 24 (.len false (.t 23)),.i 25 (.bin .lss (.t 22) (.t 24))]) (.cond (.t 25) .skip (.exit 2))) (.seq (.block 3 (.seq (.ops [.m 28 5,.m 29 6,.i 30 (.indexAddr 1 (.t 28) (.t 29)),.l 31 30,.m 32 3,.i 33 (.call 51 [.t 31,.t 32]),.i 34 (.un .not (.t 33))]) (.cond (.t 34) (.ops [.m 35 3,.m 36 5,.m 37 6,.i 38 (.indexAddr 1 (.t 36) (.t 37)),.l 39 38,.i 40 (.buildFlat [.t 39]),.i 41 (.append false 9 1 16 (.t 35) (.t 40)),.m 3 41]) .skip))) (.ops [.m 26 6,.i 27 (.bin .add (.t 26) (.n 1)),.m 6 27])))))))) (.ops [.m 15 4,.i 16 (.bin .add (.t 15) (.n 1)),.m 4 16])))))) (.seq (.ops [.i 7 (.mov (.c (.one (.full []))))]) (.seq (.seq (.ops [.i 8 (.mov (.n 0))]) (.block 4 (.loop (.seq (.seq (.ops [.m 42 8,.m 43 3,.i 44 (.len false (.t 43)),.i 45 (.bin .lss (.t 42) (.t 44))]) (.cond (.t 45) .skip (.exit 4))) (.seq (.block 5 (.ops [.m 48 7,.m 49 3,.m 50 8,.i 51 (.indexAddr 1 (.t 49) (.t 50)),.l 52 51,.m 53 8,.i 54 (.bin .add (.t 53) (.n 1)),.i 55 (.call 61 [.t 54]),.i 56 (.bin .add (.c (.one (.st (.str (ByteArray.mk (#[90])))))) (.t 55)),.i 57 (.build [.st (.str (ByteArray.mk (#[]))),.full []] [(0,1,.t 56)]),.i 58 (.build [.st (.str (ByteArray.mk (#[]))),.st (.str (ByteArray.mk (#[]))),.full []] [(0,1,.t 52),(1,2,.t 57)]),.i 59 (.buildSlice false 82 3 [.t 58]),.i 60 (.append false 82 3 56 (.t 48) (.t 59)),.m 7 60])) (.ops [.m 46 8,.i 47 (.bin .add (.t 46) (.n 1)),.m 8 47])))))) (.seq (.ops [.i 9 (.mov (.c (.one (.full []))))]) (.seq (.seq (.ops [.i 10 (.mov (.n 0))]) (.block 6 (.loop (.seq (.seq (.ops [.m 61 10,.m 62 0,.i 63 (.len false (.t 62)),.i 64 (.bin .lss (.t 61) (.t 63))]) (.cond (.t 64) .skip (.exit 6))) (.seq (.block 7 (.ops [.m 67 9,.m 68 7,.m 69 0,.m 70 10,.i 71 (.indexAddr 2 (.t 69) (.t 70)),.L 72 2 71,.i 73 (.call 62 [.t 68,.t 72]),.i 74 (.buildSlice false 37 2 [.t 73]),.i 75 (.append false 37 2 40 (.t 67) (.t 74)),.m 9 75])) (.ops [.m 65 10,.i 66 (.bin .add (.t 65) (.n 1)),.m 10 66])))))) (.seq (.ops [.m 76 9,.m 2 76]) .ret))))))))
theorem Tu:OkF Tryz.prog 28 77 [] Nl [.t 2]:=.of Tryz.func28 rfl rfl (by kernel_rfl) rfl

def Fm(k:Nat):List ByteArray→List (KV×AV)
 | []=>[]
 | n::l=>(.s n,Bs (DS k))::Fm (k+1) l
abbrev AAI(l:List ByteArray):AJ:=.map none (Fm 0 l)
theorem RK:∀(l:List ByteArray) (k:Nat),(Fm k l).length=l.length
 | [],_=>rfl
 | n::l,k=>by rw[Fm,List.length_cons,List.length_cons,RK l]
theorem Kz:∀(l:List ByteArray) (k:Nat) (n:ByteArray),Da (Fm k l) (.s n)=if Ba l n<l.length then some (Bs (DS (k+Ba l n))) else none
 | [],k,n=>by simp[Fm,Da,Ba]
 | x::l,k,n=>by
  rw[Fm,Da,Ba];by_cases e:x=n
  ·rw[if_pos (congrArg KV.s e),if_pos e];simp
  ·rw[if_neg (fun h=>e (KV.s.inj h)),if_neg e,Kz l (k+1) n,List.length_cons];by_cases h:Ba l n<l.length
   ·rw[if_pos h,if_pos (by omega),show k+1+Ba l n=k+(Ba l n+1) by omega]
   ·rw[if_neg h,if_neg (by omega)]
theorem PV:∀{l:List ByteArray} {k:Nat} {n:ByteArray},¬Ba l n<l.length→∀v,Lq (Fm k l) (.s n) v=Fm k l++[(.s n,v)]
 | [],k,n,h,v=>rfl
 | x::l,k,n,h,v=>by
  rw[Ba]at h;by_cases e:x=n
  ·rw[if_pos e]at h;simp at h
  ·rw[if_neg e]at h;rw[Fm,Lq,if_neg (fun h=>e (KV.s.inj h)),PV (by simpa using h),List.cons_append]
theorem O4:∀(l:List ByteArray) (k:Nat) (n:ByteArray),Fm k (l++[n])=Fm k l++[(.s n,Bs (DS (k+l.length)))]
 | [],k,n=>by simp[Fm]
 | x::l,k,n=>by
  rw[List.cons_append,Fm,O4 l (k+1) n,Fm,List.cons_append,List.length_cons,show k+1+l.length=k+(l.length+1) by omega]
theorem Zv(k:Nat):¬DS k=⟨#[]⟩:=fun h=>by
 have h1:=Mj k;rw[h]at h1;have:(⟨#[]⟩:ByteArray).size=0:=rfl
 omega
theorem VH{l:List ByteArray}{n:ByteArray}(h:Ba l n<l.length):JP false (Bs ⟨#[]⟩) (Da (Fm 0 l) (.s n))=Bs (DS (Ba l n)):=by
 rw[Kz,if_pos h,Nat.zero_add];rfl
theorem X_{l:List ByteArray}{n:ByteArray}(h:¬Ba l n<l.length):JP false (Bs ⟨#[]⟩) (Da (Fm 0 l) (.s n))=Bs ⟨#[]⟩:=by
 rw[Kz,if_neg h];rfl
theorem AAY{l:List ByteArray}{n:ByteArray}(h:¬Ba l n<l.length):Lq (Fm 0 l) (.s n) (Bs (DS l.length))=Fm 0 (CE l n):=by
 rw[PV h,show CE l n=l++[n] by unfold CE;rw[if_neg h],O4,Nat.zero_add]
abbrev UV(n0 f0:Nat):AC:=.fn 101 [.ptr n0 1 0 0,.ptr f0 1 0 0]
theorem ABT(t:Tm)(hz:t.size≤1000000):∀(n0 f0 m0:Nat) (e1 e2:TypeId) (l:List ByteArray) (S:AA),1000≤n0→1000≤f0→1000≤m0→¬n0=m0→¬f0=m0→l.length+t.size≤900000 →
  S n0=some (.box e1 [.mptr m0])→S f0=some (.box e2 [UV n0 f0])→S m0=some (AAI l) →
  Ah Tryz.prog 101 [aTm t,.one (.ptr n0 1 0 0),.one (.ptr f0 1 0 0)] S (aTm (t.cn l).1) (AI S m0 (some (AAI (t.cn l).2))):=by
 induction h:SizeOf.sizeOf t using Nat.strongRecOn generalizing t with
 | _ N ih =>
 subst h;intro n0 f0 m0 e1 e2 l S hn0 hf0 hm0 hnm hfm hl hSn hSf hSm;have hs:=Tm.size_eq t;have hln:=Tm.length_le t.args;refine If.acS fun hS C hC=>?_;have k3:S 3=none:=AK hS (by omega);have k4:S 4=none:=AK hS (by omega);have k5:S 5=none:=AK hS (by omega);have k7:S 7=none:=AK hS (by omega);have k900:S 900=none:=AK hS (by omega);have a3:¬n0=3:=by omega
 have a4:¬n0=4:=by omega
 have a5:¬n0=5:=by omega
 have a7:¬n0=7:=by omega
 have a900:¬n0=900:=by omega
 have b3:¬f0=3:=by omega
 have b4:¬f0=4:=by omega
 have b5:¬f0=5:=by omega
 have b7:¬f0=7:=by omega
 have b900:¬f0=900:=by omega
 have c3:¬m0=3:=by omega
 have c4:¬m0=4:=by omega
 have c5:¬m0=5:=by omega
 have c7:¬m0=7:=by omega
 have c900:¬m0=900:=by omega
 have d3:¬3=m0:=by omega
 have d4:¬4=m0:=by omega
 have d5:¬5=m0:=by omega
 have d7:¬7=m0:=by omega
 have d900:¬900=m0:=by omega
 have hplain:CY Tryz.prog 101=true:=by kernel_rfl
 unfold Ez;repeat' first|refine Gf (F2 k3 k4) ?_|refine Mm fun K hK=>?_
 refine⟨_,Az _,?_⟩;cases hv:AP t.name with
 | true =>
  have hcn:=ABO (l:=l) hv;by_cases hp:Ba l t.name<l.length
  ·have hadd:CE l t.name=l:=by unfold CE;rw[if_pos hp]
   have hne:=Zv (Ba l t.name);repeat' with_reducible first|refine W ?_|refine Z0 ?_|((first|refine Wo fun K hK=>?_|refine Wp ?_|refine Wq ?_|refine Wr ?_);(try simp only[go_sem,fN,seval,eT,iR,hv,hSn,hSf,hSm,k3,k4,a3,a4,c3,c4,d3,d4,Dp,J5,KV.of,VH,hp,hne,dT,dF,nL]);(repeat refine Ai ?_);(try(refine hK _ ?_;clear hK K));try refine iC ?_)
   rw[hcn,hadd];refine B5 (.agg [.st (.str (DS (Ba l t.name))),.full []]) hS hm0 rfl trivial ?_ ?_ ?_ fun i hi hne=>?_
   ·simp only[go_sem,fN,seval,eT,iR,AB,AD,AM]
   ·simp only[go_sem,fN,seval,eT,iR];rfl
   ·simp only[go_sem,fN,seval,eT,iR,c3,c4,hSm]
   ·have i3:¬i=3:=by omega
    have i4:¬i=4:=by omega
    simp only[go_sem,fN,seval,eT,iR,i3,i4]
  ·have hpn:Ba l t.name=l.length:=by have:=U5 l t.name;omega
   have hel:=RK l 0;have hp2:Ba (CE l t.name) t.name<(CE l t.name).length:=by
    unfold CE;rw[if_neg hp,Hy hp,List.length_append,List.length_singleton];omega
   have hp3:Ba (CE l t.name) t.name=l.length:=by
    unfold CE;rw[if_neg hp,Hy hp]
   have hlk2:JP false (Bs ⟨#[]⟩) (Da (Fm 0 (CE l t.name)) (.s t.name))=Bs (DS l.length):=by rw[VH hp2,hp3]
   repeat' (first|(with_reducible first|refine W ?_|refine Z0 ?_|((first|refine Wo fun K hK=>?_|refine Wp ?_|refine Wq ?_|refine Wr ?_);(try simp only[go_sem,fN,seval,eT,iR,hv,hSn,hSf,hSm,k3,k4,a3,a4,c3,c4,d3,d4,hnm,Dp,J5,KV.of,X_,hp,hel,AAY,hlk2,dT,dF,nL]);(repeat refine Ai ?_);(try(refine hK _ ?_;clear hK K));try refine iC ?_))|refine Cg _ (WK l.length (by omega)) ?_)
   rw[hcn,hpn];refine B5 (.agg [.st (.str (DS l.length)),.full []]) hS hm0 rfl trivial ?_ ?_ ?_ fun i hi hne=>?_
   ·simp only[go_sem,fN,seval,eT,iR,AB,AD,AM,d4]
   ·simp only[go_sem,fN,seval,eT,iR];rfl
   ·simp only[go_sem,fN,seval,eT,iR,c3,c4,hSm]
   ·have i3:¬i=3:=by omega
    have i4:¬i=4:=by omega
    simp only[go_sem,fN,seval,eT,iR,i3,i4,hne]
 | false =>
  have hcn:=AAG (l:=l) hv;refine Gf (F4 hv k3 k4 k5) ?_;refine IWP.ghost (AY.ownC 5 1 900 37 2 (xs:=([]:List Tm).map Al) (by rfl) (by rfl) (by simp only[go_sem,fN,seval,eT,iR,k900]) Cv) ?_;refine IWP.loopD [7] (fun m x=>∃k,k≤t.args.length∧m=t.args.length-k∧x.env 1=.one (.ptr n0 1 0 0)∧x.env 2=.one (.ptr f0 1 0 0)∧x.env 4=.one (.ptr 4 1 0 0)∧x.env 5=.one (.ptr 5 1 0 0)∧x.env 31=CJ t.args∧x.env 32=AO t.args.length∧x.env 33=AO k ∧
    x.S 4=some (.box 37 [.st (.str ⟨#[]⟩),.full []])∧x.S 5=some (.box 37 [.st (.str t.name),.row 900 k])∧x.S 900=some (.arow 37 2 ((Tm.cnL (t.args.take k) l).1.map Al))∧x.S 7=none∧x.S n0=some (.box e1 [.mptr m0])∧x.S f0=some (.box e2 [UV n0 f0])∧x.S m0=some (AAI (Tm.cnL (t.args.take k) l).2)∧∀i,1000≤i→i≠m0→x.S i=S i)
   t.args.length ⟨0,Nat.zero_le _,rfl,rfl,rfl,rfl,rfl,rfl,rfl,rfl,by simp only[go_sem,fN,seval,eT,iR],by(simp only[go_sem,fN,seval,eT,iR];rfl),rfl,by simp only[go_sem,fN,seval,eT,iR,k7],by simp only[go_sem,fN,seval,eT,iR,a3,a4,a5,a900,hSn],by simp only[go_sem,fN,seval,eT,iR,b3,b4,b5,b900,hSf],by(simp only[go_sem,fN,seval,eT,iR,c3,c4,c5,c900,hSm];rfl),fun i hi hne=>?_⟩ ?_
  ·have i3:¬i=3:=by omega
   have i4:¬i=4:=by omega
   have i5:¬i=5:=by omega
   have i900:¬i=900:=by omega
   simp only[go_sem,fN,seval,eT,iR,i3,i4,i5,i900]
  rintro m ⟨env,S1⟩ ⟨k,hk,rfl,v1,v2,v4,v5,v31,v32,v33,s4,s5,s900,s7,sn,sf,sm,hrest⟩;simp only at v1 v2 v4 v5 v31 v32 v33 s4 s5 s900 s7 sn sf sm hrest;have hlk:(Tm.cnL (t.args.take k) l).1.length=k:=by rw[Qp,List.length_take];omega
  have hnl:=Cs (t.args.take k) l;by_cases hlt:(k:Int)<t.args.length
  ·obtain⟨x,hx⟩:=Aa (show k<t.args.length by omega);have z1:=Tm.sizes_take hx;have z2:=Tm.sizes_take_le t.args (k+1);have hstep:=NL (l:=l) hx;repeat' first|refine Gf (F22 v1 v2 v4 v5 v31 v32 v33 s4 s5 s900 s7 sn sf sm hlt hx hplain a7 b7 c7 d7 d5) ?_|refine Mm fun K hK=>?_
   refine⟨_,_,ih _ (Tm.lt_of_arg (AN hx)) x (by omega) rfl (up1 n0) (up1 f0) (up1 m0) e1 e2 (Tm.cnL (t.args.take k) l).2 _ (Ap n0) (Ap f0) (Ap m0) (fun e=>hnm (Nat.add_right_cancel e)) (fun e=>hfm (Nat.add_right_cancel e)) (by omega) (by rw[Ax];(simp only[go_sem,fN,seval,eT,iR,a7,sn])) (by rw[Ax];(simp only[go_sem,fN,seval,eT,iR,b7,sf])) (by rw[Ax];(simp only[go_sem,fN,seval,eT,iR,c7,sm])),?_⟩;repeat' first|refine Gf (F29 v1 v2 v4 v5 v31 v32 v33 s4 s5 s900 s7 sn sf sm a7 b7 c7 d7 d5 d900 c5 c900 a5 a900 b5 b900 hlk hnm hfm) ?_|refine Mm fun K hK=>?_
   refine AE ⟨t.args.length-(k+1),by omega,k+1,by omega,rfl,?_⟩;rw[hstep];have hnb:(n0==7)=false:=by simp;omega
   have hfb:(f0==7)=false:=by simp;omega
   have hmb:(m0==7)=false:=by simp;omega
   simp only[go_sem,fN,seval,AS.drop,AT,AC.clears,AC.clear,AC.highs,AC.high,zD,AV.purge,AV.purges,AC.purge,AJ.purge,Nat.reduceBEq,eT,iR,v1,v2,v4,v5,v31,v32,v33,s4,s5,s900,s7,sn,sf,sm,a7,b7,c7,d7,d5,d900,c5,c900,a5,a900,b5,b900,hnb,hfb,hmb,hnm,hfm,d4];refine⟨by congr 3,?_,fun i hi hne=>?_⟩
   ·rw[List.map_append,List.map_cons,List.map_nil,Ao]
   ·have i5:¬i=5:=by omega
    have i7:¬i=7:=by omega
    have i7b:(i==7)=false:=by simp;omega
    have i900:¬i=900:=by omega
    simp only[go_sem,fN,seval,AS.drop,AT,AC.clears,AC.clear,AC.highs,AC.high,zD,AV.purge,AV.purges,AC.purge,AJ.purge,Nat.reduceBEq,eT,iR,i5,i7,i7b,i900,hne];rw[hrest i hi hne];exact Tw (by decide) fun b hb=>(hS i b hb).2
  ·rw[List.take_of_length_le (by omega)]at sm s900 hlk;refine Gf (F8 v4 v5 v31 v32 v33 s4 s5 hlt) ?_;rw[hcn];refine B5 (.agg [.st (.str t.name),.row 900 k]) hS hm0 rfl trivial ?_ ?_ ?_ fun i hi hne=>?_
   ·simp only[go_sem,fN,seval,eT,iR,AB,AD,AM,v4]
   ·simp only[go_sem,fN,seval,eT,iR,s900,hlk];rfl
   ·simp only[go_sem,fN,seval,eT,iR,c4,sm]
   ·have i4:¬i=4:=by omega
    simp only[go_sem,fN,seval,eT,iR,i4];exact hrest i hi hne

theorem DY(t:Tm):t.varsOf.length≤t.size:=by
 have:=Do t.knots [];rw[Tm.knots_length]at this;simpa[Tm.varsOf]using this

theorem TV(L:List Tm)(hz:Tm.sizes L≤800000):AW Tryz.prog 71 [CJ L] (CJ (Tm.cnL L []).1):=by
 have hplain:CY Tryz.prog 101=true:=by kernel_rfl
 have hln:=Tm.length_le L;refine K_.ac fun C hC=>?_;unfold Fp;repeat' with_reducible first|refine W ?_|refine Z0 ?_|((first|refine Wo fun K hK=>?_|refine Wp ?_|refine Wq ?_|refine Wr ?_);(try simp only[go_sem,fN,seval,eT,iR,AS.caps,dT,dF,nL]);(repeat refine Ai ?_);(try(refine hK _ ?_;clear hK K));try refine iC ?_)
 refine IWP.ghost (AY.own 5 900 37 2 (xs:=([]:List Tm).map Al) (by rfl) (by rfl) Cv (by rw[hC];decide)) ?_;refine IWP.loopD [7] (fun m x=>∃k,k≤L.length∧m=L.length-k∧x.env 4=.one (.ptr 4 1 0 0)∧x.env 5=.one (.row 900 k)∧x.env 10=CJ L∧x.env 11=AO L.length∧x.env 12=AO k∧x.S 900=some (.arow 37 2 ((Tm.cnL (L.take k) []).1.map Al))∧x.S 7=none∧(∃e1,x.S 3=some (.box e1 [.mptr 8]))∧(∃e2,x.S 4=some (.box e2 [UV 3 4]))∧x.S 8=some (AAI (Tm.cnL (L.take k) []).2)) L.length ⟨0,Nat.zero_le _,rfl,rfl,rfl,rfl,rfl,rfl,rfl,rfl,⟨_,rfl⟩,⟨_,rfl⟩,rfl⟩ ?_;rintro m ⟨env,S⟩ ⟨k,hk,rfl,v4,v5,v10,v11,v12,s900,s7,⟨e1,s3⟩,⟨e2,s4⟩,s8⟩;simp only at v4 v5 v10 v11 v12 s900 s7 s3 s4 s8;have hlk:(Tm.cnL (L.take k) []).1.length=k:=by rw[Qp,List.length_take];omega
 have hnl:=Cs (L.take k) [];rw[List.length_nil]at hnl;by_cases hlt:(k:Int)<L.length
 ·obtain⟨x,hx⟩:=Aa (show k<L.length by omega);have z1:=Tm.sizes_take hx;have z2:=Tm.sizes_take_le L (k+1);have hstep:=NL (l:=[]) hx;repeat' first|refine Gf (F13 v4 v5 v10 v11 v12 s900 s7 s3 s4 s8 hplain hlt hx) ?_|refine Mm fun K hK=>?_
  refine⟨_,_,ABT x (by omega) (up1 3) (up1 4) (up1 8) e1 e2 (Tm.cnL (L.take k) []).2 _ (Ap 3) (Ap 4) (Ap 8) (by decide) (by decide) (by omega) (by rw[Ax];(simp only[go_sem,fN,seval,eT,iR,s3])) (by rw[Ax];(simp only[go_sem,fN,seval,eT,iR,s4])) (by rw[Ax];(simp only[go_sem,fN,seval,eT,iR,s8])),?_⟩;repeat' first|refine Gf (F11 v4 v5 v10 v11 v12 s900 s7 s3 s4 s8 hlk) ?_|refine Mm fun K hK=>?_
  refine AE ⟨L.length-(k+1),by omega,k+1,by omega,rfl,?_⟩;rw[hstep];simp only[go_sem,fN,seval,AS.drop,AT,AC.clears,AC.clear,AC.highs,AC.high,zD,AV.purge,AV.purges,AC.purge,AJ.purge,Nat.reduceBEq,eT,iR,v4,v5,v10,v11,v12,s900,s7,s3,s4,s8];exact⟨by congr 3,by rw[List.map_append,List.map_cons,List.map_nil,Ao],⟨_,rfl⟩,⟨_,rfl⟩⟩
 ·rw[List.take_of_length_le (by omega)]at s900 hlk;refine Gf (F6 v5 v10 v11 v12 s900 hlt) ?_;simp only[go_sem,fN,seval,AQ,AS.result,AB,AD,AM,s900,hlk];try rfl
theorem Rh{l:List ByteArray}{n m:ByteArray}:m∈l∨m=n→m∈CE l n:=fun h=>by
 unfold CE;by_cases hp:Ba l n<l.length
 ·rw[if_pos hp];rcases h with h|rfl
  ·exact h
  ·exact EH.1 hp
 ·rw[if_neg hp];rcases h with h|rfl
  ·exact List.mem_append_left _ h
  ·simp
theorem PM:∀(vs:List ByteArray) (l:List ByteArray) (m:ByteArray),m∈l∨m∈vs→m∈vs.foldl CE l
 | [],l,m,h=>by
  rcases h with h|h
  ·exact h
  ·cases h
 | v::vs,l,m,h=>by
  rw[List.foldl_cons];refine PM vs _ m ?_;rcases h with h|h
  ·exact .inl (Rh (.inl h))
  ·rcases List.mem_cons.1 h with rfl|h
   ·exact .inl (Rh (.inr rfl))
   ·exact .inr h
theorem Rz(l A:List ByteArray)(n:ByteArray):BM (A.foldl CE l) n=(BM A n).foldl CE l:=by
 by_cases hv:AP n=true
 ·by_cases hm:Dt n A=true
  ·rw[Fe hm];exact Fe (C8.2 (PM _ _ _ (.inr (C8.1 hm))))
  ·have hm:Dt n A=false:=by simpa using hm
   rw[GW hv hm,List.foldl_append,←R_ hv];rfl
 ·have e:∀l:List ByteArray,BM l n=l:=fun l=>by
   unfold BM;rw[if_neg (by simp[hv])]
  rw[e,e]
theorem IX(l:List ByteArray):∀(ks:List Tm) (A:List ByteArray),Aj (A.foldl CE l) ks=(Aj A ks).foldl CE l
 | [],A=>rfl
 | k::ks,A=>by
  have e:∀B,Aj B (k::ks)=Aj (BM B k.name) ks:=fun _=>rfl;rw[e,e,Rz,IX l ks]
theorem QG(l:List ByteArray)(ks:List Tm):Aj l ks=(Aj [] ks).foldl CE l:=IX l ks []
theorem AAA{t:Tm}(hc:t.chk=0)(l:List ByteArray):(t.cn l).2=t.varsOf.foldl CE l:=by
 rw[Nd t hc,QG];rfl
theorem ZW(vs:List ByteArray):∀l:List ByteArray,(vs.foldl CE l).length≤l.length+vs.length:=by
 induction vs with
 | nil=>simp
 | cons v vs ih =>
  intro l;rw[List.foldl_cons,List.length_cons];have h1:=ih (CE l v);have h2:=Rq l v;omega
theorem Xo{L:List Tm}(hc:∀t∈L,t.chk=0):∀n∈(Tm.cnL L []).2,AP n=true:=by
 rw[Kc L hc];exact GH _ [] (by simp)
theorem Pe(L:List Tm)(hc:∀t∈L,t.chk=0)(hz:Tm.sizes L≤100000):AW Tryz.prog 28 [CJ L] (CJ (Tm.cnL L []).1):=by
 have hz1:(⟨#[90]⟩:ByteArray).size=1:=rfl;have hln:=Tm.length_le L;have hon:=Uc L hc [] (Tm.cnL L []).2 (Xo hc) ⟨[],by simp⟩;have hVn:=Cs L [];rw[List.length_nil]at hVn;refine Tu.ac fun C hC=>?_;unfold Nl;refine Gg ?_;refine IWP.ghost (AY.own 3 900 9 1 (xs:=([]:List ByteArray).map CV) (by rfl) (by rfl) Fa (by rw[hC];decide)) ?_;refine IWP.loop (fun m x=>∃i,i≤L.length∧m=L.length-i∧x.env 0=CJ L∧x.env 3=.one (.row 900 (Tm.cnL (L.take i) []).2.length)∧x.env 4=AO i∧x.S 900=some (.arow 9 1 ((Tm.cnL (L.take i) []).2.map CV))∧x.S 901=none∧x.S 902=none) L.length ⟨0,Nat.zero_le _,rfl,rfl,rfl,rfl,rfl,rfl,rfl⟩ ?_;rintro m ⟨env,S⟩ ⟨i,hi,rfl,e0,e3,e4,s900,s901,s902⟩;simp only at e0 e3 e4 s900 s901 s902;by_cases hlt:(i:Int)<L.length
 ·obtain⟨t,ht⟩:=Aa (show i<L.length by omega);have hmem:=AN ht;have hct:=hc t hmem;have z1:=Tm.sizes_take ht;have z2:=Tm.sizes_take_le L (i+1);have hstep:=NL (l:=[]) ht;have hfold:=AAA hct (Tm.cnL (L.take i) []).2;have hnl:=Cs (L.take i) [];rw[List.length_nil]at hnl;have hvl:=DY t;have hvo:=Ny t (by omega);generalize (Tm.cnL (L.take i) []).2=V at *;generalize t.varsOf=v at *;repeat' first|refine Gf (F5 e0 e3 e4 hlt ht) ?_|refine Mm fun K hK=>?_|refine Cg _ (hvo) ?_
  refine IWP.loop (fun m x=>∃j,j≤v.length∧m=v.length-j∧x.env 0=CJ L∧x.env 3=.one (.row 900 ((v.take j).foldl CE V).length)∧x.env 4=AO i∧x.env 5=Bn v∧x.env 6=AO j∧x.S 900=some (.arow 9 1 (((v.take j).foldl CE V).map CV))∧x.S 901=none∧x.S 902=none) v.length ⟨0,Nat.zero_le _,rfl,by simp only[go_sem,fN,seval,eT,iR,e0],by simp only[go_sem,fN,seval,eT,iR,e3];rfl,by simp only[go_sem,fN,seval,eT,iR,e4],rfl,rfl,by simp only[go_sem,fN,seval,eT,iR,s900];rfl,s901,s902⟩ ?_;rintro m ⟨env,S⟩ ⟨j,hj,rfl,e0,e3,e4,e5,e6,s900,s901,s902⟩;simp only at e0 e3 e4 e5 e6 s900 s901 s902;by_cases hjl:(j:Int)<v.length
  ·obtain⟨n,hn⟩:=Aa (show j<v.length by omega);have hfl:=ZW (v.take j) V;have htl:(v.take j).length≤v.length:=by rw[List.length_take];omega
   have hnx:(v.take (j+1)).foldl CE V=CE ((v.take j).foldl CE V) n:=by rw[Ab hn,List.foldl_append];rfl
   have hin:=AAi n ((v.take j).foldl CE V);generalize (v.take j).foldl CE V=W' at *;cases hb:Dt n W' with
   | true =>
    have ha:CE W' n=W':=by unfold CE;rw[if_pos (EH.2 (C8.1 hb))]
    rw[hb]at hin;repeat' first|refine Gf (F8 e0 e3 e4 e5 e6 s900 hjl hn) ?_|refine Mm fun K hK=>?_|refine Cg _ (hin) ?_
    refine AE ⟨v.length-(j+1),by omega,j+1,by omega,rfl,?_⟩;rw[hnx,ha];simp only[go_sem,fN,seval,eT,iR,e0,e3,e4,e5,s900,s901,s902];congr 3
   | false =>
    have ha:CE W' n=W'++[n]:=by unfold CE;rw[if_neg (fun h=>Hz.1 hb (EH.1 h))]
    rw[hb]at hin;have hwl:(W'.map CV).length=W'.length:=by simp
    repeat' first|refine Gf (F9 e0 e3 e4 e5 e6 s900 hjl hn hwl) ?_|refine Mm fun K hK=>?_|refine Cg _ (hin) ?_
    refine AE ⟨v.length-(j+1),by omega,j+1,by omega,rfl,?_⟩;rw[hnx,ha,List.map_append];simp only[go_sem,fN,seval,eT,iR,e0,e3,e4,e5,s900,s901,s902];first|(refine⟨by congr 3,?_⟩;rfl)|congr 3
  ·rw[List.take_of_length_le (by omega)]at s900 e3;refine Gf (F7 e0 e3 e4 e5 e6 s900 hjl) ?_;refine AE ⟨L.length-(i+1),by omega,i+1,by omega,rfl,?_⟩;rw[hstep,hfold];simp only[go_sem,fN,seval,eT,iR,e0,e3,e4,s900,s901,s902];congr 3
 ·rw[List.take_of_length_le (by omega)]at e3 s900;rw[hon];clear hon;generalize (Tm.cnL L []).2=V at *;refine Gf (F4 e0 e3 e4 hlt) ?_;refine IWP.ghost (AY.own 7 901 82 3 (xs:=([]:List Bd).map BZ) (by rfl) (by simp only[go_sem,fN,seval,eT,iR,s901]) Hw (by rw[hC];decide)) ?_;refine IWP.loop (fun m x=>∃j,j≤V.length∧m=V.length-j∧x.env 0=CJ L∧x.env 3=.one (.row 900 V.length)∧x.env 7=.one (.row 901 j)∧x.env 8=AO j∧x.S 900=some (.arow 9 1 (V.map CV))∧x.S 901=some (.arow 82 3 ((CK 0 (V.take j)).map BZ))∧x.S 902=none) V.length ⟨0,Nat.zero_le _,rfl,by simp only[go_sem,fN,seval,eT,iR,e0],by simp only[go_sem,fN,seval,eT,iR,e3],rfl,rfl,by simp only[go_sem,fN,seval,eT,iR,s900],rfl,by simp only[go_sem,fN,seval,eT,iR,s902]⟩ ?_;rintro m ⟨env,S⟩ ⟨j,hj,rfl,e0,e3,e7,e8,s900,s901,s902⟩;simp only at e0 e3 e7 e8 s900 s901 s902;have htj:(V.take j).length=j:=by rw[List.length_take];omega
  have hzl:=NY (V.take j) 0;rw[htj]at hzl;by_cases hjl:(j:Int)<V.length
  ·obtain⟨v,hv⟩:=Aa (show j<V.length by omega);have hdec:=YZ (j+1) (by omega);have hsz:=Cl (n:=j+1) (by omega);rw[show(((j+1:Nat):Int))=(j:Int)+1 by omega]at hdec;repeat' first|refine Gf (F11 e0 e3 e7 e8 s900 s901 hjl hv hzl hz1 @BZ.eq_1) ?_|refine Mm fun K hK=>?_|refine Cg _ (hdec) ?_
   refine AE ⟨V.length-(j+1),by omega,j+1,by omega,rfl,?_⟩;rw[Ab hv,Lg,htj,Nat.zero_add,List.map_append];simp only[go_sem,fN,seval,eT,iR,e0,e3,s900,s902];refine⟨by congr 3,?_⟩;rfl
  ·obtain rfl:j=V.length:=by omega
   rw[List.take_of_length_le (by omega)]at s901 hzl;refine Gf (F6 e0 e3 e7 e8 s900 hjl) ?_;refine IWP.ghost (AY.own 9 902 37 2 (xs:=([]:List Tm).map Al) (by rfl) (by simp only[go_sem,fN,seval,eT,iR,s902]) Cv (by rw[hC];decide)) ?_;refine IWP.loop (fun m x=>∃k,k≤L.length∧m=L.length-k∧x.env 0=CJ L∧x.env 7=.one (.row 901 V.length)∧x.env 9=.one (.row 902 k)∧x.env 10=AO k∧x.S 901=some (.arow 82 3 ((CK 0 V).map BZ))∧x.S 902=some (.arow 37 2 (((L.take k).map (Tm.on (CK 0 V))).map Al))) L.length ⟨0,Nat.zero_le _,rfl,by simp only[go_sem,fN,seval,eT,iR,e0],by simp only[go_sem,fN,seval,eT,iR,e7],rfl,rfl,by simp only[go_sem,fN,seval,eT,iR,s901],rfl⟩ ?_;rintro m ⟨env,S⟩ ⟨k,hk,rfl,e0,e7,e9,e10,s901,s902⟩;simp only at e0 e7 e9 e10 s901 s902;by_cases hkl:(k:Int)<L.length
   ·obtain⟨t,ht⟩:=Aa (show k<L.length by omega);have hmem:=AN ht;have htz:t.size≤100000:=by
     have z1:=Tm.sizes_take ht;have z2:=Tm.sizes_take_le L (k+1);omega
    have hon:=Vp (CK 0 V) t (by omega);have htk:(((L.take k).map (Tm.on (CK 0 V))).map Al).length=k:=by simp;omega
    have htk2:min k L.length=k:=by omega
    repeat' first|refine Gf (F11 e0 e7 e9 e10 s901 s902 hzl hkl ht htk htk2) ?_|refine Mm fun K hK=>?_|refine Cg _ (hon) ?_
    refine AE ⟨L.length-(k+1),by omega,k+1,by omega,rfl,?_⟩;rw[Ab ht,List.map_append,List.map_append];simp only[go_sem,fN,seval,eT,iR,e0,e7,s901];first|(refine⟨by congr 3,?_⟩;rfl)|congr 3|trace_state
   ·obtain rfl:k=L.length:=by omega
    rw[List.take_of_length_le (by omega)]at s902;have htk:((L.map (Tm.on (CK 0 V))).map Al).length=L.length:=by simp
    refine Gf (F5 e0 e9 e10 s902 hkl) ?_;simp only[go_sem,fN,seval,AQ,AS.result,AB,AD,AM,s902,htk];try rfl

theorem AA3{s s':List Bd}(h:∀n,lookup s n=lookup s' n)(t:Tm):t.on s=t.on s':=by
 induction hN:SizeOf.sizeOf t using Nat.strongRecOn generalizing t with
 | _ N ih =>
 subst hN;have hmap:t.args.map (Tm.on s)=t.args.map (Tm.on s'):=List.map_congr_left fun a ha=>ih _ (Tm.lt_of_arg ha) a rfl;by_cases h0:t.args=[]
 ·cases hl:lookup s t.name with
  | some x=>rw[Tm.on_leaf hl h0,Tm.on_leaf (by rw[←h];exact hl) h0]
  | none=>rw[Tm.on_knot (.inl hl),Tm.on_knot (.inl (by rw[←h];exact hl)),hmap]
 ·rw[Tm.on_knot (.inr h0),Tm.on_knot (.inr h0),hmap]
theorem O6{c:UInt8}{k:Nat}{V:List ByteArray}(h:V.Nodup):Bg (nmB c k V):=by
 unfold Bg;rw[KF];exact h
theorem Pu{c:UInt8}{k:Nat}{V:List ByteArray}(h:V.Nodup){t:Tm}(hz:t.size≤200)(hs:(t.on (nmB c k V)).size=t.size):Au (BE (nmB c k V)) t=(t.on (nmB c k V),true):=by
 have e:t.on (BE (nmB c k V))=t.on (nmB c k V):=AA3 (fun n=>HG (Bu _) (O6 h) n) t;unfold Au;rw[e,if_pos (by omega)]
theorem Og{c:UInt8}{V:List ByteArray}{j:Nat}{v:ByteArray}(k:Nat)(hv:V[j]?=some v):nmB c k (V.take (j+1))=nmB c k (V.take j)++[(v,.mk (Bk c (k+j)) [])]:=by
 have hl:=(List.getElem?_eq_some_iff.1 hv).1;rw[Ab hv,SW,List.length_take,Nat.min_eq_left (by omega)]
theorem AA5(c:UInt8)(h65:65≤c.toNat)(h90:c.toNat≤90){r:Pr}(h1:r.1.may=0)(h2:r.2.may=0):AW Tryz.prog 95 [aPr r,Bs ⟨#[c]⟩] (aPr (DI c 0 r)):=by
 obtain⟨c1,z1⟩:=Tm.may_chk h1;obtain⟨c2,z2⟩:=Tm.may_chk h2;have hvl:=DY r.1;have hz1:(⟨#[c]⟩:ByteArray).size=1:=rfl;have hvo:=Ny r.1 (by omega);have f1:=ED (k:=0) h65 h90 (by omega) (show r.1.varsOf.length≤1000 by omega) c1;have f2:=ED (k:=0) h65 h90 (by omega) (show r.1.varsOf.length≤1000 by omega) c2;unfold DI;have o1:=Vp (nmB c 0 r.1.varsOf) r.1 (by omega);have o2:=Vp (nmB c 0 r.1.varsOf) r.2 (by omega);generalize r.1.varsOf=V at *;refine OY.ac fun C hC=>?_;unfold IH;repeat' first|refine Gg ?_|refine Mm fun K hK=>?_|refine Cg _ (hvo) ?_
 refine IWP.ghost (AY.own 6 500 82 3 (xs:=([]:List Bd).map BZ) (by rfl) (by rfl) Hw (by rw[hC];decide)) ?_;refine IWP.loop (fun m x=>∃j,j≤V.length∧m=V.length-j∧x.env 1=Bs ⟨#[c]⟩∧x.env 2=.one (.ptr 2 1 0 0)∧x.env 4=.one (.ptr 4 1 0 0)∧x.env 5=Bn V∧x.env 6=.one (.row 500 j)∧x.env 7=AO j∧x.S 500=some (.arow 82 3 ((nmB c 0 (V.take j)).map BZ))∧x.S 2=some (.box 40 [.st (.str r.1.name),.st (.list (r.1.args.map Al)),.st (.str r.2.name),.st (.list (r.2.args.map Al))])∧x.S 4=some (.box 40 [.st (.str ⟨#[]⟩),.full [],.st (.str ⟨#[]⟩),.full []])) V.length ⟨0,Nat.zero_le _,rfl,rfl,rfl,rfl,rfl,rfl,rfl,rfl,rfl,rfl⟩ ?_;rintro m ⟨env,S⟩ ⟨j,hj,rfl,e1,e2,e4,e5,e6,e7,s500,s2,s4⟩;simp only at e1 e2 e4 e5 e6 e7 s500 s2 s4;have hzl:=L2 c (V.take j) 0;rw[List.length_take,Nat.min_eq_left hj]at hzl;by_cases hjl:(j:Int)<V.length
 ·obtain⟨v,hv⟩:=Aa (show j<V.length by omega);have hdec:=YZ j (by omega);have hsz:=Cl (n:=j) (by omega);repeat' first|refine Gf (F14 e1 e2 e4 e5 e6 e7 s500 s2 s4 hjl hv hzl hz1 @BZ.eq_1) ?_|refine Mm fun K hK=>?_|refine Cg _ (hdec) ?_
  refine AE ⟨V.length-(j+1),by omega,j+1,by omega,rfl,?_⟩;rw[Og 0 hv,List.map_append];simp only[go_sem,fN,seval,eT,iR,e1,e2,e4,e5,s2,s4];refine⟨by congr 3,?_⟩;rfl
 ·obtain rfl:j=V.length:=by omega
  rw[List.take_of_length_le (by omega)]at s500 hzl;repeat' first|refine Gf (F11 e1 e2 e4 e5 e6 e7 s500 s2 s4 hjl hzl) ?_|refine Mm fun K hK=>?_|refine Cg _ (o1) ?_|refine Cg _ (o2) ?_
  simp only[go_sem,fN,seval,AQ,AS.result,AB,AD,AM,e4,s4]
theorem Vt(c:UInt8)(h65:65≤c.toNat)(h90:c.toNat≤90){r:Pr}(h1:r.1.may=0)(h2:r.2.may=0):AW Tryz.prog 107 [aPr r,Bs ⟨#[c]⟩] (aPr (DI c 1 r)):=by
 obtain⟨c1,z1⟩:=Tm.may_chk h1;obtain⟨c2,z2⟩:=Tm.may_chk h2;have hvl:=DY r.1;have hz1:(⟨#[c]⟩:ByteArray).size=1:=rfl;have hvo:=ABE r.1 (by omega);have f1:=ED (k:=1) h65 h90 (by omega) (show r.1.varsOf.length≤1000 by omega) c1;have f2:=ED (k:=1) h65 h90 (by omega) (show r.1.varsOf.length≤1000 by omega) c2;have hnd:=RI r.1;have hvv:=HO r.1;unfold DI;generalize r.1.varsOf=V at *;have hnm:Bg (nmB c 1 V):=O6 hnd;have hvs:∀b∈BE (nmB c 1 V),AP b.1=true:=fun b hb=>by
  have:=List.mem_map_of_mem (f:=(·.1)) ((Bu _).mem_iff.1 hb);rw[KF]at this;exact hvv _ this
 have hsl:(BE (nmB c 1 V)).length=V.length:=by rw[Bi,L2]
 have o1:=NX (BE (nmB c 1 V)) (by omega) (Bz hnm) r.1 hvs c1;have o2:=NX (BE (nmB c 1 V)) (by omega) (Bz hnm) r.2 hvs c2;rw[Pu hnd z1 f1.2]at o1;rw[Pu hnd z2 f2.2]at o2;refine Jy.ac fun C hC=>?_;unfold FM;repeat' first|refine Gg ?_|refine Mm fun K hK=>?_|refine Cg _ (hvo) ?_
 refine IWP.ghost (AY.ownM 5 500 82 3 rfl rfl (by rw[hC];decide)) ?_;refine IWP.loop (fun m x=>∃j,j≤V.length∧m=V.length-j∧x.env 1=Bs ⟨#[c]⟩∧x.env 2=.one (.ptr 2 1 0 0)∧x.env 4=.one (.ptr 4 1 0 0)∧x.env 14=Bn V∧x.env 15=AO V.length∧x.env 5=.one (.row 500 j)∧x.env 16=AO j∧x.S 8=none∧x.S 10=none∧x.S 500=some (Bl (nmB c 1 (V.take j)))∧x.S 2=some (.box 40 [.st (.str r.1.name),.st (.list (r.1.args.map Al)),.st (.str r.2.name),.st (.list (r.2.args.map Al))])∧x.S 4=some (.box 40 [.st (.str ⟨#[]⟩),.full [],.st (.str ⟨#[]⟩),.full []])) V.length ⟨0,Nat.zero_le _,rfl,rfl,rfl,rfl,rfl,rfl,rfl,rfl,rfl,rfl,rfl,rfl,rfl⟩ ?_;rintro m ⟨env,S⟩ ⟨j,hj,rfl,e1,e2,e4,e14,e15,e5,e16,s8,s10,s500,s2,s4⟩;simp only at e1 e2 e4 e14 e15 e5 e16 s8 s10 s500 s2 s4;have hzl:=L2 c (V.take j) 1;rw[List.length_take,Nat.min_eq_left hj]at hzl;by_cases hjl:(j:Int)<V.length
 ·obtain⟨v,hv⟩:=Aa (show j<V.length by omega);have hdec:=Xu (j+1) (by omega);have hsz:=Cl (n:=j+1) (by omega);rw[show(((j+1:Nat):Int))=(j:Int)+1 by omega]at hdec;repeat' first|refine Gf (F15 e1 e2 e4 e14 e15 e5 e16 s500 s2 s4 hjl hv hzl hz1 @BZ.eq_1) ?_|refine Mm fun K hK=>?_|refine Cg _ (hdec) ?_
  refine AE ⟨V.length-(j+1),by omega,j+1,by omega,rfl,?_⟩;rw[Bl,Og 1 hv,List.map_append];simp only[go_sem,fN,seval,eT,iR,e1,e2,e4,e14,e15,s2,s4,s8,s10];rw[Nat.add_comm 1 j];refine⟨by congr 3,?_⟩;rfl
 ·obtain rfl:j=V.length:=by omega
  rw[List.take_of_length_le (by omega)]at s500 hzl;refine Hf (F3 e15 e16 hjl) ?_;with_reducible refine Wp ?_
  simp only[go_sem,fN,seval,true_implies,false_implies,implies_true,dT,dF,nL,hjl];(try with_reducible refine iC ?_);repeat' (with_reducible first|refine Wb ?_|refine Wc ?_|refine Wd ?_|refine We ?_|refine Wg ?_|refine Wh ?_|refine Wi ?_|refine Wj ?_|refine Wk (by decide) ?_|refine Wl ?_|refine Wm ?_|refine Wn ?_)
  have hs:=Tk (nmB c 1 V) hnm (by omega) (up1 500) (Ap 500) (upS S) (by rw[Ax,s500];rfl);rw[hzl]at hs;refine IWP.mid (fun x=>x.env 2=.one (.ptr 2 1 0 0)∧x.env 4=.one (.ptr 4 1 0 0)∧x.env 5=.one (.row 500 V.length)∧x.S 8=none∧x.S 10=none∧x.S 500=some (Bl (BE (nmB c 1 V)))∧x.S 2=some (.box 40 [.st (.str r.1.name),.st (.list (r.1.args.map Al)),.st (.str r.2.name),.st (.list (r.2.args.map Al))])∧x.S 4=some (.box 40 [.st (.str ⟨#[]⟩),.full [],.st (.str ⟨#[]⟩),.full []])) ?_ ?_
  ·repeat' first|refine Hf (F5 e2 e4 e5 s2 s4) ?_|refine Mm fun K hK=>?_
   refine⟨_,_,hs,?_⟩;repeat' first|refine Hf (F5 e2 e4 e5 s2 s4) ?_|refine Mm fun K hK=>?_
   refine⟨rfl,?_⟩;simp only[go_sem,fN,seval,eT,iR,e2,e4,s2,s4,s8,s10]
  rintro⟨env,S⟩ ⟨e2,e4,e5,s8,s10,s500,s2,s4⟩;simp only at e2 e4 e5 s8 s10 s500 s2 s4;refine IWP.ghost (AY.share (id:=500) s500) ?_;repeat' first|refine Gf (F8 e2 e4 e5 s2 s4 s8 s10 hsl) ?_|refine Mm fun K hK=>?_|refine Cg _ (o1) ?_|refine Cg _ (o2) ?_
  simp only[go_sem,fN,seval,AQ,AS.result,AB,AD,AM,e4,s4]

def Lk:IR :=
 (.seq (.ops [.i 1 (.box 37 (.t 0)),.i 2 (.mov (.c (.one (.full []))))]) (.seq (.ops [.i 8 (.buildFlat []),.i 9 (.buildSlice false 32 1 [.t 8]),.m 3 9]) (.seq (.seq (.ops [.f 10 1 1,.l 11 10,.i 12 (.len false (.t 11)),.i 13 (.mov (.n 0))]) (.block 0 (.loop (.seq (.ops [.i 14 (.bin .lss (.t 13) (.t 12))]) (.seq (.cond (.t 14) .skip (.exit 0)) (.seq (.block 1 (.seq (.ops [.m 15 13,.i 16 (.indexAddr 2 (.t 11) (.t 13)),.L 17 2 16,.i 5 (.alloc 37 [.st (.str (ByteArray.mk (#[]))),.full []]),.m 4 15,.s 2 5 17]) (.seq (.ops [.L 18 2 5,.i 19 (.call 108 [.t 18]),.i 20 (.len false (.t 19)),.i 21 (.mov (.n 0))]) (.block 2 (.loop (.seq (.ops [.i 22 (.bin .lss (.t 21) (.t 20))]) (.seq (.cond (.t 22) .skip (.exit 2)) (.seq (.block 3 (.seq (.ops [.i 23 (.indexAddr 1 (.t 19) (.t 21)),.l 24 23,.m 7 24]) (.ops [.m 25 3,.m 26 4,.i 27 (.buildFlat [.t 26]),.m 28 7,.i 29 (.append false 3 1 8 (.t 27) (.t 28)),.i 30 (.buildSlice false 32 1 [.t 29]),.i 31 (.append false 32 1 24 (.t 25) (.t 30)),.m 3 31]))) (.ops [.i 32 (.bin .add (.t 21) (.n 1)),.m 21 32]))))))))) (.ops [.i 33 (.bin .add (.t 13) (.n 1)),.m 13 33]))))))) (.seq (.ops [.m 34 3,.m 2 34]) .ret))))
theorem SA:OkF Tryz.prog 108 35 [] Lk [.t 2]:=.of Tryz.func108 rfl rfl (by kernel_rfl) rfl
def IN:IR :=
 (.seq (.ops [.i 2 (.box 37 (.t 0)),.i 4 (.alloc 37 [.st (.str (ByteArray.mk (#[]))),.full []]),.i 5 (.mov (.c (.one (.st (.bool false)))))]) (.seq (.seq (.ops [.m 8 1,.i 9 (.len false (.t 8)),.i 10 (.mov (.n 0))]) (.block 0 (.loop (.seq (.ops [.i 11 (.bin .lss (.t 10) (.t 9))]) (.seq (.cond (.t 11) .skip (.exit 0)) (.seq (.block 1 (.seq (.ops [.i 12 (.indexAddr 1 (.t 8) (.t 10)),.l 13 12,.m 7 13]) (.seq (.seq (.ops [.m 14 7,.i 15 (.bin .lss (.t 14) (.n 0)),.m 16 15,.mk (some 17) (some (16,false)) (.mov (.t 7)) .no,.mk (some 18) (some (16,false)) (.fieldAddr 1 (.t 2)) .no,.mk (some 19) (some (16,false)) (.load false 1 (.t 18)) .no,.mk (some 20) (some (16,false)) (.len false (.t 19)) .no,.mk (some 21) (some (16,false)) (.bin .geq (.t 17) (.t 20)) .no,.i 22 (.pick (.t 16) (.c (.one (.st (.bool true)))) (.t 21))]) (.cond (.t 22) (.seq (.ops [.i 23 (.build [.st (.str (ByteArray.mk (#[]))),.full []] []),.s 2 4 23,.i 5 (.mov (.c (.one (.st (.bool false)))))]) .ret) .skip)) (.ops [.f 24 1 2,.l 25 24,.m 26 7,.i 27 (.indexAddr 2 (.t 25) (.t 26)),.L 28 2 27,.s 2 2 28])))) (.ops [.i 29 (.bin .add (.t 10) (.n 1)),.m 10 29]))))))) (.seq (.ops [.L 30 2 2,.s 2 4 30,.i 5 (.mov (.c (.one (.st (.bool true)))))]) .ret)))
theorem OR:OkF Tryz.prog 109 31 [] IN [.cell 4 true 2,.t 5]:=.of Tryz.func109 rfl rfl (by kernel_rfl) rfl
def GD:IR :=
 (.seq (.ops [.i 3 (.box 37 (.t 0)),.i 5 (.box 37 (.t 2)),.i 6 (.alloc 37 [.st (.str (ByteArray.mk (#[]))),.full []])]) (.seq (.seq (.ops [.m 7 1,.i 8 (.len false (.t 7)),.i 9 (.bin .eql (.t 8) (.n 0))]) (.cond (.t 9) (.seq (.ops [.L 10 2 5,.i 11 (.call 42 [.t 10]),.s 2 6 11]) .ret) .skip)) (.seq (.ops [.L 12 2 3,.i 13 (.callS 42 [.t 12]),.s 2 3 13]) (.seq (.ops [.f 14 1 3,.l 15 14,.m 16 1,.i 17 (.indexAddr 1 (.t 16) (.n 0)),.l 18 17,.f 19 1 3,.l 20 19,.m 21 1,.i 22 (.indexAddr 1 (.t 21) (.n 0)),.l 23 22,.i 24 (.indexAddr 2 (.t 20) (.t 23)),.L 25 2 24,.m 26 1,.i 27 (.sliceL 1 (.t 26) (some (.n 1)) none),.L 28 2 5,.i 29 (.call 111 [.t 25,.t 27,.t 28]),.i 30 (.indexAddr 2 (.t 15) (.t 18)),.s 2 30 29]) (.seq (.ops [.L 31 2 3,.s 2 6 31]) .ret)))))
theorem Jb:OkF Tryz.prog 111 32 [13] GD [.cell 6 true 2]:=.of Tryz.func111 rfl rfl (by kernel_rfl) rfl
def IK:IR :=
 (.seq (.ops [.i 1 (.box 37 (.t 0)),.i 2 (.alloc 37 [.st (.str (ByteArray.mk (#[]))),.full []])]) (.seq (.ops [.f 6 0 1,.l 7 6,.i 8 (.build [.st (.str (ByteArray.mk (#[]))),.full []] [(0,1,.t 7)]),.i 3 (.alloc 37 [.st (.str (ByteArray.mk (#[]))),.full []]),.s 2 3 8]) (.seq (.seq (.ops [.f 9 1 1,.l 10 9,.i 11 (.len false (.t 10)),.i 12 (.mov (.n 0))]) (.block 0 (.loop (.seq (.ops [.i 13 (.bin .lss (.t 12) (.t 11))]) (.seq (.cond (.t 13) .skip (.exit 0)) (.seq (.block 1 (.seq (.ops [.i 14 (.indexAddr 2 (.t 10) (.t 12)),.L 15 2 14,.i 5 (.alloc 37 [.st (.str (ByteArray.mk (#[]))),.full []]),.s 2 5 15]) (.ops [.f 16 1 3,.l 17 16,.L 18 2 5,.i 19 (.call 42 [.t 18]),.i 20 (.buildSlice false 37 2 [.t 19]),.i 21 (.append true 37 2 40 (.t 17) (.t 20)),.f 22 1 3,.s 1 22 21]))) (.ops [.i 23 (.bin .add (.t 12) (.n 1)),.m 12 23]))))))) (.seq (.ops [.L 24 2 3,.s 2 2 24]) .ret))))
theorem OI:OkF Tryz.prog 42 25 [21] IK [.cell 2 true 2]:=.of Tryz.func42 rfl rfl (by kernel_rfl) rfl

def Kr:IR :=
 (.seq (.ops [.i 2 (.box 37 (.t 0)),.i 4 (.alloc 37 [.st (.str (ByteArray.mk (#[]))),.full []]),.i 5 (.mov (.c (.one (.st (.bool false)))))]) (.seq (.seq (.ops [.m 6 1,.i 7 (.len false (.t 6)),.i 8 (.bin .eql (.t 7) (.n 0))]) (.cond (.t 8) (.seq (.ops [.L 9 2 2,.s 2 4 9,.i 5 (.mov (.c (.one (.st (.bool true)))))]) .ret) .skip)) (.seq (.seq (.ops [.m 10 1,.i 11 (.indexAddr 1 (.t 10) (.n 0)),.l 12 11,.i 13 (.bin .lss (.t 12) (.n 0)),.m 14 13,.mk (some 15) (some (14,false)) (.mov (.t 1)) .no,.mk (some 16) (some (14,false)) (.indexAddr 1 (.t 15) (.n 0)) .no,.mk (some 17) (some (14,false)) (.load false 1 (.t 16)) .no,.mk (some 18) (some (14,false)) (.fieldAddr 1 (.t 2)) .no,.mk (some 19) (some (14,false)) (.load false 1 (.t 18)) .no,.mk (some 20) (some (14,false)) (.len false (.t 19)) .no,.mk (some 21) (some (14,false)) (.bin .geq (.t 17) (.t 20)) .no,.i 22 (.pick (.t 14) (.c (.one (.st (.bool true)))) (.t 21))]) (.cond (.t 22) (.seq (.ops [.i 23 (.build [.st (.str (ByteArray.mk (#[]))),.full []] []),.s 2 4 23,.i 5 (.mov (.c (.one (.st (.bool false)))))]) .ret) .skip)) (.seq (.ops [.f 24 1 2,.l 25 24,.m 26 1,.i 27 (.indexAddr 1 (.t 26) (.n 0)),.l 28 27,.i 29 (.indexAddr 2 (.t 25) (.t 28)),.L 30 2 29,.m 31 1,.i 32 (.sliceL 1 (.t 31) (some (.n 1)) none),.i 33 (.call 54 [.t 30,.t 32]),.i 34 (.extract 0 (.t 33)),.i 35 (.extract 1 (.t 33)),.s 2 4 34,.m 5 35]) .ret))))
theorem Py:OkF Tryz.prog 54 36 [] Kr [.cell 4 true 2,.t 5]:=.of Tryz.func54 rfl rfl (by kernel_rfl) rfl
def I6:IR :=
 (.seq (.ops [.i 3 (.box 37 (.t 0)),.i 5 (.box 37 (.t 2)),.i 6 (.alloc 37 [.st (.str (ByteArray.mk (#[]))),.full []])]) (.seq (.seq (.ops [.m 9 1,.i 10 (.len false (.t 9)),.i 11 (.bin .eql (.t 10) (.n 0))]) (.cond (.t 11) (.seq (.ops [.L 12 2 5,.s 2 6 12]) .ret) .skip)) (.seq (.ops [.f 13 0 3,.l 14 13,.i 15 (.build [.st (.str (ByteArray.mk (#[]))),.full []] [(0,1,.t 14)]),.i 7 (.alloc 37 [.st (.str (ByteArray.mk (#[]))),.full []]),.s 2 7 15]) (.seq (.seq (.ops [.i 8 (.mov (.n 0))]) (.block 0 (.loop (.seq (.seq (.ops [.m 16 8,.f 17 1 3,.l 18 17,.i 19 (.len false (.t 18)),.i 20 (.bin .lss (.t 16) (.t 19))]) (.cond (.t 20) .skip (.exit 0))) (.seq (.block 1 (.seq (.ops [.m 23 8,.m 24 1,.i 25 (.indexAddr 1 (.t 24) (.n 0)),.l 26 25,.i 27 (.bin .eql (.t 23) (.t 26))]) (.cond (.t 27) (.ops [.f 28 1 7,.l 29 28,.f 30 1 3,.l 31 30,.m 32 8,.i 33 (.indexAddr 2 (.t 31) (.t 32)),.L 34 2 33,.m 35 1,.i 36 (.sliceL 1 (.t 35) (some (.n 1)) none),.L 37 2 5,.i 38 (.call 56 [.t 34,.t 36,.t 37]),.i 39 (.buildSlice false 37 2 [.t 38]),.i 40 (.append false 37 2 40 (.t 29) (.t 39)),.f 41 1 7,.s 1 41 40]) (.ops [.f 42 1 7,.l 43 42,.f 44 1 3,.l 45 44,.m 46 8,.i 47 (.indexAddr 2 (.t 45) (.t 46)),.L 48 2 47,.i 49 (.buildSlice false 37 2 [.t 48]),.i 50 (.append false 37 2 40 (.t 43) (.t 49)),.f 51 1 7,.s 1 51 50])))) (.ops [.m 21 8,.i 22 (.bin .add (.t 21) (.n 1)),.m 8 22])))))) (.seq (.ops [.L 52 2 7,.s 2 6 52]) .ret)))))
theorem Nx:OkF Tryz.prog 56 53 [] I6 [.cell 6 true 2]:=.of Tryz.func56 rfl rfl (by kernel_rfl) rfl
def IQ:IR :=
 (.seq (.ops [.i 1 (.box 37 (.t 0)),.i 2 (.mov (.c (.one (.full []))))]) (.seq (.ops [.i 7 (.buildSlice false 32 1 [.c (.one (.full []))]),.m 3 7]) (.seq (.seq (.ops [.i 4 (.mov (.n 0))]) (.block 0 (.loop (.seq (.seq (.ops [.m 8 4,.f 9 1 1,.l 10 9,.i 11 (.len false (.t 10)),.i 12 (.bin .lss (.t 8) (.t 11))]) (.cond (.t 12) .skip (.exit 0))) (.seq (.block 1 (.seq (.ops [.f 15 1 1,.l 16 15,.m 17 4,.i 18 (.indexAddr 2 (.t 16) (.t 17)),.L 19 2 18,.i 20 (.call 89 [.t 19]),.m 5 20]) (.seq (.ops [.i 6 (.mov (.n 0))]) (.block 2 (.loop (.seq (.seq (.ops [.m 21 6,.m 22 5,.i 23 (.len false (.t 22)),.i 24 (.bin .lss (.t 21) (.t 23))]) (.cond (.t 24) .skip (.exit 2))) (.seq (.block 3 (.ops [.m 27 3,.m 28 4,.i 29 (.buildFlat [.t 28]),.m 30 5,.m 31 6,.i 32 (.indexAddr 1 (.t 30) (.t 31)),.l 33 32,.i 34 (.append false 3 1 8 (.t 29) (.t 33)),.i 35 (.buildSlice false 32 1 [.t 34]),.i 36 (.append false 32 1 24 (.t 27) (.t 35)),.m 3 36])) (.ops [.m 25 6,.i 26 (.bin .add (.t 25) (.n 1)),.m 6 26])))))))) (.ops [.m 13 4,.i 14 (.bin .add (.t 13) (.n 1)),.m 4 14])))))) (.seq (.ops [.m 37 3,.m 2 37]) .ret))))
theorem OM:OkF Tryz.prog 89 38 [] IQ [.t 2]:=.of Tryz.func89 rfl rfl (by kernel_rfl) rfl

theorem MV(p:List Int):∀t:Tm,AW Tryz.prog 54 [aTm t,Gx p] (.tup [aTm ((t.atP p).getD Tm.nil),AZ (t.atP p).isSome]):=by
 induction p with
 | nil =>
  intro t;rw[Tm.atP_nil];refine Py.ac fun C hC=>?_;unfold Kr;refine Gg ?_;simp only[go_sem,fN,seval,AQ,AS.result,AB,AD,AM]
 | cons i p ih =>
  intro t;rw[Tm.atP_cons];have htk:List.take p.length (List.map HM p)=List.map HM p:=by rw[List.take_of_length_le (by simp)]
  have hl1:¬((p.length+1:Nat):Int)=0:=by omega
  refine Py.ac fun C hC=>?_;unfold Kr;by_cases h0:i<0
  ·rw[if_pos h0];refine Gf (F2 h0 hl1) ?_;simp only[go_sem,fN,seval,AQ,AS.result,AB,AD,AM];rfl
  ·rw[if_neg h0];obtain⟨k,rfl⟩:∃k:Nat,i=k:=⟨i.toNat,by omega⟩
   rw[Int.toNat_natCast];by_cases h1:(t.args.length:Int)≤k
   ·rw[List.getElem?_eq_none (by omega)];refine Gf (F3 h0 h1 hl1) ?_;simp only[go_sem,fN,seval,AQ,AS.result,AB,AD,AM];rfl
   ·obtain⟨a,ha⟩:=Aa (show k<t.args.length by omega);rw[ha];repeat' first|refine Gf (F5 h0 h1 ha hl1 htk) ?_|refine Mm fun K hK=>?_|refine Cg _ (ih a) ?_
    simp only[go_sem,fN,seval,AQ,AS.result,AB,AD,AM]
theorem QB(p:List Int):∀t:Tm,t.size≤1000000→∀x:Tm,(t.atP p).isSome=true→AW Tryz.prog 56 [aTm t,Gx p,aTm x] (aTm (t.putP p x)):=by
 induction p with
 | nil =>
  intro t hz x hat;rw[Tm.putP_nil];refine Nx.ac fun C hC=>?_;unfold I6;refine Gg ?_;simp only[go_sem,fN,seval,AQ,AS.result,AB,AD,AM]
 | cons i p ih =>
  intro t hz x hat;have hs:=Tm.size_eq t;have hkn:=Tm.length_le t.args;rw[Tm.atP_cons]at hat;have h0:¬i<0:=fun h=>by rw[if_pos h]at hat;cases hat
  rw[if_neg h0]at hat;obtain⟨j,rfl⟩:∃k:Nat,i=k:=⟨i.toNat,by omega⟩
  rw[Int.toNat_natCast]at hat;obtain⟨b,hb⟩:∃b,t.args[j]?=some b:=by
   cases h:t.args[j]? with
   | none=>rw[h]at hat;cases hat
   | some b=>exact⟨b,rfl⟩
  rw[hb]at hat;dsimp only at hat
  have hjl:=B8 hb;rw[Tm.putP_at hb];have htk:List.take p.length (List.map HM p)=List.map HM p:=by rw[List.take_of_length_le (by simp)]
  have hl1:¬((p.length+1:Nat):Int)=0:=by omega
  refine Nx.ac fun C hC=>?_;unfold I6;refine Gf hl1 ?_;refine IWP.ghost (AY.ownC 7 1 60 37 2 (xs:=([]:List Tm).map Al) rfl rfl rfl Cv) ?_;refine IWP.loop (fun m s=>∃k,k≤t.args.length∧m=t.args.length-k∧s.env 1=Gx ((j:Int)::p)∧s.env 3=.one (.ptr 3 1 0 0)∧s.env 5=.one (.ptr 5 1 0 0)∧s.env 6=.one (.ptr 6 1 0 0)∧s.env 7=.one (.ptr 7 1 0 0)∧s.S 3=some (.box 37 [.st (.str t.name),.st (.list (t.args.map Al))])∧s.S 5=some (.box 37 [.st (.str x.name),.st (.list (x.args.map Al))])∧s.S 6=some (.box 37 [.st (.str ⟨#[]⟩),.full []])∧s.S 7=some (.box 37 [.st (.str t.name),.row 60 k])∧s.S 60=some (.arow 37 2 (((t.args.set j (b.putP p x)).take k).map Al))∧s.env 8=AO k)
   t.args.length ⟨0,Nat.zero_le _,rfl,rfl,rfl,rfl,rfl,rfl,rfl,rfl,rfl,rfl,rfl,rfl⟩ ?_
  rintro m ⟨env,S⟩ ⟨k,hk,rfl,e1,e3,e5,e6,e7,s3,s5,s6,s7,s60,e8⟩;simp only at e1 e3 e5 e6 e7 s3 s5 s6 s7 s60 e8;have hlk:((t.args.set j (b.putP p x)).take k).length=k:=by rw[List.length_take,List.length_set];omega
  by_cases hlt:(k:Int)<t.args.length
  ·obtain⟨a,ha⟩:=Aa (show k<t.args.length by omega);by_cases hkj:(k:Int)=j
   ·have hkj':k=j:=by omega
    subst hkj';have hset:(t.args.set k (b.putP p x))[k]?=some (b.putP p x):=by rw[List.getElem?_set_self hjl]
    repeat' first|refine Gf (F15 e1 e3 e5 e6 e7 s3 s5 s6 s7 s60 e8 hlt hb htk hlk) ?_|refine Mm fun K hK=>?_|refine Cg _ (ih b (by have:=Tm.size_mem (AN hb);omega) x hat) ?_
    refine AE ⟨t.args.length-(k+1),by omega,k+1,by omega,rfl,?_⟩;simp only[go_sem,fN,seval,eT,iR,e1,e3,e5,e6,e7,s3,s5,s6,s7,s60,e8];exact⟨by rw[Ab hset];simp[Ao],by congr 3⟩
   ·have hkj':j≠k:=by omega
    have hset:(t.args.set j (b.putP p x))[k]?=some a:=by rw[List.getElem?_set_ne hkj',ha]
    refine Gf (F15 e1 e3 e5 e6 e7 s3 s5 s6 s7 s60 e8 hlt hkj ha hlk) ?_;refine AE ⟨t.args.length-(k+1),by omega,k+1,by omega,rfl,?_⟩;simp only[go_sem,fN,seval,eT,iR,e1,e3,e5,e6,e7,s3,s5,s6,s7,s60,e8];exact⟨by rw[Ab hset];simp[Ao],by congr 3⟩
  ·have hall:(t.args.set j (b.putP p x)).take k=t.args.set j (b.putP p x):=List.take_of_length_le (by rw[List.length_set];omega);rw[hall]at hlk s60;refine Gf (F13 e1 e3 e5 e6 e7 s3 s5 s6 s7 s60 e8 hlt hlk) ?_;simp only[go_sem,fN,seval,AQ,AS.result,AB,AD,AM,e6,s60,hlk];rfl
theorem Kp(t:Tm)(hz:t.size≤1000000):AW Tryz.prog 89 [aTm t] (OU t.places):=by
 induction h:SizeOf.sizeOf t using Nat.strongRecOn generalizing t with
 | _ N ih =>
 subst h;have hs:=Tm.size_eq t;have hkn:=Tm.length_le t.args;refine OM.ac fun C hC=>?_;unfold IQ;refine Gg ?_;refine IWP.ghost (AY.own 3 60 32 1 (xs:=([[]]:List (List Int)).map NU) (by simp only[go_sem,fN,seval,eT,iR];rfl) rfl (by simp) (by omega)) ?_;refine IWP.loop (fun m s=>∃k,k≤t.args.length∧m=t.args.length-k∧s.env 1=.one (.ptr 1 1 0 0)∧s.S 1=some (.box 37 [.st (.str t.name),.st (.list (t.args.map Al))])∧s.env 3=.one (.row 60 (t.placesTo k).length)∧s.S 60=some (.arow 32 1 ((t.placesTo k).map NU))∧s.env 4=AO k∧s.S 34=none)
  t.args.length ⟨0,Nat.zero_le _,rfl,rfl,rfl,rfl,rfl,rfl,rfl⟩ ?_
 rintro m ⟨env,S⟩ ⟨k,hk,rfl,e1,s1,e3,s60,e4,s34⟩;simp only at e1 s1 e3 s60 e4 s34;by_cases hlt:(k:Int)<t.args.length
 ·obtain⟨a,ha⟩:=Aa (show k<t.args.length by omega);have hsz:=Tm.size_mem (AN ha);have hpl:=Tm.places_length a;have hto:=Tm.placesTo_length t k;have hst:=Tm.sizes_take ha;have hst2:=Tm.sizes_take_le t.args (k+1);repeat' first|refine Gf (F7 e1 s1 e3 s60 e4 hlt ha) ?_|refine Mm fun K hK=>?_|refine Cg _ (ih _ (Tm.lt_of_arg (AN ha)) a (by omega) rfl) ?_
  refine IWP.loopD [34] (fun m s=>∃i,i≤a.places.length∧m=a.places.length-i∧s.env 1=.one (.ptr 1 1 0 0)∧s.S 1=some (.box 37 [.st (.str t.name),.st (.list (t.args.map Al))])∧s.env 3=.one (.row 60 (t.placesTo k++(a.places.take i).map fun p=>(k:Int)::p).length)∧s.S 60=some (.arow 32 1 ((t.placesTo k++(a.places.take i).map fun p=>(k:Int)::p).map NU))∧s.env 4=AO k∧s.env 5=OU a.places∧s.env 6=AO i∧s.S 34=none)
   a.places.length ⟨0,Nat.zero_le _,rfl,?_⟩ ?_
  ·simp only[go_sem,fN,seval,eT,iR,e1,s1,e3,s60,e4,s34]
  rintro m ⟨env,S⟩ ⟨i,hi,rfl,e1,s1,e3,s60,e4,e5,e6,s34⟩;simp only at e1 s1 e3 s60 e4 e5 e6 s34;have hlen:(t.placesTo k++(a.places.take i).map fun p=>(k:Int)::p).length≤1000000:=by
   rw[List.length_append,List.length_map,List.length_take];omega
  by_cases hli:(i:Int)<a.places.length
  ·obtain⟨p,hp⟩:=Aa (show i<a.places.length by omega);have hd:=Tm.places_deep a p (AN hp);refine Gf (F10 e1 s1 e3 s60 e4 e5 e6 s34 hli hp) ?_;refine AE ⟨a.places.length-(i+1),by omega,i+1,by omega,rfl,?_⟩;simp only[go_sem,fN,seval,AS.drop,AT,AC.clears,AC.clear,AC.highs,AC.high,zD,AV.purge,AV.purges,AC.purge,AJ.purge,Nat.reduceBEq,eT,iR,e1,s1,e3,s60,e4,e5,e6,s34];rw[Ab hp];refine⟨?_,?_,rfl⟩
   ·simp;omega
   ·simp
  ·refine Gf (F9 e1 s1 e3 s60 e4 e5 e6 s34 hli) ?_;refine AE ⟨t.args.length-(k+1),by omega,k+1,by omega,rfl,?_⟩;have e9:(t.placesTo k++(a.places.take i).map fun p=>(k:Int)::p)=t.placesTo (k+1):=by
    rw[List.take_of_length_le (by omega),Tm.placesTo_succ ha]
   rw[e9]at e3 s60;exact⟨e1,s1,e3,s60,rfl,s34⟩
 ·refine Gf (F6 e1 s1 e3 s60 e4 hlt) ?_;simp only[go_sem,fN,seval,AQ,AS.result,AB,AD,AM,e3,s60];rw[Tm.placesTo_all (by omega)]

theorem ABW(t:Tm)(hz:t.size≤1000000):AW Tryz.prog 108 [aTm t] (OU t.places):=by
 induction h:SizeOf.sizeOf t using Nat.strongRecOn generalizing t with
 | _ N ih =>
 subst h;have hs:=Tm.size_eq t;have hkn:=Tm.length_le t.args;refine SA.ac fun C hC=>?_;unfold Lk;refine Gg ?_;refine IWP.ghost (AY.own 3 60 32 1 (xs:=([[]]:List (List Int)).map NU) (by simp only[go_sem,fN,seval,eT,iR];rfl) rfl (by simp) (by omega)) ?_;refine IWP.loopD [5] (fun m s=>∃k,k≤t.args.length∧m=t.args.length-k∧s.env 11=CJ t.args∧s.env 12=AO t.args.length∧s.env 3=.one (.row 60 (t.placesTo k).length)∧s.S 60=some (.arow 32 1 ((t.placesTo k).map NU))∧s.env 13=AO k∧s.S 29=none∧s.S 5=none)
  t.args.length ⟨0,Nat.zero_le _,rfl,rfl,rfl,rfl,rfl,rfl,rfl,rfl⟩ ?_
 rintro m ⟨env,S⟩ ⟨k,hk,rfl,e11,e12,e3,s60,e13,s29,s5⟩;simp only at e11 e12 e3 s60 e13 s29 s5;by_cases hlt:(k:Int)<t.args.length
 ·obtain⟨a,ha⟩:=Aa (show k<t.args.length by omega);have hsz:=Tm.size_mem (AN ha);have hpl:=Tm.places_length a;have hto:=Tm.placesTo_length t k;have hst:=Tm.sizes_take ha;have hst2:=Tm.sizes_take_le t.args (k+1);repeat' first|refine Gf (F8 e11 e12 e3 s60 e13 s5 hlt ha) ?_|refine Mm fun K hK=>?_|refine Cg _ (ih _ (Tm.lt_of_arg (AN ha)) a (by omega) rfl) ?_
  refine IWP.loopD [29] (fun m s=>∃i,i≤a.places.length∧m=a.places.length-i∧s.env 11=CJ t.args∧s.env 12=AO t.args.length∧s.env 3=.one (.row 60 (t.placesTo k++(a.places.take i).map fun p=>(k:Int)::p).length)∧s.S 60=some (.arow 32 1 ((t.placesTo k++(a.places.take i).map fun p=>(k:Int)::p).map NU))∧s.env 4=AO k∧s.env 13=AO k∧s.env 19=OU a.places∧s.env 20=AO a.places.length∧s.env 21=AO i∧s.S 29=none)
   a.places.length ⟨0,Nat.zero_le _,rfl,?_⟩ ?_
  ·simp only[go_sem,fN,seval,eT,iR,e11,e12,e3,s60,e13,s29]
  rintro m ⟨env,S⟩ ⟨i,hi,rfl,e11,e12,e3,s60,e4,e13,e19,e20,e21,s29⟩;simp only at e11 e12 e3 s60 e4 e13 e19 e20 e21 s29;have hlen:(t.placesTo k++(a.places.take i).map fun p=>(k:Int)::p).length≤1000000:=by
   rw[List.length_append,List.length_map,List.length_take];omega
  by_cases hli:(i:Int)<a.places.length
  ·obtain⟨p,hp⟩:=Aa (show i<a.places.length by omega);have hd:=Tm.places_deep a p (AN hp);refine Gf (F12 e11 e12 e3 s60 e4 e13 e19 e20 e21 s29 hli hp) ?_;refine AE ⟨a.places.length-(i+1),by omega,i+1,by omega,rfl,?_⟩;simp only[go_sem,fN,seval,AS.drop,AT,AC.clears,AC.clear,AC.highs,AC.high,zD,AV.purge,AV.purges,AC.purge,AJ.purge,Nat.reduceBEq,eT,iR,e11,e12,e3,s60,e4,e13,e19,e20,e21,s29];rw[Ab hp];refine⟨?_,?_,by congr 3⟩
   ·simp;omega
   ·simp
  ·have e9:(t.placesTo k++(a.places.take i).map fun p=>(k:Int)::p)=t.placesTo (k+1):=by
    rw[List.take_of_length_le (by omega),Tm.placesTo_succ ha]
   rw[e9]at e3 s60;refine Gf (F11 e11 e12 e3 s60 e4 e13 e19 e20 e21 s29 hli) ?_;refine AE ⟨t.args.length-(k+1),by omega,k+1,by omega,rfl,?_⟩;simp only[go_sem,fN,seval,AS.drop,AT,AC.clears,AC.clear,AC.highs,AC.high,zD,AV.purge,AV.purges,AC.purge,AJ.purge,Nat.reduceBEq,eT,iR,e11,e12,e3,s60,e4,e13,s29];congr 3
 ·refine Gf (F6 e11 e12 e3 s60 e13 hlt) ?_;simp only[go_sem,fN,seval,AQ,AS.result,AB,AD,AM,e3,s60];rw[Tm.placesTo_all (by omega)]
theorem Yx(t:Tm)(p:List Int)(hp:p.length≤1000000):AW Tryz.prog 109 [aTm t,Gx p] (.tup [aTm ((t.atP p).getD Tm.nil),AZ (t.atP p).isSome]):=by
 refine OR.ac fun C hC=>?_;unfold IN;refine Gg ?_;refine IWP.loop (fun m s=>∃k x,k≤p.length∧m=p.length-k∧t.atP p=x.atP (p.drop k)∧s.env 2=.one (.ptr 2 1 0 0)∧s.env 4=.one (.ptr 4 1 0 0)∧s.env 8=Gx p∧s.env 9=AO p.length∧s.env 10=AO k∧s.S 2=some (.box 37 [.st (.str x.name),.st (.list (x.args.map Al))])∧s.S 4=some (.box 37 [.st (.str ⟨#[]⟩),.full []])) p.length ⟨0,t,Nat.zero_le _,rfl,rfl,rfl,rfl,rfl,rfl,rfl,rfl,rfl⟩ ?_;rintro m ⟨env,S⟩ ⟨k,x,hk,rfl,hx,e2,e4,e8,e9,e10,s2,s4⟩;simp only at e2 e4 e8 e9 e10 s2 s4;rw[hx];by_cases hlt:(k:Int)<p.length
 ·obtain⟨i,hi⟩:=Aa (show k<p.length by omega);have hd:=A5 hi;rw[hd,Tm.atP_cons]at hx ⊢;by_cases h0:i<0
  ·rw[if_pos h0];refine Gf (F10 e2 e4 e8 e9 e10 s2 s4 hlt hi h0) ?_;simp only[go_sem,fN,seval,AQ,AS.result,AB,AD,AM,e4,s4];try rfl
  ·rw[if_neg h0]at hx ⊢;by_cases h1:i<x.args.length
   ·obtain⟨a,ha⟩:=Aa (show i.toNat<x.args.length by omega);rw[ha]at hx ⊢;obtain⟨n,rfl⟩:∃n:Nat,i=n:=⟨i.toNat,by omega⟩
    rw[Int.toNat_natCast]at ha;have h2:¬(x.args.length:Int)≤(n:Int):=by omega
    refine Gf (F12 e2 e4 e8 e9 e10 s2 s4 hlt hi h0 h2 ha) ?_;refine AE ⟨p.length-(k+1),by omega,k+1,a,by omega,rfl,rfl,?_⟩;simp only[go_sem,fN,seval,eT,iR,e2,e4,e8,e9,s4];congr 3
   ·rw[List.getElem?_eq_none (by omega)];have h2:(x.args.length:Int)≤i:=by omega
    refine Gf (F11 e2 e4 e8 e9 e10 s2 s4 hlt hi h0 h2) ?_;simp only[go_sem,fN,seval,AQ,AS.result,AB,AD,AM,e4,s4];try rfl
 ·have hd:p.drop k=[]:=List.drop_of_length_le (by omega);rw[hd,Tm.atP_nil];refine Gf (F8 e2 e4 e8 e9 e10 s2 s4 hlt) ?_;simp only[go_sem,fN,seval,AQ,AS.result,AB,AD,AM,e4,s4];try rfl
section
variable {C:Ctx} {s:AS}
theorem AY.ownCW(id j nid:Nat)(e:TypeId)(wd:Nat){ty:TypeId}{cs:List AC}(hb:s.S id=some (.box ty cs))(hc:cs[j]?=some (.full []))(hn:s.S nid=none) :
  AY C s ((s.set nid (.mrow e wd [])).set id (.box ty (cs.set j (.row nid 0)))):=fun a w ⟨σ,ι,R⟩=>by
 have hbk:=R.blk id _ hb;have hne:id≠nid:=fun e=>by subst e;rw[hb]at hn;cases hn
 cases hbk with
 | @box _ _ g vs h1 h2 h3 h4 h5 =>
  obtain⟨v,hv,hr⟩:=h4.get hc;cases hr with
  | @full p len _ hs =>
   have hl:len=0:=by
    obtain⟨p',cap',e1,_⟩:=Cj hs;cases e1;rfl
   subst hl;obtain⟨hu,R'⟩:=R.fresh (w':=w) hn (.mrow e wd []) ⟨p,0,none⟩ (Ext.refl _ _) R.fit (Below.refl _ _) (by simp) (fun S' ι' hu=>.mnil rfl rfl);have hb':(s.set nid (.mrow e wd [])).S id=some (.box ty cs):=by simp[AS.set,AH _ hne,hb]
   have hι:AI ι nid ⟨p,0,none⟩ id=ι id:=AH _ hne _;obtain⟨hu2,R2⟩:=R'.turn (w':=w) hb' (.box ty (cs.set j (.row nid 0))) (AI ι nid ⟨p,0,none⟩ id) (σ':=σ) (fun _ _ h=>h) (fun _ _ _=>rfl) R.fit (Nat.le_refl _) (fun _=>⟨by simp[AJ.wid],rfl⟩) ⟨rfl,rfl,rfl⟩ (Nat.le_refl _) (fun _ _ _=>rfl) (fun g h=>.inl h) (fun hu2=>by
    refine .box (by rw[hι];exact h1) (by rw[hι];exact h2) h3 (An.of_get (by rw[List.length_set];exact h4.len) fun k u c hu' hck=>?_) h5;by_cases hk:k=j
    ·subst hk;rw[hv]at hu';cases hu';have hlt:k<cs.length:=(List.getElem?_eq_some_iff.1 hc).1;rw[List.getElem?_set_self hlt]at hck;cases hck;exact .row (b:=.mrow e wd []) (by simp[AS.set,AI,hne.symm]) (Nat.le_refl _) rfl fun _=>by simp[AI,hne.symm]
    ·rw[List.getElem?_set_ne (fun e=>hk e.symm)]at hck;obtain⟨u',q1,q2⟩:=h4.get hck;rw[hu']at q1;cases q1;exact(q2.mono (fun _ _ h=>h) hu).mono (fun _ _ h=>h) hu2)
   exact⟨_,_,R2⟩
end
theorem AAd(t:Tm)(hz:t.size≤1000000)(a0:Nat)(S:AA)(ha:1000≤a0)(hSa:S a0=none):Ah Tryz.prog 42 [aTm t] S (.agg [.st (.str t.name),.row a0 t.args.length]) (AI S a0 (some (.mrow 37 2 (t.args.map Al)))):=by
 have hs:=Tm.size_eq t;have hkn:=Tm.length_le t.args;refine OI.acS fun hS C hC=>?_;unfold IK;have k1:S 1=none:=AK hS (by omega);have k2:S 2=none:=AK hS (by omega);have k3:S 3=none:=AK hS (by omega);have k5:S 5=none:=AK hS (by omega);have k21:S 21=none:=AK hS (by omega);refine Hf (F4 @AS.startS.eq_1 k1 k2 k3) ?_;refine IWP.ghost (AY.ownCW 3 1 21 37 2 (by rfl) (by rfl) (by simp only[go_sem,fN,seval,eT,iR,k21])) ?_;refine IWP.loopD [5] (fun m s=>∃k,k≤t.args.length∧m=t.args.length-k∧s.env 2=.one (.ptr 2 1 0 0)∧s.env 3=.one (.ptr 3 1 0 0)∧s.S 2=some (.box 37 [.st (.str ⟨#[]⟩),.full []])∧s.S 3=some (.box 37 [.st (.str t.name),.row 21 k])∧s.S 21=some (.mrow 37 2 ((t.args.take k).map Al))∧s.env 10=.one (.st (.list (t.args.map Al)))∧s.env 11=AO t.args.length∧s.env 12=AO k∧s.S 5=none∧∀i,1000≤i→s.S i=S i)
  t.args.length ⟨0,Nat.zero_le _,rfl,rfl,rfl,by simp only[go_sem,fN,seval,eT,iR],by(simp only[go_sem,fN,seval,eT,iR];rfl),by simp only[go_sem,fN,seval,eT,iR],rfl,rfl,rfl,by simp only[go_sem,fN,seval,eT,iR,k5],fun i hi=>?_⟩ ?_
 ·have i1:¬i=1:=by omega
  have i2:¬i=2:=by omega
  have i3:¬i=3:=by omega
  have i21:¬i=21:=by omega
  simp only[go_sem,fN,seval,eT,iR,i1,i2,i3,i21]
 rintro m ⟨env,S1⟩ ⟨k,hk,rfl,e2,e3,s2,s3,s21,e10,e11,e12,s5,hrest⟩;simp only at e2 e3 s2 s3 s21 e10 e11 e12 s5 hrest;have hlk:(t.args.take k).length=k:=by rw[List.length_take];omega
 by_cases hlt:(k:Int)<t.args.length
 ·obtain⟨a,ha'⟩:=Aa (show k<t.args.length by omega);repeat' first|refine Gf (F12 e2 e3 s2 s3 s21 e10 e11 e12 s5 hlt ha' hlk) ?_|refine Mm fun K hK=>?_|refine Cg _ (KJ a (by have:=Tm.size_mem (AN ha');omega)) ?_
  refine AE ⟨t.args.length-(k+1),by omega,k+1,by omega,rfl,?_⟩;simp only[go_sem,fN,seval,AS.drop,AT,AC.clears,AC.clear,AC.highs,AC.high,zD,AV.purge,AV.purges,AC.purge,AJ.purge,Nat.reduceBEq,eT,iR,e2,e3,s2,s3,s21,e10,e11,e12,s5];refine⟨by rw[Ab ha'];simp[Ao],by congr 3,fun i hi=>?_⟩;have i3:¬i=3:=by omega
  have i5:¬i=5:=by omega
  have i5b:(i==5)=false:=by simp;omega
  have i21:¬i=21:=by omega
  simp only[go_sem,fN,seval,AS.drop,AT,AC.clears,AC.clear,AC.highs,AC.high,zD,AV.purge,AV.purges,AC.purge,AJ.purge,Nat.reduceBEq,eT,iR,i3,i5,i5b,i21];rw[hrest i hi];cases hb:S i with
  | none=>rfl
  | some b=>simp[AJ.purge_high (ds:=[5]) (by decide) (hS i b hb).2]
 ·obtain rfl:k=t.args.length:=by omega
  rw[List.take_of_length_le (by omega)]at s21;refine Gf (F10 e2 e3 s2 s3 s21 e10 e11 e12 s5 hlt) ?_;rw[show(.agg [.st (.str t.name),.row a0 t.args.length]:AV)=AV.ren (Bm 21 a0) (.agg [.st (.str t.name),.row 21 t.args.length]) by simp[AV.ren,AC.ren,AC.rens,Bm]];have n2:¬a0=2:=by omega
  have n2':∀i,1000≤i→¬i=2:=fun i hi=>by omega
  refine KL trivial 21 a0 _ (b0:=.mrow 37 2 (t.args.map Al)) (by omega) ha ?_ ?_ rfl ?_ ?_ ?_ ?_ (Bb hS ha rfl)
  ·simp[AI,n2,hrest a0 ha,hSa]
  ·simp[AI,s21]
  ·intro i b hi hb;have hb:AI S1 2 _ i=some b:=hb;rw[AH _ (n2' i hi),hrest i hi]at hb;exact(hS i b hb).2
  ·simp[AB,AD,AM,AI,e2,DL,Qz]
  ·simp[AV.ren,AC.ren,AC.rens,AV.high,AC.high,AC.highs,Bm,ha]
  ·rw[J8 _ (by omega)];congr 1;funext i;show(if i<1000 then none else S1 i)=S i
   by_cases hi:i<1000
   ·rw[if_pos hi,AK hS hi]
   ·rw[if_neg hi,hrest i (by omega)]
theorem Vy(x:Tm)(hx:x.size≤1000000):∀(p:List Int) (t:Tm),p.length≤1000000→t.atP p≠none→t.size≤1000000→AW Tryz.prog 111 [aTm t,Gx p,aTm x] (aTm (t.putP p x))
 | [],t,_,_,_=>by
  rw[Tm.putP_nil];refine Jb.ac fun C hC=>?_;unfold GD;repeat' first|refine Gg ?_|refine Mm fun K hK=>?_|refine Cg _ (KJ x hx) ?_
  simp only[go_sem,fN,seval,AQ,AS.result,AB,AD,AM]
 | i::p,t,hpl,hp,hz=>by
  rw[Tm.atP_cons]at hp;have h0:¬i<0:=fun h=>hp (by rw[if_pos h]);rw[if_neg h0]at hp;obtain⟨a,ha⟩:∃a,t.args[i.toNat]?=some a:=by
   cases h:t.args[i.toNat]? with
   | none=>rw[h]at hp;exact absurd rfl hp
   | some a=>exact⟨a,rfl⟩
  rw[ha]at hp;obtain⟨n,rfl⟩:∃n:Nat,i=n:=⟨i.toNat,by omega⟩
  rw[Int.toNat_natCast]at ha;rw[Tm.putP_at ha];have hlt:n<t.args.length:=(List.getElem?_eq_some_iff.1 ha).1;have hlt':(n:Int)<t.args.length:=by omega
  have hsz:=Tm.size_mem (List.mem_of_getElem? ha);have hszq:=Tm.size_eq t;have ih:=Vy x hx p a (by simp at hpl;omega) hp (by omega);have hl0:¬(((p.length+1:Nat):Int)=0):=by omega
  have hseq:=Tm.size_eq t;refine Jb.ac fun C hC=>?_;unfold GD;repeat' first|refine Gf hl0 ?_|refine Mm fun K hK=>?_
  refine⟨_,_,AAd t hz (up1 13) _ (Ap 13) (by rw[Ax];rfl),?_⟩;have htk:List.take p.length (List.map HM p)=List.map HM p:=List.take_of_length_le (by simp);have hl1:(t.args.set n (a.putP p x)).length=t.args.length:=by simp
  refine Wr ?_;simp only[go_sem,fN,seval,eT,iR];refine hK _ ?_;clear hK K;refine Wb ?_;refine IWP.mid (fun y=>y.env 3=.one (.ptr 3 1 0 0)∧y.env 6=.one (.ptr 6 1 0 0)∧y.S 3=some (.box 37 [.st (.str t.name),.row 13 t.args.length])∧y.S 6=some (.box 37 [.st (.str ⟨#[]⟩),.full []])∧y.S 13=some (.mrow 37 2 ((t.args.set n (a.putP p x)).map Al))) ?_ ?_
  ·repeat' first|refine Gf (F3 ha hlt' htk) ?_|refine Mm fun K hK=>?_|refine Cg _ (ih) ?_
   refine⟨rfl,?_⟩;simp only[go_sem,fN,seval,eT,iR,ha,hlt'];rw[List.map_set,Ao]
  rintro⟨env,S⟩ ⟨e3,e6,s3,s6,s13⟩;simp only at e3 e6 s3 s6 s13;refine IWP.ghost (AY.share (id:=13) s13) ?_;refine Gf (F5 e3 e6 s3 s6 hl1) ?_;simp only[go_sem,fN,seval,AQ,AS.result,AB,AD,AM,e6,s6,hl1];try rfl

def ES:IR :=
 (.seq (.ops [.i 4 (.box 37 (.t 1)),.i 6 (.alloc 37 [.st (.str (ByteArray.mk (#[]))),.full []]),.i 7 (.mov (.n 0)),.i 8 (.mov (.n 0))]) (.seq (.seq (.ops [.m 14 2,.m 9 14]) (.block 0 (.loop (.seq (.seq (.ops [.m 15 9,.m 16 0,.i 17 (.len false (.t 16)),.i 18 (.bin .lss (.t 15) (.t 17))]) (.cond (.t 18) .skip (.exit 0))) (.seq (.block 1 (.seq (.ops [.m 22 0,.m 23 9,.i 24 (.indexAddr 4 (.t 22) (.t 23)),.f 25 0 24,.L 26 2 25,.L 27 2 4,.i 28 (.call 112 [.t 26,.t 27]),.m 21 28,.i 29 (.extract 0 (.t 21)),.i 30 (.extract 1 (.t 21)),.m 10 29,.m 11 30]) (.seq (.ops [.m 31 11]) (.cond (.t 31) (.seq (.ops [.m 33 10,.m 34 0,.m 35 9,.i 36 (.indexAddr 4 (.t 34) (.t 35)),.f 37 2 36,.L 38 2 37,.i 39 (.call 110 [.t 33,.t 38]),.m 32 39,.i 40 (.extract 0 (.t 32)),.i 41 (.extract 1 (.t 32)),.i 12 (.alloc 37 [.st (.str (ByteArray.mk (#[]))),.full []]),.s 2 12 40,.m 13 41]) (.seq (.seq (.ops [.m 42 13,.i 43 (.un .not (.t 42))]) (.cond (.t 43) (.seq (.ops [.i 44 (.build [.st (.str (ByteArray.mk (#[]))),.full []] []),.m 45 9,.s 2 6 44,.m 7 45,.i 8 (.mov (.n 8))]) .ret) .skip)) (.seq (.ops [.L 46 2 12,.m 47 9,.s 2 6 46,.m 7 47,.i 8 (.mov (.n 0))]) .ret))) .skip)))) (.ops [.m 19 9,.i 20 (.bin .add (.t 19) (.n 1)),.m 9 20])))))) (.seq (.ops [.i 48 (.build [.st (.str (ByteArray.mk (#[]))),.full []] []),.s 2 6 48,.i 7 (.mov (.c (.one (.st (.int .i64 (-1)))))),.i 8 (.mov (.n 0))]) .ret)))
theorem Gw:OkF Tryz.prog 78 49 [] ES [.cell 6 true 2,.t 7,.t 8]:=.of Tryz.func78 rfl rfl (by kernel_rfl) rfl
def EJ:IR :=
 (.seq (.ops [.i 3 (.box 37 (.t 1)),.i 4 (.alloc 37 [.st (.str (ByteArray.mk (#[]))),.full []]),.i 5 (.mov (.c (.one (.st (.bool false))))),.i 6 (.mov (.n 0))]) (.seq (.seq (.ops [.f 15 1 3,.l 16 15,.i 17 (.len false (.t 16)),.i 18 (.mov (.n 0))]) (.block 0 (.loop (.seq (.ops [.i 19 (.bin .lss (.t 18) (.t 17))]) (.seq (.cond (.t 19) .skip (.exit 0)) (.seq (.block 1 (.seq (.ops [.m 20 18,.m 7 20]) (.seq (.ops [.m 22 0,.f 23 1 3,.l 24 23,.m 25 7,.i 26 (.indexAddr 2 (.t 24) (.t 25)),.L 27 2 26,.i 28 (.call 77 [.t 22,.t 27]),.m 21 28,.i 29 (.extract 0 (.t 21)),.i 30 (.extract 1 (.t 21)),.i 31 (.extract 2 (.t 21)),.i 8 (.alloc 37 [.st (.str (ByteArray.mk (#[]))),.full []]),.s 2 8 29,.m 9 30,.m 10 31]) (.seq (.ops [.m 32 10,.i 33 (.bin .neq (.t 32) (.n 0)),.m 34 33,.mk (some 35) (some (34,false)) (.mov (.t 9)) .no,.i 36 (.pick (.t 34) (.c (.one (.st (.bool true)))) (.t 35))]) (.cond (.t 36) (.seq (.ops [.f 37 0 3,.l 38 37,.f 39 1 3,.l 40 39,.i 41 (.callN 79 [.t 40]),.i 42 (.build [.st (.str (ByteArray.mk (#[]))),.full []] [(0,1,.t 38),(1,1,.t 41)]),.i 11 (.alloc 37 [.st (.str (ByteArray.mk (#[]))),.full []]),.s 2 11 42]) (.seq (.ops [.f 43 1 11,.l 44 43,.m 45 7,.L 46 2 8,.i 47 (.indexAddr 2 (.t 44) (.t 45)),.s 2 47 46]) (.seq (.ops [.L 48 2 11,.m 49 9,.m 50 10,.s 2 4 48,.m 5 49,.m 6 50]) .ret))) .skip))))) (.ops [.i 51 (.bin .add (.t 18) (.n 1)),.m 18 51]))))))) (.seq (.ops [.m 53 0,.L 54 2 3,.i 55 (.call 78 [.t 53,.t 54,.n 0]),.m 52 55,.i 56 (.extract 0 (.t 52)),.i 57 (.extract 1 (.t 52)),.i 58 (.extract 2 (.t 52)),.i 12 (.alloc 37 [.st (.str (ByteArray.mk (#[]))),.full []]),.s 2 12 56,.m 13 57,.m 14 58]) (.seq (.ops [.L 59 2 12,.m 60 13,.i 61 (.bin .geq (.t 60) (.n 0)),.m 62 14,.s 2 4 59,.m 5 61,.m 6 62]) .ret))))
theorem G9:OkF Tryz.prog 77 63 [20000041] EJ [.cell 4 true 2,.t 5,.t 6]:=.of Tryz.func77 rfl rfl (by kernel_rfl) rfl
def Gt:IR :=
 (.seq (.ops [.i 4 (.box 37 (.t 1)),.i 6 (.alloc 37 [.st (.str (ByteArray.mk (#[]))),.full []]),.i 7 (.mov (.n 0)),.i 8 (.mov (.n 0))]) (.seq (.ops [.L 13 2 4,.i 14 (.call 42 [.t 13]),.s 2 4 14]) (.seq (.ops [.i 9 (.mov (.n 0))]) (.block 0 (.loop (.seq (.block 1 (.seq (.ops [.m 18 0,.L 19 2 4,.i 20 (.call 77 [.t 18,.t 19]),.m 17 20,.i 21 (.extract 0 (.t 17)),.i 22 (.extract 1 (.t 17)),.i 23 (.extract 2 (.t 17)),.i 10 (.alloc 37 [.st (.str (ByteArray.mk (#[]))),.full []]),.s 2 10 21,.m 11 22,.m 12 23]) (.seq (.seq (.ops [.m 24 11,.m 25 24,.mk (some 26) (some (25,true)) (.mov (.t 9)) .no,.mk (some 27) (some (25,true)) (.mov (.t 2)) .no,.mk (some 28) (some (25,true)) (.bin .eql (.t 26) (.t 27)) .no,.i 29 (.pick (.t 25) (.t 28) (.c (.one (.st (.bool false)))))]) (.cond (.t 29) (.ops [.i 12 (.mov (.n 9))]) .skip)) (.seq (.seq (.ops [.m 30 12,.i 31 (.bin .neq (.t 30) (.n 0))]) (.cond (.t 31) (.seq (.ops [.i 32 (.build [.st (.str (ByteArray.mk (#[]))),.full []] []),.m 33 12,.s 2 6 32,.i 7 (.mov (.n 0)),.m 8 33]) .ret) .skip)) (.seq (.seq (.ops [.m 34 11,.i 35 (.un .not (.t 34))]) (.cond (.t 35) (.seq (.ops [.L 36 2 4,.m 37 9,.s 2 6 36,.m 7 37,.i 8 (.mov (.n 0))]) .ret) .skip)) (.seq (.ops [.L 38 2 10,.s 2 4 38]) (.seq (.ops [.L 39 2 4,.i 40 (.call 44 [.t 39]),.i 41 (.bin .gtr (.t 40) (.n 2000))]) (.cond (.t 41) (.seq (.ops [.i 42 (.build [.st (.str (ByteArray.mk (#[]))),.full []] []),.s 2 6 42,.i 7 (.mov (.n 0)),.i 8 (.mov (.n 8))]) .ret) .skip)))))))) (.ops [.m 15 9,.i 16 (.bin .add (.t 15) (.n 1)),.m 9 16])))))))
theorem Lp:OkF Tryz.prog 41 43 [] Gt [.cell 6 true 2,.t 7,.t 8]:=.of Tryz.func41 rfl rfl (by kernel_rfl) rfl
def Oj:IR :=
 (.seq (.ops [.i 2 (.box 40 (.t 0)),.i 3 (.box 37 (.t 1)),.i 4 (.alloc 37 [.st (.str (ByteArray.mk (#[]))),.full []]),.i 5 (.mov (.c (.one (.st (.bool false))))),.i 6 (.mov (.c (.one (.st (.bool false)))))]) (.seq (.ops [.f 12 0 2,.L 13 2 12,.L 14 2 3,.i 15 (.call 91 [.t 13,.t 14]),.m 11 15,.i 16 (.extract 0 (.t 11)),.i 17 (.extract 1 (.t 11)),.m 7 16,.m 8 17]) (.seq (.seq (.ops [.m 18 8,.i 19 (.un .not (.t 18))]) (.cond (.t 19) (.seq (.ops [.i 20 (.build [.st (.str (ByteArray.mk (#[]))),.full []] []),.s 2 4 20,.i 5 (.mov (.c (.one (.st (.bool false))))),.i 6 (.mov (.c (.one (.st (.bool false)))))]) .ret) .skip)) (.seq (.ops [.m 22 7,.f 23 2 2,.L 24 2 23,.i 25 (.call 92 [.t 22,.t 24]),.m 21 25,.i 26 (.extract 0 (.t 21)),.i 27 (.extract 1 (.t 21)),.i 9 (.alloc 37 [.st (.str (ByteArray.mk (#[]))),.full []]),.s 2 9 26,.m 10 27]) (.seq (.ops [.L 28 2 9,.m 29 10,.i 30 (.un .not (.t 29)),.s 2 4 28,.i 5 (.mov (.c (.one (.st (.bool true))))),.m 6 30]) .ret)))))
theorem Xl:OkF Tryz.prog 55 31 [] Oj [.cell 4 true 2,.t 5,.t 6]:=.of Tryz.func55 rfl rfl (by kernel_rfl) rfl
def Nf:IR :=
 (.seq (.ops [.i 3 (.box 37 (.t 1)),.i 4 (.mov (.c (.one (.st (.bool false)))))]) (.seq (.seq (.ops [.i 5 (.mov (.n 0))]) (.block 0 (.loop (.seq (.seq (.ops [.m 8 5,.m 9 0,.i 10 (.len false (.t 9)),.i 11 (.bin .lss (.t 8) (.t 10))]) (.cond (.t 11) .skip (.exit 0))) (.seq (.block 1 (.seq (.ops [.m 15 0,.m 16 5,.i 17 (.indexAddr 4 (.t 15) (.t 16)),.f 18 0 17,.L 19 2 18,.L 20 2 3,.i 21 (.call 91 [.t 19,.t 20]),.m 14 21,.i 22 (.extract 0 (.t 14)),.i 23 (.extract 1 (.t 14)),.m 6 22,.m 7 23]) (.seq (.ops [.m 24 7]) (.cond (.t 24) (.seq (.ops [.i 4 (.mov (.c (.one (.st (.bool true)))))]) .ret) .skip)))) (.ops [.m 12 5,.i 13 (.bin .add (.t 12) (.n 1)),.m 5 13])))))) (.seq (.ops [.i 4 (.mov (.c (.one (.st (.bool false)))))]) .ret)))
theorem Su:OkF Tryz.prog 90 25 [] Nf [.t 4]:=.of Tryz.func90 rfl rfl (by kernel_rfl) rfl
def Pl:IR :=
 (.seq (.ops [.i 4 (.box 37 (.t 1)),.i 6 (.mov (.c (.one (.full [])))),.i 7 (.mov (.c (.one (.st (.bool false)))))]) (.seq (.ops [.L 15 2 4,.i 16 (.call 89 [.t 15]),.m 8 16]) (.seq (.seq (.ops [.i 9 (.mov (.n 0))]) (.block 0 (.loop (.seq (.seq (.ops [.m 17 9,.m 18 8,.i 19 (.len false (.t 18)),.i 20 (.bin .lss (.t 17) (.t 19))]) (.cond (.t 20) .skip (.exit 0))) (.seq (.block 1 (.seq (.ops [.L 24 2 4,.m 25 8,.m 26 9,.i 27 (.indexAddr 1 (.t 25) (.t 26)),.l 28 27,.i 29 (.call 54 [.t 24,.t 28]),.m 23 29,.i 30 (.extract 0 (.t 23)),.i 31 (.extract 1 (.t 23)),.i 10 (.alloc 37 [.st (.str (ByteArray.mk (#[]))),.full []]),.s 2 10 30,.m 11 31]) (.seq (.seq (.ops [.m 32 0,.L 33 2 10,.i 34 (.call 90 [.t 32,.t 33]),.i 35 (.un .not (.t 34))]) (.cond (.t 35) (.exit 1) .skip)) (.seq (.ops [.L 36 2 10,.i 37 (.call 57 [.t 36]),.m 12 37]) (.seq (.ops [.i 13 (.mov (.c (.one (.st (.bool true)))))]) (.seq (.seq (.ops [.i 14 (.mov (.n 1))]) (.block 2 (.loop (.seq (.seq (.ops [.m 38 14,.m 39 12,.i 40 (.len false (.t 39)),.i 41 (.bin .lss (.t 38) (.t 40)),.m 42 41,.mk (some 43) (some (42,true)) (.mov (.t 2)) .no,.i 44 (.pick (.t 42) (.t 43) (.c (.one (.st (.bool false))))),.m 45 44,.mk (some 46) (some (45,true)) (.mov (.t 13)) .no,.i 47 (.pick (.t 45) (.t 46) (.c (.one (.st (.bool false)))))]) (.cond (.t 47) .skip (.exit 2))) (.seq (.block 3 (.ops [.m 50 0,.m 51 12,.m 52 14,.i 53 (.indexAddr 2 (.t 51) (.t 52)),.L 54 2 53,.i 55 (.call 90 [.t 50,.t 54]),.i 56 (.un .not (.t 55)),.m 13 56])) (.ops [.m 48 14,.i 49 (.bin .add (.t 48) (.n 1)),.m 14 49])))))) (.seq (.ops [.m 57 13]) (.cond (.t 57) (.seq (.ops [.m 58 8,.m 59 9,.i 60 (.indexAddr 1 (.t 58) (.t 59)),.l 61 60,.m 6 61,.i 7 (.mov (.c (.one (.st (.bool true)))))]) .ret) .skip)))))))) (.ops [.m 21 9,.i 22 (.bin .add (.t 21) (.n 1)),.m 9 22])))))) (.seq (.ops [.i 6 (.mov (.c (.one (.full [])))),.i 7 (.mov (.c (.one (.st (.bool false)))))]) .ret))))
theorem V9:OkF Tryz.prog 53 62 [] Pl [.t 6,.t 7]:=.of Tryz.func53 rfl rfl (by kernel_rfl) rfl
def Ml:IR :=
 (.seq (.ops [.i 5 (.box 37 (.t 1)),.i 8 (.alloc 37 [.st (.str (ByteArray.mk (#[]))),.full []]),.i 9 (.mov (.n 0)),.i 10 (.mov (.n 0))]) (.seq (.ops [.i 11 (.mov (.n 0))]) (.block 0 (.loop (.block 1 (.seq (.ops [.m 21 0,.L 22 2 5,.m 23 3,.i 24 (.call 53 [.t 21,.t 22,.t 23]),.m 20 24,.i 25 (.extract 0 (.t 20)),.i 26 (.extract 1 (.t 20)),.m 12 25,.m 13 26]) (.seq (.seq (.ops [.m 27 13,.i 28 (.un .not (.t 27))]) (.cond (.t 28) (.seq (.ops [.L 29 2 5,.m 30 11,.s 2 8 29,.m 9 30,.i 10 (.mov (.n 0))]) .ret) .skip)) (.seq (.seq (.ops [.m 31 11,.m 32 2,.i 33 (.bin .eql (.t 31) (.t 32))]) (.cond (.t 33) (.seq (.ops [.i 34 (.build [.st (.str (ByteArray.mk (#[]))),.full []] []),.s 2 8 34,.i 9 (.mov (.n 0)),.i 10 (.mov (.n 9))]) .ret) .skip)) (.seq (.ops [.m 35 11,.i 36 (.bin .add (.t 35) (.n 1)),.m 11 36]) (.seq (.ops [.L 38 2 5,.m 39 12,.i 40 (.call 54 [.t 38,.t 39]),.m 37 40,.i 41 (.extract 0 (.t 37)),.i 42 (.extract 1 (.t 37)),.i 14 (.alloc 37 [.st (.str (ByteArray.mk (#[]))),.full []]),.s 2 14 41,.m 15 42]) (.seq (.seq (.ops [.i 16 (.mov (.n 0))]) (.block 2 (.loop (.seq (.seq (.ops [.m 43 16,.m 44 0,.i 45 (.len false (.t 44)),.i 46 (.bin .lss (.t 43) (.t 45))]) (.cond (.t 46) .skip (.exit 2))) (.seq (.block 3 (.seq (.ops [.m 50 0,.m 51 16,.i 52 (.indexAddr 4 (.t 50) (.t 51)),.L 53 4 52,.L 54 2 14,.i 55 (.call 55 [.t 53,.t 54]),.m 49 55,.i 56 (.extract 0 (.t 49)),.i 57 (.extract 1 (.t 49)),.i 58 (.extract 2 (.t 49)),.i 17 (.alloc 37 [.st (.str (ByteArray.mk (#[]))),.full []]),.s 2 17 56,.m 18 57,.m 19 58]) (.seq (.seq (.ops [.m 59 19]) (.cond (.t 59) (.seq (.ops [.i 60 (.build [.st (.str (ByteArray.mk (#[]))),.full []] []),.s 2 8 60,.i 9 (.mov (.n 0)),.i 10 (.mov (.n 8))]) .ret) .skip)) (.seq (.ops [.m 61 18]) (.cond (.t 61) (.seq (.ops [.L 62 2 5,.m 63 12,.L 64 2 17,.i 65 (.call 56 [.t 62,.t 63,.t 64]),.s 2 5 65]) (.exit 2)) .skip))))) (.ops [.m 47 16,.i 48 (.bin .add (.t 47) (.n 1)),.m 16 48])))))) (.seq (.ops [.L 66 2 5,.i 67 (.call 21 [.t 66,.n 2000]),.i 68 (.bin .gtr (.t 67) (.n 2000))]) (.cond (.t 68) (.seq (.ops [.i 69 (.build [.st (.str (ByteArray.mk (#[]))),.full []] []),.s 2 8 69,.i 9 (.mov (.n 0)),.i 10 (.mov (.n 8))]) .ret) .skip)))))))))))))
theorem Uo:OkF Tryz.prog 26 70 [] Ml [.cell 8 true 2,.t 9,.t 10]:=.of Tryz.func26 rfl rfl (by kernel_rfl) rfl

def VT(m:Int):Int:=if m<0∨400<m then 10 else 0

end Go.Proofs.YtbhnmjkmieiadaaGreatDoor
