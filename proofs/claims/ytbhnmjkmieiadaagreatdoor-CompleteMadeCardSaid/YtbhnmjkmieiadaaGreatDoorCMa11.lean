/-
  Part 11 of the texts. Conditions: none.
-/
import Derived.Test.YtbhnmjkmieiadaaGreatDoorCMa10
namespace Go.Proofs.YtbhnmjkmieiadaaGreatDoor
open Go Go.RowKit
set_option maxRecDepth 100000
def Dv:IR :=
 (.seq (.ops [.i 3 (.box 37 (.t 1)),.i 4 (.alloc 37 [.st (.str (ByteArray.mk (#[]))),.full []]),.i 5 (.mov (.c (.one (.st (.bool false))))),.i 6 (.mov (.n 0))]) (.seq (.seq (.ops [.f 15 1 3,.l 16 15,.i 17 (.len false (.t 16)),.i 18 (.mov (.n 0))]) (.block 0 (.loop (.seq (.ops [.i 19 (.bin .lss (.t 18) (.t 17))]) (.seq (.cond (.t 19) .skip (.exit 0)) (.seq (.block 1 (.seq (.ops [.m 20 18,.m 7 20]) (.seq (.ops [.m 22 0,.f 23 1 3,.l 24 23,.m 25 7,.i 26 (.indexAddr 2 (.t 24) (.t 25)),.L 27 2 26,.i 28 (.callR 77 [.t 22,.t 27]),.m 21 28,.i 29 (.extract 0 (.t 21)),.i 30 (.extract 1 (.t 21)),.i 31 (.extract 2 (.t 21)),.i 8 (.alloc 37 [.st (.str (ByteArray.mk (#[]))),.full []]),.s 2 8 29,.m 9 30,.m 10 31]) (.seq (.ops [.m 32 10,.i 33 (.bin .neq (.t 32) (.n 0)),.m 34 33,.mk (some 35) (some (34,false)) (.mov (.t 9)) .no,.i 36 (.pick (.t 34) (.c (.one (.st (.bool true)))) (.t 35))]) (.cond (.t 36) (.seq (.ops [.f 37 0 3,.l 38 37,.f 39 1 3,.l 40 39,.i 41 (.callN 79 [.t 40]),.i 42 (.build [.st (.str (ByteArray.mk (#[]))),.full []] [(0,1,.t 38),(1,1,.t 41)]),.i 11 (.alloc 37 [.st (.str (ByteArray.mk (#[]))),.full []]),.s 2 11 42]) (.seq (.ops [.f 43 1 11,.l 44 43,.m 45 7,.L 46 2 8,.i 47 (.indexAddr 2 (.t 44) (.t 45)),.s 2 47 46]) (.seq (.ops [.L 48 2 11,.m 49 9,.m 50 10,.s 2 4 48,.m 5 49,.m 6 50]) .ret))) .skip))))) (.ops [.i 51 (.bin .add (.t 18) (.n 1)),.m 18 51]))))))) (.seq (.ops [.m 53 0,.L 54 2 3,.i 55 (.callR 78 [.t 53,.t 54,.n 0]),.m 52 55,.i 56 (.extract 0 (.t 52)),.i 57 (.extract 1 (.t 52)),.i 58 (.extract 2 (.t 52)),.i 12 (.alloc 37 [.st (.str (ByteArray.mk (#[]))),.full []]),.s 2 12 56,.m 13 57,.m 14 58]) (.seq (.ops [.L 59 2 12,.m 60 13,.i 61 (.bin .geq (.t 60) (.n 0)),.m 62 14,.s 2 4 59,.m 5 61,.m 6 62]) .ret))))
theorem G2:OkF Tryz.prog 77 63 [20000041,40000028,40000055] Dv [.cell 4 true 2,.t 5,.t 6]:=.of Tryz.func77 rfl rfl (by kernel_rfl) rfl
def Fq:IR :=
 (.seq (.ops [.i 4 (.box 37 (.t 1)),.i 6 (.alloc 37 [.st (.str (ByteArray.mk (#[]))),.full []]),.i 7 (.mov (.n 0)),.i 8 (.mov (.n 0))]) (.seq (.ops [.L 13 2 4,.i 14 (.call 42 [.t 13]),.s 2 4 14]) (.seq (.ops [.i 9 (.mov (.n 0))]) (.block 0 (.loop (.seq (.block 1 (.seq (.ops [.m 18 0,.L 19 2 4,.i 20 (.callR 77 [.t 18,.t 19]),.m 17 20,.i 21 (.extract 0 (.t 17)),.i 22 (.extract 1 (.t 17)),.i 23 (.extract 2 (.t 17)),.i 10 (.alloc 37 [.st (.str (ByteArray.mk (#[]))),.full []]),.s 2 10 21,.m 11 22,.m 12 23]) (.seq (.seq (.ops [.m 24 11,.m 25 24,.mk (some 26) (some (25,true)) (.mov (.t 9)) .no,.mk (some 27) (some (25,true)) (.mov (.t 2)) .no,.mk (some 28) (some (25,true)) (.bin .eql (.t 26) (.t 27)) .no,.i 29 (.pick (.t 25) (.t 28) (.c (.one (.st (.bool false)))))]) (.cond (.t 29) (.ops [.i 12 (.mov (.n 9))]) .skip)) (.seq (.seq (.ops [.m 30 12,.i 31 (.bin .neq (.t 30) (.n 0))]) (.cond (.t 31) (.seq (.ops [.i 32 (.build [.st (.str (ByteArray.mk (#[]))),.full []] []),.m 33 12,.s 2 6 32,.i 7 (.mov (.n 0)),.m 8 33]) .ret) .skip)) (.seq (.seq (.ops [.m 34 11,.i 35 (.un .not (.t 34))]) (.cond (.t 35) (.seq (.ops [.L 36 2 4,.m 37 9,.s 2 6 36,.m 7 37,.i 8 (.mov (.n 0))]) .ret) .skip)) (.seq (.ops [.L 38 2 10,.s 2 4 38]) (.seq (.ops [.L 39 2 4,.i 40 (.call 44 [.t 39]),.i 41 (.bin .gtr (.t 40) (.n 2000))]) (.cond (.t 41) (.seq (.ops [.i 42 (.build [.st (.str (ByteArray.mk (#[]))),.full []] []),.s 2 6 42,.i 7 (.mov (.n 0)),.i 8 (.mov (.n 8))]) .ret) .skip)))))))) (.ops [.m 15 9,.i 16 (.bin .add (.t 15) (.n 1)),.m 9 16])))))))
theorem Kt:OkF Tryz.prog 41 43 [40000020] Fq [.cell 6 true 2,.t 7,.t 8]:=.of Tryz.func41 rfl rfl (by kernel_rfl) rfl

set_option linter.unusedVariables false
set_option linter.unusedSimpArgs false
set_option maxHeartbeats 2000000
theorem AF{b c:Nat}(hb:1000≤b)(hc:c<1000):(b=c)=False:=eq_false (by omega)
theorem AU{b c:Nat}(hb:1000≤b)(hc:c<1000):(c=b)=False:=eq_false (by omega)
theorem BX{s:AS}{S:AA}{ds:List Nat}{j:Nat}(hS:Ay S)(hd:∀d∈ds,d<1000)(hj:1000≤j)(h:s.S j=S j):(s.drop ds).S j=S j:=by
 have hn:ds.contains j=false:=by
  cases hc:ds.contains j with
  | false=>rfl
  | true =>
   have:=hd j (by simpa using hc);omega
 show(if _ then none else(s.S j).map _)=S j
 rw[hn,if_neg (by simp),h];cases hb:S j with
 | none=>rfl
 | some b=>rw[Option.map_some,AJ.purge_high hd (hS j b hb).2]
theorem BI{C:Ctx}{rs:List RV}{r:AV}{e:AX}{s:AS}{S:AA}(hS:Ay S)(he:match e with|.normal=>True|.ret=>True|_=>False)
  (h:((AB s rs).map AM).bind (outV s.S)=some r) (h4:∀i,1000≤i→s.S i=S i):FR C rs r S e s:=by
 rw[Option.bind_eq_some_iff]at h;obtain⟨r0,h1,h2⟩:=h;exact Aq r0 hS he h1 h2 h4
theorem BD{b c:Nat}(hb:1000≤b)(hc:c<1000):(b==c)=false:=by simp;omega
abbrev A_(R:List Pr):AJ:=.mrow 40 4 (R.map Ag)
theorem ABG{R:List Pr}(hR:A7 R)(t:Tm)(hc:t.chk=0)(hz:t.size≤1000000)(f:Nat)(hf:f≤R.length)(r:Nat)(hr:1000≤r)(S:AA)(sr:S r=some (A_ R)):Ah Tryz.prog 78 [.one (.row r R.length),aTm t,AO f] S (Gl (Db t f (R.drop f))) S:=by
 unfold Gl;have h40:=hR.len;have hKl:(R.map Ag).length=R.length:=List.length_map _;refine Gw.acS fun hS C hC=>?_;unfold ES;have n4:=AK hS (i:=4) (by omega);have n6:=AK hS (i:=6) (by omega);have n12:=AK hS (i:=12) (by omega);refine Gf (F7 @AS.startS.eq_1 n4 n6 n12 @AF @AU hr) ?_;refine IWP.loop (fun m s=>∃k,k≤R.length∧m=R.length-k∧Db t f (R.drop f)=Db t k (R.drop k)∧s.env 0=.one (.row r R.length)∧s.env 4=.one (.ptr 4 1 0 0)∧s.env 6=.one (.ptr 6 1 0 0)∧s.S 4=some (.box 37 [.st (.str t.name),.st (.list (t.args.map Al))])∧s.S 6=some (.box 37 [.st (.str ⟨#[]⟩),.full []])∧s.S 12=none∧s.env 9=AO k∧∀j,1000≤j→s.S j=S j) (R.length-f) ⟨f,hf,rfl,rfl,rfl,rfl,rfl,by simp only[go_sem,fN,seval,eT,iR],by simp only[go_sem,fN,seval,eT,iR],by simp only[go_sem,fN,seval,eT,iR,n12],rfl,fun j hj=>by simp only[go_sem,fN,seval,eT,iR,AF,hj]⟩ ?_;rintro m ⟨env,S1⟩ ⟨k,hk,rfl,hrk,e0,e4,e6,s4,s6,s12,e9,hS1⟩;simp only at e0 e4 e6 s4 s6 s12 e9 hS1;have hr1:=(hS1 r hr).trans sr;rw[hrk];by_cases hlt:(k:Int)<R.length
 ·obtain⟨q,hq⟩:=Aa (show k<R.length by omega);have hmem:=AN hq;have c1:=Tm.may_chk (hR.left q hmem);have c2:=Tm.may_chk (hR.right q hmem);have hok:=Qj c1.1 hc;have hd:=A5 hq;rw[hd,Db];by_cases hcase:BJ q.1 t=true
  ·rw[if_pos hcase];have hon:=NX (BH q.1 t) (by have:=LI (p:=q.1) (t:=t);omega) hok.ord q.2 hok.var c2.1;by_cases hon2:(Au (BH q.1 t) q.2).2=true
   ·repeat' first|refine Gf (F17 e0 e4 e6 s4 s6 s12 e9 hr1 hr @AF @AU hKl hlt hq @Ag.eq_1 hcase hon2) ?_|refine Mm fun K hK=>?_|refine Cg _ (KU q.1 t (by omega) hz) ?_|refine Cg _ (hon) ?_
    refine BI hS trivial ?_ fun j hj=>?_
    ·simp only[go_sem,fN,seval,eT,iR,AB,AD,AM,Option.bind_some,e6,s6,hon2];all_goals first|rfl|(rw[he];rfl)
    ·have hj2:=hS1 j hj;simp only[go_sem,fN,seval,eT,iR,AF,hj,hj2]
   ·have hnil:=L1 hon2;simp only[Bool.not_eq_true]at hon2;repeat' first|refine Gf (F17 e0 e4 e6 s4 s6 s12 e9 hr1 hr @AF @AU hKl hlt hq @Ag.eq_1 hcase hon2) ?_|refine Mm fun K hK=>?_|refine Cg _ (KU q.1 t (by omega) hz) ?_|refine Cg _ (hon) ?_
    refine BI hS trivial ?_ fun j hj=>?_
    ·simp only[go_sem,fN,seval,eT,iR,AB,AD,AM,Option.bind_some,e6,s6,hon2,hnil];all_goals first|rfl|(rw[he];rfl)
    ·have hj2:=hS1 j hj;simp only[go_sem,fN,seval,eT,iR,AF,hj,hj2]
  ·rw[if_neg hcase];repeat' first|refine Gf (F16 e0 e4 e6 s4 s6 s12 e9 hr1 hr @AF @AU hKl hlt hq @Ag.eq_1 hcase) ?_|refine Mm fun K hK=>?_|refine Cg _ (KU q.1 t (by omega) hz) ?_
   refine AE ⟨R.length-(k+1),by omega,k+1,by omega,rfl,?_,?_⟩
   ·rfl
   ·simp only[go_sem,fN,seval,eT,iR,e0,e4,e6,s4,s6,s12,e9];refine⟨by congr 3,fun j hj=>?_⟩;have hj2:=hS1 j hj;simp only[go_sem,fN,seval,eT,iR,AF,hj,hj2]
 ·have hd:R.drop k=[]:=List.drop_of_length_le (by omega);rw[hd];refine Gf (F13 e0 e4 e6 s4 s6 s12 e9 hr1 hr @AF @AU hKl hlt) ?_;refine BI hS trivial ?_ fun j hj=>?_
  ·simp only[go_sem,fN,seval,eT,iR,AB,AD,AM,Option.bind_some,e6,s6];all_goals first|rfl|(rw[he];rfl)
  ·have hj2:=hS1 j hj;simp only[go_sem,fN,seval,eT,iR,AF,hj,hj2]
theorem AAc{R:List Pr}(hR:A7 R)(t:Tm)(hc:t.chk=0)(hz:t.size≤1000000)(T:AA)(r:Nat)(hT:T r=some (A_ R)):Ah Tryz.prog 78 [.one (.row (up1 r) R.length),aTm t,AO 0] (upS T) (Gl (Db t 0 (R.drop 0))) (upS T) :=
 ABG hR t hc hz 0 (by omega) (up1 r) (Ap _) (upS T) (by rw[Ax,hT];rfl)
theorem Sv{R:List Pr}(hR:A7 R)(t:Tm)(hc:t.chk=0)(hz:t.size≤1000000)(r:Nat)(hr:1000≤r)(S:AA)(sr:S r=some (A_ R)):Ah Tryz.prog 77 [.one (.row r R.length),aTm t] S (Eb Tm.nil (t.inn R)) S:=by
 induction h:SizeOf.sizeOf t using Nat.strongRecOn generalizing t r S with
 | _ N ih =>
 subst h;have hs:=Tm.size_eq t;have hln:=Tm.length_le t.args;refine G2.acS fun hS C hC=>?_;unfold Dv;have n3:=AK hS (i:=3) (by omega);have n4:=AK hS (i:=4) (by omega);have n8:=AK hS (i:=8) (by omega);have n11:=AK hS (i:=11) (by omega);have n12:=AK hS (i:=12) (by omega);have n41:=AK hS (i:=41) (by omega);refine Gf (F3 @AS.startS.eq_1 n3 n4) ?_;refine IWP.loopD [8] (fun m s=>∃k,k≤t.args.length∧m=t.args.length-k∧(∀b∈t.args.take k,b.inn R=none)∧s.env 0=.one (.row r R.length)∧s.env 3=.one (.ptr 3 1 0 0)∧s.env 4=.one (.ptr 4 1 0 0)∧s.S 3=some (.box 37 [.st (.str t.name),.st (.list (t.args.map Al))])∧s.S 4=some (.box 37 [.st (.str ⟨#[]⟩),.full []])∧s.S 8=none∧s.S 11=none∧s.S 12=none∧s.S 41=none∧s.env 17=AO t.args.length∧s.env 18=AO k∧∀j,1000≤j→s.S j=S j)
  t.args.length ⟨0,Nat.zero_le _,rfl,by simp,rfl,rfl,rfl,by simp only[go_sem,fN,seval,eT,iR],by simp only[go_sem,fN,seval,eT,iR],by simp only[go_sem,fN,seval,eT,iR,n8],by simp only[go_sem,fN,seval,eT,iR,n11],by simp only[go_sem,fN,seval,eT,iR,n12],by simp only[go_sem,fN,seval,eT,iR,n41],rfl,rfl,fun j hj=>by simp only[go_sem,fN,seval,eT,iR,AF,hj]⟩ ?_
 rintro m ⟨env,S1⟩ ⟨k,hk,rfl,hno,e0,e3,e4,s3,s4,s8,s11,s12,s41,e17,e18,hS1⟩;simp only at e0 e3 e4 s3 s4 s8 s11 s12 s41 e17 e18 hS1;have hr1:=(hS1 r hr).trans sr;by_cases hlt:(k:Int)<t.args.length
 ·obtain⟨a,ha⟩:=Aa (show k<t.args.length by omega);have hmem:=AN ha;have hcon:=fun(T:AA) (hT:T r=some (A_ R))=>ih _ (Tm.lt_of_arg hmem) a ((Tm.chk_args hc).2 a hmem) (by have:=Tm.size_mem hmem;omega) (up1 r) (Ap _) (upS T) (by rw[Ax,hT];rfl) rfl;cases hi:a.inn R with
  | none =>
   rw[hi]at hcon;unfold Eb at hcon;repeat' first|refine Gf (F13 e0 e3 e4 s3 s4 s8 s11 s12 s41 e17 e18 hlt ha) ?_|refine Mm fun K hK=>?_
   refine⟨_,[(r,A_ R)],BC (by simp only[go_sem,fN,seval,eT,iR,AF,hr,hr1]),fun T hT=>hcon T (hT (r,A_ R) (by simp)),?_⟩;repeat' first|refine Gf (F13 e0 e3 e4 s3 s4 s8 s11 s12 s41 e17 e18 hlt ha) ?_|refine Mm fun K hK=>?_
   refine AE ⟨t.args.length-(k+1),by omega,k+1,by omega,rfl,?_,?_⟩
   ·intro b hb;rw[Ab ha]at hb;rcases List.mem_append.1 hb with hb|hb
    ·exact hno b hb
    ·rw[List.mem_singleton.1 hb];exact hi
   ·repeat' refine And.intro ?_ ?_
    all_goals first|(intro j hj;refine BX hS (by decide) hj ?_;have hj2:=hS1 j hj;simp only[go_sem,fN,seval,eT,iR,AF,hj,hj2];done)|(simp only[go_sem,fN,seval,AS.drop,AT,AC.clears,AC.clear,AC.highs,AC.high,zD,AV.purge,AV.purges,AC.purge,AJ.purge,Nat.reduceBEq,eT,iR,e0,e3,e4,s3,s4,s8,s11,s12,s41,e17,e18,BD,hr];done)|(simp only[go_sem,fN,seval,AS.drop,AT,AC.clears,AC.clear,AC.highs,AC.high,zD,AV.purge,AV.purges,AC.purge,AJ.purge,Nat.reduceBEq,eT,iR,e0,e3,e4,s3,s4,s8,s11,s12,s41,e17,e18,BD,hr];congr 3)
  | some q =>
   obtain⟨y,e⟩:=q;rw[hi]at hcon;unfold Eb at hcon;have hin:t.inn R=some (.mk t.name (t.args.set k y),e):=by
    rw[Tm.inn_eq,QT ha hno hi]
   rw[hin];unfold Eb;by_cases he:e=0;all_goals
    repeat' first|refine Gf (F14 e0 e3 e4 s3 s4 s8 s11 s12 s41 e17 e18 hlt ha he) ?_|refine Mm fun K hK=>?_
    refine⟨_,[(r,A_ R)],BC (by simp only[go_sem,fN,seval,eT,iR,AF,hr,hr1]),fun T hT=>hcon T (hT (r,A_ R) (by simp)),?_⟩;repeat' first|refine Gf (F14 e0 e3 e4 s3 s4 s8 s11 s12 s41 e17 e18 hlt ha he) ?_|refine Mm fun K hK=>?_
    refine⟨_,_,_,_,M5 t.args (by omega) (by omega),by simp[AI,s41],?_⟩;refine Wr ?_;simp only[go_sem,fN,seval,eT,iR,e0,e3,e4,s3,s4,s8,s11,s12,s41,e17,e18,hlt,ha,he];refine hK _ ?_;clear hK K;refine Wb ?_;refine IWP.mid (fun x=>x.env 4=.one (.ptr 4 1 0 0)∧x.env 11=.one (.ptr 11 1 0 0)∧x.env 9=AZ true∧x.env 10=AO e∧x.S 4=some (.box 37 [.st (.str ⟨#[]⟩),.full []])∧x.S 11=some (.box 37 [.st (.str t.name),.row 41 t.args.length])∧x.S 41=some (.mrow 37 2 ((t.args.set k y).map Al))∧∀j,1000≤j→x.S j=S j) ?_ ?_
    ·refine Gf (F14 e0 e3 e4 s3 s4 s8 s11 s12 s41 e17 e18 hlt ha he) ?_;refine⟨rfl,?_⟩;simp only[go_sem,fN,seval,eT,iR,e0,e3,e4,s3,s4,s8,s11,s12,s41,e17,e18,hlt,ha,he];refine⟨by rw[List.map_set,Ao],fun j hj=>?_⟩;have hj2:=hS1 j hj;simp only[go_sem,fN,seval,eT,iR,AF,hj,hj2]
    rintro⟨env,S2⟩ ⟨e4,e11,e9,e10,s4,s11,s41,hS2⟩;simp only at e4 e11 e9 e10 s4 s11 s41 hS2;refine IWP.ghost (AY.share (id:=41) s41) ?_;have hl1:(t.args.set k y).length=t.args.length:=by simp
    refine Gf (F7 e4 e11 e9 e10 s4 s11 hl1) ?_;refine BI hS trivial ?_ fun j hj=>?_
    ·simp only[go_sem,fN,seval,eT,iR,AB,AD,AM,Option.bind_some,e4,s4,hl1];all_goals first|rfl|(rw[he];rfl)
    ·have hj2:=hS2 j hj;simp only[go_sem,fN,seval,eT,iR,AF,hj,hj2]
 ·rw[List.take_of_length_le (by omega)]at hno;have hin:t.inn R=DV R t:=by rw[Tm.inn_eq,MO hno]
  rw[hin];have hroot:=AAc hR t hc hz;cases hq:DV R t with
  | none =>
   rw[ABB hq]at hroot;unfold Eb;repeat' first|refine Gf (F12 e0 e3 e4 s3 s4 s8 s11 s12 s41 e17 e18 hlt) ?_|refine Mm fun K hK=>?_
   refine⟨_,[(r,A_ R)],BC (by simp only[go_sem,fN,seval,eT,iR,AF,hr,hr1]),fun T hT=>hroot T r (hT (r,A_ R) (by simp)),?_⟩;repeat' first|refine Gf (F12 e0 e3 e4 s3 s4 s8 s11 s12 s41 e17 e18 hlt) ?_|refine Mm fun K hK=>?_
   refine BI hS trivial ?_ fun j hj=>?_
   ·simp only[go_sem,fN,seval,eT,iR,AB,AD,AM,Option.bind_some,e4,s4];all_goals first|rfl|(rw[he];rfl)
   ·have hj2:=hS1 j hj;simp only[go_sem,fN,seval,eT,iR,AF,hj,hj2]
  | some q =>
   obtain⟨x,e⟩:=q;obtain⟨i,hi⟩:=AA8 hq;rw[hi]at hroot;unfold Eb;repeat' first|refine Gf (F12 e0 e3 e4 s3 s4 s8 s11 s12 s41 e17 e18 hlt) ?_|refine Mm fun K hK=>?_
   refine⟨_,[(r,A_ R)],BC (by simp only[go_sem,fN,seval,eT,iR,AF,hr,hr1]),fun T hT=>hroot T r (hT (r,A_ R) (by simp)),?_⟩;repeat' first|refine Gf (F12 e0 e3 e4 s3 s4 s8 s11 s12 s41 e17 e18 hlt) ?_|refine Mm fun K hK=>?_
   refine BI hS trivial ?_ fun j hj=>?_
   ·simp only[go_sem,fN,seval,eT,iR,AB,AD,AM,Option.bind_some,e4,s4];all_goals first|rfl|(rw[he];rfl)
   ·have hj2:=hS1 j hj;simp only[go_sem,fN,seval,eT,iR,AF,hj,hj2]
theorem ABd{R:List Pr}(hR:A7 R)(t0:Tm)(hc0:t0.chk=0)(hz0:t0.size≤900000)(most:Nat)(hm:most≤1000000)(r:Nat)(hr:1000≤r)(S:AA)(sr:S r=some (A_ R)):Ah Tryz.prog 41 [.one (.row r R.length),aTm t0,AO most] S (L0 (CM (Tm.inn R) most 0 t0)) S:=by
 unfold L0;refine Kt.acS fun hS C hC=>?_;unfold Fq;have n4:=AK hS (i:=4) (by omega);have n6:=AK hS (i:=6) (by omega);have n10:=AK hS (i:=10) (by omega);repeat' first|refine Gf (F3 @AS.startS.eq_1 n4 n6) ?_|refine Mm fun K hK=>?_|refine Cg _ (KJ t0 (by omega)) ?_
 refine IWP.loopD [10] (fun m s=>∃(n:Nat) (t:Tm),n≤most∧m=most-n∧CM (Tm.inn R) most 0 t0=CM (Tm.inn R) (most-n) n t∧t.chk=0∧t.size≤900000∧s.env 0=.one (.row r R.length)∧s.env 2=AO most∧s.env 4=.one (.ptr 4 1 0 0)∧s.env 6=.one (.ptr 6 1 0 0)∧s.env 9=AO n∧s.S 4=some (FA t)∧s.S 6=some P1∧s.S 10=none∧∀j,1000≤j→s.S j=S j)
  most ⟨0,t0,by omega,by omega,rfl,hc0,hz0,rfl,rfl,rfl,rfl,rfl,by simp only[go_sem,fN,seval,eT,iR],by simp only[go_sem,fN,seval,eT,iR],by simp only[go_sem,fN,seval,eT,iR,n10],fun j hj=>by simp only[go_sem,fN,seval,eT,iR,AF,hj]⟩ ?_
 rintro m ⟨env,S1⟩ ⟨n,t,hn,rfl,hend,hc,hz,e0,e2,e4,e6,e9,s4,s6,s10,hS1⟩;simp only at e0 e2 e4 e6 e9 s4 s6 s10 hS1;rw[hend];have hr1:=(hS1 r hr).trans sr;have hcon:=fun(T:AA) (hT:T r=some (A_ R))=>Sv hR t hc (by omega) (up1 r) (Ap _) (upS T) (by rw[Ax,hT];rfl);cases hs:t.inn R with
 | none =>
  rw[hs]at hcon;unfold Eb at hcon;rw[Hv hs];repeat' first|refine Gf (F8 e0 e2 e4 e6 e9 s4 s6 s10) ?_|refine Mm fun K hK=>?_
  refine⟨_,[(r,A_ R)],BC (by simp only[go_sem,fN,seval,eT,iR,AF,hr,hr1]),fun T hT=>hcon T (hT (r,A_ R) (by simp)),?_⟩;repeat' first|refine Gf (F8 e0 e2 e4 e6 e9 s4 s6 s10) ?_|refine Mm fun K hK=>?_
  refine BI hS trivial ?_ fun j hj=>?_
  ·simp only[go_sem,fN,seval,eT,iR,AB,AD,AM,Option.bind_some,e6,s6];all_goals first|rfl|(rw[he];rfl)
  ·have hj2:=hS1 j hj;simp only[go_sem,fN,seval,eT,iR,AF,hj,hj2]
 | some q =>
  obtain⟨x,e⟩:=q;rw[hs]at hcon;unfold Eb at hcon;obtain⟨g1,g2,g3⟩:=Js hR hc hs;by_cases hmost:n=most
  ·have hmi:(n:Int)=most:=by omega
   rw[show most-n=0 by omega,H4 hs];repeat' first|refine Gf (F9 e0 e2 e4 e6 e9 s4 s6 s10 hmi) ?_|refine Mm fun K hK=>?_
   refine⟨_,[(r,A_ R)],BC (by simp only[go_sem,fN,seval,eT,iR,AF,hr,hr1]),fun T hT=>hcon T (hT (r,A_ R) (by simp)),?_⟩;repeat' first|refine Gf (F9 e0 e2 e4 e6 e9 s4 s6 s10 hmi) ?_|refine Mm fun K hK=>?_
   refine BI hS trivial ?_ fun j hj=>?_
   ·simp only[go_sem,fN,seval,eT,iR,AB,AD,AM,Option.bind_some,e6,s6];all_goals first|rfl|(rw[he];rfl)
   ·have hj2:=hS1 j hj;simp only[go_sem,fN,seval,eT,iR,AF,hj,hj2]
  have hmi:¬(n:Int)=most:=by omega
  obtain⟨k,hk⟩:∃k,most-n=k+1:=⟨most-n-1,by omega⟩
  rw[hk];by_cases he:e=0
  case neg =>
   rw[JH hs he];repeat' first|refine Gf (F10 e0 e2 e4 e6 e9 s4 s6 s10 hmi he) ?_|refine Mm fun K hK=>?_
   refine⟨_,[(r,A_ R)],BC (by simp only[go_sem,fN,seval,eT,iR,AF,hr,hr1]),fun T hT=>hcon T (hT (r,A_ R) (by simp)),?_⟩;repeat' first|refine Gf (F10 e0 e2 e4 e6 e9 s4 s6 s10 hmi he) ?_|refine Mm fun K hK=>?_
   refine BI hS trivial ?_ fun j hj=>?_
   ·simp only[go_sem,fN,seval,eT,iR,AB,AD,AM,Option.bind_some,e6,s6];all_goals first|rfl|(rw[he];rfl)
   ·have hj2:=hS1 j hj;simp only[go_sem,fN,seval,eT,iR,AF,hj,hj2]
  case pos =>
  subst he;have hsz:=GZ x (by omega);by_cases hgr:(2000:Int)<x.size
  ·rw[GV hs (by omega)];repeat' first|refine Gf (F10 e0 e2 e4 e6 e9 s4 s6 s10 hmi hgr) ?_|refine Mm fun K hK=>?_
   refine⟨_,[(r,A_ R)],BC (by simp only[go_sem,fN,seval,eT,iR,AF,hr,hr1]),fun T hT=>hcon T (hT (r,A_ R) (by simp)),?_⟩;repeat' first|refine Gf (F10 e0 e2 e4 e6 e9 s4 s6 s10 hmi hgr) ?_|refine Mm fun K hK=>?_|refine Cg _ (hsz) ?_
   refine BI hS trivial ?_ fun j hj=>?_
   ·simp only[go_sem,fN,seval,eT,iR,AB,AD,AM,Option.bind_some,e6,s6];all_goals first|rfl|(rw[he];rfl)
   ·have hj2:=hS1 j hj;simp only[go_sem,fN,seval,eT,iR,AF,hj,hj2]
  ·repeat' first|refine Gf (F10 e0 e2 e4 e6 e9 s4 s6 s10 hmi hgr) ?_|refine Mm fun K hK=>?_
   refine⟨_,[(r,A_ R)],BC (by simp only[go_sem,fN,seval,eT,iR,AF,hr,hr1]),fun T hT=>hcon T (hT (r,A_ R) (by simp)),?_⟩;repeat' first|refine Gf (F10 e0 e2 e4 e6 e9 s4 s6 s10 hmi hgr) ?_|refine Mm fun K hK=>?_|refine Cg _ (hsz) ?_
   refine AE ⟨most-(n+1),by omega,n+1,x,by omega,rfl,?_,g2 rfl,by omega,?_⟩
   ·rw[show most-(n+1)=k by omega];exact L5 hs (by omega) k n
   ·repeat' refine And.intro ?_ ?_
    all_goals first|(intro j hj;refine BX hS (by decide) hj ?_;have hj2:=hS1 j hj;simp only[go_sem,fN,seval,eT,iR,AF,hj,hj2];done)|(simp only[go_sem,fN,seval,AS.drop,AT,AC.clears,AC.clear,AC.highs,AC.high,zD,AV.purge,AV.purges,AC.purge,AJ.purge,Nat.reduceBEq,eT,iR,e0,e2,e4,e6,e9,s4,s6,s10,BD,hr];done)|(simp only[go_sem,fN,seval,AS.drop,AT,AC.clears,AC.clear,AC.highs,AC.high,zD,AV.purge,AV.purges,AC.purge,AJ.purge,Nat.reduceBEq,eT,iR,e0,e2,e4,e6,e9,s4,s6,s10,BD,hr];congr 3)

def BF:IR :=
 (.seq (.ops [.i 2 (.mov (.c (.one (.full []))))]) (.seq (.seq (.ops [.m 3 0,.i 4 (.eqN false (.t 3))]) (.cond (.t 4) (.seq (.ops [.i 2 (.mov (.c (.one (.full []))))]) .ret) .skip)) (.seq (.ops [.i 5 (.buildSlice false 40 4 []),.m 6 0,.i 7 (.append false 40 4 80 (.t 5) (.t 6)),.m 2 7]) .ret)))
theorem CB:OkF Tryz.prog 33 8 [] BF [.t 2]:=.of Tryz.func33 rfl rfl (by kernel_rfl) rfl
def CT:IR :=
 (.seq (.ops [.i 3 (.box 40 (.t 1)),.i 4 (.mov (.n 0))]) (.seq (.seq (.ops [.f 22 0 3,.L 23 2 22,.i 24 (.call 44 [.t 23]),.i 25 (.bin .gtr (.t 24) (.n 200)),.m 26 25,.mk (some 27) (some (26,false)) (.fieldAddr 2 (.t 3)) .no,.mk (some 28) (some (26,false)) (.load true 2 (.t 27)) .no,.mk (some 29) (some (26,false)) (.call 44 [.t 28]) .no,.mk (some 30) (some (26,false)) (.bin .gtr (.t 29) (.n 200)) .no,.i 31 (.pick (.t 26) (.c (.one (.st (.bool true)))) (.t 30))]) (.cond (.t 31) (.seq (.ops [.i 4 (.mov (.n 8))]) .ret) .skip)) (.seq (.ops [.L 32 4 3,.i 33 (.buildSlice false 40 4 [.t 32]),.m 5 33]) (.seq (.ops [.i 6 (.mov (.c (.one (.full []))))]) (.seq (.seq (.ops [.m 34 0,.i 35 (.nilCheck (.t 34)),.f 36 1 35,.l 37 36,.i 38 (.len false (.t 37)),.i 39 (.mov (.n 0))]) (.block 0 (.loop (.seq (.ops [.i 40 (.bin .lss (.t 39) (.t 38))]) (.seq (.cond (.t 40) .skip (.exit 0)) (.seq (.block 1 (.seq (.ops [.i 41 (.indexAddr 4 (.t 37) (.t 39)),.L 42 4 41,.i 8 (.alloc 40 [.st (.str (ByteArray.mk (#[]))),.full [],.st (.str (ByteArray.mk (#[]))),.full []]),.s 4 8 42]) (.seq (.ops [.m 44 5,.f 45 0 8,.L 46 2 45,.i 47 (.call 45 [.t 44,.t 46]),.m 43 47,.i 48 (.extract 0 (.t 43)),.i 49 (.extract 1 (.t 43)),.m 9 48,.m 10 49]) (.seq (.ops [.m 50 9,.i 51 (.len false (.t 50)),.i 52 (.bin .gtr (.t 51) (.n 0))]) (.cond (.t 52) (.ops [.m 53 0,.m 54 0,.i 55 (.nilCheck (.t 54)),.f 56 2 55,.l 57 56,.L 58 4 8,.i 59 (.buildSlice false 40 4 [.t 58]),.i 60 (.append false 40 4 80 (.t 57) (.t 59)),.i 61 (.nilCheck (.t 53)),.f 62 2 61,.s 1 62 60]) (.ops [.m 63 6,.L 64 4 8,.i 65 (.buildSlice false 40 4 [.t 64]),.i 66 (.append true 40 4 80 (.t 63) (.t 65)),.m 6 66])))))) (.ops [.i 67 (.bin .add (.t 39) (.n 1)),.m 39 67]))))))) (.seq (.ops [.m 68 0,.m 69 6,.L 70 4 3,.i 71 (.buildSlice false 40 4 [.t 70]),.i 72 (.append true 40 4 80 (.t 69) (.t 71)),.i 73 (.nilCheck (.t 68)),.f 74 1 73,.s 1 74 72]) (.seq (.seq (.ops [.m 75 0,.i 76 (.nilCheck (.t 75)),.f 77 1 76,.l 78 77,.i 79 (.len false (.t 78)),.i 80 (.bin .gtr (.t 79) (.n 40))]) (.cond (.t 80) (.seq (.ops [.i 4 (.mov (.n 3))]) .ret) .skip)) (.seq (.seq (.ops [.m 81 0,.i 82 (.nilCheck (.t 81)),.f 83 1 82,.l 84 83,.i 85 (.len false (.t 84)),.i 86 (.mov (.n 0))]) (.block 2 (.loop (.seq (.ops [.i 87 (.bin .lss (.t 86) (.t 85))]) (.seq (.cond (.t 87) .skip (.exit 2)) (.seq (.block 3 (.seq (.ops [.m 88 86,.m 11 88]) (.seq (.ops [.m 90 0,.i 91 (.nilCheck (.t 90)),.f 92 1 91,.l 93 92,.m 94 0,.i 95 (.nilCheck (.t 94)),.f 96 1 95,.l 97 96,.m 98 11,.i 99 (.indexAddr 4 (.t 97) (.t 98)),.f 100 2 99,.L 101 2 100,.i 102 (.callR 41 [.t 93,.t 101,.n 100]),.m 89 102,.i 103 (.extract 0 (.t 89)),.i 104 (.extract 1 (.t 89)),.i 105 (.extract 2 (.t 89)),.i 12 (.alloc 37 [.st (.str (ByteArray.mk (#[]))),.full []]),.s 2 12 103,.m 13 104,.m 14 105]) (.seq (.seq (.ops [.m 106 14,.i 107 (.bin .neq (.t 106) (.n 0))]) (.cond (.t 107) (.seq (.ops [.m 108 14,.m 4 108]) .ret) .skip)) (.seq (.seq (.ops [.L 109 2 12,.i 110 (.call 44 [.t 109]),.i 111 (.bin .gtr (.t 110) (.n 200))]) (.cond (.t 111) (.seq (.ops [.i 4 (.mov (.n 8))]) .ret) .skip)) (.ops [.m 112 0,.i 113 (.nilCheck (.t 112)),.f 114 1 113,.l 115 114,.m 116 11,.L 117 2 12,.i 118 (.indexAddr 4 (.t 115) (.t 116)),.f 119 2 118,.s 2 119 117])))))) (.ops [.i 120 (.bin .add (.t 86) (.n 1)),.m 86 120]))))))) (.seq (.ops [.m 121 0,.i 122 (.nilCheck (.t 121)),.f 123 1 122,.l 124 123,.m 125 0,.i 126 (.nilCheck (.t 125)),.f 127 1 126,.l 128 127,.i 129 (.len false (.t 128)),.i 130 (.bin .sub (.t 129) (.n 1)),.i 131 (.indexAddr 4 (.t 124) (.t 130)),.L 132 4 131,.s 4 3 132]) (.seq (.seq (.ops [.m 133 0,.i 134 (.nilCheck (.t 133)),.f 135 1 134,.l 136 135,.i 137 (.len false (.t 136)),.i 138 (.mov (.n 0))]) (.block 4 (.loop (.seq (.ops [.i 139 (.bin .lss (.t 138) (.t 137))]) (.seq (.cond (.t 139) .skip (.exit 4)) (.seq (.block 5 (.seq (.ops [.m 140 138,.i 141 (.indexAddr 4 (.t 136) (.t 138)),.L 142 4 141,.i 16 (.alloc 40 [.st (.str (ByteArray.mk (#[]))),.full [],.st (.str (ByteArray.mk (#[]))),.full []]),.m 15 140,.s 4 16 142]) (.seq (.ops [.m 143 15,.m 144 0,.i 145 (.nilCheck (.t 144)),.f 146 1 145,.l 147 146,.i 148 (.len false (.t 147)),.i 149 (.bin .sub (.t 148) (.n 1)),.i 150 (.bin .eql (.t 143) (.t 149)),.m 17 150]) (.seq (.ops [.L 151 4 16,.L 152 4 3,.i 153 (.build [.st (.str (ByteArray.mk (#[]))),.full [],.st (.str (ByteArray.mk (#[]))),.full [],.st (.str (ByteArray.mk (#[]))),.full [],.st (.str (ByteArray.mk (#[]))),.full []] [(0,4,.t 151),(4,4,.t 152)]),.L 154 4 3,.L 155 4 16,.i 156 (.build [.st (.str (ByteArray.mk (#[]))),.full [],.st (.str (ByteArray.mk (#[]))),.full [],.st (.str (ByteArray.mk (#[]))),.full [],.st (.str (ByteArray.mk (#[]))),.full []] [(0,4,.t 154),(4,4,.t 155)]),.i 157 (.buildSlice false 134 8 [.t 153,.t 156]),.i 158 (.len false (.t 157)),.i 159 (.mov (.n 0))]) (.block 6 (.loop (.seq (.ops [.i 160 (.bin .lss (.t 159) (.t 158))]) (.seq (.cond (.t 160) .skip (.exit 6)) (.seq (.block 7 (.seq (.ops [.i 161 (.indexAddr 8 (.t 157) (.t 159)),.L 162 8 161,.i 19 (.alloc 134 [.st (.str (ByteArray.mk (#[]))),.full [],.st (.str (ByteArray.mk (#[]))),.full [],.st (.str (ByteArray.mk (#[]))),.full [],.st (.str (ByteArray.mk (#[]))),.full []]),.s 8 19 162]) (.seq (.ops [.i 164 (.indexArr 2 4 (.t 19) (.n 0)),.L 165 4 164,.i 166 (.indexArr 2 4 (.t 19) (.n 1)),.L 167 4 166,.m 168 17,.i 169 (.call 74 [.t 165,.t 167,.t 168]),.m 163 169,.i 170 (.extract 0 (.t 163)),.i 171 (.extract 1 (.t 163)),.m 20 170,.m 21 171]) (.seq (.seq (.ops [.m 172 21,.i 173 (.bin .neq (.t 172) (.n 0))]) (.cond (.t 173) (.seq (.ops [.m 174 21,.m 4 174]) .ret) .skip)) (.seq (.ops [.m 175 0,.m 176 0,.i 177 (.nilCheck (.t 176)),.f 178 2 177,.l 179 178,.m 180 20,.i 181 (.append false 40 4 80 (.t 179) (.t 180)),.i 182 (.nilCheck (.t 175)),.f 183 2 182,.s 1 183 181]) (.seq (.ops [.m 184 17]) (.cond (.t 184) (.exit 6) .skip))))))) (.ops [.i 185 (.bin .add (.t 159) (.n 1)),.m 159 185])))))))))) (.ops [.i 186 (.bin .add (.t 138) (.n 1)),.m 138 186]))))))) (.seq (.seq (.ops [.m 187 0,.i 188 (.nilCheck (.t 187)),.f 189 2 188,.l 190 189,.i 191 (.len false (.t 190)),.i 192 (.bin .gtr (.t 191) (.n 400))]) (.cond (.t 192) (.seq (.ops [.i 4 (.mov (.n 3))]) .ret) .skip)) (.seq (.ops [.i 4 (.mov (.n 0))]) .ret))))))))))))
theorem Ds:OkF Tryz.prog 72 193 [66,72,40000102] CT [.t 4]:=.of Tryz.func72 rfl rfl (by kernel_rfl) rfl
def CR:IR :=
 (.seq (.ops [.i 3 (.box 40 (.t 1)),.i 4 (.mov (.n 0))]) (.seq (.ops [.m 12 0,.i 13 (.nilCheck (.t 12)),.f 14 1 13,.l 15 14,.f 16 0 3,.L 17 2 16,.i 18 (.call 41 [.t 15,.t 17,.n 100]),.m 11 18,.i 19 (.extract 0 (.t 11)),.i 20 (.extract 1 (.t 11)),.i 21 (.extract 2 (.t 11)),.i 5 (.alloc 37 [.st (.str (ByteArray.mk (#[]))),.full []]),.s 2 5 19,.m 6 20,.m 7 21]) (.seq (.seq (.ops [.m 22 7,.i 23 (.bin .neq (.t 22) (.n 0))]) (.cond (.t 23) (.seq (.ops [.m 24 7,.m 4 24]) .ret) .skip)) (.seq (.ops [.m 26 0,.i 27 (.nilCheck (.t 26)),.f 28 1 27,.l 29 28,.f 30 2 3,.L 31 2 30,.i 32 (.call 41 [.t 29,.t 31,.n 100]),.m 25 32,.i 33 (.extract 0 (.t 25)),.i 34 (.extract 1 (.t 25)),.i 35 (.extract 2 (.t 25)),.i 8 (.alloc 37 [.st (.str (ByteArray.mk (#[]))),.full []]),.s 2 8 33,.m 9 34,.m 7 35]) (.seq (.seq (.ops [.m 36 7,.i 37 (.bin .neq (.t 36) (.n 0))]) (.cond (.t 37) (.seq (.ops [.m 38 7,.m 4 38]) .ret) .skip)) (.seq (.block 0 (.seq (.ops [.L 40 2 5,.L 41 2 8,.i 42 (.call 69 [.t 40,.t 41]),.m 39 42]) (.cond (.t 39) (.seq (.ops [.i 4 (.mov (.n 0))]) .ret) (.seq (.ops [.m 44 0,.i 45 (.nilCheck (.t 44)),.f 46 0 45,.l 47 46,.L 48 2 5,.L 49 2 8,.i 50 (.call 70 [.t 47,.t 48,.t 49]),.m 43 50]) (.cond (.t 43) .skip (.seq (.ops [.m 52 0,.i 53 (.nilCheck (.t 52)),.f 54 0 53,.l 55 54,.L 56 2 8,.L 57 2 5,.i 58 (.call 70 [.t 55,.t 56,.t 57]),.m 51 58]) (.cond (.t 51) (.ops [.L 59 2 8,.L 60 2 5,.s 2 5 59,.s 2 8 60]) (.seq (.ops [.i 4 (.mov (.n 14))]) .ret)))))))) (.seq (.ops [.L 61 2 5,.L 62 2 8,.i 63 (.buildSlice false 37 2 [.t 61,.t 62]),.i 64 (.call 71 [.t 63]),.m 10 64]) (.seq (.ops [.m 65 0,.m 66 10,.i 67 (.indexAddr 2 (.t 66) (.n 0)),.L 68 2 67,.m 69 10,.i 70 (.indexAddr 2 (.t 69) (.n 1)),.L 71 2 70,.i 72 (.build [.st (.str (ByteArray.mk (#[]))),.full [],.st (.str (ByteArray.mk (#[]))),.full []] [(0,2,.t 68),(2,2,.t 71)]),.i 73 (.callX 72 [.t 65,.t 72]),.m 4 73]) .ret))))))))
theorem Dh:OkF Tryz.prog 34 74 [80000073] CR [.t 4]:=.of Tryz.func34 rfl rfl (by kernel_rfl) rfl
def EO:IR :=
 (.seq (.ops [.i 6 (.mov (.c (.one (.full [])))),.i 7 (.mov (.n 0))]) (.seq (.ops [.m 13 0,.i 14 (.call 31 [.t 13]),.m 8 14]) (.seq (.seq (.ops [.m 15 8,.i 16 (.bin .eql (.t 15) (.n 0))]) (.cond (.t 16) (.ops [.m 17 1,.i 18 (.call 32 [.t 17]),.m 8 18]) .skip)) (.seq (.seq (.ops [.m 19 8,.i 20 (.bin .eql (.t 19) (.n 0)),.m 21 20,.mk (some 22) (some (21,true)) (.mov (.t 2)) .no,.mk (some 23) (some (21,true)) (.bin .lss (.t 22) (.n 0)) .no,.mk (some 24) (some (21,true)) (.mov (.t 23)) .no,.mk (some 25) (some (24,false)) (.mov (.t 2)) .no,.mk (some 26) (some (24,false)) (.bin .gtr (.t 25) (.n 60)) .no,.mk (some 27) (some (21,true)) (.pick (.t 24) (.c (.one (.st (.bool true)))) (.t 26)) .no,.i 28 (.pick (.t 21) (.t 27) (.c (.one (.st (.bool false)))))]) (.cond (.t 28) (.ops [.i 8 (.mov (.n 10))]) .skip)) (.seq (.seq (.ops [.m 29 8,.i 30 (.bin .neq (.t 29) (.n 0))]) (.cond (.t 30) (.seq (.ops [.m 31 8,.i 6 (.mov (.c (.one (.full [])))),.m 7 31]) .ret) .skip)) (.seq (.ops [.m 32 0,.m 33 1,.i 34 (.callN 33 [.t 33]),.i 35 (.build [.full [],.full [],.full []] [(0,1,.t 32),(2,1,.t 34)]),.i 36 (.box 65 (.t 35)),.m 9 36]) (.seq (.seq (.ops [.i 10 (.mov (.n 0))]) (.block 0 (.loop (.seq (.seq (.ops [.m 37 9,.i 38 (.nilCheck (.t 37)),.f 39 2 38,.l 40 39,.i 41 (.len false (.t 40)),.i 42 (.bin .gtr (.t 41) (.n 0))]) (.cond (.t 42) .skip (.exit 0))) (.seq (.block 1 (.seq (.seq (.ops [.m 45 10,.m 46 2,.i 47 (.bin .eql (.t 45) (.t 46))]) (.cond (.t 47) (.seq (.ops [.i 6 (.mov (.c (.one (.full [])))),.i 7 (.mov (.n 9))]) .ret) .skip)) (.seq (.ops [.m 48 9,.i 49 (.nilCheck (.t 48)),.f 50 2 49,.l 51 50,.i 52 (.indexAddr 4 (.t 51) (.n 0)),.L 53 4 52,.i 11 (.alloc 40 [.st (.str (ByteArray.mk (#[]))),.full [],.st (.str (ByteArray.mk (#[]))),.full []]),.s 4 11 53]) (.seq (.ops [.m 54 9,.m 55 9,.i 56 (.nilCheck (.t 55)),.f 57 2 56,.l 58 57,.i 59 (.restP 4 (.t 58) (.n 1)),.i 60 (.nilCheck (.t 54)),.f 61 2 60,.s 1 61 59]) (.seq (.ops [.m 62 9,.L 63 4 11,.i 64 (.callW 34 [.t 62,.t 63]),.m 12 64]) (.seq (.ops [.m 65 12,.i 66 (.bin .neq (.t 65) (.n 0))]) (.cond (.t 66) (.seq (.ops [.m 67 12,.i 6 (.mov (.c (.one (.full [])))),.m 7 67]) .ret) .skip))))))) (.ops [.m 43 10,.i 44 (.bin .add (.t 43) (.n 1)),.m 10 44])))))) (.seq (.ops [.m 68 9,.i 69 (.nilCheck (.t 68)),.f 70 1 69,.l 71 70,.m 6 71,.i 7 (.mov (.n 0))]) .ret))))))))
theorem HI:OkF Tryz.prog 10 72 [20000034,30000059,50000064] EO [.t 6,.t 7]:=.of Tryz.func10 rfl rfl (by kernel_rfl) rfl

def AA7(P:Program)(f:FuncId)(caps:List AV)(Need:AA→Prop){α:Type}(encs:α→List AV)(all:List α):Prop :=
 ∀(y:Nat) (Inv:List α→AA→Prop) (Jx:AA→Prop) (T:AA),1000≤y→(∀pre T,Inv pre T→Need T) →
  (∀pre v,(pre++[v]) <+: all→∀T,Inv pre T→J4 P (.one (.yld y)) (encs v) T fun r T'=>(r=.one (.st (.bool true))∧Inv (pre++[v]) T')∨(r=.one (.st (.bool false))∧Jx T')) →
  Inv [] T→E_ P f (.one (.yld y)::caps) T fun _ T'=>Inv all T'∨Jx T'
def Px(env:Nat→AV):List Nat→List AV→Nat→AV
 | p::ps,v::vs=>Px (AI env p v) ps vs
 | _,_=>env
section
variable {σ:Sto} {S:AA} {ι:A6}
theorem PL{n:Nat}:∀{ps:List Nat} {vs:List Value} {xs:List AV} {tmps:Array Value} {env:Nat→AV},An (Ae σ S ι) vs xs→n≤tmps.size→(∀i,i<n→Ae σ S ι (tmps.getD i undef) (env i)) →
  n≤((ps.zip vs).foldl (fun t (p,v)=>t.setIfInBounds p v) tmps).size∧∀i,i<n→Ae σ S ι (((ps.zip vs).foldl (fun t (p,v)=>t.setIfInBounds p v) tmps).getD i undef) (Px env ps xs i)
 | [],vs,xs,tmps,env,h,hs,he=>⟨hs,he⟩
 | p::ps,[],[],tmps,env,h,hs,he=>⟨hs,he⟩
 | p::ps,v::vs,x::xs,tmps,env,h,hs,he=>by
  cases h with
  | cons h1 h2 =>
   refine PL (ps:=ps) h2 (by simpa using hs) fun i hi=>?_;unfold AI;by_cases e:i=p
   ·subst e;rw[if_pos rfl,Array.getD_eq_getD_getElem?,Array.getElem?_setIfInBounds_self_of_lt (by omega)];exact h1
   ·rw[if_neg e,Array.getD_eq_getD_getElem?,Array.getElem?_setIfInBounds_ne (fun h=>e h.symm),←Array.getD_eq_getD_getElem?];exact he i hi
end
section
variable {P:Program} {C:Ctx} {mu:List Nat} {Q:AX→AS→Prop} {s:AS} {x y:IR} {σ:Sto} {ι:A6} {a:Act} {w:World}
theorem Ac.upped(R:Ac C σ ι s a w):∃ι1:A6,(∀i,ι1 (up1 i)=ι i)∧Fi σ (upS s.S) ι1 w∧(∀v c,Ae σ s.S ι v c→Ae σ (upS s.S) ι1 v (c.ren up1)) ∧
  ∀{Post:AV→AA→Prop} {e:Ending} {w':World},UW σ (upS s.S) ι1 w Post e w'→∃v r S' σ' ι2,e=.returned v∧Post r S'∧Ay S'∧Upd s.S ι (dnS S') ι2∧Ac C σ' ι2 ⟨s.env,dnS S'⟩ a w':=by
 have hup:∀i,dn1 (up1 i)=i:=M1;have hS:∀i b,s.S i=some b→upS s.S (up1 i)=some (b.ren up1):=fun i b hb=>EP hb;obtain⟨ι1,hι1⟩:∃ι1:A6,∀i,ι1 i=ι (dn1 i):=⟨fun i=>ι (dn1 i),fun _=>rfl⟩
 have hι:∀i b,s.S i=some b→ι1 (up1 i)=ι i:=fun i b _=>by rw[hι1,hup]
 have hown:Fi σ (upS s.S) ι1 w:=by
  refine⟨fun id b hb=>?_,fun id id' b b' g h1 h2 g1 g2=>?_⟩
  ·obtain⟨hle,b',h1,rfl⟩:=FC hb;have:=CA.ren (S2:=upS s.S) (ι2:=ι1) (ρ:=up1) hS hι (R.blk _ _ h1);rw[hι1];exact this
  ·obtain⟨l1,c1,k1,_⟩:=FC h1;obtain⟨l2,c2,k2,_⟩:=FC h2;rw[hι1]at g1 g2;have:=R.inj _ _ _ _ g k1 k2 g1 g2;rw[←NT l1,←NT l2,this]
 refine⟨ι1,fun i=>by rw[hι1,hup],hown,fun v c hv=>Ae.ren (S2:=upS s.S) (ι2:=ι1) (ρ:=up1) hS hι hv,fun {Post e w'} he=>?_⟩;obtain⟨v,r,S',σ',ι',rfl,hP,hclean,hupd,hown',hv,hf',hkeep,hold,hos,hsz,hsame,hbase⟩:=he;have hSd:∀i b,S' i=some b→dnS S' (dn1 i)=some (b.ren dn1):=fun i b hb=>Hd (hclean i b hb).1 hb;obtain⟨ι2,hι2⟩:∃ι2:A6,∀i,ι2 i=ι' (up1 i):=⟨fun i=>ι' (up1 i),fun _=>rfl⟩
 have hιd:∀i b,S' i=some b→ι2 (dn1 i)=ι' i:=fun i b hb=>by
  rw[hι2,NT (hclean i b hb).1]
 have hu:Upd s.S ι (dnS S') ι2:=fun id b hb=>by
  obtain⟨b',h1,h2,h3⟩:=hupd _ _ (hS id b hb);have h4:=hSd _ _ h1;rw[hup]at h4;refine⟨_,h4,by rw[CL]at h2 ⊢;exact h2,fun hl=>?_⟩;rw[CL]at hl;obtain⟨q1,q2⟩:=h3 (by rw[CL];exact hl);refine⟨by rw[MA]at q1 ⊢;exact q1,?_⟩;rw[hι2,q2,hι1,hup]
 have hnot:∀g,g<C.N→¬C.G g→C3 (upS s.S) ι1 g:=fun g h1 h2 id b hb hg=>by
  obtain⟨_,b',k1,_⟩:=FC hb;rw[hι1]at hg;rcases R.base _ _ g k1 hg with h|h
  ·omega
  ·exact h2 h
 refine⟨v,r,S',σ',ι2,rfl,hP,hclean,hu,?_⟩;refine⟨R.size,fun i hi=>(R.env i hi).mono hkeep hu,R.nod.mono (fun D h=>(hsame D (Array.getElem?_eq_some_iff.1 h).1 (GN hown.1 h)).trans h),hf',fun id b hb=>?_,fun id id' b b' g h1 h2 g1 g2=>?_,fun id b g hb hg=>?_,fun p x hx=>hkeep _ _ (R.ext p x hx),fun p h1 h2=>?_,⟨hos.1.trans R.os.1,hos.2.1.trans R.os.2.1,hos.2.2.trans R.os.2.2⟩,⟨Nat.le_trans R.grown.1 hsz,Nat.le_trans R.grown.2 hsz⟩,fun g h1 h2=>?_,R.upd.trans hu⟩
 ·obtain⟨b',h1,rfl⟩:=FH hb;have:=CA.ren (S2:=dnS S') (ι2:=ι2) (ρ:=dn1) hSd hιd (hown'.1 _ _ h1);rw[hι2];exact this
 ·obtain⟨c1,k1,_⟩:=FH h1;obtain⟨c2,k2,_⟩:=FH h2;rw[hι2]at g1 g2;have:=congrArg dn1 (hown'.2 _ _ _ _ g k1 k2 g1 g2);rw[hup,hup]at this;exact this
 ·obtain⟨b',h1,_⟩:=FH hb;rw[hι2]at hg;rcases hbase _ _ g h1 hg with h2|h2
  ·exact .inl (by have:=R.grown.1;omega)
  ·by_cases hN:g<C.N
   ·by_cases hG:C.G g
    ·exact .inr hG
    ·exact absurd (hnot g hN hG) h2
   ·exact .inl (by omega)
 ·exact(hold p (by have:=R.grown.1;omega) (hnot _ h1 h2)).trans (R.old p h1 h2)
 ·exact(hsame g (by have:=R.grown.1;omega) (hnot g h1 h2)).trans (R.same g h1 h2)
theorem Ac.setLoop(R:Ac C σ ι s a w){id l:Nat}{env:List AV}{r:Loop}(r':Loop)(hS:s.S id=some (.loop env r))(hl:(ι id).g=some l)(hr:r'.tmps=r.tmps):w.heap[l]?=some (.loop r)∧∃ι',Ac C σ ι' (s.set id (.loop env r')) a (w.putObj l (.loop r'))∧Upd s.S ι (s.set id (.loop env r')).S ι':=by
 have hb:=R.blk id _ hS;cases hb with
 | loop h1 h2 h3 h4 h5 =>
  rw[hl]at h1;cases h1;exact⟨h2,R.setBlk (o':=.loop r') hS hl h2 h5 rfl rfl fun S' ι' hu=>.loop hl (Dd h2).1 (by rw[hr];exact h3) (fun j a ha=>by rw[hr];exact(h4 j a ha).mono (fun _ _ h=>h) hu) h5⟩
def RC(C:Ctx)(y:Nat)(b:AJ)(N:AA→Prop)(Jx:AX→AA→Prop)(e:AX)(s:AS):Prop:=∃s2 U,AY C s s2∧s2.S=AI U y (some b)∧Ay s2.S∧U y=none∧match e with
 | .normal=>N U
 | .ret=>Jx .ret U
 | .exit i=>Jx (.exit i) U
 | .pan _=>False
theorem GY{C:Ctx}{σ0:Sto}{T:AA}{ι0:A6}{w0:World}(hC:C.N=w0.heap.size)(hw:C.w0=w0)(hσ:C.σ0=σ0)(hG:∀g,C.G g↔¬C3 T ι0 g)(hS0:C.S0=T)(hι0:C.ι0=ι0)(R:Ac C σ ι s a w)(hc:Ay s.S){Post:AV→AA→Prop}{b:Bool}(hP:Post (.one (.st (.bool b))) s.S):UW σ0 T ι0 w0 Post (.returned (.bool b)) w:=by
 have hupd:=R.upd;rw[hS0,hι0]at hupd;subst hσ hw;exact⟨.bool b,_,s.S,σ,ι,rfl,hP,hc,hupd,⟨R.blk,R.inj⟩,.one (.st .bool),R.fit,R.ext,fun p h1 h2=>R.old p (by rw[hC];exact h1) (fun h=>(hG _).1 h h2),R.os,R.grown.2,fun g h1 h2=>R.same g (by rw[hC];exact h1) (fun h=>(hG _).1 h h2),fun id b g h1 h2=>(R.base id b g h1 h2).imp (fun h=>by rw[←hC];exact h) fun h=>(hG _).1 h⟩
theorem Pi{S:AA}{i:Nat}{b c:Option AJ}:AI (AI S i b) i c=AI S i c:=by
 funext j;unfold AI;split <;> rfl
inductive AAn:Code→AX→Prop
 | ret:AAn .ret .ret
 | exit (i:Nat):AAn (.exit i) (.exit i)
theorem Yp{fn:FuncId}{ps:Array Tmp}{ca cb:Code}{D:Nat}{n:Nat}{env:List AV}{tmps:Array Value}(hx:Bf P n mu ca=some x)(hy:Bf P n mu cb=some y)(hn:env.length=n){yb:Nat}(hyb:1000≤yb){rec:LoopState→Option Code→Loop}(hrec:rec=fun st pe=>{ state:=st,pending:=pe,fn,tmps,params:=ps,assign:=ca,body:=cb,defers:=D }){vs:List AV}(hps:vs.length=ps.size)
  {U:AA} (hU:U yb=none) {N:AA→Prop} {Jx:AX→AA→Prop}
  (h:Ay (AI U yb (some (.loop env (rec .ready none))))→∀C':Ctx,C'.n=n→IWP P C' mu x (AX.then (fun s1=>s1.S yb=some (.loop env (rec .ready none))∧IWP P C' mu y (RC C' yb (.loop env (rec .busy none)) N Jx) (s1.set yb (.loop env (rec .busy none)))) fun _ _=>False) ⟨Px (fun i=>(env[i]?).getD .any) ps.toList vs,AI U yb (some (.loop env (rec .ready none)))⟩) :
  J4 P (.one (.yld yb)) vs (AI U yb (some (.loop env (rec .ready none)))) fun r T'=>(r=.one (.st (.bool true))∧∃U',T'=AI U' yb (some (.loop env (rec .ready none)))∧U' yb=none∧N U') ∨
   (r=.one (.st (.bool false))∧∃U' c e,T'=AI U' yb (some (.loop env (rec .done (some c))))∧U' yb=none∧AAn c e∧Jx e U'):=by
 intro hclean σ w vy xs ι hglob hfit hown hvy hxs;obtain⟨T,hT⟩:∃T,AI U yb (some (.loop env (rec .ready none)))=T:=⟨_,rfl⟩
 have hTy:T yb=some (.loop env (rec .ready none)):=by rw[←hT];exact AG _ _ _
 rw[hT]at hclean hown hvy hxs h ⊢;have hhigh:=(hclean _ _ hTy).2;have hb:=hown.1 _ _ hTy;obtain⟨l,hl,rfl⟩:∃l,(ι yb).g=some l∧vy=.func (.yield l) #[] #[]:=by
  cases hvy with
  | one hv =>
   cases hv with
   | yld k1 k2 k3 k4 =>
    rw[hTy]at k1;cases k1;exact k4 rfl
 have hlen:=hxs.len;cases hb with
 | loop k1 k2 k3 k4 k5 =>
 rw[hl]at k1;cases k1;have htm:(rec .ready none).tmps=tmps:=by rw[hrec]
 refine⟨l,rfl,fun ro=>⟨fn,_,ca,cb,by
  have:=run_yield (P:=P) (args:=xs.toArray) k2 (by rw[hrec];simp;omega);rw[hrec]at this;exact this,?_⟩⟩
 let C':Ctx:=⟨n,w.heap.size,fun g=>¬C3 T ι g,σ,w,T,ι,hclean,hglob,[],some l,false⟩
 have hset:=PL (σ:=σ) (S:=T) (ι:=ι) (n:=n) (ps:=ps.toList) (env:=fun i=>(env[i]?).getD .any) (tmps:=tmps) hxs (by rw[htm]at k3;omega) fun i hi=>by
  have hi':i<env.length:=by omega
  have:=k4 i _ (List.getElem?_eq_getElem hi');rw[htm]at this;simpa[hi']using this
 have hfold:(ps.zip xs.toArray).foldl (fun t (p,v)=>t.setIfInBounds p v) tmps=(ps.toList.zip xs).foldl (fun t (p,v)=>t.setIfInBounds p v) tmps:=by
  rw[←Array.foldl_toList,Array.toList_zip]
 have R0:Ac C' σ ι ⟨Px (fun i=>(env[i]?).getD .any) ps.toList vs,T⟩ { tmps:=(ps.zip xs.toArray).foldl (fun t (p,v)=>t.setIfInBounds p v) tmps,defers:=[] } w:=by
  refine⟨?_,fun i hi=>?_,Hj,hfit,hown.1,hown.2,fun id b g h hg=>.inr (fun hno=>hno id b h hg),fun _ _ h=>h,fun _ _ _=>rfl,⟨rfl,rfl,rfl⟩,⟨Nat.le_refl _,Nat.le_refl _⟩,fun _ _ _=>rfl,Upd.refl _ _⟩
  ·dsimp only
   rw[hfold];exact hset.1
  ·dsimp only
   rw[hfold];exact hset.2 i hi
 refine roundIn_of_wpIn (F:=fen ro) (n:=0) trivial (wpIn_mono (h hclean C' rfl ca hx _ w ⟨σ,ι,R0⟩) fun e a1 w1 he=>?_);have same:∀{σ1:Sto} {ι1:A6} {s1:AS} {a1:Act} {w1:World} {b:AJ},Ac C' σ1 ι1 s1 a1 w1→s1.S yb=some b→b.len=1→(ι1 yb).g=some l:=fun R1 hs hl1=>by
  obtain⟨b',h1,h2,h3⟩:=R1.upd yb _ hTy;rw[hs]at h1;cases h1;rw[(h3 hl1).2];exact hl
 cases e with
 | normal =>
  obtain⟨s1,⟨h1,h2⟩,σ1,ι1,R1⟩:=he;obtain⟨q1,ι2,R2,_⟩:=R1.setLoop (rec .busy none) h1 (same R1 h1 rfl) (by rw[hrec]);refine⟨_,by
   have:=run_beginRound (P:=P) q1 (by rw[hrec]);rw[hrec]at this;exact this,?_⟩
  have e1:(w1.putObj l (.loop (rec .busy none)))=w1.putObj l (.loop { state:=.busy,pending:=none,fn,tmps,params:=ps,assign:=ca,body:=cb,defers:=D }):=by rw[hrec]
  rw[←e1];refine wpIn_mono (h2 cb hy _ _ ⟨σ1,ι2,R2⟩) fun e3 a3 w3 he3=>?_;have fin:∀(jump:Option Code) (s3 s4:AS) (U2:AA),AY C' s3 s4→s4.S=AI U2 yb (some (.loop env (rec .busy none)))→Ay s4.S→Bh C' s3 a3 w3 →
    ∃σ5 ι5 s5,(Instr.endRound l jump).run P w3=.ok (.bool jump.isNone) (w3.putObj l (.loop (rec (if jump.isNone then .ready else .done) jump)))∧s5.S=AI U2 yb (some (.loop env (rec (if jump.isNone then .ready else .done) jump)))∧Ay s5.S∧Ac C' σ5 ι5 s5 a3 (w3.putObj l (.loop (rec (if jump.isNone then .ready else .done) jump))):=fun jump s3 s4 U2 hg hS hc hH=>by
   obtain⟨σ4,ι4,R4⟩:=hg _ _ hH;have h4:s4.S yb=some (.loop env (rec .busy none)):=by rw[hS];exact AG _ _ _
   obtain⟨q2,ι5,R5,_⟩:=R4.setLoop (rec (if jump.isNone then .ready else .done) jump) h4 (same R4 h4 rfl) (by rw[hrec]);refine⟨σ4,ι5,_,?_,?_,?_,R5⟩
   ·have:=run_endRound (P:=P) jump q2;rw[hrec]at this ⊢;exact this
   ·show AI s4.S yb _=_
    rw[hS,Pi]
   ·exact Bb hc hyb hhigh
  cases e3 with
  | normal =>
   obtain⟨s3,⟨s4,U2,g1,g2,g3,g4,g5⟩,hH⟩:=he3;obtain⟨σ5,ι5,s5,f1,f2,f3,R5⟩:=fin none s3 s4 U2 g1 g2 g3 hH;exact⟨_,_,f1,GY (C:=C') rfl rfl rfl (fun g=>Iff.rfl) rfl rfl R5 f3 (.inl ⟨rfl,U2,f2,g4,g5⟩)⟩
  | ret =>
   obtain⟨s3,⟨s4,U2,g1,g2,g3,g4,g5⟩,hH⟩:=he3;obtain⟨σ5,ι5,s5,f1,f2,f3,R5⟩:=fin (some .ret) s3 s4 U2 g1 g2 g3 hH;exact⟨_,_,f1,GY (C:=C') rfl rfl rfl (fun g=>Iff.rfl) rfl rfl R5 f3 (.inr ⟨rfl,U2,_,_,f2,g4,.ret,g5⟩)⟩
  | exit i =>
   obtain⟨s3,⟨s4,U2,g1,g2,g3,g4,g5⟩,hH⟩:=he3;obtain⟨σ5,ι5,s5,f1,f2,f3,R5⟩:=fin (some (.exit i)) s3 s4 U2 g1 g2 g3 hH;exact⟨_,_,f1,GY (C:=C') rfl rfl rfl (fun g=>Iff.rfl) rfl rfl R5 f3 (.inr ⟨rfl,U2,_,_,f2,g4,.exit i,g5⟩)⟩
  | panic ch=>obtain⟨s3,v,⟨⟨s4,U2,g1,g2,g3,g4,g5⟩,_⟩,_⟩:=he3;exact g5.elim
  | _=>exact he3.elim
 | panic ch=>obtain⟨s1,v,h1,h2⟩:=he;exact h1.1.elim
 | ret=>obtain⟨s1,h1,h2⟩:=he;exact h1.elim
 | exit i=>obtain⟨s1,h1,h2⟩:=he;exact h1.elim
 | _=>exact he.elim
def Dl(n:Nat)(env:Nat→AV):List AV:=(List.range n).map env
theorem O_{n:Nat}{env:Nat→AV}:(Dl n env).length=n:=by simp[Dl]
theorem ZJ{n i:Nat}{env:Nat→AV}{a:AV}(h:(Dl n env)[i]?=some a):i<n∧a=env i:=by
 unfold Dl at h;rw[List.getElem?_map,Option.map_eq_some_iff]at h;obtain⟨j,h1,h2⟩:=h;obtain⟨h3,h4⟩:=List.getElem?_eq_some_iff.1 h1;simp at h3 h4;subst h4;exact⟨h3,h2.symm⟩
theorem OP{n:Nat}{c:Code}{g:Opd}{ps:List Nat}(h:Bf P n mu c=some (.rangeF g ps x y)):∃g' ps' ca cb,c=.rangeFunc g' ps' ca cb∧AR n g'=some g∧ps'.toList=ps∧Bf P n mu ca=some x∧Bf P n mu cb=some y:=by
 cases c <;> simp only[Bf]at h
 case rangeFunc g' ps' ca cb =>
  split at h
  ·rename_i e1 e2 e3;split at h
   ·cases h;exact⟨_,_,_,_,rfl,e1,rfl,e2,e3⟩
   ·cases h
  ·cases h
 all_goals (exfalso;revert h;(repeat' split) <;> simp)
theorem AA2{U:AA}{id:Nat}{b c:Option AJ}:AI (dnS (AI U (up1 id) b)) id c=AI (dnS U) id c:=by
 funext j;unfold AI;by_cases e:j=id
 ·rw[if_pos e,if_pos e]
 ·rw[if_neg e,if_neg e];show(if j+1000=up1 id then b else U (j+1000)).map (AJ.ren dn1)=(U (j+1000)).map (AJ.ren dn1)
  rw[if_neg (show ¬j+1000=up1 id by unfold up1;omega)]
theorem Xb{U:AA}{i:Nat}{b:AJ}(h:Ay (AI U i (some b)))(hU:U i=none):Ay U:=fun j c hc=>h j c (by
 rw[AH _ (fun e=>by rw[e,hU]at hc;cases hc)];exact hc)
def Fr(n:Nat)(env:Nat→AV):Nat→AV:=fun i=>if i<n then(env i).ren up1 else .any
theorem Yw{n:Nat}{env:Nat→AV}:(fun i=>((AV.rens up1 (Dl n env))[i]?).getD .any)=Fr n env:=by
 funext i;unfold Fr Dl;rw[AV.rens_eq,List.map_map,List.getElem?_map];by_cases h:i<n
 ·rw[if_pos h,List.getElem?_range h];rfl
 ·rw[if_neg h,List.getElem?_eq_none (by simp;omega)];rfl
theorem IWP.rangeF{g:Opd}{ps:List Nat}(htop:C.Top)(id:Nat)(hid:id<1000)(hfree:s.S id=none){f:Nat}{caps:List AC}(hg:s.ev g=.one (.fn f caps))(hpl:CY P f=true){α:Type}{encs:α→List AV}{all:List α}{Need:AA→Prop}(hit:AA7 P f (AV.rens up1 (caps.map .one)) Need encs all)
  (hlen:∀v,(encs v).length=ps.length) (Inv:List α→AA→Prop) (Jx:AX→AA→Prop) (h0:Inv [] (upS s.S)) (hneed:∀pre U b,Inv pre U→U (up1 id)=none→Need (AI U (up1 id) (some b)))
  (hbody:∀(C':Ctx) (b0 b1:AJ) (pre:List α) (v:α) (U:AA),C'.n=C.n→(pre++[v]) <+: all→Inv pre U→U (up1 id)=none→Ay U→b1.high=true →
   IWP P C' mu x (AX.then (fun s1=>s1.S (up1 id)=some b0∧IWP P C' mu y (RC C' (up1 id) b1 (Inv (pre++[v])) Jx) (s1.set (up1 id) b1)) fun _ _=>False) ⟨Px (Fr C.n s.env) ps (encs v),AI U (up1 id) (some b0)⟩)
  (hdone:∀U,Inv all U→Q .normal ⟨s.env,AI (dnS U) id (some (.dead 1 0))⟩) (hjump:∀e U,Jx e U→Q e ⟨s.env,AI (dnS U) id (some (.dead 1 0))⟩):IWP P C mu (.rangeF g ps x y) Q s:=fun c hc a w hH=>by
 obtain⟨g',ps',ca,cb,rfl,hg',rfl,hx,hy⟩:=OP hc;obtain⟨σ,ι,R⟩:=hH;have rg:=R.ev hg';rw[hg]at rg;replace rg:=Ad rg;generalize hev:a.eval g'=fv at rg;cases rg with
 | @fn _ vc _ cc g1 g2 g3 =>
 refine wpIn_rangeFunc fun fn hfn=>?_;obtain⟨rec,hrec⟩:∃rec:LoopState→Option Code→Loop,rec=fun st pe=>{ state:=st,pending:=pe,fn,tmps:=a.tmps,params:=ps',assign:=ca,body:=cb,defers:=w.heap.size }:=⟨_,rfl⟩
 obtain⟨w1,hw1⟩:∃w1,(w.alloc (.deferred (some []))).alloc (.loop (rec .ready none))=w1:=⟨_,rfl⟩
 have hsz:(w.alloc (.deferred (some []))).heap.size=w.heap.size+1:=World.size_alloc _ _;have R1:Ac C σ ι s { a with defers:=Ti w.heap.size::a.defers } (w.alloc (.deferred (some []))):=by
  have R':=R.more (w':=w.alloc (.deferred (some []))) (Ext.refl _ _) (R.fit.alloc _) (E1.alloc _ _);refine { R' with nod:=?_ };obtain⟨l,h1,h2,h3,_⟩:=R.nod;refine⟨w.heap.size::l,by show _::a.defers=_;rw[h1];rfl,List.nodup_cons.2 ⟨fun hm=>?_,h2⟩,fun D hD=>?_,fun hm=>by rw[htop.2]at hm;cases hm⟩
  ·have:=(Array.getElem?_eq_some_iff.1 (h3 _ hm).2).1;omega
  ·rcases List.mem_cons.1 hD with rfl|hD
   ·exact⟨R.grown.1,World.alloc_heap_new w _⟩
   ·exact⟨(h3 D hD).1,(Below.heap_alloc _ _ _ (Array.getElem?_eq_some_iff.1 (h3 D hD).2).1).trans (h3 D hD).2⟩
 have hsize:=R.size;obtain⟨hu2,R2⟩:=R1.fresh (w':=w1) hfree (.loop (Dl C.n s.env) (rec .ready none)) ⟨none,0,some (w.heap.size+1)⟩ (Ext.refl _ _) (by rw[←hw1];exact R1.fit.alloc _) (by rw[←hw1];exact E1.alloc _ _) (fun g hg=>by cases hg;omega) (fun S' ι' hu=>.loop (g:=w.heap.size+1) rfl (by rw[←hw1,←hsz];exact World.alloc_heap_new _ _) (by rw[O_,hrec];exact hsize) (fun j b hb=>by
   obtain⟨hj,rfl⟩:=ZJ hb;rw[hrec];exact(R.env j hj).mono (fun _ _ h=>h) hu) (fun p hp=>R1.fit.no (by rw[hsz];omega)))
 have hl2:(AI ι id (⟨none,0,some (w.heap.size+1)⟩:Hnd) id).g=some (w.heap.size+1):=by rw[AG]
 generalize AI ι id (⟨none,0,some (w.heap.size+1)⟩:Hnd)=ι2 at R2 hl2 hu2;obtain⟨ι3,hι3,hown,hren,hend⟩:=R2.upped;have hargs:An (Ae σ (upS (s.set id (.loop (Dl C.n s.env) (rec .ready none))).S) ι3) (.func (.yield (w.heap.size+1)) #[] #[]::vc.toList) (.one (.yld (up1 id))::AV.rens up1 (caps.map .one)):=by
  have hS2:(s.set id (.loop (Dl C.n s.env) (rec .ready none))).S id=some (.loop (Dl C.n s.env) (rec .ready none)):=AG _ _ _;refine .cons (hren _ _ (.one (.yld hS2 (Nat.le_refl _) rfl fun _=>⟨_,hl2,rfl⟩))) ?_;rw[AV.rens_eq];refine(An.mono (fun v c h=>hren v c h) ?_).map_right;refine(An.of_get (R:=fun v c=>Ae σ (s.set id (.loop (Dl C.n s.env) (rec .ready none))).S ι2 v (.one c)) (by simpa using g1) fun j v b hv hb=>?_).map_right;have e:=g2 j b hb;have e2:vc.toList[j]?=some (cc j):=by simpa using e
  rw[hv]at e2;cases e2;exact .one ((g3 j b hb).mono (fun _ _ h=>h) hu2)
 have hcl:=Kb (s.set id (.loop (Dl C.n s.env) (rec .ready none))).S;have hTeq:upS (s.set id (.loop (Dl C.n s.env) (rec .ready none))).S=AI (upS s.S) (up1 id) (some (.loop (AV.rens up1 (Dl C.n s.env)) (rec .ready none))):=MC _ _ _;have hcall:=hit (up1 id) (fun pre T=>∃U,T=AI U (up1 id) (some (.loop (AV.rens up1 (Dl C.n s.env)) (rec .ready none)))∧U (up1 id)=none∧Inv pre U)
  (fun T=>∃U c e,T=AI U (up1 id) (some (.loop (AV.rens up1 (Dl C.n s.env)) (rec .done (some c))))∧U (up1 id)=none∧AAn c e∧Jx e U)
  _ (Ap id) (fun pre T hT=>by
   obtain⟨U,rfl,hU,hI⟩:=hT;exact hneed pre U _ hI hU) (fun pre v hpre T hT=>by
   obtain⟨U,rfl,hU,hI⟩:=hT;exact Yp hx hy (by rw[AV.rens_eq,List.length_map,O_]) (Ap id) hrec (by rw[hlen];simp) hU fun hc C' hC'=>by
    rw[Yw];exact hbody C' _ (.loop (AV.rens up1 (Dl C.n s.env)) (rec .busy none)) pre v U hC' hpre hI hU (Xb hc hU) (AV.rens_high _))
  ⟨_,hTeq,by rw[Ax,hfree];rfl,h0⟩ hcl σ w1 _ ι3 (C.glob.mono R.ext) R2.fit hown hargs
 refine⟨w.heap.size+1,[Ti w.heap.size],w1,{ target:=.fn (.func f) vc,args:=#[.func (.yield (w.heap.size+1)) #[] #[]] },w1,f,#[.func (.yield (w.heap.size+1)) #[] #[]]++vc,w1,?_,?_,fun _ _=>trivial,?_,fun h=>by simp[fen,Fence.wide]at h,?_⟩
 ·have hr:(fen C.ro).round=none:=htop.1;rw[hr,←hw1,hrec];exact run_enterLoop_outer _ _ _ _ _
 ·simp only[resolve,hev];simp[go_sem]
 ·have:=En (P:=P) (w:=w1) (args:=#[.func (.yield (w.heap.size+1)) #[] #[]]++vc) hpl;simp[invoke,go_sem,this]
 ·have he0:(Value.func (.yield (w.heap.size+1)) #[] #[]::vc.toList).toArray=#[.func (.yield (w.heap.size+1)) #[] #[]]++vc:=by
   apply Array.ext';simp
  rw[he0]at hcall;refine LB (hcall.mono fun e w2 he=>?_);obtain⟨v,r,S',σ',ι4,rfl,hP,hS',hu4,R4⟩:=hend he;have hl4:∀{b:AJ},dnS S' id=some b→b.len=1→(ι4 id).g=some (w.heap.size+1):=fun hb hb1=>by
   obtain⟨b',h1,h2,h3⟩:=hu4 id _ (show(s.set id (.loop (Dl C.n s.env) (rec .ready none))).S id=some _ from AG _ _ _);rw[hb]at h1;cases h1;rw[(h3 hb1).2];exact hl2
  have fin:∀(U:AA) (env:List AV) (st:LoopState) (pe:Option Code),st≠.busy→S'=AI U (up1 id) (some (.loop env (rec st pe)))→∃w3,(Instr.endLoop (w.heap.size+1)).run P w2=.ok pe w3∧Bh C ⟨s.env,AI (dnS U) id (some (.dead 1 0))⟩ { a with defers:=Ti w.heap.size::a.defers } w3:=fun U env st pe hst hS=>by
   have hb:dnS S' id=some (.loop (AV.rens dn1 env) (rec st pe)):=by
    have:=Hd (Ap id) (show S' (up1 id)=some (.loop env (rec st pe)) by rw[hS];exact AG _ _ _);rw[M1]at this;exact this
   have hg4:=hl4 hb rfl;cases hbr:R4.blk id _ hb with
   | loop k1 k2 k3 k4 k5 =>
    rw[hg4]at k1;cases k1;obtain⟨ι5,R5,_⟩:=R4.setBlk (b':=.dead 1 0) (o':=.loop { rec st pe with state:=.exhausted }) hb hg4 k2 k5 rfl rfl fun S'' ι'' hu=>.dead fun g' hg'=>by
     rw[hg4]at hg';cases hg';exact⟨_,(Dd k2).1,rfl⟩
    refine⟨w2.putObj (w.heap.size+1) (.loop { rec st pe with state:=.exhausted }),?_,σ',ι5,?_⟩
    ·have:=run_endLoop (P:=P) k2 (by rw[hrec];exact hst);rw[hrec]at this ⊢;exact this
    ·have e5:(AS.set ⟨(s.set id (.loop (Dl C.n s.env) (rec .ready none))).env,dnS S'⟩ id (.dead 1 0))=⟨s.env,AI (dnS U) id (some (.dead 1 0))⟩:=by
      show AS.mk s.env (AI (dnS S') id _)=_
      rw[hS,AA2]
     rw[←e5];exact R5
  rcases hP with⟨U,h1,h2,h3⟩|⟨U,c,e,h1,h2,h3,h4⟩
  ·obtain⟨w3,f1,f2⟩:=fin U _ .ready none (by simp) h1;exact⟨none,w3,f1,_,hdone U h3,f2⟩
  ·obtain⟨w3,f1,f2⟩:=fin U _ .done (some c) (by simp) h1;refine⟨some c,w3,f1,?_⟩;cases h3 with
   | ret=>exact wpIn_ret ⟨_,hjump _ U h4,f2⟩
   | exit i=>exact wpIn_exit ⟨_,hjump _ U h4,f2⟩
end

def Gn:IR :=
 (.seq (.ops [.i 2 (.box 22 (.t 0)),.i 3 (.box 37 (.t 1)),.i 4 (.alloc 35 [.full []]),.i 5 (.alloc 23 [.st (.int .i64 0)])]) (.seq (.ops [.i 6 (.alloc 35 [.full []])]) (.seq (.ops [.i 7 (.alloc 23 [.st (.int .i64 0)])]) (.seq (.seq (.ops [.L 14 2 3,.i 15 (.call 80 [.t 14,.c (.one (.fn 81 []))])]) (.block 0 (.rangeF (.t 15) [16,17] (.seq (.ops [.i 8 (.alloc 37 [.st (.str (ByteArray.mk (#[]))),.full []]),.s 2 8 16]) (.ops [.m 9 17])) (.block 1 (.seq (.seq (.ops [.i 10 (.mov (.n 0))]) (.block 2 (.loop (.block 3 (.seq (.ops [.l 19 2,.L 20 2 8,.m 21 10,.i 22 (.call 78 [.t 19,.t 20,.t 21]),.m 18 22,.i 23 (.extract 0 (.t 18)),.i 24 (.extract 1 (.t 18)),.i 25 (.extract 2 (.t 18)),.i 11 (.alloc 37 [.st (.str (ByteArray.mk (#[]))),.full []]),.s 2 11 23,.m 12 24,.m 13 25]) (.seq (.seq (.ops [.m 26 12,.i 27 (.bin .lss (.t 26) (.n 0))]) (.cond (.t 27) (.exit 2) .skip)) (.seq (.seq (.ops [.m 28 13,.i 29 (.bin .eql (.t 28) (.n 0))]) (.cond (.t 29) (.seq (.ops [.m 30 9,.L 31 2 11,.i 32 (.callV (.t 30) [.t 31]),.s 2 11 32]) (.seq (.ops [.L 33 2 11,.i 34 (.call 44 [.t 33]),.i 35 (.bin .gtr (.t 34) (.n 2000))]) (.cond (.t 35) (.ops [.i 13 (.mov (.n 8))]) .skip))) .skip)) (.seq (.seq (.ops [.m 36 13,.i 37 (.bin .neq (.t 36) (.n 0))]) (.cond (.t 37) (.seq (.ops [.m 38 13,.s 1 7 38]) (.exit 2)) .skip)) (.seq (.ops [.l 39 6,.L 40 2 11,.i 41 (.call 42 [.t 40]),.i 42 (.len false (.t 39)),.i 43 (.buildSlice false 37 2 [.c (.agg [.st (.str (ByteArray.mk (#[]))),.full []])]),.i 44 (.append true 37 2 40 (.t 39) (.t 43)),.i 45 (.indexAddr 2 (.t 44) (.t 42)),.mk none none (.store 2 (.t 45) (.t 41)) (.onb 1500),.mk none none (.store 1 (.t 6) (.t 44)) (.onb 1006)]) (.ops [.m 46 12,.i 47 (.bin .add (.t 46) (.n 1)),.m 10 47])))))))))) (.seq (.ops [.l 48 7,.i 49 (.bin .neq (.t 48) (.n 0))]) (.cond (.t 49) (.seq (.ops [.mk (some 50) none (.load false 1 (.t 7)) (.onb 1007),.mk none none (.store 1 (.t 4) (.c (.one (.full [])))) (.onb 1004),.s 1 5 50]) .ret) .skip))))))) (.seq (.ops [.l 51 6,.s 1 4 51,.mk none none (.store 1 (.t 5) (.n 0)) .no]) .ret)))))
theorem Ly:OkF Tryz.prog 45 52 [44,10451500,10061006,10071007,10041004] Gn [.cell 4 false 1,.cell 5 false 1]:=.of Tryz.func45 rfl rfl (by kernel_rfl) rfl

def Gz:IR :=
 (.seq (.ops [.i 2 (.box 37 (.t 0)),.i 3 (.box 73 (.t 1)),.i 4 (.mov (.c (.one (.st (.lit .nilFunc)))))]) (.seq (.ops [.i 5 (.makeFunc 113 [.t 2,.t 3]),.m 4 5]) .ret))
theorem Lz:OkF Tryz.prog 80 6 [] Gz [.t 4]:=.of Tryz.func80 rfl rfl (by kernel_rfl) rfl
def FL:IR :=
 (.ops [.L 4 2 1,.l 5 2,.m 6 0,.i 7 (.callX 114 [.t 4,.t 5,.t 6])])
theorem JU:OkF Tryz.prog 113 8 [80000007] FL []:=.of Tryz.func113 rfl rfl (by kernel_rfl) rfl
def Fx:IR :=
 (.seq (.ops [.i 3 (.box 37 (.t 0)),.i 4 (.box 73 (.t 1)),.i 6 (.mov (.c (.one (.st (.bool false)))))]) (.seq (.seq (.ops [.m 9 2,.L 10 2 3,.l 11 4,.i 12 (.callY (.t 9) [.t 10,.t 11]),.i 13 (.un .not (.t 12))]) (.cond (.t 13) (.seq (.ops [.i 6 (.mov (.c (.one (.st (.bool false)))))]) .ret) .skip)) (.seq (.seq (.ops [.f 14 1 3,.l 15 14,.i 16 (.len false (.t 15)),.i 17 (.mov (.n 0))]) (.block 0 (.loop (.seq (.ops [.i 18 (.bin .lss (.t 17) (.t 16))]) (.seq (.cond (.t 18) .skip (.exit 0)) (.seq (.block 1 (.seq (.ops [.m 19 17,.i 7 (.alloc 3 [.st (.int .i64 0)]),.s 1 7 19]) (.seq (.ops [.i 20 (.makeFunc 128 [.t 3,.t 7,.t 4]),.m 8 20]) (.seq (.ops [.f 21 1 3,.l 22 21,.l 23 7,.i 24 (.indexAddr 2 (.t 22) (.t 23)),.L 25 2 24,.m 26 8,.m 27 2,.i 28 (.callX 114 [.t 25,.t 26,.t 27]),.i 29 (.un .not (.t 28))]) (.cond (.t 29) (.seq (.ops [.i 6 (.mov (.c (.one (.st (.bool false)))))]) .ret) .skip))))) (.ops [.i 30 (.bin .add (.t 17) (.n 1)),.m 17 30]))))))) (.seq (.ops [.i 6 (.mov (.c (.one (.st (.bool true)))))]) .ret))))
theorem KX:OkF Tryz.prog 114 31 [70000012,80000028] Fx [.t 6]:=.of Tryz.func114 rfl rfl (by kernel_rfl) rfl
def Eu:IR :=
 (.seq (.ops [.i 4 (.box 37 (.t 0)),.i 5 (.alloc 37 [.st (.str (ByteArray.mk (#[]))),.full []])]) (.seq (.ops [.f 7 0 1,.l 8 7,.f 9 1 1,.l 10 9,.i 11 (.callN 79 [.t 10]),.i 12 (.build [.st (.str (ByteArray.mk (#[]))),.full []] [(0,1,.t 8),(1,1,.t 11)]),.i 6 (.alloc 37 [.st (.str (ByteArray.mk (#[]))),.full []]),.s 2 6 12]) (.seq (.ops [.f 13 1 6,.l 14 13,.l 15 2,.L 16 2 4,.i 17 (.indexAddr 2 (.t 14) (.t 15)),.s 2 17 16]) (.seq (.ops [.l 18 3,.L 19 2 6,.i 20 (.callV (.t 18) [.t 19]),.s 2 5 20]) .ret))))
theorem Iv:OkF Tryz.prog 128 21 [20000011] Eu [.cell 5 true 2]:=.of Tryz.func128 rfl rfl (by kernel_rfl) rfl
def FK:IR :=
 (.seq (.ops [.i 1 (.box 37 (.t 0)),.i 2 (.alloc 37 [.st (.str (ByteArray.mk (#[]))),.full []])]) (.seq (.ops [.L 3 2 1,.s 2 2 3]) .ret))
theorem JX:OkF Tryz.prog 81 4 [] FK [.cell 2 true 2]:=.of Tryz.func81 rfl rfl (by kernel_rfl) rfl



section
variable {C:Ctx} {s:AS}
theorem AY.ice(t:Nat){id:Nat}{e:TypeId}{cs:List AC}{xs:List SV}(hS:s.S id=some (.box e cs))(hc:stCs s.S cs=some xs)(ht:s.env t=.one (.ptr id 1 0 0))(hn:t<C.n):AY C s ⟨AI s.env t (.one (.eptr xs)),AI s.S id (some (.dead 1 0))⟩:=fun a w ⟨σ,ι,R⟩=>by
 have hb:=R.blk _ _ hS;cases hb with
 | @box _ _ g vs h1 h2 h3 h4 h5 =>
  have hsc:=R.stCs h4 hc;have hkeep:=Fz (σ:=σ) (w':=w) (g:=g) (k:=vs.size) (fun p x ep hx=>by rw[h5 _ ep]at hx;cases hx);obtain⟨hu,R'⟩:=R.turn (w':=w) hS (.dead 1 0) (ι id) (σ':=Es σ w g vs.size) hkeep (fun p hp _=>Fk (fun e=>hp (by rw[e];exact h1))) (Eo R.fit) (Nat.le_refl _) (fun _=>⟨rfl,rfl⟩) ⟨rfl,rfl,rfl⟩ (Nat.le_refl _) (fun _ _ _=>rfl) (fun g h=>.inl h) (fun hu=>.dead fun g' hg'=>⟨_,(by rw[h1]at hg';cases hg';exact h3),rfl⟩);refine⟨_,_,{ R' with env:=fun i hi=>?_ }⟩;show Ae _ _ _ _ (AI s.env t _ i)
  unfold AI;split
  ·rename_i hit;subst hit;have:=R.env i hi;rw[ht]at this;have hv:=Ad this;generalize a.tmps.getD i undef=v at hv;cases hv with
   | ptr k1 k2 k3 k4 =>
    rw[hS]at k1;cases k1;obtain⟨g',q1,q2⟩:=k4 rfl;rw[h1]at q1;cases q1;rw[q2];have key:∀j x,xs[j]?=some x→∃v,vs[j]?=some v∧A8 σ v x:=fun j x hx=>by
     obtain⟨v,v1,v2⟩:=hsc.get hx;exact⟨v,by simpa using v1,v2⟩
    have hlen:vs.size=xs.length:=by simpa using hsc.len
    refine .one (.eptr (o:=0) (fun j=>(vs[j]?).getD undef) (fun j x hx=>?_) (fun j x hx=>?_) (fun _ q=>?_))
    ·obtain⟨v,v1,v2⟩:=key j x hx;have hj:j<vs.size:=(Array.getElem?_eq_some_iff.1 v1).1;rw[Nat.zero_add,L7 hj,cell_of_row w g _ _ _ _ h3];simp[v1]
    ·obtain⟨v,v1,v2⟩:=key j x hx;rw[v1];exact v2.mono hkeep
    ·have:=Pv q;rw[Hr (by omega),Fo h3]
  ·exact R'.env i hi
theorem AY.calm{id:Nat}{e:TypeId}{cs:List AC}{xs:List SV}(hS:s.S id=some (.box e cs))(hc:stCs s.S cs=some xs):AY C s (s.set id (.box e (xs.map .st))):=fun a w ⟨σ,ι,R⟩=>by
 have hb:=R.blk _ _ hS;cases hb with
 | @box _ _ g vs h1 h2 h3 h4 h5 =>
  have hsc:=R.stCs h4 hc;obtain⟨hu,R'⟩:=R.turn (w':=w) hS (.box e (xs.map .st)) (ι id) (σ':=σ) (fun _ _ h=>h) (fun _ _ _=>rfl) R.fit (Nat.le_refl _) (fun _=>⟨rfl,rfl⟩) ⟨rfl,rfl,rfl⟩ (Nat.le_refl _) (fun _ _ _=>rfl) (fun g h=>.inl h) (fun hu=>.box h1 h2 h3 ((hsc.mono fun _ _ x=>At.st x).map_right) h5);exact⟨_,_,R'⟩
end

abbrev Dw(t:Tm):List SV:=[.str t.name,.list (t.args.map Al)]
def svW:List (Tm×Nat)→SV
 | []=>.lit (.func (.func 81) #[] #[])
 | (t,i)::V=>.clo 128 [Dw t,[.int .i64 i],[svW V]]
def acW:List (Tm×Nat)→AC
 | []=>.fn 81 []
 | (t,i)::V=>.fn 128 [.eptr (Dw t),.eptr [.int .i64 i],.eptr [svW V]]
theorem AAK(S:AA):∀V,stC S (acW V)=some (svW V)
 | []=>rfl
 | (t,i)::V=>rfl
def Pp:List (Tm×Nat)→List AC
 | []=>[]
 | (t,i)::V=>[.eptr (Dw t),.eptr [.int .i64 i],.eptr [svW V]]
def fnW:List (Tm×Nat)→Nat
 | []=>81
 | (t,i)::V=>128
theorem Mc:∀V,(AV.one (.st (svW V))).fnOf=some (fnW V,Pp V)
 | []=>rfl
 | (t,i)::V=>rfl
theorem Ky:∀V,CY Tryz.prog (fnW V)=true
 | []=>by kernel_rfl
 | (t,i)::V=>by kernel_rfl
theorem I8(ρ:Nat→Nat):∀V,AV.rens ρ ((Pp V).map .one)=(Pp V).map .one
 | []=>rfl
 | (t,i)::V=>rfl
theorem UG(V:List (Tm×Nat))(x:Tm):outVs noS (aTm x::(Pp V).map .one)=some (aTm x::(Pp V).map .one):=by
 cases V <;> rfl
theorem AAW(x:Tm):AW Tryz.prog 81 [aTm x] (aTm x):=by
 refine JX.ac fun C hC=>?_;unfold FK;refine Gg ?_;simp only[go_sem,fN,seval,AQ,AS.result,AB,AD,AM]
theorem Y7:∀(V:List (Tm×Nat)) (x:Tm),PP V→AW Tryz.prog (fnW V) (aTm x::(Pp V).map .one) (aTm (CN V x))
 | [],x,_=>AAW x
 | (t,i)::V,x,hV=>by
  obtain⟨h1,h2,h3⟩:=hV;have ih:=Y7 V (.mk t.name (t.args.set i x)) h3;show AW Tryz.prog 128 [aTm x,.one (.eptr (Dw t)),.one (.eptr [.int .i64 i]),.one (.eptr [svW V])] (aTm (CN V (.mk t.name (t.args.set i x))))
  refine Iv.ac fun C hC=>?_;unfold Eu;repeat' first|refine Gg ?_|refine Mm fun K hK=>?_
  refine⟨_,_,_,_,M5 t.args (by omega) h2,by simp[AI,noS],?_⟩;refine Wr ?_;simp only[go_sem,fN,seval,eT,iR];refine hK _ ?_;clear hK K;refine Wb ?_;refine IWP.mid (fun x'=>x'.env 3=.one (.eptr [svW V])∧x'.env 5=.one (.ptr 5 1 0 0)∧x'.env 6=.one (.ptr 6 1 0 0)∧x'.S 5=some (.box 37 [.st (.str ⟨#[]⟩),.full []])∧x'.S 6=some (.box 37 [.st (.str t.name),.row 11 t.args.length])∧x'.S 11=some (.mrow 37 2 ((t.args.set i x).map Al))) ?_ ?_
  ·have hlt:(i:Int)<t.args.length:=by omega
   obtain⟨a,ha⟩:=Aa h1;refine Gf (F2 hlt ha) ?_;refine⟨rfl,?_⟩;simp only[go_sem,fN,seval,eT,iR,hlt,ha];rw[List.map_set,Ao]
  rintro⟨env,S⟩ ⟨e3,e5,e6,s5,s6,s11⟩;simp only at e3 e5 e6 s5 s6 s11;have hl1:(t.args.set i x).length=t.args.length:=by simp
  refine IWP.ghost (AY.share (id:=11) s11) ?_;refine IWP.ghost (AY.calm (id:=6) (e:=37) (cs:=[.st (.str t.name),.row 11 t.args.length]) (xs:=Dw (.mk t.name (t.args.set i x))) (by simp only[go_sem,fN,seval,eT,iR,s6]) (by simp only[go_sem,fN,seval,eT,iR,hl1,stCs,stC,Tm.name_mk,Tm.args_mk,Dw])) ?_;repeat' first|refine Gf (F6 e3 e5 e6 s5 s6 @Mc) ?_|refine Mm fun K hK=>?_
  rw[I8];refine⟨Ky V,_,_,ih.toS (UG V _),?_⟩;repeat' first|refine Gf (F5 e3 e5 e6 s5 s6) ?_|refine Mm fun K hK=>?_
  simp only[go_sem,fN,seval,AQ,AS.result,AB,AD,AM,e5,s5]
theorem ABV(t:Tm):AW Tryz.prog 80 [aTm t,.one (acW [])] (.one (.fn 113 [.eptr (Dw t),.eptr [svW []]])):=by
 refine Lz.ac fun C hC=>?_;unfold Gz;refine IWP.mid (fun x=>x.env 2=.one (.ptr 2 1 0 0)∧x.env 3=.one (.ptr 3 1 0 0)∧(∃e,x.S 2=some (.box e [.st (.str t.name),.st (.list (t.args.map Al))]))∧∃e,x.S 3=some (.box e [acW []])) ?_ ?_
 ·refine Gg ?_;exact⟨rfl,rfl,rfl,⟨_,rfl⟩,⟨_,rfl⟩⟩
 rintro⟨env,S⟩ ⟨e2,e3,⟨ty,s2⟩,ty',s3⟩;simp only at e2 e3 s2 s3;refine IWP.ghost (AY.ice 2 (id:=2) s2 (xs:=Dw t) rfl e2 (by omega)) ?_;refine IWP.ghost (AY.ice 3 (id:=3) (e:=ty') (cs:=[acW []]) (xs:=[svW []]) (by simp only[go_sem,fN,seval,eT,iR,s3]) rfl (by simp only[go_sem,fN,seval,eT,iR,e3]) (by omega)) ?_;repeat' with_reducible first|refine W ?_|refine Z0 ?_|((first|refine Wo fun K hK=>?_|refine Wp ?_|refine Wq ?_|refine Wr ?_);(try simp only[go_sem,fN,seval,eT,iR,AS.caps,dT,dF,nL]);(repeat refine Ai ?_);(try(refine hK _ ?_;clear hK K));try refine iC ?_)
 simp only[go_sem,fN,seval,AQ,AS.result,AB,AD,AM];rfl
theorem M7{s:AS}{ds:List Nat}(hds:∀d∈ds,d<1000){T:AA}(hT:Ay T)(h:∀i,1000≤i→s.S i=T i):∀i,1000≤i→(s.drop ds).S i=T i:=fun i hi=>by
 show AT ds s.S i=T i
 unfold AT;rw[Dn hds hi,h i hi];cases hb:T i with
 | none=>rfl
 | some b=>simp[AJ.purge_high hds (hT i b hb).2]
def AAv(q:List (Tm×Nat)×Tm):List AV:=[aTm q.2,.one (.st (svW q.1))]
theorem AAT{y:Nat}(hy:1000≤y){all:List (List (Tm×Nat)×Tm)}{Inv:List (List (Tm×Nat)×Tm)→AA→Prop}{Jx:AA→Prop}
  (hround:∀pre v,(pre++[v]) <+: all→∀T,Inv pre T→J4 Tryz.prog (.one (.yld y)) (AAv v) T fun r T'=>(r=.one (.st (.bool true))∧Inv (pre++[v]) T')∨(r=.one (.st (.bool false))∧Jx T')) :
  ∀(t:Tm) (V:List (Tm×Nat)) (c:AC) (pre:List (List (Tm×Nat)×Tm)) (T:AA),(∀S,stC S c=some (svW V))→c.stay=true∨c=acW V→t.size≤1000000→(pre++t.visits V) <+: all→Inv pre T →
   E_ Tryz.prog 114 [aTm t,.one c,.one (.yld y)] T fun r T'=>(r=AZ true∧Inv (pre++t.visits V) T')∨(r=AZ false∧Jx T'):=by
 intro t;induction h:SizeOf.sizeOf t using Nat.strongRecOn generalizing t with
 | _ N ih =>
 subst h;intro V c pre T0 hc hc2 hz hpre hI;have hs:=Tm.size_eq t;have hln:=Tm.length_le t.args;refine KX.acR fun hclean C hC htop=>?_;unfold Fx;have n3:=AK hclean (show 3<1000 by omega);have n4:=AK hclean (show 4<1000 by omega);have n7:=AK hclean (show 7<1000 by omega);refine IWP.mid (fun x=>x.env 2=.one (.yld y)∧x.env 3=.one (.ptr 3 1 0 0)∧x.env 4=.one (.ptr 4 1 0 0)∧(∃e,x.S 3=some (.box e [.st (.str t.name),.st (.list (t.args.map Al))]))∧(∃e,x.S 4=some (.box e [c]))∧x.S 7=none∧∀i,1000≤i→x.S i=T0 i) ?_ ?_
 ·refine Gf (F3 @AS.startS.eq_1 n3 n4) ?_;refine⟨rfl,rfl,rfl,rfl,⟨_,rfl⟩,⟨_,rfl⟩,?_,fun i hi=>?_⟩
  ·simp only[go_sem,fN,seval,eT,iR,n7]
  ·show AI (AI _ 3 _) 4 _ i=_
   rw[AH _ (by omega),AH _ (by omega)]
 rintro⟨env,S⟩ ⟨e2,e3,e4,⟨ty,s3⟩,⟨ty',s4⟩,s7,hST⟩;simp only at e2 e3 e4 s3 s4 s7 hST;refine IWP.ghost (AY.ice 3 (id:=3) s3 (xs:=Dw t) rfl e3 (by omega)) ?_;refine IWP.ghost (AY.ice 4 (id:=4) (e:=ty') (cs:=[c]) (xs:=[svW V]) (by simp only[go_sem,fN,seval,eT,iR,s4]) (by simp[stCs,hc]) (by simp only[go_sem,fN,seval,eT,iR,e4]) (by omega)) ?_;have hy':=hround pre (V,t) (by
  rw[Tm.visits_eq]at hpre;exact List.IsPrefix.trans ⟨Tm.visitsL V t 0 t.args,by simp⟩ hpre) T0 hI
 unfold AAv at hy';repeat' first|refine Gf e2 ?_|refine Mm fun K hK=>?_
 refine Ij.mk T0 _ hclean (fun i hi=>by
   show AI (AI S 3 _) 4 _ i=_
   rw[AH _ (by omega),AH _ (by omega)];exact hST i hi) (by
   show((AC.yld y).high&&true)=true
   rw[J9 hy];rfl) hy' ?_
 have hj:∀{S S':AA} (i:Nat),1000≤i→Ec S S' i=S' i:=fun i hi=>A9 hi;rintro r S' hS' (⟨rfl,hI'⟩|⟨rfl,hJ⟩)
 case inr =>
  refine Gf e2 ?_;exact⟨AZ false,S',.inr ⟨rfl,hJ⟩,Aq (AZ false) hS' trivial rfl rfl fun i hi=>A9 hi⟩
 refine Gf e2 ?_;refine IWP.loopD [7] (fun m s=>∃k T pre',k≤t.args.length∧m=t.args.length-k∧pre'++Tm.visitsL V t k (t.args.drop k)=pre++t.visits V∧s.env 2=.one (.yld y)∧s.env 3=.one (.eptr (Dw t))∧s.env 4=.one (.eptr [svW V])∧s.env 16=AO t.args.length∧s.env 17=AO k∧s.S 7=none∧(∀i,1000≤i→s.S i=T i)∧Ay T∧Inv pre' T) t.args.length ⟨0,S',pre++[(V,t)],Nat.zero_le _,rfl,?_,?_,?_,?_,?_,?_,?_,fun i hi=>A9 hi,hS',hI'⟩ ?_
 ·rw[Tm.visits_eq];simp
 ·simp only[go_sem,fN,seval,eT,iR,e2]
 ·simp only[go_sem,fN,seval,eT,iR]
 ·simp only[go_sem,fN,seval,eT,iR]
 ·simp only[go_sem,fN,seval,eT,iR]
 ·simp only[go_sem,fN,seval,eT,iR]
 ·show Ec (AI (AI S 3 (some (.dead 1 0))) 4 (some (.dead 1 0))) S' 7=none
  rw[D3 (by decide),AH _ (by decide),AH _ (by decide)];exact s7
 rintro m ⟨env,S⟩ ⟨k,T,pre',hk,rfl,hall,e2,e3,e4,e16,e17,s7,hST,hT,hI⟩;simp only at e2 e3 e4 e16 e17 s7 hST;by_cases hlt:k<t.args.length
 case neg =>
  rw[List.drop_of_length_le (by omega)]at hall;simp only[Tm.visitsL,List.append_nil]at hall;subst hall;have hlt':¬(k:Int)<t.args.length:=by omega
  refine Gf (F6 e2 e3 e4 e16 e17 hlt') ?_;exact⟨AZ true,T,.inl ⟨rfl,hI⟩,Aq (AZ true) hT trivial rfl rfl hST⟩
 obtain⟨a,ha⟩:=Aa hlt;have hmem:=AN ha;have hlt':(k:Int)<t.args.length:=by omega
 rw[QS ha,←List.append_assoc]at hall;refine Hf (F3 e16 e17 hlt') ?_;with_reducible refine Wp ?_
 simp only[go_sem,fN,seval,true_implies,false_implies,implies_true,dT,dF,nL,hlt'];(try with_reducible refine iC ?_);repeat' (with_reducible first|refine Wb ?_|refine Wc ?_|refine Wd ?_|refine We ?_|refine Wg ?_|refine Wh ?_|refine Wi ?_|refine Wj ?_|refine Wk (by decide) ?_|refine Wl ?_|refine Wm ?_|refine Wn ?_)
 refine Wb ?_;refine Wa ?_;refine Wc ?_;refine IWP.mid (fun x=>x.env 2=.one (.yld y)∧x.env 3=.one (.eptr (Dw t))∧x.env 4=.one (.eptr [svW V])∧x.env 16=AO t.args.length∧x.env 17=AO k∧x.env 7=.one (.ptr 7 1 0 0)∧(∃e,x.S 7=some (.box e [.st (.int .i64 k)]))∧(∀i,1000≤i→x.S i=T i)) ?_ ?_
 ·refine Gf (F6 e2 e3 e4 e16 e17 s7) ?_;refine⟨rfl,e2,e3,e4,e16,e17,rfl,⟨_,rfl⟩,fun i hi=>?_⟩;show AI (AI S 7 _) 7 _ i=_
  rw[AH _ (by omega),AH _ (by omega)];exact hST i hi
 clear e2 e3 e4 e16 e17 s7 hST;rintro⟨env,S⟩ ⟨e2,e3,e4,e16,e17,e7,⟨ty7,s7⟩,hST⟩;simp only at e2 e3 e4 e16 e17 e7 s7 hST;refine IWP.ghost (AY.ice 7 (id:=7) s7 (xs:=[.int .i64 k]) rfl e7 (by omega)) ?_;have hst:(AI S 7 (some (.dead 1 0)):AA) 7=some (.dead 1 0):=rfl;have hcon:=ih _ (Tm.lt_of_arg hmem) a rfl ((t,k)::V) (acW ((t,k)::V)) pre' T (fun S=>AAK S _) (.inr rfl) (by have:=Tm.size_mem hmem;omega) (List.IsPrefix.trans ⟨Tm.visitsL V t (k+1) (List.drop (k+1) t.args),hall⟩ hpre) hI;repeat' with_reducible first|refine W ?_|refine Z0 ?_|((first|refine Wo fun K hK=>?_|refine Wp ?_|refine Wq ?_|refine Wr ?_);(try simp only[go_sem,fN,seval,eT,iR,e2,e3,e4,e16,e17,AS.caps,ha,dT,dF,nL]);(repeat refine Ai ?_);(try(refine hK _ ?_;clear hK K));try refine iC ?_)
 refine Ij.mk T _ hT (fun i hi=>by
  rw[AH _ (by omega)];exact hST i hi) (by
   show(true&&(true&&((AC.yld y).high&&true)))=true
   rw[J9 hy];rfl) hcon ?_
 rintro r S' hS' (⟨rfl,hI'⟩|⟨rfl,hJ⟩)
 case inr =>
  refine Gf (F5 e2 e3 e4 e16 e17) ?_;exact⟨AZ false,S',.inr ⟨rfl,hJ⟩,Aq (AZ false) hS' trivial rfl rfl fun i hi=>A9 hi⟩
 refine Gf (F5 e2 e3 e4 e16 e17) ?_;refine⟨t.args.length-(k+1),by omega,k+1,S',_,by omega,rfl,hall,?_,?_,?_,?_,?_,rfl,M7 (by decide) hS' (fun i hi=>A9 hi),hS',hI'⟩
 ·have hy7:(y==7)=false:=by
   rw[beq_eq_false_iff_ne];omega
  simp only[go_sem,fN,seval,AS.drop,AT,AC.clears,AC.clear,AC.highs,AC.high,zD,AV.purge,AV.purges,AC.purge,AJ.purge,Nat.reduceBEq,eT,iR,e2,hy7]
 ·simp only[go_sem,fN,seval,AS.drop,AT,AC.clears,AC.clear,AC.highs,AC.high,zD,AV.purge,AV.purges,AC.purge,AJ.purge,Nat.reduceBEq,eT,iR,e3]
 ·simp only[go_sem,fN,seval,AS.drop,AT,AC.clears,AC.clear,AC.highs,AC.high,zD,AV.purge,AV.purges,AC.purge,AJ.purge,Nat.reduceBEq,eT,iR,e4]
 ·simp only[go_sem,fN,seval,AS.drop,AT,AC.clears,AC.clear,AC.highs,AC.high,zD,AV.purge,AV.purges,AC.purge,AJ.purge,Nat.reduceBEq,eT,iR,e16]
 ·simp only[go_sem,fN,seval,AS.drop,AT,AC.clears,AC.clear,AC.highs,AC.high,zD,AV.purge,AV.purges,AC.purge,AJ.purge,Nat.reduceBEq,eT,iR,e17];congr 3
theorem Uj(t:Tm)(hz:t.size≤1000000):AA7 Tryz.prog 113 [.one (.eptr (Dw t)),.one (.eptr [svW []])] (fun _=>True) AAv (t.visits []):=by
 intro y Inv Jx T0 hy _ hround h0;refine JU.acR fun hclean C hC htop=>?_;unfold FL;have hcon:=AAT hy hround t [] (.st (svW [])) [] T0 (fun _=>rfl) (.inl rfl) hz (List.prefix_refl _) h0;repeat' first|refine Gf @AS.startS.eq_1 ?_|refine Mm fun K hK=>?_
 refine Ij.mk T0 _ hclean (fun i hi=>rfl) (by
   show(true&&(true&&((AC.yld y).high&&true)))=true
   rw[J9 hy];rfl) hcon ?_
 rintro r S' hS' (⟨rfl,hI'⟩|⟨rfl,hJ⟩)
 ·refine Gg ?_;exact⟨.tup [],S',.inl hI',Aq (.tup []) hS' trivial rfl rfl fun i hi=>A9 hi⟩
 ·refine Gg ?_;exact⟨.tup [],S',.inr hJ,Aq (.tup []) hS' trivial rfl rfl fun i hi=>A9 hi⟩

theorem IWP.at_{P:Program}{C:Ctx}{mu:List Nat}{x:IR}{Q:AX→AS→Prop}{env0:Nat→AV}{S0:AA}(M:(Nat→AV)→AA→Prop)(hM:M env0 S0)(h:∀env S,M env S→IWP P C mu x Q ⟨env,S⟩):IWP P C mu x Q ⟨env0,S0⟩:=h _ _ hM
section
variable {C:Ctx} {s:AS}
theorem AY.ownCM(id j nid:Nat)(e:TypeId)(wd:Nat){ty:TypeId}{cs:List AC}(hb:s.S id=some (.box ty cs))(hc:cs[j]?=some (.full []))(hn:s.S nid=none) :
  AY C s ((s.set nid (.mrow e wd [])).set id (.box ty (cs.set j (.row nid 0)))):=fun a w ⟨σ,ι,R⟩=>by
 have hbk:=R.blk id _ hb;have hne:id≠nid:=fun e=>by subst e;rw[hb]at hn;cases hn
 cases hbk with
 | @box _ _ g vs h1 h2 h3 h4 h5 =>
  obtain⟨v,hv,hr⟩:=h4.get hc;cases hr with
  | @full p len _ hs =>
   have hl:len=0:=by
    obtain⟨p',cap',e1,_⟩:=Cj hs;cases e1;rfl
   subst hl;obtain⟨hu,R'⟩:=R.fresh (w':=w) hn (.mrow e wd []) ⟨p,0,none⟩ (Ext.refl _ _) R.fit (Below.refl _ _) (by simp) (fun S' ι' hu=>.mnil rfl rfl);have hb':(s.set nid (.mrow e wd [])).S id=some (.box ty cs):=by simp[AS.set,AH _ hne,hb]
   have hι:AI ι nid ⟨p,0,none⟩ id=ι id:=AH _ hne _;obtain⟨hu2,R2⟩:=R'.turn (w':=w) hb' (.box ty (cs.set j (.row nid 0))) (AI ι nid ⟨p,0,none⟩ id) (σ':=σ) (fun _ _ h=>h) (fun _ _ _=>rfl) R.fit (Nat.le_refl _) (fun _=>⟨by simp[AJ.wid],rfl⟩) ⟨rfl,rfl,rfl⟩ (Nat.le_refl _) (fun _ _ _=>rfl) (fun g h=>.inl h) (fun hu2=>by
    refine .box (by rw[hι];exact h1) (by rw[hι];exact h2) h3 (An.of_get (by rw[List.length_set];exact h4.len) fun k u c hu' hck=>?_) h5;by_cases hk:k=j
    ·subst hk;rw[hv]at hu';cases hu';have hlt:k<cs.length:=(List.getElem?_eq_some_iff.1 hc).1;rw[List.getElem?_set_self hlt]at hck;cases hck;exact .row (b:=.mrow e wd []) (by simp[AS.set,AI,hne.symm]) (Nat.le_refl _) rfl fun _=>by simp[AI,hne.symm]
    ·rw[List.getElem?_set_ne (fun e=>hk e.symm)]at hck;obtain⟨u',q1,q2⟩:=h4.get hck;rw[hu']at q1;cases q1;exact(q2.mono (fun _ _ h=>h) hu).mono (fun _ _ h=>h) hu2)
   exact⟨_,_,R2⟩
end
theorem TM{S U:AA}(hU:Ay U)(h:∀i,1000≤i→S i=U i):CP S=U:=by
 funext i;show(if i<1000 then none else S i)=U i
 by_cases hi:i<1000
 ·rw[if_pos hi,AK hU hi]
 ·rw[if_neg hi,h i (by omega)]
theorem XM{S:AA}(h:∀i b,1000≤i→S i=some b→b.high=true):Ay (CP S):=fun i b hb=>by
 have hb:(if i<1000 then none else S i)=some b:=hb;by_cases hi:i<1000
 ·rw[if_pos hi]at hb;cases hb
 ·rw[if_neg hi]at hb;exact⟨by omega,h i b (by omega) hb⟩
theorem Om{S:AA}(h:∀i b,1000≤i→S i=some b→b.high=true){j:Nat}{b:AJ}(hb:b.high=true):∀i b',1000≤i→AI S j (some b) i=some b'→b'.high=true:=fun i b' hi he=>by
 by_cases e:i=j
 ·subst e;rw[AG]at he;cases he;exact hb
 ·rw[AH _ e]at he;exact h i b' hi he
theorem Pj{S:AA}(h:∀i b,1000≤i→S i=some b→b.high=true){j:Nat}(hj:j<1000){c:Option AJ}:∀i b',1000≤i→AI S j c i=some b'→b'.high=true:=fun i b' hi he=>by
 rw[AH _ (by omega)]at he;exact h i b' hi he
theorem W_{C:Ctx}{y:Nat}{b:AJ}{N:AA→Prop}{Jx:AX→AA→Prop}{env:Nat→AV}{S:AA}(U:AA)(hU:Ay (AI U y (some b)))(hy:U y=none)(hS:∀i,1000≤i→S i=AI U y (some b) i)(hN:N U):RC C y b N Jx .normal ⟨env,S⟩ :=
 ⟨⟨fun i=>(env i).low,CP S⟩,U,AY.low (s:=⟨env,S⟩) (fun i b' hi h=>by
  have h:S i=some b':=h;rw[hS i hi]at h;exact(hU i b' h).2),TM hU hS,by
  show Ay (CP S)
  rw[TM hU hS];exact hU,hy,hN⟩
theorem PZ{C:Ctx}{y:Nat}{b:AJ}{N:AA→Prop}{Jx:AX→AA→Prop}{env:Nat→AV}{S:AA}(h:∀i b,1000≤i→S i=some b→b.high=true)(hy:1000≤y)(hSy:S y=some b)(hJ:Jx .ret (AI (CP S) y none)):RC C y b N Jx .ret ⟨env,S⟩ :=
 ⟨⟨fun i=>(env i).low,CP S⟩,AI (CP S) y none,AY.low (s:=⟨env,S⟩) h,by
  show CP S=_
  rw[Pi];funext i;unfold AI;split
  ·rename_i e;rw[e];show(if y<1000 then none else S y)=some b
   rw[if_neg (by omega),hSy]
  ·rfl,XM h,AG _ _ _,hJ⟩
theorem Q5{S:AA}{i y:Nat}{c:Option AJ}(h:1000≤i)(hne:i≠y):AI (CP S) y c i=S i:=by
 rw[AH _ hne];show(if i<1000 then none else S i)=S i
 rw[if_neg (by omega)]

def FZ(S:AA)(out:List Tm):AA:=AI (AI (upS S) 1500 (some (.mrow 37 2 (out.map Al)))) 1006 (some (.box 35 [.row 1500 out.length]))
theorem GU{S:AA}{out:List Tm}{i:Nat}(h:i≠1500)(h':i≠1006):FZ S out i=upS S i:=by
 rw[FZ,AH _ h',AH _ h]
abbrev ABF(R:List Pr):AJ:=.box 22 [.st (.list (R.map Ag))]
abbrev R7(i:Int):AJ:=.box 23 [.st (.int .i64 i)]
def RB(o:Option (List Tm)):AV:=match o with
 | none=>.tup [CJ [],AO 8]
 | some l=>.tup [CJ l,AO 0]
theorem ABJ{R:List Pr}(hR:A7 R)(t:Tm)(hc:t.chk=0)(hz:t.size≤2000):AW Tryz.prog 45 [Be R,aTm t] (RB (KW R t)):=by
 rw[OQ];have h40:=hR.len;refine Ly.acT fun C hC htop=>?_;unfold Gn;repeat' first|refine Gg ?_|refine Mm fun K hK=>?_|refine Cg _ (ABV t) ?_
 refine IWP.at_ (fun env S=>env 2=.one (.ptr 2 1 0 0)∧env 4=.one (.ptr 4 1 0 0)∧env 5=.one (.ptr 5 1 0 0)∧env 6=.one (.ptr 6 1 0 0)∧env 7=.one (.ptr 7 1 0 0)∧env 15=.one (.fn 113 [.eptr (Dw t),.eptr [svW []]])∧S 2=some (ABF R)∧S 4=some (.box 35 [.full []])∧S 5=some (R7 0)∧S 6=some (.box 35 [.full []])∧S 7=some (R7 0)∧S 500=none∧S 501=none) ⟨rfl,rfl,rfl,rfl,rfl,rfl,rfl,rfl,rfl,rfl,rfl,rfl,rfl⟩ ?_;rintro env S0 ⟨e2,e4,e5,e6,e7,e15,s2,s4,s5,s6,s7,s500,s501⟩;refine IWP.ghost (AY.ownCM 6 0 500 37 2 s6 rfl s500) ?_;refine IWP.at_ (fun env' S=>env'=env∧S 2=some (ABF R)∧S 4=some (.box 35 [.full []])∧S 5=some (R7 0)∧S 6=some (.box 35 [.row 500 0])∧S 7=some (R7 0)∧S 500=some (.mrow 37 2 [])∧S 501=none) ⟨rfl,by simp only[go_sem,fN,seval,eT,iR,s2],by simp only[go_sem,fN,seval,eT,iR,s4],by simp only[go_sem,fN,seval,eT,iR,s5],by simp only[go_sem,fN,seval,eT,iR];rfl,by simp only[go_sem,fN,seval,eT,iR,s7],by simp only[go_sem,fN,seval,eT,iR],by simp only[go_sem,fN,seval,eT,iR,s501]⟩ ?_;clear s2 s4 s5 s6 s7 s500 s501 S0;rintro env' S0 ⟨rfl,s2,s4,s5,s6,s7,s500,s501⟩;refine IWP.rangeF htop 501 (by decide) s501 (show AS.ev _ (.t 15)=_ from e15) (by kernel_rfl) (Uj t (by omega)) (fun _=>rfl) (fun pre U=>∃out,Bx R (pre.map DF)=some out∧U=FZ S0 out) (fun ex U=>ex=.ret∧Bx R ((t.visits []).map DF)=none∧U 1004=some (.box 35 [.full []])∧U 1005=some (R7 8)) ⟨[],rfl,?_⟩ (fun _ _ _ _ _=>trivial) ?_ ?_ ?_
 ·funext i;unfold FZ AI;split
  ·rename_i h;subst h;exact EP s6
  ·split
   ·rename_i h;subst h;exact EP s500
   ·rfl
 ·rintro C' b0 b1 pre v U hC' hpre ⟨out,ho,rfl⟩ hU hcl hb1;have hv:v∈t.visits []:=by
   obtain⟨tl,htl⟩:=hpre;rw[←htl];simp
  obtain⟨hsur,hkn⟩:=PW t [] trivial (by omega) v hv;have hvc:=HH t v.2 hc hkn;have hvz:=CF t v.2 hkn;have hlen:=Mi ho;have hpl:=hpre.length_le;rw[List.length_append,Th]at hpl;rw[List.length_map]at hlen;have hlen2:out.length≤80000:=Nat.le_trans hlen (Nat.mul_le_mul (show pre.length≤2000 by simp at hpl;omega) h40);have n8:FZ S0 out 8=none:=AK hcl (by decide);have n11:FZ S0 out 11=none:=AK hcl (by decide);have w2:Fr C.n env' 2=.one (.ptr 1002 1 0 0):=by rw[Fr,if_pos (by omega),e2];rfl
  have w4:Fr C.n env' 4=.one (.ptr 1004 1 0 0):=by rw[Fr,if_pos (by omega),e4];rfl
  have w5:Fr C.n env' 5=.one (.ptr 1005 1 0 0):=by rw[Fr,if_pos (by omega),e5];rfl
  have w6:Fr C.n env' 6=.one (.ptr 1006 1 0 0):=by rw[Fr,if_pos (by omega),e6];rfl
  have w7:Fr C.n env' 7=.one (.ptr 1007 1 0 0):=by rw[Fr,if_pos (by omega),e7];rfl
  have u501:up1 501=1501:=rfl;unfold AAv;repeat' with_reducible first|refine W ?_|refine Z0 ?_|((first|refine Wo fun K hK=>?_|refine Wp ?_|refine Wq ?_|refine Wr ?_);(try simp only[go_sem,fN,seval,eT,iR,Px,n8,n11,u501,dT,dF,nL]);(repeat refine Ai ?_);(try(refine hK _ ?_;clear hK K));try refine iC ?_)
  refine AE ⟨by simp only[go_sem,fN,seval,eT,iR,u501],?_⟩;have hst:∀i,1000≤i→AI (AI (AI (AI (FZ S0 out) 1501 (some b0)) 8 (some (.box 37 [.st (.str ⟨#[]⟩),.full []]))) 8 (some (.box 37 [.st (.str v.2.name),.st (.list (v.2.args.map Al))]))) 1501 (some b1) i=AI (FZ S0 out) 1501 (some b1) i:=fun i hi=>by
   by_cases h:i=1501
   ·subst h;rw[AG,AG]
   ·rw[AH _ h,AH _ h,AH _ (by omega),AH _ (by omega),AH _ h]
  refine Gf u501 ?_;refine IWP.loopD [11] (fun m s=>∃f o2,f≤R.length∧o2.length≤f∧m=R.length-f∧DX (DF v) R=(DX (DF v) (R.drop f)).map (o2++·)∧s.env 2=.one (.ptr 1002 1 0 0)∧s.env 4=.one (.ptr 1004 1 0 0)∧s.env 5=.one (.ptr 1005 1 0 0)∧s.env 6=.one (.ptr 1006 1 0 0)∧s.env 7=.one (.ptr 1007 1 0 0)∧s.env 8=.one (.ptr 8 1 0 0)∧s.env 9=.one (.st (svW v.1))∧s.env 10=AO f∧s.S 8=some (.box 37 [.st (.str v.2.name),.st (.list (v.2.args.map Al))])∧s.S 11=none∧∀i,1000≤i→s.S i=AI (FZ S0 (out++o2)) 1501 (some b1) i) R.length ⟨0,[],Nat.zero_le _,Nat.zero_le _,rfl,?_,?_,?_,?_,?_,?_,?_,?_,?_,?_,?_,?_⟩ ?_
  ·simp
  ·simp only[go_sem,fN,seval,eT,iR,w2]
  ·simp only[go_sem,fN,seval,eT,iR,w4]
  ·simp only[go_sem,fN,seval,eT,iR,w5]
  ·simp only[go_sem,fN,seval,eT,iR,w6]
  ·simp only[go_sem,fN,seval,eT,iR,w7]
  ·simp only[go_sem,fN,seval,eT,iR]
  ·simp only[go_sem,fN,seval,eT,iR]
  ·simp only[go_sem,fN,seval,eT,iR]
  ·simp only[go_sem,fN,seval,eT,iR,u501]
  ·simp only[go_sem,fN,seval,eT,iR,n11,u501]
  ·rw[List.append_nil];exact hst
  rintro m ⟨env1,S1⟩ ⟨f,o2,hf,hfo,rfl,hoff,x2,x4,x5,x6,x7,x8,x9,x10,s8,s11,hS⟩;simp only at x2 x4 x5 x6 x7 x8 x9 x10 s8 s11 hS;have hout:∀o,Ay (FZ S0 (out++o)):=fun o=>Bb (Bb (Kb S0) (by decide) rfl) (by decide) rfl;have t2:S1 1002=some (ABF R):=by rw[hS 1002 (by decide),AH _ (by decide),GU (by decide) (by decide)];exact EP s2
  have t4:S1 1004=some (.box 35 [.full []]):=by rw[hS 1004 (by decide),AH _ (by decide),GU (by decide) (by decide)];exact EP s4
  have t5:S1 1005=some (R7 0):=by rw[hS 1005 (by decide),AH _ (by decide),GU (by decide) (by decide)];exact EP s5
  have t7:S1 1007=some (R7 0):=by rw[hS 1007 (by decide),AH _ (by decide),GU (by decide) (by decide)];exact EP s7
  have t6:S1 1006=some (.box 35 [.row 1500 (out++o2).length]):=by rw[hS 1006 (by decide),AH _ (by decide)];rfl
  have t15:S1 1500=some (.mrow 37 2 ((out++o2).map Al)):=by rw[hS 1500 (by decide),AH _ (by decide)];rfl
  have t1501:S1 1501=some b1:=by rw[hS 1501 (by decide),AG]
  have hhi:∀i b,1000≤i→S1 i=some b→b.high=true:=fun i b hi h=>by
   rw[hS i hi]at h;exact((Bb (hout o2) (by decide) hb1) i b h).2
  have hbad:DX (DF v) R=none→Bx R ((t.visits []).map DF)=none:=fun h=>by
   obtain⟨tl,htl⟩:=hpre;rw[←htl,List.append_assoc,List.map_append,List.singleton_append,List.map_cons];exact Uq h
  have hroot:=Xw hR v.2 hvc (by omega) f hf;rcases PY (DF v) (R.drop f) f with⟨hr,ho2⟩|⟨i,y,r,hi1,hi2,hmem,hcase,hy,hrest⟩
  ·rw[show(DF v).2=v.2 from rfl]at hr;rw[hr]at hroot;unfold Gl at hroot;repeat' first|refine Gf (F16 x2 x4 x5 x6 x7 x8 x9 x10 s8 s11 t2 t4 t5 t6 t7 t15) ?_|refine Mm fun K hK=>?_|refine Cg _ (hroot) ?_
   rw[ho2]at hoff;simp only[Option.map_some,List.append_nil]at hoff;refine W_ (FZ S0 (out++o2)) (Bb (hout o2) (by decide) hb1) (by
    have:=hU;rw[GU (by decide) (by decide)]at this ⊢;exact this) (fun i hi=>?_) ⟨out++o2,?_,rfl⟩
   ·show AI (AI S1 11 _) 11 _ i=_
    rw[AH _ (by omega),AH _ (by omega)];exact hS i hi
   ·rw[List.map_append];exact TK ho hoff
  ·rw[show(DF v).2=v.2 from rfl]at hrest hcase hy;rw[show(DF v).1=CN v.1 from rfl]at hrest;have hyz:y.size≤2000:=by rw[←hy];exact D1
   have hpz:=SS hv y;rw[List.length_drop]at hi2;have hge:¬(i:Int)<0:=by omega
   rcases hrest with⟨hr,_,ho2⟩|⟨hr,ho2⟩
   ·rw[hr]at hroot;unfold Gl at hroot;by_cases hgr:(CN v.1 y).size≤2000
    ·have hgi:¬(2000:Int)<(CN v.1 y).size:=by omega
     rw[if_pos hgr]at ho2;repeat' first|refine Gf (F18 x2 x4 x5 x6 x7 x8 x9 x10 s8 s11 t2 t4 t5 t6 t7 t15 hge @Mc) ?_|refine Mm fun K hK=>?_|refine Cg _ (hroot) ?_
     rw[I8];refine⟨Ky _,_,_,(Y7 v.1 y hsur).toS (UG _ _),?_⟩;have hl2:((out++o2).map Al).length=(out++o2).length:=by simp
     have hat:((out++o2).map Al++[[SV.str ⟨#[]⟩,SV.list []]])[out.length+o2.length]?=some [SV.str ⟨#[]⟩,SV.list []]:=by
      rw[List.getElem?_append_right (by simp)];simp
     repeat' first|refine Gf (F20 x2 x4 x5 x6 x7 x8 x9 x10 s8 s11 t2 t4 t5 t6 t7 t15 hge hgi hl2 hat) ?_|refine Mm fun K hK=>?_|refine Cg _ (GZ (CN v.1 y) (by omega)) ?_|refine Cg _ (KJ (CN v.1 y) (by omega)) ?_
     have hset:((out++o2).map Al++[[SV.str ⟨#[]⟩,SV.list []]]).set (out.length+o2.length) [.str (CN v.1 y).name,.list ((CN v.1 y).args.map Al)]=(out++(o2++[CN v.1 y])).map Al:=by
      rw[List.set_append_right _ _ (by simp)];simp[Ao]
     rw[hset];refine AE ⟨R.length-(i+1),by omega,i+1,o2++[CN v.1 y],by omega,by simp only[List.length_append,List.length_singleton];omega,rfl,?_,?_,?_,?_,?_,?_,?_,?_,?_,?_,rfl,M7 (T:=AI (FZ S0 (out++(o2++[CN v.1 y]))) 1501 (some b1)) (by decide) (Bb (hout _) (by decide) hb1) fun j hj=>?_⟩
     ·rw[hoff,ho2,List.drop_drop,show f+(i+1-f)=i+1 by omega,Option.map_map];congr 1;funext l;simp
     ·simp only[go_sem,fN,seval,AS.drop,AT,AC.clears,AC.clear,AC.highs,AC.high,zD,AV.purge,AV.purges,AC.purge,AJ.purge,Nat.reduceBEq,eT,iR,x2]
     ·simp only[go_sem,fN,seval,AS.drop,AT,AC.clears,AC.clear,AC.highs,AC.high,zD,AV.purge,AV.purges,AC.purge,AJ.purge,Nat.reduceBEq,eT,iR,x4]
     ·simp only[go_sem,fN,seval,AS.drop,AT,AC.clears,AC.clear,AC.highs,AC.high,zD,AV.purge,AV.purges,AC.purge,AJ.purge,Nat.reduceBEq,eT,iR,x5]
     ·simp only[go_sem,fN,seval,AS.drop,AT,AC.clears,AC.clear,AC.highs,AC.high,zD,AV.purge,AV.purges,AC.purge,AJ.purge,Nat.reduceBEq,eT,iR,x6]
     ·simp only[go_sem,fN,seval,AS.drop,AT,AC.clears,AC.clear,AC.highs,AC.high,zD,AV.purge,AV.purges,AC.purge,AJ.purge,Nat.reduceBEq,eT,iR,x7]
     ·simp only[go_sem,fN,seval,AS.drop,AT,AC.clears,AC.clear,AC.highs,AC.high,zD,AV.purge,AV.purges,AC.purge,AJ.purge,Nat.reduceBEq,eT,iR,x8]
     ·simp only[go_sem,fN,seval,AS.drop,AT,AC.clears,AC.clear,AC.highs,AC.high,zD,AV.purge,AV.purges,AC.purge,AJ.purge,Nat.reduceBEq,eT,iR,x9]
     ·simp only[go_sem,fN,seval,AS.drop,AT,AC.clears,AC.clear,AC.highs,AC.high,zD,AV.purge,AV.purges,AC.purge,AJ.purge,Nat.reduceBEq,eT,iR,x10];congr 3
     ·simp only[go_sem,fN,seval,AS.drop,AT,AC.clears,AC.clear,AC.highs,AC.high,zD,AV.purge,AV.purges,AC.purge,AJ.purge,Nat.reduceBEq,eT,iR,s8]
     ·by_cases h1:j=1006
      ·subst h1;show some _=some _
       congr 4;simp;omega
      ·by_cases h2:j=1500
       ·subst h2;rfl
       ·show AI (AI (AI (AI (AI (AI S1 11 _) 11 _) 11 _) 1500 _) 1500 _) 1006 _ j=_
        rw[AH _ h1,AH _ h2,AH _ h2,AH _ (by omega),AH _ (by omega),AH _ (by omega),hS j hj];by_cases h3:j=1501
        ·subst h3;rw[AG,AG]
        ·rw[AH _ h3,AH _ h3,GU h2 h1,GU h2 h1]
    ·have hgi:(2000:Int)<(CN v.1 y).size:=by omega
     rw[if_neg hgr]at ho2;repeat' first|refine Gf (F18 x2 x4 x5 x6 x7 x8 x9 x10 s8 s11 t2 t4 t5 t6 t7 t15 hge @Mc) ?_|refine Mm fun K hK=>?_|refine Cg _ (hroot) ?_
     rw[I8];refine⟨Ky _,_,_,(Y7 v.1 y hsur).toS (UG _ _),?_⟩;repeat' first|refine Gf (F18 x2 x4 x5 x6 x7 x8 x9 x10 s8 s11 t2 t4 t5 t6 t7 t15 hge hgi) ?_|refine Mm fun K hK=>?_|refine Cg _ (GZ (CN v.1 y) (by omega)) ?_
     rw[ho2,Option.map_none]at hoff;rw[u501];refine PZ ?_ (by decide) (by simp only[go_sem,fN,seval,eT,iR,t1501]) ⟨rfl,hbad hoff,?_,?_⟩
     ·repeat(first|exact hhi|refine Pj ?_ (by decide)|refine Om ?_ rfl)
     ·rw[Q5 (by decide) (by decide)];simp only[go_sem,fN,seval,eT,iR]
     ·rw[Q5 (by decide) (by decide)];simp only[go_sem,fN,seval,eT,iR]
   ·rw[hr]at hroot;unfold Gl at hroot;all_goals
     repeat' first|refine Gf (F17 x2 x4 x5 x6 x7 x8 x9 x10 s8 s11 t2 t4 t5 t6 t7 t15 hge) ?_|refine Mm fun K hK=>?_|refine Cg _ (hroot) ?_
     rw[ho2,Option.map_none]at hoff;rw[u501];refine PZ ?_ (by decide) (by simp only[go_sem,fN,seval,eT,iR,t1501]) ⟨rfl,hbad hoff,?_,?_⟩
     ·repeat(first|exact hhi|refine Pj ?_ (by decide)|refine Om ?_ rfl)
     ·rw[Q5 (by decide) (by decide)];simp only[go_sem,fN,seval,eT,iR]
     ·rw[Q5 (by decide) (by decide)];simp only[go_sem,fN,seval,eT,iR]
 ·rintro U ⟨out,ho,rfl⟩;rw[ho];have hdn:dnS (FZ S0 out)=AI (AI S0 500 (some (.mrow 37 2 (out.map Al)))) 6 (some (.box 35 [.row 500 out.length])):=by
   show dnS (AI (AI (upS S0) (up1 500) _) (up1 6) _)=_
   rw[Qi,Qi,QH];rfl
  rw[hdn];refine Wi ?_;refine Wb ?_;have hl:(out.map Al).length=out.length:=by simp
  refine IWP.ghost (AY.share (id:=500) (e:=37) (wd:=2) (xs:=out.map Al) (by simp only[go_sem,fN,seval,eT,iR])) ?_;unfold RB;refine Gf (F8 e2 e4 e5 e6 e7 s4 s5 hl) ?_;simp only[go_sem,fN,seval,AQ,AS.result,AB,AD,AM,e4,e5,s4,s5,hl]
 ·rintro ex U ⟨rfl,ho,u4,u5⟩;rw[ho];have d4:dnS U 4=some (.box 35 [.full []]):=Hd (i:=1004) (by decide) u4;have d5:dnS U 5=some (R7 8):=Hd (i:=1005) (by decide) u5;refine Wl ?_;refine Wh ?_;unfold RB;simp only[go_sem,fN,seval,AQ,AS.result,AB,AD,AM,e4,e5,d4,d5];rfl

theorem CA.dropA{σ:Sto}{S S':AA}{ι ι':A6}{w:World}{h:Hnd}{e:TypeId}{wd:Nat}{xs:List (List SV)}(hr:CA σ S ι w h (.arow e wd xs))(hw:∀x∈xs,x.length=wd){o:Nat}(ho:o≤xs.length) :
  CA σ S' ι' w ⟨if h.cap=o then h.p else h.p.map (·.add (o*wd)),h.cap-o,if h.cap=o then none else h.g⟩ (.arow e wd (xs.drop o)):=by
 have hs:=hr.srep;obtain⟨p,cap,he,hc,hp⟩:=KZ hs hw (l:=o) (hh:=xs.length) ho (Nat.le_refl _);simp only[Value.slice.injEq]at he;obtain⟨rfl,-,rfl⟩:=he;rw[List.take_length]at hp;have hwd:∀x∈xs.drop o,x.length=wd:=fun x hx=>hw x (List.mem_of_mem_drop hx);have hld:(xs.drop o).length=xs.length-o:=List.length_drop;by_cases hco:h.cap=o
 ·exact .afull (by simp[hco]) (by show h.cap-o=_;omega) hwd (by rw[hld];exact hp)
 ·cases hr with
  | afull h1 h2 h3 h4=>exact .afull (by simp[h1]) (by show h.cap-o=_;omega) hwd (by rw[hld];exact hp)
  | @arow _ _ _ g vs q h1 h2 h3 h4 h5 h6 h7 h8 h9 hh =>
   have e1:(h.cap-o)*wd+o*wd=h.cap*wd:=by rw[←Nat.add_mul];congr 1;omega
   have e2:(xs.length-o)*wd+o*wd=xs.length*wd:=by rw[←Nat.add_mul];congr 1;omega
   refine .arow (q:=q+o*wd) (by simp[hco,h1]) (by simp only[hco,if_false];rw[h2,Option.map_some,B6]) h3 (by rw[hld];show xs.length-o≤h.cap-o;omega) (by show h.cap-o≤_;omega) (by rw[h6];show _=q+o*wd+(h.cap-o)*wd;omega) hwd (fun k x j a hx ha=>?_) (fun p hp hne=>?_) (fun q1 q2 q3=>hh q1 q2 fun e=>q3 (by rw[e,List.drop_nil]))
   ·rw[List.getElem?_drop]at hx;obtain⟨v,v1,v2,v3⟩:=h8 _ x j a hx ha;have e3:q+((o+k)*wd+j)=q+o*wd+(k*wd+j):=by rw[Nat.add_mul];omega
    rw[e3]at v1 v3;exact⟨v,v1,v2,v3⟩
   ·have:=h9 p hp hne;rw[hld];omega
theorem Ac.move{C:Ctx}{σ:Sto}{ι:A6}{s:AS}{a:Act}{w:World}(R:Ac C σ ι s a w){id nid N wd:Nat}{b b':AJ}{h':Hnd}(hid:s.S id=some b)(hn:s.S nid=none)(hN:b.len<N)(hg:∀g,h'.g=some g→(ι id).g=some g)(hb':∀S' ι',CA σ S' ι' w h' b') :
  Upd s.S ι (AI (AI s.S id (some (.dead N wd))) nid (some b')) (AI (AI ι id ⟨none,0,none⟩) nid h')∧Ac C σ (AI (AI ι id ⟨none,0,none⟩) nid h') ⟨s.env,AI (AI s.S id (some (.dead N wd))) nid (some b')⟩ a w:=by
 have n1:nid≠id:=fun e=>by subst e;rw[hid]at hn;cases hn
 obtain⟨S2,hS2⟩:∃S2,AI (AI s.S id (some (.dead N wd))) nid (some b')=S2:=⟨_,rfl⟩
 obtain⟨ι2,hι2⟩:∃ι2:A6,AI (AI ι id ⟨none,0,none⟩) nid h'=ι2:=⟨_,rfl⟩
 rw[hS2,hι2];have sn:S2 nid=some b':=by rw[←hS2,AG]
 have si:S2 id=some (.dead N wd):=by rw[←hS2,AH _ n1.symm,AG]
 have so:∀i,i≠nid→i≠id→S2 i=s.S i:=fun i h2 h3=>by rw[←hS2,AH _ h2,AH _ h3]
 have ιn:ι2 nid=h':=by rw[←hι2,AG]
 have ιi:ι2 id=⟨none,0,none⟩:=by rw[←hι2,AH _ n1.symm,AG]
 have ιo:∀i,i≠nid→i≠id→ι2 i=ι i:=fun i h2 h3=>by rw[←hι2,AH _ h2,AH _ h3]
 have hu:Upd s.S ι S2 ι2:=fun i b h=>by
  by_cases e2:i=id
  ·subst e2;rw[hid]at h;cases h;exact⟨_,si,Nat.le_of_lt hN,fun hl=>absurd (show N=_ from hl) (by omega)⟩
  ·have e3:i≠nid:=fun e3=>by subst e3;rw[hn]at h;cases h
   exact⟨b,(so i e3 e2).trans h,Nat.le_refl _,fun _=>⟨rfl,ιo i e3 e2⟩⟩
 have old:∀i b,S2 i=some b→∀g,(ι2 i).g=some g→∃i' b',s.S i'=some b'∧(ι i').g=some g∧(i=nid∧i'=id∨i'=i∧i≠nid∧i≠id):=fun i b h g hg1=>by
  by_cases e2:i=id
  ·subst e2;rw[ιi]at hg1;cases hg1
  ·by_cases e3:i=nid
   ·subst e3;rw[ιn]at hg1;exact⟨id,_,hid,hg g hg1,.inl ⟨rfl,rfl⟩⟩
   ·rw[ιo i e3 e2]at hg1;exact⟨i,b,(so i e3 e2).symm.trans h,hg1,.inr ⟨rfl,e3,e2⟩⟩
 refine⟨hu,R.size,fun i hi=>(R.env i hi).mono (fun _ _ h=>h) hu,R.nod,R.fit,fun i b h=>?_,fun i i' b b' g h1 h2 g1 g2=>?_,fun i b g h hg1=>?_,R.ext,R.old,R.os,R.grown,R.same,R.upd.trans hu⟩
 ·change S2 i=some b at h;by_cases e2:i=id
  ·subst e2;rw[si]at h;cases h;rw[ιi];exact .dead fun g hg=>by cases hg
  ·by_cases e3:i=nid
   ·subst e3;rw[sn]at h;cases h;rw[ιn];exact hb' _ _
   ·rw[ιo i e3 e2];exact(R.blk i b ((so i e3 e2).symm.trans h)).mono (fun _ _ h=>h) hu (fun _ _=>rfl) (fun _ _ _ _=>rfl)
 ·obtain⟨j1,c1,k1,k2,k3⟩:=old i b h1 g g1;obtain⟨j2,c2,l1,l2,l3⟩:=old i' b' h2 g g2;have:=R.inj _ _ _ _ g k1 l1 k2 l2;rcases k3 with⟨a1,a2⟩|⟨a1,a2,a3⟩ <;> rcases l3 with⟨b1,b2⟩|⟨b1,b2,b3⟩
  ·rw[a1,b1]
  ·exact absurd (by rw[←b1,←this,a2]:i'=id) b3
  ·exact absurd (by rw[←a1,this,b2]:i=id) a3
  ·rw[←a1,←b1,this]
 ·obtain⟨j1,c1,k1,k2,_⟩:=old i b h g hg1;exact R.base _ _ g k1 k2
theorem Ma{σ:Sto}{S:AA}{ι:A6}{v:Value}{id o n:Nat}(h:At σ S ι v (.rest id o n)):∃b,S id=some b∧n≤b.len∧v.oneCell'=true∧(n=b.len→o≤n∧v=.slice (if(ι id).cap=o then(ι id).p else(ι id).p.map (·.add (o*b.wid))) (n-o) ((ι id).cap-o)):=by
 cases h with
 | rest h1 h2 h3 h4=>exact⟨_,h1,h2,h3,h4⟩
theorem AY.front{C:Ctx}{s:AS}(t id nid N:Nat){o:Nat}{e:TypeId}{wd:Nat}{xs:List (List SV)}(hid:s.S id=some (.arow e wd xs))(ht:s.env t=.one (.rest id o xs.length))(hw:∀x∈xs,x.length=wd)(hn:s.S nid=none)(hN:xs.length<N)(htn:t<C.n) :
  AY C s ⟨AI s.env t (.one (.row nid (xs.length-o))),AI (AI s.S id (some (.dead N wd))) nid (some (.arow e wd (xs.drop o)))⟩:=fun a w ⟨σ,ι,R⟩=>by
 have hv:=R.env t htn;rw[ht]at hv;obtain⟨b0,q1,q2,q3,q4⟩:=Ma (Ad hv)
 ·rw[hid]at q1;cases q1;obtain⟨q5,q6⟩:=q4 rfl;have hb:=R.blk _ _ hid;obtain⟨hu,R'⟩:=R.move (N:=N) (wd:=wd) hid hn hN (fun g hg=>by simp only at hg;split at hg;cases hg;exact hg) (fun S' ι'=>hb.dropA (S':=S') (ι':=ι') hw q5);refine⟨σ,_,{ R' with env:=fun i hi=>?_ }⟩;show Ae σ _ _ _ (AI s.env t _ i)
  by_cases hi':i=t
  ·subst hi';rw[AG];refine .one (.row (b:=.arow e wd (xs.drop o)) (AG _ _ _) (by show xs.length-o≤(xs.drop o).length;rw[List.length_drop];omega) q3 fun _=>?_);rw[AG];exact q6
  ·rw[AH _ hi'];exact R'.env i hi
theorem PT{σ:Sto}{S:AA}{ι:A6}{v:Value}{id n:Nat}(h:At σ S ι v (.row id n)):∃b,S id=some b∧n≤b.len∧v.oneCell'=true∧(n=b.len→v=.slice (ι id).p n (ι id).cap):=by
 cases h with
 | row h1 h2 h3 h4=>exact⟨_,h1,h2,h3,h4⟩
theorem AY.rename{C:Ctx}{s:AS}(t id nid N:Nat){e:TypeId}{wd:Nat}{xs:List (List SV)}(hid:s.S id=some (.arow e wd xs))(ht:s.env t=.one (.row id xs.length))(hn:s.S nid=none)(hN:xs.length<N)(htn:t<C.n) :
  AY C s ⟨AI s.env t (.one (.row nid xs.length)),AI (AI s.S id (some (.dead N wd))) nid (some (.arow e wd xs))⟩:=fun a w ⟨σ,ι,R⟩=>by
 have hv:=R.env t htn;rw[ht]at hv;obtain⟨b0,q1,q2,q3,q4⟩:=PT (Ad hv)
 ·rw[hid]at q1;cases q1;have hb:=R.blk _ _ hid;have hbb:∀S' ι',CA σ S' ι' w (ι id) (.arow e wd xs):=fun S' ι'=>by
   cases hb with
   | afull h1 h2 h3 h4=>exact .afull h1 h2 h3 h4
   | arow h1 h2 h3 h4 h5 h6 h7 h8 h9 hh=>exact .arow h1 h2 h3 h4 h5 h6 h7 h8 h9 hh
  obtain⟨hu,R'⟩:=R.move (N:=N) (wd:=wd) hid hn hN (fun g hg=>hg) hbb;refine⟨σ,_,{ R' with env:=fun i hi=>?_ }⟩;show Ae σ _ _ _ (AI s.env t _ i)
  by_cases hi':i=t
  ·subst hi';rw[AG];refine .one (.row (b:=.arow e wd xs) (AG _ _ _) (Nat.le_refl _) q3 fun _=>?_);rw[AG];exact q4 rfl
  ·rw[AH _ hi'];exact R'.env i hi

theorem CA.rowsAt{σ:Sto}{S:AA}{ι:A6}{w:World}{h:Hnd}{b:AJ}(hb:CA σ S ι w h b)(hr:(∃e wd xs,b=.arow e wd xs)∨∃e wd xs,b=.mrow e wd xs)(S':AA)(ι':A6):CA σ S' ι' w h b:=by
 rcases hr with⟨e,wd,xs,rfl⟩|⟨e,wd,xs,rfl⟩
 ·cases hb with
  | afull h1 h2 h3 h4=>exact .afull h1 h2 h3 h4
  | arow h1 h2 h3 h4 h5 h6 h7 h8 h9 hh=>exact .arow h1 h2 h3 h4 h5 h6 h7 h8 h9 hh
 ·cases hb with
  | mnil h1 h2=>exact .mnil h1 h2
  | mrow h1 h2 h3 h4 h5 h6 h7 h8 h9=>exact .mrow h1 h2 h3 h4 h5 h6 h7 h8 h9
theorem AY.renameB{C:Ctx}{s:AS}(A j id nid N:Nat){e':TypeId}{cs:List AC}{b:AJ}(hA:s.S A=some (.box e' cs))(hj:cs[j]?=some (.row id b.len))(hid:s.S id=some b)(hr:(∃e wd xs,b=.arow e wd xs)∨∃e wd xs,b=.mrow e wd xs)(hn:s.S nid=none)(hN:b.len<N) :
  AY C s ⟨s.env,AI (AI (AI s.S id (some (.dead N b.wid))) nid (some b)) A (some (.box e' (cs.set j (.row nid b.len))))⟩:=fun a w ⟨σ,ι,R⟩=>by
 have hne:A≠id:=fun h=>by
  subst h;rw[hA]at hid;cases hid;rcases hr with⟨_,_,_,h⟩|⟨_,_,_,h⟩ <;> cases h
 have hne2:A≠nid:=fun h=>by subst h;rw[hA]at hn;cases hn
 have hni:nid≠id:=fun h=>by subst h;rw[hn]at hid;cases hid
 have hb:=R.blk _ _ hid;obtain⟨hu,R'⟩:=R.move (N:=N) (wd:=b.wid) hid hn hN (fun g hg=>hg) (hb.rowsAt hr);have hbA:=R.blk _ _ hA;cases hbA with
 | @box _ _ g vs h1 h2 h3 h6 h7 =>
  have hA2:(AI (AI s.S id (some (.dead N b.wid))) nid (some b)) A=some (.box e' cs):=by rw[AH _ hne2,AH _ hne,hA]
  have hιA:AI (AI ι id ⟨none,0,none⟩) nid (ι id) A=ι A:=by rw[AH _ hne2,AH _ hne]
  obtain⟨hu2,R2⟩:=R'.turn (w':=w) hA2 (.box e' (cs.set j (.row nid b.len))) (ι A) (σ':=σ) (fun _ _ h=>h) (fun _ _ _=>rfl) R.fit (by simp[AJ.len]) (fun _=>⟨rfl,hιA.symm⟩) ⟨rfl,rfl,rfl⟩ (Nat.le_refl _) (fun _ _ _=>rfl) (fun g h=>.inl (by rw[hιA];exact h)) (fun hu2=>by
   refine .box h1 h2 h3 (An.of_get (by rw[List.length_set];exact h6.len) fun k v c hv hc=>?_) h7;rw[List.getElem?_set]at hc;by_cases hk:j=k
   ·subst hk;have hl:=(List.getElem?_eq_some_iff.1 hj).1;rw[if_pos rfl,if_pos hl]at hc;cases hc;obtain⟨v',k1,k2⟩:=h6.get hj;rw[hv]at k1;cases k1;obtain⟨b0,q1,q2,q3,q4⟩:=PT k2;rw[hid]at q1;cases q1;have hs1:(AI (AI (AI s.S id (some (.dead N b.wid))) nid (some b)) A (some (.box e' (cs.set j (.row nid b.len))))) nid=some b:=by rw[AH _ hne2.symm,AG]
    refine .row (b:=b) hs1 (Nat.le_refl _) q3 fun _=>?_;rw[AH _ hne2.symm,AG];exact q4 rfl
   ·rw[if_neg hk]at hc;obtain⟨v',k1,k2⟩:=h6.get hc;rw[hv]at k1;cases k1;exact k2.mono (fun _ _ h=>h) (hu.trans hu2))
  exact⟨_,_,R2⟩
theorem AY.frontB{C:Ctx}{s:AS}(A j id nid N:Nat){o:Nat}{e e':TypeId}{cs:List AC}{wd:Nat}{xs:List (List SV)}(hA:s.S A=some (.box e' cs))(hj:cs[j]?=some (.rest id o xs.length))(ho:o≤xs.length)(hid:s.S id=some (.arow e wd xs))(hw:∀x∈xs,x.length=wd)(hn:s.S nid=none)(hN:xs.length<N) :
  AY C s ⟨s.env,AI (AI (AI s.S id (some (.dead N wd))) nid (some (.arow e wd (xs.drop o)))) A (some (.box e' (cs.set j (.row nid (xs.length-o)))))⟩:=fun a w ⟨σ,ι,R⟩=>by
 have hne:A≠id:=fun h=>by subst h;rw[hA]at hid;cases hid
 have hne2:A≠nid:=fun h=>by subst h;rw[hA]at hn;cases hn
 have hb:=R.blk _ _ hid;obtain⟨hu,R'⟩:=R.move (N:=N) (wd:=wd) hid hn hN (fun g hg=>by simp only at hg;split at hg;cases hg;exact hg) (fun S' ι'=>hb.dropA (S':=S') (ι':=ι') hw ho);have hbA:=R.blk _ _ hA;cases hbA with
 | @box _ _ g vs h1 h2 h3 h6 h7 =>
  have hA2:(AI (AI s.S id (some (.dead N wd))) nid (some (.arow e wd (xs.drop o)))) A=some (.box e' cs):=by rw[AH _ hne2,AH _ hne,hA]
  obtain⟨hu2,R2⟩:=R'.turn (w':=w) hA2 (.box e' (cs.set j (.row nid (xs.length-o)))) (ι A) (σ':=σ) (fun _ _ h=>h) (fun _ _ _=>rfl) R.fit (by simp[AJ.len]) (fun _=>⟨rfl,by rw[AH _ hne2,AH _ hne]⟩) ⟨rfl,rfl,rfl⟩ (Nat.le_refl _) (fun _ _ _=>rfl) (fun g h=>.inl (by rw[AH _ hne2,AH _ hne];exact h)) (fun hu2=>by
   refine .box h1 h2 h3 (An.of_get (by rw[List.length_set];exact h6.len) fun k v c hv hc=>?_) h7;rw[List.getElem?_set]at hc;by_cases hk:j=k
   ·subst hk;have hl:=(List.getElem?_eq_some_iff.1 hj).1;rw[if_pos rfl,if_pos hl]at hc;cases hc;obtain⟨v',k1,k2⟩:=h6.get hj;rw[hv]at k1;cases k1;obtain⟨b0,q1,q2,q3,q4⟩:=Ma k2;rw[hid]at q1;cases q1;obtain⟨q5,q6⟩:=q4 rfl;have hs1:(AI (AI (AI s.S id (some (.dead N wd))) nid (some (.arow e wd (xs.drop o)))) A (some (.box e' (cs.set j (.row nid (xs.length-o)))))) nid=some (.arow e wd (xs.drop o)):=by rw[AH _ hne2.symm,AG]
    refine .row (b:=.arow e wd (xs.drop o)) hs1 (by show xs.length-o≤(xs.drop o).length;rw[List.length_drop];omega) q3 fun _=>?_;rw[AH _ hne2.symm,AG];exact q6
   ·rw[if_neg hk]at hc;obtain⟨v',k1,k2⟩:=h6.get hc;rw[hv]at k1;cases k1;exact k2.mono (fun _ _ h=>h) (hu.trans hu2))
  exact⟨_,_,R2⟩

end Go.Proofs.YtbhnmjkmieiadaaGreatDoor
