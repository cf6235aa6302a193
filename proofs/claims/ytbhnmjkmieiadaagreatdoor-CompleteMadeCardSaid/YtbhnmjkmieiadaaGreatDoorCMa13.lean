/-
  Proved: completing known systems of equations, by known rows and up to fourteen rounds, gives what the document says: the law CompleteMade returns true; as a tied card. Conditions: none.
-/
import Derived.Test.YtbhnmjkmieiadaaGreatDoorCMa12
import Derived.Test.YtbhnmjkmieiadaaGreatDoorRows
import Derived.ProofKit
import Derived.OpenShut
import Derived.JoinedCond
import Derived.Deep.Slices
import Derived.Test.YtbhnmjkmieiadaaGreatDoorTie
import Derived.Test.YtbhnmjkmieiadaaGreatDoorCards
import Derived.LaidMore
import Derived.MakeChecks
import Derived.Stop.Joined
import Derived.Lib.LaidTab
import Derived.Lib.ItoaNum
import Derived.LaidLaws
namespace Go.Proofs.YtbhnmjkmieiadaaGreatDoor
open Go Go.RowKit
set_option linter.unusedVariables false
set_option linter.unusedSimpArgs false
set_option maxHeartbeats 4000000
def E7(b:Bool):List SV:=[.bool b]
abbrev aIs(l:List Int):AV:=.one (.st (.list (l.map HM)))
structure Mat(row:List ByteArray)(x y:List Tm)(i k:Nat)(cs:List AC)(B:Nat)(L:List Bool):Prop where
 len:cs.length=x.length
 own:cs[i]?=some (.row B y.length)
 rowL:L.length=y.length
 done:∀j a,i<j→x[j]?=some a→cs[j]?=some (.st (.list ((y.map (paB row a)).map E7)))
 part:∀k' b a,k<k'→x[i]?=some a→y[k']?=some b→L[k']?=some (paB row a b)
abbrev ABq(t:Tm):AJ:=.box 37 [.st (.str t.name),.st (.list (t.args.map Al))]
def ZC(row:List ByteArray)(x y:List Tm)(i k:Nat)(a b:Tm)(A:Nat)(S:AA)(s:AS):Prop :=
 s.env 0=Bn row∧s.env 1=CJ x∧s.env 2=CJ y∧s.env 3=aIs (Dj x)∧s.env 4=aIs (Dj y)∧s.env 5=.one (.row A x.length)∧s.env 6=AO i∧s.env 7=AO k∧s.env 17=.one (.ptr 17 1 0 0)∧s.env 18=.one (.ptr 18 1 0 0)∧s.S 17=some (ABq a)∧s.S 18=some (ABq b)∧∀j,1000≤j→s.S j=S j
theorem Uy(row:List ByteArray)(t u:Tm)(i k:Nat)(a b:Tm)(ha:t.knots[i]?=some a)(hb:u.knots[k]?=some b)(ht:t.size≤1000000)(hu:u.size≤1000000)(A B:Nat)(cs:List AC)(L:List Bool)(S:AA)(hA:1000≤A)(hB:1000≤B)(sA:S A=some (.crow 96 cs))(sB:S B=some (.mrow 4 1 (L.map E7)))(M:Mat row t.knots u.knots i k cs B L) :
  Ah Tryz.prog 59 [Bn row,CJ t.knots,CJ u.knots,aIs (Dj t.knots),aIs (Dj u.knots),.one (.row A t.knots.length),AO i,AO k] S (AZ (paB row a b)) S:=by
 refine ON.acS fun hS C hC=>?_;unfold IJ;have n17:S 17=none:=AK hS (by omega);have n18:S 18=none:=AK hS (by omega);have hxl:=Tm.knots_length t;have hyl:=Tm.knots_length u;have hea:=D8 ha;have heb:=D8 hb;have hkx:=MP ha;have hky:=MP hb;have hLl:(L.map E7).length=u.knots.length:=by rw[List.length_map,M.rowL]
 have hcl:=M.len;have hil:i<t.knots.length:=(List.getElem?_eq_some_iff.1 ha).1;have hkl:k<u.knots.length:=(List.getElem?_eq_some_iff.1 hb).1;cases hv:AP a.name with
 | true =>
  have hr:paB row a b=false:=VF hv;repeat' first|refine Gf (F5 n17 n18 ha hb hv) ?_|refine Mm fun K hK=>?_|refine Cg _ (BN a.name) ?_
  refine Aq (AZ (paB row a b)) hS trivial ?_ ?_ fun j hj=>?_
  ·rw[hr];rfl
  ·rfl
  ·simp[AS.set,AI,show ¬j=17 by omega,show ¬j=18 by omega]
 | false =>
 repeat' first|refine Gf (F5 n17 n18 ha hb hv) ?_|refine Mm fun K hK=>?_|refine Cg _ (BN a.name) ?_
 refine IWP.loop (fun q s=>∃m,m≤a.args.length∧q=a.args.length-m∧ZC row t.knots u.knots i k a b A S s∧s.env 19=AO (CQ a i m)∧∀c∈a.args.take m,c≠b∧paB row c b=false) a.args.length
  ⟨0,Nat.zero_le _,rfl,⟨rfl,rfl,rfl,rfl,rfl,rfl,rfl,rfl,rfl,rfl,?_,?_,fun j hj=>?_⟩,?_,by simp⟩ ?_
 ·simp only[go_sem,fN,seval,eT,iR]
 ·simp only[go_sem,fN,seval,eT,iR]
 ·simp[AS.set,AI,show ¬j=17 by omega,show ¬j=18 by omega]
 ·simp only[go_sem,fN,seval,eT,iR];rw[GR];simp
 rintro q ⟨env,St⟩ ⟨m,hm,rfl,⟨f0,f1,f2,f3,f4,f5,f6,f7,f17,f18,t17,t18,hSt⟩,f19,hno⟩;simp only at f0 f1 f2 f3 f4 f5 f6 f7 f17 f18 t17 t18 hSt f19;have tA:St A=some (.crow 96 cs):=(hSt A hA).trans sA;have tB:St B=some (.mrow 4 1 (L.map E7)):=(hSt B hB).trans sB;by_cases hml:m<a.args.length
 ·obtain⟨c,hc⟩:∃c,a.args[m]?=some c:=⟨_,List.getElem?_eq_getElem hml⟩
  have hcm:=List.mem_of_getElem? hc;have hkid:=J1 ha hc;have hj1:=Mf a i m;have hj2:=Q8 (x:=a) (i:=i) hml;have hjl:CQ a i m<t.knots.length:=(List.getElem?_eq_some_iff.1 hkid).1;have hlt:((CQ a i m:Nat):Int)<((i+a.size:Nat):Int):=by omega
  have hrow:=M.done _ c hj1 hkid;have hec:=D8 hkid;rw[←Er i hc]at hec;have hbq:=H5 c b;have htk:a.args.take (m+1)=a.args.take m++[c]:=Ab hc;cases hq:c.beq b with
  | true =>
   rw[hq]at hbq;have hr:paB row a b=true:=MB hv hcm (.inl ((Tm.beq_iff c b).1 hq));repeat' first|refine Gf (F16 f0 f1 f2 f3 f4 f5 f6 f7 f17 f18 t17 t18 f19 hea hlt hkid) ?_|refine Mm fun K hK=>?_|refine Cg _ (hbq) ?_
   refine Aq (AZ (paB row a b)) hS trivial ?_ ?_ fun j hj=>?_
   ·rw[hr];rfl
   ·rfl
   ·exact hSt j hj
  | false =>
   rw[hq]at hbq;have hne:c≠b:=fun e=>by rw[(Tm.beq_iff c b).2 e]at hq;cases hq
   cases hcp:paB row c b with
   | true =>
    have hr:paB row a b=true:=MB hv hcm (.inr hcp);repeat' first|refine Gf (F23 f0 f1 f2 f3 f4 f5 f6 f7 f17 f18 t17 t18 f19 hea hlt hkid tA hcl hjl hrow hb @E7.eq_1 hcp) ?_|refine Mm fun K hK=>?_|refine Cg _ (hbq) ?_
    refine Aq (AZ (paB row a b)) hS trivial ?_ ?_ fun j hj=>?_
    ·rw[hr];rfl
    ·rfl
    ·exact hSt j hj
   | false =>
    repeat' first|refine Gf (F24 f0 f1 f2 f3 f4 f5 f6 f7 f17 f18 t17 t18 f19 hea hlt hkid tA hcl hjl hrow hb @E7.eq_1 hcp hec) ?_|refine Mm fun K hK=>?_|refine Cg _ (hbq) ?_
    refine AE ⟨a.args.length-(m+1),by omega,m+1,by omega,rfl,?_,?_,?_⟩
    ·exact⟨f0,f1,f2,f3,f4,f5,f6,f7,f17,f18,t17,t18,hSt⟩
    ·rfl
    ·intro c' hc';rw[htk,List.mem_append,List.mem_singleton]at hc';rcases hc' with hc'|rfl
     ·exact hno c' hc'
     ·exact⟨hne,hcp⟩
 ·have hme:m=a.args.length:=by omega
  rw[hme,Fv]at f19;rw[hme,List.take_length]at hno;have hlt:¬((i+a.size:Nat):Int)<((i+a.size:Nat):Int):=Int.lt_irrefl _;have hGba:=NZ row b a;have hGab:=NZ row a b;cases hvb:AP b.name with
  | true =>
   have hr:paB row a b=false:=Fs hv hno (.inl hvb);repeat' first|refine Gf (F16 f0 f1 f2 f3 f4 f5 f6 f7 f17 f18 t17 t18 f19 hea hlt hvb) ?_|refine Mm fun K hK=>?_|refine Cg _ (BN b.name) ?_
   refine Aq (AZ (paB row a b)) hS trivial ?_ ?_ fun j hj=>?_
   ·rw[hr];rfl
   ·rfl
   ·exact hSt j hj
  | false =>
  by_cases hs1:0<Cf row b a
  ·have hr:paB row a b=false:=Fs hv hno (.inr (.inl (Rj.2 hs1)));have hd:decide (0<Cf row b a)=true:=by simpa using hs1
   rw[hd]at hGba;repeat' first|refine Gf (F16 f0 f1 f2 f3 f4 f5 f6 f7 f17 f18 t17 t18 f19 hea hlt hvb) ?_|refine Mm fun K hK=>?_|refine Cg _ (BN b.name) ?_|refine Cg _ (hGba) ?_
   refine Aq (AZ (paB row a b)) hS trivial ?_ ?_ fun j hj=>?_
   ·rw[hr];rfl
   ·rfl
   ·exact hSt j hj
  have hd:decide (0<Cf row b a)=false:=by simpa using hs1
  rw[hd]at hGba;repeat' first|refine Gf (F16 f0 f1 f2 f3 f4 f5 f6 f7 f17 f18 t17 t18 f19 hea hlt hvb) ?_|refine Mm fun K hK=>?_|refine Cg _ (BN b.name) ?_|refine Cg _ (hGba) ?_
  refine IWP.loop (fun q s=>∃m,m≤b.args.length∧q=b.args.length-m∧ZC row t.knots u.knots i k a b A S s∧s.env 20=AO (CQ b k m)∧∀y∈b.args.take m,paB row a y=true) b.args.length
   ⟨0,Nat.zero_le _,rfl,⟨f0,f1,f2,f3,f4,f5,f6,f7,f17,f18,t17,t18,hSt⟩,?_,by simp⟩ ?_
  ·simp only[go_sem,fN,seval,eT,iR];rw[GR];simp
  rintro q ⟨env2,S2⟩ ⟨m2,hm2,rfl,⟨g0,g1,g2,g3,g4,g5,g6,g7,g17,g18,u17,u18,hSu⟩,g20,hall⟩;simp only at g0 g1 g2 g3 g4 g5 g6 g7 g17 g18 u17 u18 hSu g20;have uA:S2 A=some (.crow 96 cs):=(hSu A hA).trans sA;have uB:S2 B=some (.mrow 4 1 (L.map E7)):=(hSu B hB).trans sB;by_cases hml2:m2<b.args.length
  ·obtain⟨d,hdm⟩:∃d,b.args[m2]?=some d:=⟨_,List.getElem?_eq_getElem hml2⟩
   have hdd:=List.mem_of_getElem? hdm;have hkid:=J1 hb hdm;have hj1:=Mf b k m2;have hj2:=Q8 (x:=b) (i:=k) hml2;have hjl:CQ b k m2<u.knots.length:=(List.getElem?_eq_some_iff.1 hkid).1;have hltb:((CQ b k m2:Nat):Int)<((k+b.size:Nat):Int):=by omega
   have hown:=M.own;have hpart:=M.part _ d a hj1 ha hkid;have hec:=D8 hkid;rw[←Er k hdm]at hec;have htk:b.args.take (m2+1)=b.args.take m2++[d]:=Ab hdm;cases hap:paB row a d with
   | false =>
    rw[hap]at hpart;have hr:paB row a b=false:=Fs hv hno (.inr (.inr ⟨d,hdd,hap⟩));refine Gf (F24 g0 g1 g2 g3 g4 g5 g6 g7 g17 g18 u17 u18 g20 heb hltb uA uB hcl hil hown hLl hjl hpart @E7.eq_1) ?_;refine Aq (AZ (paB row a b)) hS trivial ?_ ?_ fun j hj=>?_
    ·rw[hr];rfl
    ·rfl
    ·exact hSu j hj
   | true =>
    rw[hap]at hpart;refine Gf (F25 g0 g1 g2 g3 g4 g5 g6 g7 g17 g18 u17 u18 g20 heb hltb uA uB hcl hil hown hLl hjl hpart @E7.eq_1 hec) ?_;refine AE ⟨b.args.length-(m2+1),by omega,m2+1,by omega,rfl,⟨g0,g1,g2,g3,g4,g5,g6,g7,g17,g18,u17,u18,hSu⟩,rfl,?_⟩;intro y hy;rw[htk,List.mem_append,List.mem_singleton]at hy;rcases hy with hy|rfl
    ·exact hall y hy
    ·exact hap
  have hme2:m2=b.args.length:=by omega
  rw[hme2,Fv]at g20;rw[hme2,List.take_length]at hall;have hltb:¬((k+b.size:Nat):Int)<((k+b.size:Nat):Int):=Int.lt_irrefl _;by_cases hs2:0<Cf row a b
  ·have hr:paB row a b=true:=Yq hv hvb hs2 hall;have hd2:decide (0<Cf row a b)=true:=by simpa using hs2
   rw[hd2]at hGab;repeat' first|refine Gf (F15 g0 g1 g2 g3 g4 g5 g6 g7 g17 g18 u17 u18 g20 heb hltb) ?_|refine Mm fun K hK=>?_|refine Cg _ (hGab) ?_
   refine Aq (AZ (paB row a b)) hS trivial ?_ ?_ fun j hj=>?_
   ·rw[hr];rfl
   ·rfl
   ·exact hSu j hj
  have hd2:decide (0<Cf row a b)=false:=by simpa using hs2
  rw[hd2]at hGab;have hs0:Cf row a b=0:=by
   have h1:¬Cf row a b<0:=fun h=>hs1 (Rj.1 h);omega
  have hle:=(Hh.1 hs0).2;repeat' first|refine Gf (F15 g0 g1 g2 g3 g4 g5 g6 g7 g17 g18 u17 u18 g20 heb hltb) ?_|refine Mm fun K hK=>?_|refine Cg _ (hGab) ?_
  refine IWP.loop (fun q s=>∃m,m≤a.args.length∧q=a.args.length-m∧ZC row t.knots u.knots i k a b A S s∧s.env 22=AO (CQ a i m)∧s.env 21=AO (CQ b k m)∧a.args.take m=b.args.take m) a.args.length
   ⟨0,Nat.zero_le _,rfl,⟨g0,g1,g2,g3,g4,g5,g6,g7,g17,g18,u17,u18,hSu⟩,?_,?_,by simp⟩ ?_
  ·simp only[go_sem,fN,seval,eT,iR];rw[GR];simp
  ·simp only[go_sem,fN,seval,eT,iR];rw[GR];simp
  rintro q ⟨env3,S3⟩ ⟨m3,hm3,rfl,⟨h0,h1,h2,h3,h4,h5,h6,h7,h17,h18,w17,w18,hSw⟩,h22,h21,hpre⟩;simp only at h0 h1 h2 h3 h4 h5 h6 h7 h17 h18 w17 w18 hSw h22 h21;have wA:S3 A=some (.crow 96 cs):=(hSw A hA).trans sA;by_cases hml3:m3<a.args.length
  ·obtain⟨c,hc⟩:∃c,a.args[m3]?=some c:=⟨_,List.getElem?_eq_getElem hml3⟩
   obtain⟨d,hdm⟩:∃d,b.args[m3]?=some d:=⟨_,List.getElem?_eq_getElem (by omega)⟩
   have hkc:=J1 ha hc;have hkd:=J1 hb hdm;have hj1:=Mf a i m3;have hj2:=Q8 (x:=a) (i:=i) hml3;have hjl:CQ a i m3<t.knots.length:=(List.getElem?_eq_some_iff.1 hkc).1;have hjd:CQ b k m3<u.knots.length:=(List.getElem?_eq_some_iff.1 hkd).1;have hlt3:((CQ a i m3:Nat):Int)<((i+a.size:Nat):Int):=by omega
   have hrow:=M.done _ c hj1 hkc;have hec:=D8 hkc;rw[←Er i hc]at hec;have hed:=D8 hkd;rw[←Er k hdm]at hed;have hbq:=H5 c d;have htk1:a.args.take (m3+1)=a.args.take m3++[c]:=Ab hc;have htk2:b.args.take (m3+1)=b.args.take m3++[d]:=Ab hdm;cases hq:c.beq d with
   | false =>
    rw[hq]at hbq;have hne:c≠d:=fun e=>by rw[(Tm.beq_iff c d).2 e]at hq;cases hq
    have hr:paB row a b=paB row c d:=P5 hv hvb hno hs0 hall hpre hc hdm hne;repeat' first|refine Gf (F23 h0 h1 h2 h3 h4 h5 h6 h7 h17 h18 w17 w18 h22 h21 hea hlt3 hkc hkd wA hcl hjl hrow @E7.eq_1) ?_|refine Mm fun K hK=>?_|refine Cg _ (hbq) ?_
    refine Aq (AZ (paB row a b)) hS trivial ?_ ?_ fun j hj=>?_
    ·rw[hr];rfl
    ·rfl
    ·exact hSw j hj
   | true =>
    rw[hq]at hbq;have he:c=d:=(Tm.beq_iff c d).1 hq;repeat' first|refine Gf (F20 h0 h1 h2 h3 h4 h5 h6 h7 h17 h18 w17 w18 h22 h21 hea hlt3 hkc hkd hec hed) ?_|refine Mm fun K hK=>?_|refine Cg _ (hbq) ?_
    refine AE ⟨a.args.length-(m3+1),by omega,m3+1,by omega,rfl,⟨h0,h1,h2,h3,h4,h5,h6,h7,h17,h18,w17,w18,hSw⟩,rfl,rfl,?_⟩;rw[htk1,htk2,hpre,he]
  ·have hme3:m3=a.args.length:=by omega
   rw[hme3,Fv]at h22;rw[hme3,List.take_length,hle,List.take_length]at hpre;have hr:paB row a b=false:=RR hv hno hs0 hpre;have hlt3:¬((i+a.size:Nat):Int)<((i+a.size:Nat):Int):=Int.lt_irrefl _;refine Gf (F15 h0 h1 h2 h3 h4 h5 h6 h7 h17 h18 w17 w18 h22 hea hlt3) ?_;refine Aq (AZ (paB row a b)) hS trivial ?_ ?_ fun j hj=>?_
   ·rw[hr];rfl
   ·rfl
   ·exact hSw j hj

noncomputable def Y3(row:List ByteArray)(y:List Tm)(a:Tm):SV:=.list ((y.map (paB row a)).map E7)
noncomputable def I5(row:List ByteArray)(x y:List Tm)(n:Nat):List SV:=(List.replicate n (SV.list []))++(x.drop n).map (Y3 row y)
theorem JS(row:List ByteArray)(x y:List Tm)(n:Nat)(h:n≤x.length):(I5 row x y n).length=x.length:=by
 simp[I5];omega
theorem Y1(row:List ByteArray)(x y:List Tm):I5 row x y x.length=List.replicate x.length (SV.list []):=by simp[I5]
theorem Rs{row:List ByteArray}{x y:List Tm}{n j:Nat}{a:Tm}(h:n≤j)(ha:x[j]?=some a):(I5 row x y n)[j]?=some (Y3 row y a):=by
 have hl:=(List.getElem?_eq_some_iff.1 ha).1;unfold I5;rw[List.getElem?_append_right (by simpa using h),List.length_replicate,List.getElem?_map,List.getElem?_drop,show n+(j-n)=j by omega,ha];rfl
theorem XS{row:List ByteArray}{x y:List Tm}{n:Nat}{a:Tm}(ha:x[n]?=some a):(I5 row x y (n+1)).set n (Y3 row y a)=I5 row x y n:=by
 have hl:=(List.getElem?_eq_some_iff.1 ha).1;unfold I5;rw[List.set_append_left _ _ (by simp),List.replicate_succ',List.set_append_right _ _ (by simp),List.length_replicate,Nat.sub_self,A5 ha,List.map_cons];simp
noncomputable def Eh(row:List ByteArray)(y:List Tm)(a:Tm)(k:Nat):List Bool:=List.replicate k false++(y.drop k).map (paB row a)
theorem Rt(row:List ByteArray)(y:List Tm)(a:Tm)(k:Nat)(h:k≤y.length):(Eh row y a k).length=y.length:=by
 simp[Eh];omega
theorem ZK(row:List ByteArray)(y:List Tm)(a:Tm):Eh row y a y.length=List.replicate y.length false:=by simp[Eh]
theorem V1(row:List ByteArray)(y:List Tm)(a:Tm):Eh row y a 0=y.map (paB row a):=by simp[Eh]
theorem Zz{row:List ByteArray}{y:List Tm}{a b:Tm}{k j:Nat}(h:k≤j)(hb:y[j]?=some b):(Eh row y a k)[j]?=some (paB row a b):=by
 have hl:=(List.getElem?_eq_some_iff.1 hb).1;unfold Eh;rw[List.getElem?_append_right (by simpa using h),List.length_replicate,List.getElem?_map,List.getElem?_drop,show k+(j-k)=j by omega,hb];rfl
theorem Xi{row:List ByteArray}{y:List Tm}{a b:Tm}{k:Nat}(hb:y[k]?=some b):(Eh row y a (k+1)).set k (paB row a b)=Eh row y a k:=by
 have hl:=(List.getElem?_eq_some_iff.1 hb).1;unfold Eh;rw[List.set_append_left _ _ (by simp),List.replicate_succ',List.set_append_right _ _ (by simp),List.length_replicate,Nat.sub_self,A5 hb,List.map_cons];simp
noncomputable def DG(row:List ByteArray)(x y:List Tm)(i:Nat)(c:AC):List AC:=((I5 row x y (i+1)).map AC.st).set i c
theorem Np(row:List ByteArray)(x y:List Tm)(i:Nat)(c:AC)(h:i<x.length):(DG row x y i c).length=x.length:=by
 unfold DG;rw[List.length_set,List.length_map,JS _ _ _ _ (by omega)]
theorem AAM{row:List ByteArray}{x y:List Tm}{i k B:Nat}{a:Tm}(hi:x[i]?=some a)(hk:k<y.length):Mat row x y i k (DG row x y i (.row B y.length)) B (Eh row y a (k+1)):=by
 have hil:=(List.getElem?_eq_some_iff.1 hi).1;refine⟨Np _ _ _ _ _ hil,?_,Rt _ _ _ _ (by omega),fun j c hj hc=>?_,fun k' b a' hk' ha' hb=>?_⟩
 ·unfold DG;rw[List.getElem?_set_self (by rw[List.length_map,JS _ _ _ _ (by omega)];exact hil)]
 ·unfold DG;rw[List.getElem?_set_ne (by omega),List.getElem?_map,Rs (by omega) hc];rfl
 ·rw[hi]at ha';cases ha';exact Zz (by omega) hb
theorem Tv(row:List ByteArray)(x y:List Tm)(i:Nat)(B n:Nat):AC.rens up1 (DG row x y i (.row B n))=DG row x y i (.row (up1 B) n):=by
 rw[AC.rens_eq];unfold DG;rw[List.map_set,List.map_map];rfl
theorem TA(S:AA):∀xs:List SV,stCs S (xs.map .st)=some xs
 | []=>rfl
 | x::xs=>by
  rw[List.map_cons,stCs,TA S xs];rfl
theorem Sk{S:AA}{c:AC}{v:SV}(h:stC S c=some v):∀(xs:List SV) (i:Nat),stCs S ((xs.map .st).set i c)=some (xs.set i v)
 | [],_=>rfl
 | x::xs,0=>by
  rw[List.map_cons,List.set_cons_zero,List.set_cons_zero,stCs,h,TA]
 | x::xs,i+1=>by
  rw[List.map_cons,List.set_cons_succ,List.set_cons_succ,stCs,Sk h xs i];rfl
theorem take_set{cs:List AC}{k:Nat}{c:AC}(h:k<cs.length):cs.take k++[c]++cs.drop (k+1)=cs.set k c:=by
 rw[List.set_eq_take_append_cons_drop,if_pos h];simp
theorem VD(row:List ByteArray)(a b:Tm)(ha:a.size≤100000)(hb:b.size≤100000):AW Tryz.prog 27 [Bn row,aTm a,aTm b] (AZ (paB row a b)):=by
 have hxl:=Tm.knots_length a;have hyl:=Tm.knots_length b;have hx0:a.knots[0]?=some a:=by rw[Tm.knots_eq];rfl
 have hy0:b.knots[0]?=some b:=by rw[Tm.knots_eq];rfl
 have hpa:=Tm.size_pos a;have hpb:=Tm.size_pos b;have hra:List.replicate a.knots.length [SV.list []]=(I5 row a.knots b.knots a.knots.length).map ([·]):=by
  rw[Y1,List.map_replicate]
 have hz1:0≤(a.knots.length:Int)∧(a.knots.length:Int).toNat=a.knots.length:=by omega
 have b1:a.knots.length≤maxLen:=by rw[Em];omega
 have b2:a.knots.length*24≤140737488355328:=by omega
 have b3:b.knots.length≤maxLen:=by rw[Em];omega
 have b4:b.knots.length*1≤140737488355328:=by omega
 refine TY.ac fun C hC=>?_;unfold Lf;repeat' first|refine Gf (F3 b1 b2 @Int.toNat_natCast) ?_|refine Mm fun K hK=>?_|refine Cg _ (Ei a (by omega)) ?_|refine Cg _ (Ei b (by omega)) ?_|refine Cg _ (Ye a (by omega)) ?_|refine Cg _ (Ye b (by omega)) ?_
 refine IWP.ghost (AY.crow (id:=24) (e:=96) (xs:=I5 row a.knots b.knots a.knots.length) (by simp only[go_sem,fN,seval,eT,iR,hra]) (by rw[JS _ _ _ _ (Nat.le_refl _)];omega)) ?_;refine IWP.loopD [36] (fun q s=>∃n,n≤a.knots.length∧q=n∧s.env 0=Bn row∧s.env 7=CJ a.knots∧s.env 8=CJ b.knots∧s.env 9=aIs (Dj a.knots)∧s.env 10=aIs (Dj b.knots)∧s.env 11=.one (.row 24 a.knots.length)∧s.env 12=AO ((n:Int)-1)∧s.S 24=some (.crow 96 ((I5 row a.knots b.knots n).map .st))∧s.S 36=none) a.knots.length
  ⟨a.knots.length,Nat.le_refl _,rfl,by simp only[go_sem,fN,seval,eT,iR],by simp only[go_sem,fN,seval,eT,iR],by simp only[go_sem,fN,seval,eT,iR],by simp only[go_sem,fN,seval,eT,iR],by simp only[go_sem,fN,seval,eT,iR],by simp only[go_sem,fN,seval,eT,iR],by simp only[go_sem,fN,seval,eT,iR],by simp only[go_sem,fN,seval,eT,iR],by simp only[go_sem,fN,seval,eT,iR]⟩ ?_
 rintro q ⟨env,St⟩ ⟨n,hn,hqn,e0,e7,e8,e9,e10,e11,e12,s24,s36⟩;obtain rfl:=hqn.symm;simp only at e0 e7 e8 e9 e10 e11 e12 s24 s36;have hcl:=JS row a.knots b.knots n hn;cases n with
 | zero =>
  have hg:¬(0:Int)≤((0:Nat):Int)-1:=by omega
  have hr0:=Rs (row:=row) (y:=b.knots) (n:=0) (Nat.zero_le _) hx0;have h0l:0<a.knots.length:=by omega
  repeat' with_reducible first|refine W ?_|refine Z0 ?_|((first|refine Wo fun K hK=>?_|refine Wp ?_|refine Wq ?_|refine Wr ?_);(try simp only[go_sem,fN,seval,eT,iR,e0,e7,e8,e9,e10,e11,e12,s24,s36,hg,hcl,hr0,h0l,Y3,hy0,E7,dT,dF,nL]);(repeat refine Ai ?_);(try(refine hK _ ?_;clear hK K));try refine iC ?_)
  simp only[go_sem,fN,seval,AQ,AS.result,AB,AD,AM]
 | succ i =>
  obtain⟨x,hx⟩:=Aa (show i<a.knots.length by omega);have hil:i<a.knots.length:=by omega
  have hg:(0:Int)≤((i+1:Nat):Int)-1:=by omega
  have hi1:((i+1:Nat):Int)-1=(i:Int):=by omega
  have hts:=take_set (cs:=(I5 row a.knots b.knots (i+1)).map .st) (k:=i) (c:=.row 36 b.knots.length) (by rw[List.length_map,hcl];exact hil);have hre:List.replicate b.knots.length [SV.bool false]=(Eh row b.knots x b.knots.length).map E7:=by
   rw[ZK,List.map_replicate];rfl
  rw[hi1]at e12 hg;refine Gf (F16 e0 e7 e8 e9 e10 e11 e12 s24 s36 hg hcl hil hts hre b3 b4) ?_;have hcl2:=Np row a.knots b.knots i (.row 36 b.knots.length) hil;refine IWP.loop (fun q s=>∃k,k≤b.knots.length∧q=k∧s.env 0=Bn row∧s.env 7=CJ a.knots∧s.env 8=CJ b.knots∧s.env 9=aIs (Dj a.knots)∧s.env 10=aIs (Dj b.knots)∧s.env 11=.one (.row 24 a.knots.length)∧s.env 12=AO i∧s.env 13=AO ((k:Int)-1)∧s.S 24=some (.crow 96 (DG row a.knots b.knots i (.row 36 b.knots.length)))∧s.S 36=some (.mrow 4 1 ((Eh row b.knots x k).map E7))) b.knots.length
   ⟨b.knots.length,Nat.le_refl _,rfl,by simp only[go_sem,fN,seval,eT,iR,e0],by simp only[go_sem,fN,seval,eT,iR,e7],by simp only[go_sem,fN,seval,eT,iR,e8],by simp only[go_sem,fN,seval,eT,iR,e9],by simp only[go_sem,fN,seval,eT,iR,e10],by simp only[go_sem,fN,seval,eT,iR,e11],by simp only[go_sem,fN,seval,eT,iR,e12],by simp only[go_sem,fN,seval,eT,iR],by simp only[go_sem,fN,seval,eT,iR];rfl,by simp only[go_sem,fN,seval,eT,iR]⟩ ?_
  rintro q ⟨env1,S1⟩ ⟨k,hk,hqk,f0,f7,f8,f9,f10,f11,f12,f13,t24,t36⟩;obtain rfl:=hqk.symm;simp only at f0 f7 f8 f9 f10 f11 f12 f13 t24 t36;have hel:=Rt row b.knots x k hk;cases k with
  | zero =>
   have hgk:¬(0:Int)≤((0:Nat):Int)-1:=by omega
   rw[V1]at t36 hel;have hlb:((b.knots.map (paB row x)).map E7).length=b.knots.length:=by simp
   refine IWP.ghost (AY.share (id:=36) t36) ?_;refine IWP.ghost (AY.calmC (id:=24) (e:=96) (cs:=DG row a.knots b.knots i (.row 36 b.knots.length)) (xs:=(I5 row a.knots b.knots (i+1)).set i (Y3 row b.knots x)) (by simp only[go_sem,fN,seval,eT,iR,t24]) (Sk (by simp only[go_sem,fN,seval,eT,iR,hlb];rfl) _ _)) ?_;rw[XS hx];refine Gf (F11 f0 f7 f8 f9 f10 f11 f12 f13 t24 t36 hgk) ?_;refine AE ⟨i,by omega,i,by omega,rfl,?_⟩;simp only[go_sem,fN,seval,AS.drop,AT,AC.clears,AC.clear,AC.highs,AC.high,zD,AV.purge,AV.purges,AC.purge,AJ.purge,Nat.reduceBEq,eT,iR,f0,f7,f8,f9,f10,f11,f12,f13,t24,t36];rw[List.map_map];rfl
  | succ k =>
   obtain⟨y,hy⟩:=Aa (show k<b.knots.length by omega);have hkl:k<b.knots.length:=by omega
   have hgk:(0:Int)≤((k+1:Nat):Int)-1:=by omega
   have hk1:((k+1:Nat):Int)-1=(k:Int):=by omega
   rw[hk1]at f13 hgk;have hml:((Eh row b.knots x (k+1)).map E7).length=b.knots.length:=by rw[List.length_map,hel]
   have hown:(DG row a.knots b.knots i (.row 36 b.knots.length))[i]?=some (.row 36 b.knots.length):=by
    unfold DG;rw[List.getElem?_set_self (by rw[List.length_map,hcl];exact hil)]
   have hgt:((Eh row b.knots x (k+1)).map E7)[k]?=some [.bool false]:=by
    have:(Eh row b.knots x (k+1))[k]?=some false:=by
     unfold Eh;rw[List.getElem?_append_left (by simp)];simp
    rw[List.getElem?_map,this];rfl
   have hset:((Eh row b.knots x (k+1)).map E7).set k [.bool (paB row x y)]=(Eh row b.knots x k).map E7:=by
    rw[←Xi hy,List.map_set];rfl
   repeat' first|refine Gf (F14 f0 f7 f8 f9 f10 f11 f12 f13 t24 t36 hgk hcl2 hil hown) ?_|refine Mm fun K hK=>?_
   have call:∀T:AA,(∀q∈[(24,AJ.crow 96 (DG row a.knots b.knots i (.row 36 b.knots.length))),(36,AJ.mrow 4 1 ((Eh row b.knots x (k+1)).map E7))],T q.1=some q.2)→Ah Tryz.prog 59 [Bn row,CJ a.knots,CJ b.knots,aIs (Dj a.knots),aIs (Dj b.knots),.one (.row (up1 24) a.knots.length),AO i,AO k] (upS T) (AZ (paB row x y)) (upS T):=fun T hT=>by
    have h24:T 24=_:=hT (24,AJ.crow 96 (DG row a.knots b.knots i (.row 36 b.knots.length))) (by simp);have h36:T 36=_:=hT (36,AJ.mrow 4 1 ((Eh row b.knots x (k+1)).map E7)) (by simp);exact Uy row a b i k x y hx hy (by omega) (by omega) (up1 24) (up1 36) (DG row a.knots b.knots i (.row (up1 36) b.knots.length)) (Eh row b.knots x (k+1)) (upS T) (Ap _) (Ap _) (by rw[Ax,h24];exact congrArg (fun z=>some (AJ.crow 96 z)) (Tv row a.knots b.knots i 36 b.knots.length)) (by rw[Ax,h36];rfl) (AAM hx hkl)
   refine⟨_,[(24,.crow 96 (DG row a.knots b.knots i (.row 36 b.knots.length))),(36,.mrow 4 1 ((Eh row b.knots x (k+1)).map E7))],fun q hq=>?_,call,?_⟩
   ·simp only[List.mem_cons,List.not_mem_nil,or_false]at hq;rcases hq with rfl|rfl
    ·exact t24
    ·exact t36
   refine Gf (F14 f0 f7 f8 f9 f10 f11 f12 f13 t24 t36 hml hgt hset hkl) ?_;refine AE ⟨k,by omega,k,by omega,rfl,?_⟩;simp only[go_sem,fN,seval,eT,iR,f0,f7,f8,f9,f10,f11,f12,f13,t24,t36,hset]

theorem Yf{a b:Tm}(h:Bq a b=0):a.may=0∧b.may=0:=by
 unfold Bq at h;split at h
 ·rename_i q;exact⟨q,h⟩
 ·rename_i q;exact absurd h q
theorem M9{f:Nat}{R T R' T':List Pr}{r:Pr}(h:G8 f R T r=some (R',T',0)):T'.length≤400:=by
 unfold G8 at h;repeat' split at h
 all_goals first
  | (cases h;done)
  | (simp only[Option.some.injEq,Prod.mk.injEq]at h;obtain⟨h1,h2,h3⟩:=h;omega)
  | (simp only[Option.some.injEq,Prod.mk.injEq]at h;obtain⟨h1,rfl,h3⟩:=h;omega)
theorem ZH{R R1 T0 T1:List Pr}{p:Pr}{f:Nat}{e:Int}(hl:T0.length≤100000)(z1:p.1.size≤900000)(z2:p.2.size≤900000)(h:G8 f R T0 p=some (R1,T1,e))(U:AA)(hU:U 500=some (Bo T0)) :
  Ah Tryz.prog 29 [Be R,.one (.row (up1 500) T0.length),aPr p] (upS U) (Rb (up1 500) R1 T1 e) (upS (E5 U [(500,Bo T0,Bo T1)])):=by
 show Ah _ _ _ _ _ (upS (AI U 500 (some (Bo T1))))
 rw[MC];exact V6 (upS U) (up1 500) (Ap _) R T0 p (by rw[Ax,hU];rfl) hl z1 z2 f R1 T1 e h
theorem ZA{P:Program}{C:Ctx}{mu:List Nat}{x:IR}{Q:AX→AS→Prop}{s:AS}{row:List ByteArray}{R T:List Pr}{p:Pr}{n k:Int}(hC:10<C.n)(hT:T.length≤400)(e0:s.env 0=Bn row)(e2:s.env 2=AO n)(e9:s.env 9=Be R)(e10:s.env 10=.one (.rest 500 1 (T.length+1)))(e11:s.env 11=AO k)(e12:s.env 12=.one (.ptr 12 1 0 0))(s12:s.S 12=some (Et p))(s13:s.S 13=none)(s16:s.S 16=none)(s500:s.S 500=some (Bo (p::T)))(s501:s.S 501=none)
  (h:∀s',s'.env 0=Bn row→s'.env 2=AO n→s'.env 9=Be R→s'.env 10=.one (.row 500 T.length)→s'.env 11=AO k→s'.env 12=.one (.ptr 12 1 0 0)→s'.S 12=some (Et p)→s'.S 13=none→s'.S 16=none→s'.S 500=some (Bo T)→s'.S 501=some (.dead 1000 4)→IWP P C mu x Q s'):IWP P C mu x Q s:=by
 have hTl:(T.map Ag).length=T.length:=List.length_map _;have g1:=AY.front (C:=C) (s:=s) 10 500 501 1000 (o:=1) (xs:=(p::T).map Ag) s500 (by rw[e10];simp[hTl]) (Fj (ts:=p::T)) s501 (by simp;omega) hC;have g2:=AY.drop (C:=C) [500] _ (by decide) |> g1.trans
 have g3:=g2.trans (AY.rename (C:=C) 10 501 500 1000 (e:=40) (wd:=4) (xs:=T.map Ag) ?_ ?_ ?_ (by show(T.map Ag).length<1000;omega) hC)
 ·refine IWP.ghost g3 (h _ ?_ ?_ ?_ ?_ ?_ ?_ ?_ ?_ ?_ ?_ ?_)
  ·simp only[go_sem,fN,seval,AS.drop,AT,AC.clears,AC.clear,AC.highs,AC.high,zD,AV.purge,AV.purges,AC.purge,AJ.purge,Nat.reduceBEq,eT,iR,e0]
  ·simp only[go_sem,fN,seval,AS.drop,AT,AC.clears,AC.clear,AC.highs,AC.high,zD,AV.purge,AV.purges,AC.purge,AJ.purge,Nat.reduceBEq,eT,iR,e2]
  ·simp only[go_sem,fN,seval,AS.drop,AT,AC.clears,AC.clear,AC.highs,AC.high,zD,AV.purge,AV.purges,AC.purge,AJ.purge,Nat.reduceBEq,eT,iR,e9]
  ·simp only[go_sem,fN,seval,AS.drop,AT,AC.clears,AC.clear,AC.highs,AC.high,zD,AV.purge,AV.purges,AC.purge,AJ.purge,Nat.reduceBEq,eT,iR,hTl]
  ·simp only[go_sem,fN,seval,AS.drop,AT,AC.clears,AC.clear,AC.highs,AC.high,zD,AV.purge,AV.purges,AC.purge,AJ.purge,Nat.reduceBEq,eT,iR,e11]
  ·simp only[go_sem,fN,seval,AS.drop,AT,AC.clears,AC.clear,AC.highs,AC.high,zD,AV.purge,AV.purges,AC.purge,AJ.purge,Nat.reduceBEq,eT,iR,e12]
  ·simp only[go_sem,fN,seval,AS.drop,AT,AC.clears,AC.clear,AC.highs,AC.high,zD,AV.purge,AV.purges,AC.purge,AJ.purge,Nat.reduceBEq,eT,iR,s12]
  ·simp only[go_sem,fN,seval,AS.drop,AT,AC.clears,AC.clear,AC.highs,AC.high,zD,AV.purge,AV.purges,AC.purge,AJ.purge,Nat.reduceBEq,eT,iR,s13]
  ·simp only[go_sem,fN,seval,AS.drop,AT,AC.clears,AC.clear,AC.highs,AC.high,zD,AV.purge,AV.purges,AC.purge,AJ.purge,Nat.reduceBEq,eT,iR,s16]
  ·simp only[go_sem,fN,seval,AS.drop,AT,AC.clears,AC.clear,AC.highs,AC.high,zD,AV.purge,AV.purges,AC.purge,AJ.purge,Nat.reduceBEq,eT,iR,hTl]
  ·simp only[go_sem,fN,seval,AS.drop,AT,AC.clears,AC.clear,AC.highs,AC.high,zD,AV.purge,AV.purges,AC.purge,AJ.purge,Nat.reduceBEq,eT,iR,hTl]
 ·simp only[go_sem,fN,seval,AS.drop,AT,AC.clears,AC.clear,AC.highs,AC.high,zD,AV.purge,AV.purges,AC.purge,AJ.purge,Nat.reduceBEq,eT,iR,hTl]
 ·simp only[go_sem,fN,seval,AS.drop,AT,AC.clears,AC.clear,AC.highs,AC.high,zD,AV.purge,AV.purges,AC.purge,AJ.purge,Nat.reduceBEq,eT,iR,hTl,List.length_map,List.length_cons,Nat.add_sub_cancel]
 ·simp only[go_sem,fN,seval,AS.drop,AT,AC.clears,AC.clear,AC.highs,AC.high,zD,AV.purge,AV.purges,AC.purge,AJ.purge,Nat.reduceBEq,eT,iR,hTl]
theorem Qe{row:List ByteArray}(hr:EB row=0){eqs:List Pr}(he:Bj eqs=0)(hne:eqs≠[]){n:Nat}(hn:n≤60){f:Nat}{R0:List Pr}{e0':Int}(hc:EZ f row n [] eqs=some (R0,e0')):AW Tryz.prog 6 [Bn row,Be eqs,AO n] (.tup [Be R0,AO e0']):=by
 have cr:=XO row;rw[hr]at cr;have ce:=So eqs;have hel:eqs.length≤40:=by
  unfold Bj at he;split at he
  ·cases he
  ·omega
 rw[he]at ce;have hn0:¬(n:Int)<0:=by omega
 have hn6:¬(60:Int)<n:=by omega
 have h0:¬eqs.length=0:=fun h=>hne (List.length_eq_zero_iff.1 h);have hel':(eqs.map Ag).length=eqs.length:=List.length_map _;have hb:eqs.length*40≤140737488355328:=by omega
 refine Ls.ac fun C hC=>?_;unfold Gm;repeat' first|refine Gf (F5 hn0 hn6 h0 hb hel') ?_|refine Mm fun K hK=>?_|refine Cg _ (cr) ?_|refine Cg _ (ce) ?_
 refine IWP.ghost ((AY.settle (C:=C) 9 (v:=Be []) (by(simp only[go_sem,fN,seval,eT,iR];rfl))).trans (AY.rename (C:=C) 10 42 500 1000 (e:=40) (wd:=4) (xs:=eqs.map Ag) (by simp only[go_sem,fN,seval,eT,iR]) (by simp only[go_sem,fN,seval,eT,iR,hel']) (by simp only[go_sem,fN,seval,eT,iR,noS]) (by show(eqs.map Ag).length<1000;omega) (by rw[hC];decide))) ?_;refine IWP.loopD [12,13,16,501] (fun z s=>∃k R T,k≤n∧z=n-k∧EZ f row (n-k) R T=some (R0,e0')∧T.length≤400∧s.env 0=Bn row∧s.env 2=AO n∧s.env 9=Be R∧s.env 10=.one (.row 500 T.length)∧s.env 11=AO k∧s.S 12=none∧s.S 13=none∧s.S 16=none∧s.S 501=none∧s.S 500=some (Bo T)) n
  ⟨0,[],eqs,Nat.zero_le _,rfl,hc,by omega,by simp only[go_sem,fN,seval,eT,iR],by simp only[go_sem,fN,seval,eT,iR],by simp only[go_sem,fN,seval,eT,iR],by simp only[go_sem,fN,seval,eT,iR,hel'],by simp only[go_sem,fN,seval,eT,iR],by simp only[go_sem,fN,seval,eT,iR,noS],by simp only[go_sem,fN,seval,eT,iR,noS],by simp only[go_sem,fN,seval,eT,iR,noS],by simp only[go_sem,fN,seval,eT,iR,noS],by simp only[go_sem,fN,seval,eT,iR]⟩ ?_
 rintro z ⟨env,S⟩ ⟨k,R,T,hk,rfl,hc,hT,e0,e2,e9,e10,e11,s12,s13,s16,s501,s500⟩;simp only at e0 e2 e9 e10 e11 s12 s13 s16 s501 s500;have hTl:(T.map Ag).length=T.length:=List.length_map _;cases T with
 | nil =>
  have hc':some (R,(0:Int))=some (R0,e0'):=by
   rw[←hc];cases(n-k) <;> rfl
  simp only[Option.some.injEq,Prod.mk.injEq]at hc';obtain⟨rfl,rfl⟩:=hc';have hz:¬(0:Int)<(([]:List Pr).length:Int):=by simp
  refine Gf (F8 e0 e2 e9 e10 e11 s500 hTl hz) ?_;simp only[go_sem,fN,seval,AQ,AS.result,AB,AD,AM];try rfl
 | cons p T =>
  have hz:(0:Int)<((T.length+1:Nat):Int):=by omega
  by_cases hkn:k=n
  ·subst hkn;rw[Nat.sub_self]at hc;cases hc;refine Gf (F8 e0 e2 e9 e10 e11 s500 hTl hz) ?_;simp only[go_sem,fN,seval,AQ,AS.result,AB,AD,AM];try rfl
  ·have hkn':¬(k:Int)=n:=by omega
   obtain⟨m,hm⟩:∃m,n-k=m+1:=⟨n-k-1,by omega⟩
   rw[hm,EZ]at hc;split at hc
   ·cases hc
   rename_i R1 T1 e1 ht;iterate 22 with_reducible first|refine W ?_|refine Z0 ?_|((first|refine Wo fun K hK=>?_|refine Wp ?_|refine Wq ?_|refine Wr ?_);(try simp only[go_sem,fN,seval,eT,iR,e0,e2,e9,e10,e11,s500,s12,Ag,hTl,hz,hkn',dT,dF,nL]);(repeat refine Ai ?_);(try(refine hK _ ?_;clear hK K));try refine iC ?_)
   refine ZA (row:=row) (R:=R) (T:=T) (p:=p) (n:=n) (k:=k) (by rw[hC];decide) (by simp only[List.length_cons]at hT;omega) ?_ ?_ ?_ ?_ ?_ ?_ ?_ ?_ ?_ ?_ ?_ ?_
   ·simp only[go_sem,fN,seval,eT,iR,e0]
   ·simp only[go_sem,fN,seval,eT,iR,e2]
   ·simp only[go_sem,fN,seval,eT,iR,e9]
   ·simp only[go_sem,fN,seval,eT,iR]
   ·simp only[go_sem,fN,seval,eT,iR,e11]
   ·simp only[go_sem,fN,seval,eT,iR]
   ·simp only[go_sem,fN,seval,eT,iR]
   ·simp only[go_sem,fN,seval,eT,iR,s13]
   ·simp only[go_sem,fN,seval,eT,iR,s16]
   ·simp only[go_sem,fN,seval,eT,iR,s500]
   ·simp only[go_sem,fN,seval,eT,iR,s501]
   clear e0 e2 e9 e10 e11 s12 s13 s16 s501 s500;rintro⟨env,S⟩ e0 e2 e9 e10 e11 e12 s12 s13 s16 s500 s501;simp only at e0 e2 e9 e10 e11 e12 s12 s13 s16 s500 s501;have hT1:T.length≤400:=by simp only[List.length_cons]at hT;omega
   have hTl1:(T.map Ag).length=T.length:=List.length_map _;unfold In at ht;split at ht
   ·cases ht
   rename_i hgood;have hR:=Cu (show Bc R=0 by omega);obtain⟨m1,m2⟩:=Yf (show Bq p.1 p.2=0 by omega);have k1:=Tm.may_chk m1;have k2:=Tm.may_chk m2;have cA:=VM hR true p.1 k1.1 (by omega) 100 (by decide);have zA:=Dz (step:=Tm.inn R) 100 0 p.1 2000 (by omega) (by omega);have oA:=Jh (inner:=true) hR 100 0 p.1 k1.1;have cB:=VM hR true p.2 k2.1 (by omega) 100 (by decide);have zB:=Dz (step:=Tm.inn R) 100 0 p.2 2000 (by omega) (by omega);have oB:=Jh (inner:=true) hR 100 0 p.2 k2.1;have est:Lb true R=Tm.inn R:=rfl;rw[est]at cA cB oA oB;unfold L0 at cA cB;generalize CM (Tm.inn R) 100 0 p.1=A at *;obtain⟨a,an,ea⟩:=A;generalize CM (Tm.inn R) 100 0 p.2=B at *;obtain⟨b,bn,eb⟩:=B;simp only at ht cA zA cB zB oA oB;by_cases hea:ea=0
   case neg =>
    rw[if_pos hea]at ht;simp only[Option.some.injEq,Prod.mk.injEq]at ht;obtain⟨rfl,rfl,rfl⟩:=ht;rw[if_pos hea]at hc;cases hc;repeat' first|refine Gf (F9 e0 e2 e9 e10 e11 e12 s12 s13 hea) ?_|refine Mm fun K hK=>?_|refine Cg _ (cA) ?_
    simp only[go_sem,fN,seval,AQ,AS.result,AB,AD,AM];try rfl
   subst hea;replace oA:=oA.resolve_right (by simp);rw[if_neg (by simp)]at ht;by_cases heb:eb=0
   case neg =>
    rw[if_pos heb]at ht;simp only[Option.some.injEq,Prod.mk.injEq]at ht;obtain⟨rfl,rfl,rfl⟩:=ht;rw[if_pos heb]at hc;cases hc;repeat' first|refine Gf (F10 e0 e2 e9 e10 e11 e12 s12 s13 s16 heb) ?_|refine Mm fun K hK=>?_|refine Cg _ (cA) ?_|refine Cg _ (cB) ?_
    simp only[go_sem,fN,seval,AQ,AS.result,AB,AD,AM];try rfl
   subst heb;replace oB:=oB.resolve_right (by simp);rw[if_neg (by simp),RE,RE]at ht;have cS:=H5 a b;by_cases hs:a.beq b=true
   case pos =>
    rw[if_pos hs]at ht;rw[hs]at cS;simp only[Option.some.injEq,Prod.mk.injEq]at ht;obtain⟨rfl,rfl,rfl⟩:=ht;rw[if_neg (by simp)]at hc;repeat' first|refine Gf (F9 e0 e2 e9 e10 e11 e12 s12 s13 s16) ?_|refine Mm fun K hK=>?_|refine Cg _ (cA) ?_|refine Cg _ (cB) ?_|refine Cg _ (cS) ?_
    refine AE ⟨n-(k+1),by omega,k+1,R,T,by omega,rfl,by rw[show n-(k+1)=m by omega];exact hc,hT1,?_⟩;repeat' refine And.intro ?_ ?_
    all_goals first|(simp only[go_sem,fN,seval,AS.drop,AT,AC.clears,AC.clear,AC.highs,AC.high,zD,AV.purge,AV.purges,AC.purge,AJ.purge,Nat.reduceBEq,eT,iR,e0,e2,e9,e10,e11,e12,s12,s13,s16,s500,s501,hTl1];done)|(simp only[go_sem,fN,seval,AS.drop,AT,AC.clears,AC.clear,AC.highs,AC.high,zD,AV.purge,AV.purges,AC.purge,AJ.purge,Nat.reduceBEq,eT,iR,e0,e2,e9,e10,e11,e12,s12,s13,s16,s500,s501,hTl1];first|rfl|(congr 3;done))
   rw[if_neg hs]at ht;rw[Bool.not_eq_true]at hs;rw[hs]at cS;have cP:=VD row a b (by omega) (by omega);have cQ:=VD row b a (by omega) (by omega);have hnm:∀a b:Tm,a.chk=0→b.chk=0→a.size≤2000→b.size≤2000→AW Tryz.prog 28 [CJ [a,b]] (CJ [(Bv a b).1,(Bv a b).2]):=fun a b ha hb za zb=>Pe [a,b] (fun t ht=>by simp only[List.mem_cons,List.not_mem_nil,or_false]at ht;rcases ht with rfl|rfl <;> assumption) (by simp only[Tm.sizes];omega);have hsz:∀a b:Tm,a.chk=0→b.chk=0→a.size≤2000→b.size≤2000→(Bv a b).1.size≤900000∧(Bv a b).2.size≤900000:=fun a b ha hb za zb=>by
    have h:=Ku ha hb za zb;exact⟨Nat.le_trans h.z1 (by decide),Nat.le_trans h.z2 (by decide)⟩
   by_cases hP:paB row a b=true
   ·rw[if_pos hP]at ht;rw[hP]at cP;have hm2:=hnm a b oA oB zA zB;have hzz:=hsz a b oA oB zA zB;generalize Bv a b=q at *;unfold CJ at hm2;simp only[List.map_cons,List.map_nil,Ao]at hm2;have hone:=ZH (f:=f) (by omega) hzz.1 hzz.2 ht;repeat' first|refine Gf (F10 e0 e2 e9 e10 e11 e12 s12 s13 s16 @Ag.eq_1) ?_|refine Mm fun K hK=>?_|refine Cg _ (cA) ?_|refine Cg _ (cB) ?_|refine Cg _ (cS) ?_|refine Cg _ (cP) ?_|refine Cg _ (hm2) ?_
    refine⟨_,_,TC (by simp only[go_sem,fN,seval,eT,iR,s500]),fun U hU=>hone U (Vj hU),?_⟩;unfold Rb;by_cases he1:e1=0
    case neg =>
     rw[if_pos he1]at hc;rw[if_neg he1];cases hc;refine Gf (F10 e0 e2 e9 e10 e11 e12 s12 s13 s16 he1) ?_;simp only[go_sem,fN,seval,AQ,AS.result,AB,AD,AM];try rfl
    case pos =>
     subst he1;have hT2:=M9 ht;have hT2l:(T1.map Ag).length=T1.length:=List.length_map _;rw[if_neg (by simp)]at hc;rw[if_pos rfl];refine Gf (F9 e0 e2 e9 e10 e11 e12 s12 s13 s16) ?_;refine AE ⟨n-(k+1),by omega,k+1,R1,T1,by omega,rfl,by rw[show n-(k+1)=m by omega];exact hc,hT2,?_⟩;repeat' refine And.intro ?_ ?_
     all_goals first|(simp only[go_sem,fN,seval,AS.drop,AT,AC.clears,AC.clear,AC.highs,AC.high,zD,AV.purge,AV.purges,AC.purge,AJ.purge,Nat.reduceBEq,eT,iR,e0,e2,e9,e10,e11,e12,s12,s13,s16,s501,hT2l];done)|(simp only[go_sem,fN,seval,AS.drop,AT,AC.clears,AC.clear,AC.highs,AC.high,zD,AV.purge,AV.purges,AC.purge,AJ.purge,Nat.reduceBEq,eT,iR,e0,e2,e9,e10,e11,e12,s12,s13,s16,s501,hT2l];first|rfl|(congr 3;done))
   rw[if_neg hP]at ht;rw[Bool.not_eq_true]at hP;rw[hP]at cP;by_cases hQ:paB row b a=true
   ·rw[if_pos hQ]at ht;rw[hQ]at cQ;have hm2:=hnm b a oB oA zB zA;have hzz:=hsz b a oB oA zB zA;generalize Bv b a=q at *;unfold CJ at hm2;simp only[List.map_cons,List.map_nil,Ao]at hm2;have hone:=ZH (f:=f) (by omega) hzz.1 hzz.2 ht;repeat' first|refine Gf (F10 e0 e2 e9 e10 e11 e12 s12 s13 s16 @Ag.eq_1) ?_|refine Mm fun K hK=>?_|refine Cg _ (cA) ?_|refine Cg _ (cB) ?_|refine Cg _ (cS) ?_|refine Cg _ (cP) ?_|refine Cg _ (cQ) ?_|refine Cg _ (hm2) ?_
    refine⟨_,_,TC (by simp only[go_sem,fN,seval,eT,iR,s500]),fun U hU=>hone U (Vj hU),?_⟩;unfold Rb;by_cases he1:e1=0
    case neg =>
     rw[if_pos he1]at hc;rw[if_neg he1];cases hc;refine Gf (F10 e0 e2 e9 e10 e11 e12 s12 s13 s16 he1) ?_;simp only[go_sem,fN,seval,AQ,AS.result,AB,AD,AM];try rfl
    case pos =>
     subst he1;have hT2:=M9 ht;have hT2l:(T1.map Ag).length=T1.length:=List.length_map _;rw[if_neg (by simp)]at hc;rw[if_pos rfl];refine Gf (F9 e0 e2 e9 e10 e11 e12 s12 s13 s16) ?_;refine AE ⟨n-(k+1),by omega,k+1,R1,T1,by omega,rfl,by rw[show n-(k+1)=m by omega];exact hc,hT2,?_⟩;repeat' refine And.intro ?_ ?_
     all_goals first|(simp only[go_sem,fN,seval,AS.drop,AT,AC.clears,AC.clear,AC.highs,AC.high,zD,AV.purge,AV.purges,AC.purge,AJ.purge,Nat.reduceBEq,eT,iR,e0,e2,e9,e10,e11,e12,s12,s13,s16,s501,hT2l];done)|(simp only[go_sem,fN,seval,AS.drop,AT,AC.clears,AC.clear,AC.highs,AC.high,zD,AV.purge,AV.purges,AC.purge,AJ.purge,Nat.reduceBEq,eT,iR,e0,e2,e9,e10,e11,e12,s12,s13,s16,s501,hT2l];first|rfl|(congr 3;done))
   rw[if_neg hQ]at ht;rw[Bool.not_eq_true]at hQ;rw[hQ]at cQ;simp only[Option.some.injEq,Prod.mk.injEq]at ht;obtain⟨rfl,rfl,rfl⟩:=ht;rw[if_pos (by decide)]at hc;cases hc;repeat' first|refine Gf (F9 e0 e2 e9 e10 e11 e12 s12 s13 s16) ?_|refine Mm fun K hK=>?_|refine Cg _ (cA) ?_|refine Cg _ (cB) ?_|refine Cg _ (cS) ?_|refine Cg _ (cP) ?_|refine Cg _ (cQ) ?_
   simp only[go_sem,fN,seval,AQ,AS.result,AB,AD,AM];try rfl

set_option maxRecDepth 100000
def FJ:IR :=
 (.seq (.ops [.i 6 (.mov (.c (.one (.st (.bool false)))))]) (.seq (.ops [.m 12 1,.i 13 (.call 7 [.t 12]),.m 14 0,.i 15 (.call 8 [.t 14]),.m 16 2,.i 17 (.call 9 [.t 16,.n 15]),.i 18 (.call 6 [.t 13,.t 15,.t 17]),.m 11 18,.i 19 (.extract 0 (.t 11)),.i 20 (.extract 1 (.t 11)),.m 7 19,.m 8 20]) (.seq (.ops [.m 22 1,.i 23 (.call 7 [.t 22]),.m 24 0,.i 25 (.call 8 [.t 24]),.m 26 2,.i 27 (.call 9 [.t 26,.n 15]),.i 28 (.call 10 [.t 23,.t 25,.t 27]),.m 21 28,.i 29 (.extract 0 (.t 21)),.i 30 (.extract 1 (.t 21)),.m 9 29,.m 10 30]) (.seq (.ops [.m 31 9,.m 32 10,.m 33 7,.m 34 8,.i 35 (.call 11 [.t 31,.t 32,.t 33,.t 34]),.m 6 35]) .ret))))
theorem Jm:OkF Tryz.prog 3 36 [] FJ [.t 6]:=.of Tryz.func3 rfl rfl (by kernel_rfl) rfl

theorem AAl{k:Nat}(hk:k<9):W9 k≠[]:=by
 have h:∀k,k<9→((ZE.getD k []).isEmpty=false):=by decide +kernel
 rw[QR k hk];intro e;have:=h k hk;rw[e]at this;cases this
theorem MY(m1 m2 m3:Int)(h1:inR .i64 m1)(h2:inR .i64 m2)(h3:inR .i64 m3):AW Tryz.prog 3 [AO m1,AO m2,AO m3] (AZ true):=by
 obtain⟨k,hk,-,cE⟩:=XQ m1 h1;obtain⟨j,hj,cR⟩:=XB m2 h2;have p3:=Tz m3 15 h3 (by omega);have r3:=HY m3 15 (by omega);obtain⟨k3,e3⟩:∃k:Nat,Gr m3 15=k:=⟨(Gr m3 15).toNat,by omega⟩
 rw[e3]at p3 r3;obtain⟨R,e,hc,hg⟩:=WZ (UY hk hj) (n:=k3) (by omega);have cC:=Tb (Ou j hj) (SO hk) (by omega) hc;have cD:=Qe (Ou j hj) (SO hk) (AAl hk) (by omega) hc;have hl:(e≠0→R=[])∧R.length≤400:=by
  unfold YB at hg;by_cases he:e=0
  ·rw[if_neg (by simp[he])]at hg;simp only[Bool.and_eq_true,decide_eq_true_eq]at hg;have:=(Cu hg.1.1.1.1).len;exact⟨fun h=>absurd he h,by omega⟩
  ·rw[if_pos he]at hg;simp only[Bool.and_eq_true,List.isEmpty_iff]at hg;exact⟨fun _=>hg.1,by rw[hg.1];simp⟩
 have cP:=Yv R e hl.1 hl.2;generalize O9.getD j []=row at *;generalize W9 k=eqs at *;refine Jm.ac fun C hC=>?_;unfold FJ;repeat' first|refine Gg ?_|refine Mm fun K hK=>?_|refine Cg _ (cR) ?_|refine Cg _ (cE) ?_|refine Cg _ (p3) ?_|refine Cg _ (cD) ?_|refine Cg _ (cC) ?_|refine Cg _ (cP) ?_
 simp only[go_sem,fN,seval,AQ,AS.result,AB,AD,AM]

open Go.ChangeShapes Go.WideShapes Go.ChangeAt
section
variable {H:Type} {enc:TypeId×Value→H} {P:Program}
theorem IW(hl:laidOutB P=true):∀{ts:List TypeId} {vs:List Value} {ds:List (DataW H)} {ps:List MemPlace} {W W':World} {sp:Nat→Bool},
  (∀t∈ts,P.readableRec t=true∧t<P.types.size)→DataW.TrodAll enc P W 0 (fun _=>true) true ts vs ds ps→(∀p∈ps,W.sameAt W' p)→(∀p∈ps,sp p.block=true)→DataW.TrodAll enc P W' 0 sp true ts vs ds ps
 | [],[],[],_,_,_,_,_,h,_,_=>h
 | _::_,_::_,_::_,_,_,_,_,hT,⟨p,q,h1,h2,e⟩,hsame,hs=>⟨p,q,WideElems.Trod_stays hl (hT _ (List.mem_cons.2 (Or.inl rfl))).1 (hT _ (List.mem_cons.2 (Or.inl rfl))).2 h1 (fun x hx=>hsame x (by rw[e];exact List.mem_append_left _ hx)) (fun x hx=>hs x (by rw[e];exact List.mem_append_left _ hx)),
   IW hl (fun t ht=>hT t (List.mem_cons.2 (Or.inr ht))) h2 (fun x hx=>hsame x (by rw[e];exact List.mem_append_right _ hx)) (fun x hx=>hs x (by rw[e];exact List.mem_append_right _ hx)),e⟩
 | [],_::_,_,_,_,_,_,_,h,_,_=>h.elim
 | [],[],_::_,_,_,_,_,_,h,_,_=>h.elim
 | _::_,[],_,_,_,_,_,_,h,_,_=>h.elim
 | _::_,_::_,[],_,_,_,_,_,h,_,_=>h.elim
theorem Yo{f:Func}{s:ChangeSpec}{apart fresh handsOn:Bool}{W W':World}{args:Array Value}{ds:List (DataW H)}{before:List MemPlace}{tb:TypeId}
  (hW:DataW.Whole enc P f.params.toList s.vars apart W args.toList ds [] before) (hv:s.vars=[]) (hr:f.resultTypes=#[tb]) (htb:P.underlying tb=some .bool)
  (hres:(s.fn H (ds++[])).results=[.lit (.bool true)]) (hargs:(s.fn H (ds++[])).args=ds) (hvs:(s.fn H (ds++[])).vars=[])
  (hl:laidOutB P=true) (hT:(f.params.toList.all fun t=>P.readableRec t&&decide (t<P.types.size))=true) (hb:Below W.heap.size W W') :
  s.post enc P f apart fresh handsOn false W args (.bool true) W':=by
 have hlt:∀p∈before,p.block<W.heap.size:=fun p hp=>hW.lt p hp;have hT':∀t∈f.params.toList,P.readableRec t=true∧t<P.types.size:=fun t ht=>by
  have:=List.all_eq_true.1 hT t ht;simpa using this
 obtain⟨p,q,hA,hV,rfl,hz,hn⟩:=hW;rw[hv]at hV;obtain⟨_,rfl⟩:=trodVars_none hV;have hargs':∀sp:Nat→Bool,(∀x∈p,sp x.block=true)→DataW.TrodAll enc P W' 0 sp true f.params.toList args.toList ds p:=fun sp hsp =>
  IW hl hT' hA (fun x hx=>hb.same (hlt x (by simpa using hx))) hsp
 have hres':∀(b:Nat) (sp:Nat→Bool) (hd:Bool),DataW.TrodAll enc P W' b sp hd f.resultTypes.toList ((Value.bool true).resultList f.resultTypes.size) (s.fn H (ds++[])).results []:=fun b sp hd=>by
  rw[hres,hr];exact trodAll_cons_mk (shut_bool htb true) trodAll_mk0
 refine⟨ds,[],p++[],[],p,[],⟨p,[],hA,by rw[hv];exact rfl,rfl,hz,hn⟩,hres' _ _ _,by rw[hargs];exact hargs' _ (fun x hx=>by simpa using hlt x (by simpa using hx)),by rw[hv,hvs];exact rfl,
  World.keptBut_mono (fun x hx=>⟨hx,Or.inr (by simpa using hx)⟩) (hb.frame (·∈p++[])),fun h=>by cases h⟩
variable {W:World} {sp:Nat→Bool} {hd:Bool} {base:Nat}
def sto(W:World):Sto:=Dq W
theorem AAL(W:World):Fit (sto W) W:=fun _ _ h=>h
theorem YT{t:TypeId}(ht:P.underlying t=some (.int .i64))(fuel:Nat)(cs:List Value)(x:DataW H×List MemPlace)(h:DataW.trod enc P W base sp hd fuel t cs=some x):∃n:Int,An (A8 (sto W)) cs (HM n):=by
 obtain⟨n,rfl,_,hn⟩:=DataW.trod_int ht h;exact⟨n,.cons (.int (by rw[Qa];simpa[Lit.wf,IntKind.min,IntKind.max,IntKind.signed,IntKind.bits]using hn)) .nil⟩
theorem Q2{t:TypeId}(ht:P.underlying t=some (.int .i64)){r:Reach}{b0:Nat}{v:Value}{d:DataW H}{p:List MemPlace}(hv:Value.okWide P W r b0 t v)(h:DataW.Trod enc P W base sp hd t v d p):∃n:Int,Ae (sto W) noS noH v (AO n):=by
 obtain⟨n,rfl⟩:=okWide_int ht hv;obtain⟨fuel,hf⟩:=h;obtain⟨m,hm⟩:=YT ht fuel _ _ hf;have:An (A8 (sto W)) [.int .i64 n] (HM m):=hm
 cases this with
 | cons h1 h2=>exact⟨m,.one (.st h1)⟩
end
theorem Rv{P:Program}{f:FuncId}{xs:List AV}{b:Bool}(h:AW P f xs (AZ b)){σ:Sto}{w:World}{vs:List Value}(hg:DC σ)(hf:Fit σ w)(hv:An (Ae σ noS noH) vs xs) :
  Calls P f vs.toArray w fun e w'=>e=.returned (.bool b)∧Below w.heap.size w w':=(h σ w vs hg hf hv).mono fun e w' ⟨v,σ',he,hv,_,_,hb⟩=>by
 rw[D9 hv]at he;exact⟨he,hb⟩

theorem U9{P:Program}{W:World}{x:String×DataW Unit}:∀{l:List (String×DataW Unit)} {ps:List MemPlace},DataW.LaidVars P W l ps→x∈l→∃q,DataW.LaidVars P W [x] q
 | [],_,_,hx=>by simp at hx
 | y::l,ps,h,hx=>by
  obtain⟨n,d⟩:=y;obtain⟨g,t,cs,fuel,p,q,a1,a2,a3,a4,a5,a6⟩:=h;rcases List.mem_cons.1 hx with rfl|hx
  ·exact⟨_,g,t,cs,fuel,p,[],a1,a2,a3,a4,rfl,rfl⟩
  ·exact U9 a5 hx
theorem Zb{P:Program}{W:World}{n:String}{g:Nat}{cs:Array Value}(hg:P.globalNamed n=some g)(h:W.var? P n=some cs):sto W ⟨g,cs.size,some 0⟩=some .nilFunc:=by
 unfold World.var? at h;rw[hg]at h;simp only[Option.bind_some]at h;show Dq W _=_
 unfold Dq;simp only;cases hb:W.heap[g]? with
 | none=>rw[hb]at h;cases h
 | some o =>
  rw[hb]at h;cases o <;> simp_all
theorem Yy{P:Program}{W:World}{name:String}{g:Nat}{t e:TypeId}{n:Nat}{k:IntKind}{zs:List Int}(hg:P.globalNamed name=some g)(hty:(P.globals[g]?).map (·.type)=some t)(ht:P.underlying t=some (.array n e))(he:P.underlying e=some (.int k))
  (hce:P.cellsOf e=1) (hct:P.cellsOf t=n) (hin:∀z∈zs,inR k z) {ps:List MemPlace} (h:DataW.LaidVars P W [(name,Lib.tabData k zs)] ps):QM (sto W) (g,zs.map fun z=>.int k z):=by
 obtain⟨g0,t0,cs0,f0,p0,q0,hg0,ht0,hv0,hd0,_,_⟩:=h;obtain rfl:=Option.some.inj (hg.symm.trans hg0);obtain rfl:=Option.some.inj (hty.symm.trans ht0);have hc:=Lib.cells_of_tab ht he hce hct hd0;have hs:cs0.size=zs.length:=by
  have:=congrArg List.length hc;simpa using this
 refine⟨⟨fun j=>(zs[j]?).elim .nilFunc (.int k),fun j a ha=>?_,fun j a ha=>?_⟩,?_⟩
 ·rw[List.getElem?_map,Option.map_eq_some_iff]at ha;obtain⟨z,hz,rfl⟩:=ha;have h1:=World.var?_cell hg0 hv0 j;have h2:cs0[j]?=some (.int k z):=by
   have h3:=congrArg (fun l:List Value=>l[j]?) hc;simpa[hz]using h3
  show Dq W _=_
  rw[Ej rfl,Nat.zero_add,h1,h2];simp only[hz,Option.elim]
 ·rw[List.getElem?_map,Option.map_eq_some_iff]at ha;obtain⟨z,hz,rfl⟩:=ha;simp only[hz,Option.elim];exact .int (hin z (List.mem_of_getElem? hz))
 ·have:=Zb hg0 hv0;rw[hs]at this;simpa using this
theorem ABj{zs:List Int}(h:zs.all (fun z=>decide (0≤z)&&decide (z≤18446744073709551615))=true):∀z∈zs,inR .u64 z:=fun z hz=>by
 have:=List.all_eq_true.1 h z hz;simp only[Bool.and_eq_true,decide_eq_true_eq]at this;simp[inR,IntKind.min,IntKind.max,IntKind.signed,IntKind.bits];omega
theorem Xs {W : World} {ps : List MemPlace} (h : DataW.LaidVars Tryz.prog W [("internal/strconv.uint64pow10", Rows.laid_internal_strconv_uint64pow10)] ps) : QM (sto W) (0, ZS) := Yy (k := .u64) (zs := Lib.pow10Tab) (by kernel_rfl) (by kernel_rfl) Tryz.underlying190 Tryz.underlying176 (by kernel_rfl) (by kernel_rfl) (ABj (by decide)) h

theorem UM {W : World} {l : List (String × DataW Unit)} (hp : (l.all fun x => true) = true) (hin : ("internal/strconv.uint64pow10", Rows.laid_internal_strconv_uint64pow10) ∈ l) {ps : List MemPlace} (h : DataW.LaidVars Tryz.prog W l ps) : DC (sto W) := by
 obtain ⟨_, h1⟩ := U9 (x := ("internal/strconv.uint64pow10", Rows.laid_internal_strconv_uint64pow10)) h hin
 intro y hy;simp only[RL,List.mem_cons,List.not_mem_nil,or_false]at hy;subst hy;exact Xs h1

section
variable {H:Type} {enc:TypeId×Value→H} {W:World} {sp:Nat→Bool} {hd:Bool} {base:Nat}
end

end Go.Proofs.YtbhnmjkmieiadaaGreatDoor
namespace Go.Proofs.YtbhnmjkmieiadaaGreatDoor.completeMade
open Go Go.RowKit Go.ChangeShapes Go.WideShapes Go.ChangeAt
set_option linter.unusedVariables false
theorem AAm{W:World}(h:laidMetH Tryz.prog Rows.completeMadeRow.laid W):DC (sto W):=by
 rw[MakeChecks.laidMetH_plain _ _ _ (by kernel_rfl)]at h;obtain⟨ps,h,_,_⟩:=h;exact UM (by kernel_rfl) (by simp[Rows.completeMadeRow]) h
theorem own:ownKnob Tryz.prog.godebug=none:=by kernel_rfl
theorem laid:laidOutB Tryz.prog=true:=by kernel_rfl
set_option maxRecDepth 100000 in
theorem Yg(H:Type)(enc:TypeId×Value→H)(W:World)(base:Nat)(args:Array Value)(ds gs:List (DataW H))(before:List MemPlace)(hL:laidMetH Tryz.prog Rows.completeMadeRow.laid W)
  (hval:∀(j:Nat) t v,Tryz.f3.params[j]?=some t→args[j]?=some v→Value.okWide Tryz.prog W .any base t v)
  (hW:DataW.Whole enc Tryz.prog Tryz.f3.params.toList Rows.completeMadeSpec.vars false W args.toList ds gs before) :
  Calls Tryz.prog 3 args W fun e W'=>∃v,e=.returned v∧Rows.completeMadeSpec.post enc Tryz.prog Tryz.f3 false true false false W args v W':=by
 have hG:=AAm hL;obtain⟨p,q,hA0,hV,rfl,hfz,hnd⟩:=id hW;obtain⟨rfl,rfl⟩:=trodVars_none hV;have hA:DataW.TrodAll enc Tryz.prog W 0 (fun _=>true) true Tryz.f3.params.toList args.toList ds p:=hA0;rw[Tryz.params3]at hA hval;obtain⟨v0,w0,d0,e0,p0,q0,hargs,rfl,rfl,h0,g0⟩:=trodAll_cons hA;obtain⟨v1,w1,d1,e1,p1,q1,rfl,rfl,rfl,h1,g1⟩:=trodAll_cons g0;obtain⟨v2,w2,d2,e2,p2,q2,rfl,rfl,rfl,h2,g2⟩:=trodAll_cons g1;obtain⟨rfl,rfl,rfl⟩:=trodAll_nil g2;obtain rfl:args=#[v0,v1,v2]:=by cases args;simp_all
 obtain⟨m1,r1⟩:=Q2 Tryz.underlying3 (hval 0 3 v0 rfl rfl) h0;obtain⟨m2,r2⟩:=Q2 Tryz.underlying3 (hval 1 3 v1 rfl rfl) h1;obtain⟨m3,r3⟩:=Q2 Tryz.underlying3 (hval 2 3 v2 rfl rfl) h2;refine(Rv (MY m1 m2 m3 r1.known r2.known r3.known) hG (AAL W) (vs:=[v0,v1,v2]) (.cons r1 (.cons r2 (.cons r3 .nil)))).mono fun e W' ⟨he,hb⟩=>⟨_,he,?_⟩
 exact Yo hW rfl rfl Tryz.underlying4 rfl rfl rfl laid (by kernel_rfl) hb
theorem Zl(os:Os)(args:Array Value):laidMetH Tryz.prog Rows.completeMadeRow.laid ((World.doorLaid Tryz.prog 400 os).forCall (fun _ _=>0) ⟨#[],args,[]⟩).memory :=
 laidMetH_of_parts3 (fuel:=8) (laidMet_of_run' 8 (by kernel_rfl) (by kernel_rfl)) (by kernel_rfl) (by kernel_rfl)
set_option maxRecDepth 100000 in
theorem ABa(os:Os)(started:os.Started)(H:Type)(enc:TypeId×Value→H) :
  ReturnsInHanded {} Tryz.checked os 3 .any (fun w args=>(Rows.completeMadeSpec.pre enc Tryz.prog Tryz.f3 [] false w args∧laidMetH Tryz.prog Rows.completeMadeRow.laid w)∧sizedMet enc Tryz.prog Tryz.f3 (OpenSpec.ofChange Rows.completeMadeSpec) false w args)
   (Rows.completeMadeSpec.post enc Tryz.prog Tryz.f3 false true false false):=by
 refine returnsInHanded_of_change_and (C:=Tryz.checked) (X:=fun w _=>laidMetH Tryz.prog Rows.completeMadeRow.laid w) (fun _ _ _ hh h=>h.of_heap hh) own started (by kernel_rfl) Tryz.func3
  (ChangeSpec.witness_shaped (enc:=enc) (C:=Tryz.checked) (os:=os) (X:=fun w _=>laidMetH Tryz.prog Rows.completeMadeRow.laid w) false (World.doorLaid Tryz.prog 400 os) #[.int .i64 0,.int .i64 0,.int .i64 0] 8 rfl (World.shaped_of_RefB (by kernel_rfl) (by kernel_rfl)) (by kernel_rfl) (by kernel_rfl) (by kernel_rfl) (Zl os _)) ?_
 intro W base args ds gs before hval hW _ _ hL _;exact Yg H enc W base args ds gs before hL hval hW
theorem Wt:Rows.CompleteMadeSaid :=
 OpenClaim.holds_of_wide 3 Tryz.f3 rfl rfl rfl rfl rfl rfl rfl ⟨rfl,rfl,rfl,rfl,rfl⟩ rfl rfl rfl rfl rfl (by kernel_rfl) Tryz.func3 (by kernel_rfl)
  (of_decide_eq_true (by kernel_rfl)) (by unfold Func.isWrapper;first|(rw[if_pos (by decide +kernel)];kernel_rfl)|(rw[if_neg (by decide +kernel)];exact⟨rfl,rfl⟩))
  (fun os started H enc _=>ABa os started H enc)
theorem ZN:(Tryz.f3.params.toList.all fun t=>!Tryz.prog.wantsStandIn t)=true:=by kernel_rfl
theorem proved:Rows.CompleteMadeCardSaid :=
 Claim7.holds_tied_plain_at .later [] [.data,.data,.data] true Rows.completeMadeCard.stood.harness Rows.completeMadeCard.stood.looks
  Wt (fun _ h=>by cases h) (by kernel_rfl) (fun _ h=>by cases h) completeMade_row_tie rfl ⟨rfl,rfl⟩ (by kernel_rfl) rfl
  (fun f fn hf hfn=>by
   obtain rfl : f = 3 := Option.some.inj ((show Tryz.prog.funcNamed "metaprune/metaprunelaw.CompleteMade" = some 3 by kernel_rfl).symm.trans hf) |>.symm
   obtain rfl:fn=Tryz.f3:=(Option.some.inj (Tryz.func3.symm.trans hfn)).symm;exact⟨by kernel_rfl,fun j t ht=>by
    have h1:=List.all_eq_true.1 ZN t (by rw[Array.mem_toList_iff];exact Array.mem_of_getElem? ht);have h2:Tryz.prog.wantsStandIn t=false:=by simpa using h1
    exact h2⟩)
  (by kernel_rfl)

end Go.Proofs.YtbhnmjkmieiadaaGreatDoor.completeMade
