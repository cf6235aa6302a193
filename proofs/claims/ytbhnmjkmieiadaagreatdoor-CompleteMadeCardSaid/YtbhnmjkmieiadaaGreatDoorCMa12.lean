/-
  Part 12 of the texts. Conditions: none.
-/
import Derived.Test.YtbhnmjkmieiadaaGreatDoorCMa11
namespace Go.Proofs.YtbhnmjkmieiadaaGreatDoor
open Go Go.RowKit
set_option linter.unusedVariables false
set_option linter.unusedSimpArgs false
set_option maxHeartbeats 4000000
abbrev DM(row:List ByteArray)(R:List Pr)(TB m:Nat):AJ:=.box 65 [.st (.list (row.map CV)),.st (.list (R.map Ag)),.row TB m]
def OL(S:AA)(G TB:Nat)(row:List ByteArray)(R T:List Pr):AA:=AI (AI S G (some (DM row R TB T.length))) TB (some (Bo T))
theorem Ue{row:List ByteArray}{R:List Pr}{TB m:Nat}(h:1000≤TB):(DM row R TB m).high=true:=by
 show AC.highs [.st _,.st _,.row TB m]=true
 rw[AC.highs,AC.highs,AC.highs,EN h];rfl
theorem Kw{C:Ctx}{rs:List RV}{s:AS}{S:AA}{ex:AX}{G TB:Nat}{row:List ByteArray}{R T:List Pr}{e:Int}(hS:Ay S)(hG:1000≤G)(hTB:1000≤TB)(hne:G≠TB)(he:match ex with|.normal=>True|.ret=>True|_=>False)
  (h:((AB s rs).map AM).bind (outV s.S)=some (AO e)) (h3:s.S G=some (DM row R TB T.length)) (h3':s.S TB=some (Bo T)) (h4:∀i,1000≤i→i≠G→i≠TB→s.S i=S i):FR C rs (AO e) (OL S G TB row R T) ex s:=by
 rw[Option.bind_eq_some_iff]at h;obtain⟨r0,h1,h2⟩:=h;exact YI r0 hS hG hTB (Ne.symm hne) (Ue hTB) rfl he h1 h2 h3 h3' h4
abbrev YR(row:List ByteArray)(id n TB m:Nat):AJ:=.box 65 [.st (.list (row.map CV)),.row id n,.row TB m]
theorem Vs{C:Ctx}{s:AS}{G TB id m:Nat}{row:List ByteArray}{R:List Pr}(hne:G≠id)(h1:s.S id=some (A_ R))(h3:s.S G=some (YR row id R.length TB m)) :
  AY C s ((s.set id (.arow 40 4 (R.map Ag))).set G (DM row R TB m)):=by
 refine(AY.share (id:=id) h1).trans (AY.settleC G 1 (cs:=[.st (.list (row.map CV)),.row id R.length,.row TB m]) (c:=.row id R.length) (x:=.list (R.map Ag)) ?_ rfl ?_)
 ·show AI s.S id _ G=_
  rw[AH _ hne];exact h3
 ·show stC (AI s.S id _) (.row id R.length)=_
  simp[stC,AI]
theorem Me{C:Ctx}{s:AS}{S:AA}{ex:AX}{G TB id:Nat}{row:List ByteArray}{R T:List Pr}{e:Int}(hS:Ay S)(hG:1000≤G)(hTB:1000≤TB)(hne:G≠TB)(hid:id<1000)(he:match ex with|.normal=>True|.ret=>True|_=>False)
  (h:s.env 4=AO e) (h1:s.S id=some (A_ R)) (h3:s.S G=some (YR row id R.length TB T.length)) (h3':s.S TB=some (Bo T)) (h4:∀i,1000≤i→i≠G→i≠TB→s.S i=S i):FR C [RV.t 4] (AO e) (OL S G TB row R T) ex s:=by
 refine Mx (Vs (by omega) h1 h3) (Kw hS hG hTB hne he ?_ ?_ ?_ fun j hj j1 j2=>?_)
 ·show((AB _ [RV.t 4]).map AM).bind _=_
  simp only[AB,AD,AS.set,h];rfl
 ·show AI _ G _ G=_
  rw[AG]
 ·show AI (AI s.S id _) G _ TB=_
  rw[AH _ (Ne.symm hne),AH _ (by omega)];exact h3'
 ·show AI (AI s.S id _) G _ j=_
  rw[AH _ j1,AH _ (by omega)];exact h4 j hj j1 j2
theorem Gh{l:List Pr}{r:Pr}:AJ.mrow 40 4 (l.map Ag++[Ag r])=A_ (l++[r]):=by
 show _=AJ.mrow _ _ ((l++[r]).map Ag)
 rw[List.map_append];rfl
theorem PN{l:List Pr}{k:Nat}{q:Pr}{y:Tm}(h:l[k]?=some q):AJ.mrow 40 4 ((l.map Ag).set k [.str q.1.name,.list (q.1.args.map Al),.str y.name,.list (y.args.map Al)])=A_ (l.set k (q.1,y)):=by
 show _=AJ.mrow _ _ ((l.set k (q.1,y)).map Ag)
 rw[List.map_set];rfl
theorem Cp{a b:Nat}(h:a≠b):(a=b)=False:=eq_false h
theorem HQ{a b:Pr}(ha1:a.1.may=0)(ha2:a.2.may=0)(hb1:b.1.may=0)(hb2:b.2.may=0){same:Bool}{l:List Pr}(h:Nv (DI 88 1 a) (DI 89 1 b) same=some l):l.length≤200:=by
 have oA:=FN (c:=88) (by decide) (by decide) (k:=1) (by omega) ha1 ha2;have oB:=FN (c:=89) (by decide) (by decide) (k:=1) (by omega) hb1 hb2;have:=SQ oA.c1 oA.c2 oA.z1 oB.c1 oB.c2 oB.z1 (fun p hp=>hp) h;rw[Tm.places_length]at this;have:=oA.z1;omega
theorem ZF(S:AA)(G TB:Nat)(hG:1000≤G)(hTB:1000≤TB)(hne:G≠TB)(row:List ByteArray)(R T:List Pr)(r:Pr)(sG:S G=some (DM row R TB T.length))(sT:S TB=some (Bo T))(hTl:T.length≤100000)(zr1:r.1.size≤900000)(zr2:r.2.size≤900000)(f:Nat)(R' T':List Pr)(e:Int)(hp:G8 f R T r=some (R',T',e)) :
  Ah Tryz.prog 72 [.one (.ptr G 1 0 0),aPr r] S (AO e) (OL S G TB row R' T'):=by
 refine Ds.acS fun hS C hC=>?_;unfold CT;have n3:=AK hS (i:=3) (by omega);have n8:=AK hS (i:=8) (by omega);have n12:=AK hS (i:=12) (by omega);have n16:=AK hS (i:=16) (by omega);have n19:=AK hS (i:=19) (by omega);have n600:=AK hS (i:=600) (by omega);have neT:=Cp hne;have neT':=Cp (Ne.symm hne);have c1:=GZ r.1 (by omega);have c2:=GZ r.2 (by omega);unfold G8 at hp;by_cases hz:200<r.1.size∨200<r.2.size
 ·rw[if_pos hz]at hp;cases hp;by_cases z1:(200:Int)<r.1.size
  ·repeat' first|refine Gf (F7 @AS.startS.eq_1 n3 z1 @AF @AU hG hTB) ?_|refine Mm fun K hK=>?_|refine Cg _ (c1) ?_|refine Cg _ (c2) ?_
   refine Kw hS hG hTB hne trivial ?_ ?_ ?_ fun j hj j1 j2=>?_
   ·simp only[go_sem,fN,seval,eT,iR,AB,AD,AM,Option.bind_some];all_goals rfl
   ·simp only[go_sem,fN,seval,eT,iR,AF,hG,sG]
   ·simp only[go_sem,fN,seval,eT,iR,AF,hTB,sT]
   ·simp only[go_sem,fN,seval,eT,iR,AF,hj]
  ·have z2:(200:Int)<r.2.size:=by omega
   repeat' first|refine Gf (F8 @AS.startS.eq_1 n3 z1 z2 @AF @AU hG hTB) ?_|refine Mm fun K hK=>?_|refine Cg _ (c1) ?_|refine Cg _ (c2) ?_
   refine Kw hS hG hTB hne trivial ?_ ?_ ?_ fun j hj j1 j2=>?_
   ·simp only[go_sem,fN,seval,eT,iR,AB,AD,AM,Option.bind_some];all_goals rfl
   ·simp only[go_sem,fN,seval,eT,iR,AF,hG,sG]
   ·simp only[go_sem,fN,seval,eT,iR,AF,hTB,sT]
   ·simp only[go_sem,fN,seval,eT,iR,AF,hj]
 rw[if_neg hz]at hp;have z1:¬(200:Int)<r.1.size:=by omega
 have z2:¬(200:Int)<r.2.size:=by omega
 split at hp
 ·cases hp
 rename_i hgood;have hg1:Bc [r]=0:=by omega
 have hg2:Bc R=0:=by omega
 have hRg:=Cu hg2;have h40:=hRg.len;split at hp
 ·cases hp
 rename_i left0 todo0 hpart;repeat' first|refine Gf (F9 @AS.startS.eq_1 n3 z1 z2 @AF @AU hG hTB sG) ?_|refine Mm fun K hK=>?_|refine Cg _ (c1) ?_|refine Cg _ (c2) ?_
 refine IWP.ghost (AY.ownM 6 600 40 4 (by simp only[go_sem,fN,seval,eT,iR]) (by simp only[go_sem,fN,seval,eT,iR,n600]) (by rw[hC];decide)) ?_;refine IWP.loopD [8] (fun z s=>∃k left todo,k≤R.length∧z=R.length-k∧JC r (R.drop k) left todo=some (left0,todo0)∧left.length≤k∧todo.length≤T.length+k∧s.env 0=.one (.ptr G 1 0 0)∧s.env 3=.one (.ptr 3 1 0 0)∧s.env 5=.one (.full [Ag r])∧s.env 6=.one (.row 600 left.length)∧s.env 37=Be R∧s.env 38=AO R.length∧s.env 39=AO k∧s.S 3=some (Et r)∧s.S 8=none∧s.S 12=none∧s.S 16=none∧s.S 19=none∧s.S 600=some (A_ left)∧s.S G=some (DM row R TB todo.length)∧s.S TB=some (Bo todo)∧∀j,1000≤j→j≠G→j≠TB→s.S j=S j) R.length
  ⟨0,[],T,Nat.zero_le _,rfl,hpart,Nat.zero_le _,by omega,rfl,rfl,rfl,rfl,rfl,rfl,rfl,by simp only[go_sem,fN,seval,eT,iR],by simp only[go_sem,fN,seval,eT,iR,n8],by simp only[go_sem,fN,seval,eT,iR,n12],by simp only[go_sem,fN,seval,eT,iR,n16],by simp only[go_sem,fN,seval,eT,iR,n19],by(simp only[go_sem,fN,seval,eT,iR];rfl),by simp only[go_sem,fN,seval,eT,iR,AF,hG,sG],by simp only[go_sem,fN,seval,eT,iR,AF,hTB,sT],fun j hj j1 j2=>by simp only[go_sem,fN,seval,eT,iR,AF,hj]⟩ ?_
 clear n3 n8 n12 n16 n19 n600 sG sT hpart;rintro z ⟨env,S1⟩ ⟨k,left,todo,hk,rfl,hpart,hll,htl,e0,e3,e5,e6,e37,e38,e39,s3,s8,s12,s16,s19,s600,sG,sT,hS1⟩;simp only at e0 e3 e5 e6 e37 e38 e39 s3 s8 s12 s16 s19 s600 sG sT hS1;have hlL:(left.map Ag).length=left.length:=List.length_map _;have hlT:(todo.map Ag).length=todo.length:=List.length_map _;by_cases hkl:k<R.length
 ·have hkl':(k:Int)<R.length:=by omega
  obtain⟨o,ho⟩:=Aa hkl;have mo:=AN ho;have ko:=Tm.may_chk (hRg.left o mo);rw[A5 ho,JC]at hpart;have cO:=ABJ (Cu hg1) o.1 ko.1 (by omega);split at hpart
  ·cases hpart
  rename_i l hl;rw[hl]at cO;unfold RB at cO;have hr1:[r].map Ag=[Ag r]:=rfl;by_cases hem:l.isEmpty=true
  ·rw[if_pos hem]at hpart;have hl0:¬(0:Int)<(l.length:Int):=by rw[List.isEmpty_iff]at hem;rw[hem];simp
   repeat' first|refine Gf (F24 e0 e3 e5 e6 e37 e38 e39 s3 s8 s600 sG sT hkl' ho @Ag.eq_1 hl0 hlL hlT @AF @AU hG hTB neT neT') ?_|refine Mm fun K hK=>?_|refine Cg _ (cO) ?_
   refine AE ⟨R.length-(k+1),by omega,k+1,left++[o],todo,by omega,rfl,hpart,by first|omega|(simp only[List.length_append,List.length_cons,List.length_nil];omega),by first|omega|(simp only[List.length_append,List.length_cons,List.length_nil];omega),?_⟩;repeat' refine And.intro ?_ ?_
   all_goals first|(intro j hj j1 j2;refine BX hS (by decide) hj ?_;have hj2:=hS1 j hj j1 j2;have k1:=Cp j1;have k2:=Cp j2;simp only[go_sem,fN,seval,eT,iR,AF,hj,hj2,k1,k2];done)|(simp only[go_sem,fN,seval,AS.drop,AT,AC.clears,AC.clear,AC.highs,AC.high,zD,AV.purge,AV.purges,AC.purge,AJ.purge,Nat.reduceBEq,eT,iR,e0,e3,e5,e6,e37,e38,e39,s3,s8,s12,s16,s19,s600,sG,sT,BD,hG,hTB,neT,neT',AF,AU,List.length_append,List.length_cons,List.length_nil];done)|(simp only[go_sem,fN,seval,AS.drop,AT,AC.clears,AC.clear,AC.highs,AC.high,zD,AV.purge,AV.purges,AC.purge,AJ.purge,Nat.reduceBEq,eT,iR,e0,e3,e5,e6,e37,e38,e39,s3,s8,s12,s16,s19,s600,sG,sT,BD,hG,hTB,neT,neT',AF,AU,List.length_append,List.length_cons,List.length_nil];first|rfl|(congr 3;done)|(simp[Ag];done))
  ·rw[if_neg hem]at hpart;have hl0:(0:Int)<(l.length:Int):=by
    cases l with
    | nil=>simp at hem
    | cons a l=>simp only[List.length_cons];omega
   repeat' first|refine Gf (F24 e0 e3 e5 e6 e37 e38 e39 s3 s8 s600 sG sT hkl' ho @Ag.eq_1 hl0 hlL hlT @AF @AU hG hTB neT neT') ?_|refine Mm fun K hK=>?_|refine Cg _ (cO) ?_
   refine AE ⟨R.length-(k+1),by omega,k+1,left,todo++[o],by omega,rfl,hpart,by first|omega|(simp only[List.length_append,List.length_cons,List.length_nil];omega),by first|omega|(simp only[List.length_append,List.length_cons,List.length_nil];omega),?_⟩;repeat' refine And.intro ?_ ?_
   all_goals first|(intro j hj j1 j2;refine BX hS (by decide) hj ?_;have hj2:=hS1 j hj j1 j2;have k1:=Cp j1;have k2:=Cp j2;simp only[go_sem,fN,seval,eT,iR,AF,hj,hj2,k1,k2];done)|(simp only[go_sem,fN,seval,AS.drop,AT,AC.clears,AC.clear,AC.highs,AC.high,zD,AV.purge,AV.purges,AC.purge,AJ.purge,Nat.reduceBEq,eT,iR,e0,e3,e5,e6,e37,e38,e39,s3,s8,s12,s16,s19,s600,sG,sT,BD,hG,hTB,neT,neT',AF,AU,List.length_append,List.length_cons,List.length_nil];done)|(simp only[go_sem,fN,seval,AS.drop,AT,AC.clears,AC.clear,AC.highs,AC.high,zD,AV.purge,AV.purges,AC.purge,AJ.purge,Nat.reduceBEq,eT,iR,e0,e3,e5,e6,e37,e38,e39,s3,s8,s12,s16,s19,s600,sG,sT,BD,hG,hTB,neT,neT',AF,AU,List.length_append,List.length_cons,List.length_nil];first|rfl|(congr 3;done)|(simp[Ag];done))
 have hkl':¬(k:Int)<R.length:=by omega
 refine Gf (F22 e0 e3 e5 e6 e37 e38 e39 s3 s8 s600 sG sT hkl' @Ag.eq_1 hlL hlT @AF @AU hG hTB neT neT') ?_;rw[List.drop_of_length_le (by omega),JC]at hpart;simp only[Option.some.injEq,Prod.mk.injEq]at hpart;obtain⟨rfl,rfl⟩:=hpart;refine⟨fun g40=>?_,fun g40=>?_⟩
 ·have g40':40<left.length+1:=by omega
  rw[if_pos g40']at hp;cases hp;refine Gf (F6 @AF @AU hG hTB neT neT') ?_;have hlen1:(left++[r]).length=left.length+1:=by simp
  refine Me (id:=600) hS hG hTB hne (by decide) trivial ?_ ?_ ?_ ?_ fun j hj j1 j2=>?_
  ·simp only[go_sem,fN,seval,eT,iR]
  ·simp only[go_sem,fN,seval,eT,iR,AF,AU,hG,hTB,neT,neT'];exact Gh
  ·rw[hlen1];simp only[go_sem,fN,seval,eT,iR,AF,AU,hG,hTB,neT,neT']
  ·simp only[go_sem,fN,seval,eT,iR,AF,AU,hG,hTB,neT,neT',sT]
  ·have hj2:=hS1 j hj j1 j2;have k1:=Cp j1;have k2:=Cp j2;simp only[go_sem,fN,seval,eT,iR,AF,AU,hj,k1,k2,hj2]
 have g40':¬40<left.length+1:=by omega
 rw[if_neg g40']at hp;split at hp
 ·cases hp
 rename_i R2 e2 hn;refine Gf (F9 e0 e3 hlL @AF @AU hG hTB neT neT') ?_;obtain⟨n1,hn1⟩:∃n1,left.length+1=n1:=⟨_,rfl⟩
 have hl1:(left++[r]).length=n1:=by simp[hn1]
 rw[hn1];rw[hn1]at hn;refine IWP.loopD [12] (fun z s=>∃k Rc,k≤n1∧z=n1-k∧LP (n1-k) k Rc=some (R2,e2)∧Rc.length=n1∧s.env 0=.one (.ptr G 1 0 0)∧s.env 3=.one (.ptr 3 1 0 0)∧s.env 85=AO n1∧s.env 86=AO k∧s.S 3=some (Et r)∧s.S 12=none∧s.S 16=none∧s.S 19=none∧s.S 600=some (A_ Rc)∧s.S G=some (YR row 600 n1 TB todo.length)∧s.S TB=some (Bo todo)∧∀j,1000≤j→j≠G→j≠TB→s.S j=S j) n1
  ⟨0,left++[r],Nat.zero_le _,rfl,hn,hl1,by simp only[go_sem,fN,seval,eT,iR,e0],by simp only[go_sem,fN,seval,eT,iR,e3],rfl,rfl,by simp only[go_sem,fN,seval,eT,iR,s3,AU,hG],by simp only[go_sem,fN,seval,eT,iR,s12,AU,hG],by simp only[go_sem,fN,seval,eT,iR,s16,AU,hG],by simp only[go_sem,fN,seval,eT,iR,s19,AU,hG],by(simp only[go_sem,fN,seval,eT,iR,AU,hG];exact Gh),by simp only[go_sem,fN,seval,eT,iR],by simp only[go_sem,fN,seval,eT,iR,AF,hTB,neT',sT],fun j hj j1 j2=>by(have hj2:=hS1 j hj j1 j2;have k1:=Cp j1;simp only[go_sem,fN,seval,eT,iR,AF,hj,k1,hj2])⟩ ?_
 clear e0 e3 e5 e6 e37 e38 e39 s3 s8 s12 s16 s19 s600 sG sT hS1 hn;rintro z ⟨env,S2⟩ ⟨k,Rc,hk,rfl,hn,hRl,e0,e3,e85,e86,s3,s12,s16,s19,s600,sG,sT,hS2⟩;simp only at e0 e3 e85 e86 s3 s12 s16 s19 s600 sG sT hS2;have hlR:(Rc.map Ag).length=n1:=by rw[List.length_map];exact hRl
 by_cases hkl:k<n1
 ·have hkl':(k:Int)<n1:=by omega
  obtain⟨m,hm⟩:∃m,n1-k=m+1:=⟨n1-k-1,by omega⟩
  obtain⟨q,hq⟩:=Aa (show k<Rc.length by omega);rw[hm,LP,hq]at hn;split at hn
  ·cases hn
  rename_i hgc;simp only at hn;have hgc:Bc Rc=0:=by omega
  have hRc:=Cu hgc;have kq:=Tm.may_chk (hRc.right q (AN hq));have hcon:=fun(T:AA) (hT:T 600=some (A_ Rc))=>ABd hRc q.2 kq.1 (by omega) 100 (by decide) (up1 600) (Ap _) (upS T) (by rw[Ax,hT];rfl);rw[hRl]at hcon;have hyz:=Dz (step:=Tm.inn Rc) 100 0 q.2 2000 (by omega) (by omega);unfold L0 at hcon;generalize CM (Tm.inn Rc) 100 0 q.2=Y at *;obtain⟨y,yn,ye⟩:=Y;simp only at hn hcon hyz;repeat' first|refine Gf (F19 e0 e3 e85 e86 s3 s12 s600 sG sT hkl' hq @Ag.eq_1 hlR @AF @AU hG hTB neT neT') ?_|refine Mm fun K hK=>?_
  refine⟨_,[(600,A_ Rc)],BC (by simp only[go_sem,fN,seval,eT,iR,s600]),fun T hT=>hcon T (hT (600,A_ Rc) (by simp)),?_⟩;by_cases hye:ye=0
  case neg =>
   rw[if_pos hye]at hn;simp only[Option.some.injEq,Prod.mk.injEq]at hn;obtain⟨rfl,rfl⟩:=hn;rw[if_pos hye]at hp;cases hp;refine Gf (F20 e0 e3 e85 e86 s3 s12 s600 sG sT hkl' hq @Ag.eq_1 hlR @AF @AU hG hTB neT neT' hye) ?_;refine Me (id:=600) hS hG hTB hne (by decide) trivial ?_ ?_ ?_ ?_ fun j hj j1 j2=>?_
   ·simp only[go_sem,fN,seval,eT,iR]
   ·simp only[go_sem,fN,seval,eT,iR,s600]
   ·rw[hRl];simp only[go_sem,fN,seval,eT,iR,AF,hG,sG]
   ·simp only[go_sem,fN,seval,eT,iR,AF,hTB,sT]
   ·have hj2:=hS2 j hj j1 j2;have k1:=Cp j1;have k2:=Cp j2;simp only[go_sem,fN,seval,eT,iR,AF,AU,hj,k1,k2,hj2]
  case pos =>
  subst hye;rw[if_neg (by simp)]at hn;have hys:=GZ y (by omega);by_cases hy2:200<y.size
  ·have hy2':(200:Int)<y.size:=by omega
   rw[if_pos hy2]at hn;simp only[Option.some.injEq,Prod.mk.injEq]at hn;obtain⟨rfl,rfl⟩:=hn;rw[if_pos (by decide)]at hp;cases hp;repeat' first|refine Gf (F20 e0 e3 e85 e86 s3 s12 s600 sG sT hkl' hq @Ag.eq_1 hlR @AF @AU hG hTB neT neT' hy2') ?_|refine Mm fun K hK=>?_|refine Cg _ (hys) ?_
   refine Me (id:=600) hS hG hTB hne (by decide) trivial ?_ ?_ ?_ ?_ fun j hj j1 j2=>?_
   ·simp only[go_sem,fN,seval,eT,iR]
   ·simp only[go_sem,fN,seval,eT,iR,s600]
   ·rw[hRl];simp only[go_sem,fN,seval,eT,iR,AF,hG,sG]
   ·simp only[go_sem,fN,seval,eT,iR,AF,hTB,sT]
   ·have hj2:=hS2 j hj j1 j2;have k1:=Cp j1;have k2:=Cp j2;simp only[go_sem,fN,seval,eT,iR,AF,AU,hj,k1,k2,hj2]
  have hy2':¬(200:Int)<y.size:=by omega
  rw[if_neg hy2]at hn;repeat' first|refine Gf (F20 e0 e3 e85 e86 s3 s12 s600 sG sT hkl' hq @Ag.eq_1 hlR @AF @AU hG hTB neT neT' hy2') ?_|refine Mm fun K hK=>?_|refine Cg _ (hys) ?_
  refine AE ⟨n1-(k+1),by omega,k+1,Rc.set k (q.1,y),by omega,rfl,by rw[show n1-(k+1)=m by omega];exact hn,by rw[List.length_set];exact hRl,?_⟩;repeat' refine And.intro ?_ ?_
  all_goals first|(intro j hj j1 j2;refine BX hS (by decide) hj ?_;have hj2:=hS2 j hj j1 j2;have k1:=Cp j1;have k2:=Cp j2;simp only[go_sem,fN,seval,eT,iR,AF,hj,hj2,k1,k2];done)|(simp only[go_sem,fN,seval,AS.drop,AT,AC.clears,AC.clear,AC.highs,AC.high,zD,AV.purge,AV.purges,AC.purge,AJ.purge,Nat.reduceBEq,eT,iR,e0,e3,e85,e86,s3,s12,s16,s19,s600,sG,sT,BD,hG,hTB,neT,neT',AF,AU,hlR];done)|(simp only[go_sem,fN,seval,AS.drop,AT,AC.clears,AC.clear,AC.highs,AC.high,zD,AV.purge,AV.purges,AC.purge,AJ.purge,Nat.reduceBEq,eT,iR,e0,e3,e85,e86,s3,s12,s16,s19,s600,sG,sT,BD,hG,hTB,neT,neT',AF,AU,hlR];first|rfl|(congr 3;done)|exact PN hq)
 have hkl':¬(k:Int)<n1:=by omega
 rw[show n1-k=0 by omega,LP]at hn;simp only[Option.some.injEq,Prod.mk.injEq]at hn;obtain⟨rfl,rfl⟩:=hn;rw[if_neg (by simp)]at hp;split at hp
 ·cases hp
 rename_i r2 hr2;split at hp
 ·cases hp
 rename_i hgood2;have hg2':Bc Rc=0:=by omega
 have hR2:=Cu hg2';have hr2':Rc[n1-1]?=some r2:=by rw[←hRl,←List.getLast?_eq_getElem?];exact hr2
 have hi0:((n1:Int)-1).toNat=n1-1:=by omega
 split at hp
 ·cases hp
 rename_i todo2 e3' hcr;refine IWP.ghost (Vs (id:=600) (R:=Rc) (G:=G) (row:=row) (TB:=TB) (m:=todo.length) (by omega) s600 (by rw[hRl];exact sG)) ?_;refine Gf (F21 e0 e3 e85 e86 s3 s12 s16 s19 sT hkl' hr2' hi0 @Ag.eq_1 hRl hlR @AF @AU hG hTB neT neT') ?_;have n40:n1≤40:=by have:=hR2.len;omega
 refine IWP.loopD [16,19] (fun z s=>∃k td,k≤n1∧z=n1-k∧GA f r2 (Rc.drop k) td=some (todo2,e3')∧td.length≤todo.length+400*k∧s.env 0=.one (.ptr G 1 0 0)∧s.env 3=.one (.ptr 3 1 0 0)∧s.env 136=Be Rc∧s.env 137=AO n1∧s.env 138=AO k∧s.S 3=some (Et r2)∧s.S 16=none∧s.S 19=none∧s.S G=some (DM row Rc TB td.length)∧s.S TB=some (Bo td)∧∀j,1000≤j→j≠G→j≠TB→s.S j=S j) n1
  ⟨0,todo,Nat.zero_le _,rfl,hcr,by omega,by simp only[go_sem,fN,seval,eT,iR,e0],by simp only[go_sem,fN,seval,eT,iR,e3],rfl,by simp only[go_sem,fN,seval,eT,iR,hRl,hlR],rfl,by simp only[go_sem,fN,seval,eT,iR,AU,hG],by simp only[go_sem,fN,seval,eT,iR,s16,AU,hG],by simp only[go_sem,fN,seval,eT,iR,s19,AU,hG],by simp only[go_sem,fN,seval,eT,iR,AU,AF,hG],by simp only[go_sem,fN,seval,eT,iR,AF,hTB,neT',sT],fun j hj j1 j2=>by(have hj2:=hS2 j hj j1 j2;have k1:=Cp j1;simp only[go_sem,fN,seval,eT,iR,AF,hj,k1,hj2])⟩ ?_
 clear e0 e3 e85 e86 s3 s12 s16 s19 s600 sG sT hS2 hcr;rintro z ⟨env,S3⟩ ⟨k,td,hk,rfl,hcr,htd,e0,e3,e136,e137,e138,s3,s16,s19,sG,sT,hS3⟩;simp only at e0 e3 e136 e137 e138 s3 s16 s19 sG sT hS3;have hlT:(td.map Ag).length=td.length:=List.length_map _;have hlR:(Rc.map Ag).length=n1:=by rw[List.length_map];exact hRl
 by_cases hkl:k<n1
 ·have hkl':(k:Int)<n1:=by omega
  obtain⟨o,ho⟩:=Aa (show k<Rc.length by omega);rw[A5 ho,GA]at hcr;have mo:=AN ho;have mr:=AN hr2';have hemp:(Rc.drop (k+1)).isEmpty=decide ((k:Int)=(n1:Int)-1):=by
   rw[Bool.eq_iff_iff,List.isEmpty_iff,List.drop_eq_nil_iff,decide_eq_true_eq];omega
  rw[hemp]at hcr;have cB1:=PB (hR2.left o mo) (hR2.right o mo) (hR2.left r2 mr) (hR2.right r2 mr) (decide ((k:Int)=(n1:Int)-1));have cB2:=PB (hR2.left r2 mr) (hR2.right r2 mr) (hR2.left o mo) (hR2.right o mo) false;refine Gf (F21 e0 e3 e136 e137 e138 s3 s16 s19 sG sT hkl' ho @Ag.eq_1 hlR hlT @AF @AU hG hTB neT neT') ?_;refine IWP.loopD [19] (fun z s=>∃j tj,z=2-j∧(j=0∧tj=td∨j=1∧¬(k:Int)=(n1:Int)-1∧(∃l,TX f (DI 88 1 o) (DI 89 1 r2) (decide ((k:Int)=(n1:Int)-1))=some (some l)∧tj=td++l)∨j=2∧¬(k:Int)=(n1:Int)-1∧GA f r2 (Rc.drop (k+1)) tj=some (todo2,e3')∧tj.length≤td.length+400)∧s.env 0=.one (.ptr G 1 0 0)∧s.env 3=.one (.ptr 3 1 0 0)∧s.env 17=AZ (decide ((k:Int)=(n1:Int)-1))∧s.env 136=Be Rc∧s.env 137=AO n1∧s.env 138=AO k∧s.env 157=.one (.full [Ag o++Ag r2,Ag r2++Ag o])∧s.env 158=AO 2∧s.env 159=AO j∧s.S 3=some (Et r2)∧s.S 16=some (Et o)∧s.S 19=none∧s.S G=some (DM row Rc TB tj.length)∧s.S TB=some (Bo tj)∧∀j,1000≤j→j≠G→j≠TB→s.S j=S j) 2
   ⟨0,td,rfl,.inl ⟨rfl,rfl⟩,by simp only[go_sem,fN,seval,eT,iR,e0],by simp only[go_sem,fN,seval,eT,iR,e3],rfl,by simp only[go_sem,fN,seval,eT,iR,e136],by simp only[go_sem,fN,seval,eT,iR,e137],by simp only[go_sem,fN,seval,eT,iR,e138],rfl,rfl,rfl,by simp only[go_sem,fN,seval,eT,iR,s3,AU],by simp only[go_sem,fN,seval,eT,iR,AU],by simp only[go_sem,fN,seval,eT,iR,s19],by simp only[go_sem,fN,seval,eT,iR,AF,hG,sG],by simp only[go_sem,fN,seval,eT,iR,AF,hTB,sT],fun j hj j1 j2=>by(have hj2:=hS3 j hj j1 j2;simp only[go_sem,fN,seval,eT,iR,AF,hj,hj2])⟩ ?_
  clear e0 e3 e136 e137 e138 s3 s16 s19 sG sT hS3;rintro z ⟨env,S4⟩ ⟨j,tj,rfl,hQ,e0,e3,e17,e136,e137,e138,e157,e158,e159,s3,s16,s19,sG,sT,hS4⟩;simp only at e0 e3 e17 e136 e137 e138 e157 e158 e159 s3 s16 s19 sG sT hS4;have hlTj:(tj.map Ag).length=tj.length:=List.length_map _;rcases hQ with⟨rfl,rfl⟩|⟨rfl,hnl,l,hl,rfl⟩|⟨rfl,hnl,hcr,htj⟩
  ·split at hcr
   ·cases hcr
   ·rename_i hc1;cases hcr;rw[Ca hc1]at cB1;unfold crV at cB1;repeat' first|refine Gf (F23 e0 e3 e17 e136 e137 e138 e157 e158 e159 s3 s16 s19 sG sT hkl' @Ag.eq_1 hlTj @AF @AU hG hTB neT neT') ?_|refine Mm fun K hK=>?_|refine Cg _ (cB1) ?_
    rw[if_pos (by decide)]at hp;cases hp;refine Kw hS hG hTB hne trivial ?_ ?_ ?_ fun j hj j1 j2=>?_
    ·simp only[go_sem,fN,seval,eT,iR,AB,AD,AM,Option.bind_some];all_goals rfl
    ·simp only[go_sem,fN,seval,eT,iR,AF,hG,sG]
    ·simp only[go_sem,fN,seval,eT,iR,AF,hTB,sT]
    ·have hj2:=hS4 j hj j1 j2;simp only[go_sem,fN,seval,eT,iR,AF,hj,hj2]
   ·rename_i l hc1;have hll:=HQ (hR2.left o mo) (hR2.right o mo) (hR2.left r2 mr) (hR2.right r2 mr) (Ca hc1);rw[Ca hc1]at cB1;unfold crV at cB1;by_cases hlast:(k:Int)=(n1:Int)-1
    ·rw[if_pos (by simpa using hlast)]at hcr;cases hcr;have hd:decide ((k:Int)=(n1:Int)-1)=true:=by simpa using hlast
     rw[hd]at cB1 e17;repeat' first|refine Gf (F23 e0 e3 e17 e136 e137 e138 e157 e158 e159 s3 s16 s19 sG sT hkl' @Ag.eq_1 hlTj @AF @AU hG hTB neT neT') ?_|refine Mm fun K hK=>?_|refine Cg _ (cB1) ?_
     refine AE ⟨n1-(k+1),by omega,k+1,tj++l,by omega,rfl,?_,?_,?_⟩
     ·rw[List.drop_of_length_le (by omega)];rfl
     ·rw[List.length_append];omega
     repeat' refine And.intro ?_ ?_
     all_goals first|(intro j hj j1 j2;refine BX hS (by decide) hj ?_;have hj2:=hS4 j hj j1 j2;have k1:=Cp j1;have k2:=Cp j2;simp only[go_sem,fN,seval,eT,iR,AF,hj,hj2,k1,k2];done)|(simp only[go_sem,fN,seval,AS.drop,AT,AC.clears,AC.clear,AC.highs,AC.high,zD,AV.purge,AV.purges,AC.purge,AJ.purge,Nat.reduceBEq,eT,iR,e0,e3,e17,e136,e137,e138,e157,e158,e159,s3,s16,s19,sG,sT,BD,hG,hTB,neT,neT',AF,AU,hlTj,List.length_append];done)|(simp only[go_sem,fN,seval,AS.drop,AT,AC.clears,AC.clear,AC.highs,AC.high,zD,AV.purge,AV.purges,AC.purge,AJ.purge,Nat.reduceBEq,eT,iR,e0,e3,e17,e136,e137,e138,e157,e158,e159,s3,s16,s19,sG,sT,BD,hG,hTB,neT,neT',AF,AU,hlTj,List.length_append];first|rfl|(congr 3;done)|(rw[←List.map_append];done)|(simp[Ag];done))
    ·have hd:decide ((k:Int)=(n1:Int)-1)=false:=by simpa using hlast
     rw[hd]at cB1;rw[hd]at e17;rw[hd]at hcr;rw[if_neg (by simp)]at hcr;repeat' first|refine Gf (F23 e0 e3 e17 e136 e137 e138 e157 e158 e159 s3 s16 s19 sG sT hkl' @Ag.eq_1 hlTj @AF @AU hG hTB neT neT') ?_|refine Mm fun K hK=>?_|refine Cg _ (cB1) ?_
     refine AE ⟨1,by omega,1,tj++l,rfl,.inr (.inl ⟨rfl,hlast,l,hc1,rfl⟩),?_⟩;rw[hd];repeat' refine And.intro ?_ ?_
     all_goals first|(intro j hj j1 j2;refine BX hS (by decide) hj ?_;have hj2:=hS4 j hj j1 j2;have k1:=Cp j1;have k2:=Cp j2;simp only[go_sem,fN,seval,eT,iR,AF,hj,hj2,k1,k2];done)|(simp only[go_sem,fN,seval,AS.drop,AT,AC.clears,AC.clear,AC.highs,AC.high,zD,AV.purge,AV.purges,AC.purge,AJ.purge,Nat.reduceBEq,eT,iR,e0,e3,e17,e136,e137,e138,e157,e158,e159,s3,s16,s19,sG,sT,BD,hG,hTB,neT,neT',AF,AU,hlTj,List.length_append];done)|(simp only[go_sem,fN,seval,AS.drop,AT,AC.clears,AC.clear,AC.highs,AC.high,zD,AV.purge,AV.purges,AC.purge,AJ.purge,Nat.reduceBEq,eT,iR,e0,e3,e17,e136,e137,e138,e157,e158,e159,s3,s16,s19,sG,sT,BD,hG,hTB,neT,neT',AF,AU,hlTj,List.length_append];first|rfl|(congr 3;done)|(rw[←List.map_append];done)|(simp[Ag];done))
  ·have hd:decide ((k:Int)=(n1:Int)-1)=false:=by simpa using hnl
   have hll:=HQ (hR2.left o mo) (hR2.right o mo) (hR2.left r2 mr) (hR2.right r2 mr) (Ca hl);rw[hl]at hcr;simp only at hcr;rw[hd,if_neg (by simp)]at hcr;rw[hd]at e17;split at hcr
   ·cases hcr
   ·rename_i hc2;cases hcr;rw[Ca hc2]at cB2;unfold crV at cB2;repeat' first|refine Gf (F23 e0 e3 e17 e136 e137 e138 e157 e158 e159 s3 s16 s19 sG sT hkl' @Ag.eq_1 hlTj @AF @AU hG hTB neT neT') ?_|refine Mm fun K hK=>?_|refine Cg _ (cB2) ?_
    rw[if_pos (by decide)]at hp;cases hp;refine Kw hS hG hTB hne trivial ?_ ?_ ?_ fun j hj j1 j2=>?_
    ·simp only[go_sem,fN,seval,eT,iR,AB,AD,AM,Option.bind_some];all_goals rfl
    ·simp only[go_sem,fN,seval,eT,iR,AF,hG,sG]
    ·simp only[go_sem,fN,seval,eT,iR,AF,hTB,sT]
    ·have hj2:=hS4 j hj j1 j2;simp only[go_sem,fN,seval,eT,iR,AF,hj,hj2]
   ·rename_i l' hc2;have hll2:=HQ (hR2.left r2 mr) (hR2.right r2 mr) (hR2.left o mo) (hR2.right o mo) (Ca hc2);rw[Ca hc2]at cB2;unfold crV at cB2;repeat' first|refine Gf (F23 e0 e3 e17 e136 e137 e138 e157 e158 e159 s3 s16 s19 sG sT hkl' @Ag.eq_1 hlTj @AF @AU hG hTB neT neT') ?_|refine Mm fun K hK=>?_|refine Cg _ (cB2) ?_
    refine AE ⟨0,by omega,2,td++l++l',rfl,.inr (.inr ⟨rfl,hnl,hcr,?_⟩),?_⟩
    ·simp only[List.length_append];omega
    rw[hd];repeat' refine And.intro ?_ ?_
    all_goals first|(intro j hj j1 j2;refine BX hS (by decide) hj ?_;have hj2:=hS4 j hj j1 j2;have k1:=Cp j1;have k2:=Cp j2;simp only[go_sem,fN,seval,eT,iR,AF,hj,hj2,k1,k2];done)|(simp only[go_sem,fN,seval,AS.drop,AT,AC.clears,AC.clear,AC.highs,AC.high,zD,AV.purge,AV.purges,AC.purge,AJ.purge,Nat.reduceBEq,eT,iR,e0,e3,e17,e136,e137,e138,e157,e158,e159,s3,s16,s19,sG,sT,BD,hG,hTB,neT,neT',AF,AU,hlTj,List.length_append];done)|(simp only[go_sem,fN,seval,AS.drop,AT,AC.clears,AC.clear,AC.highs,AC.high,zD,AV.purge,AV.purges,AC.purge,AJ.purge,Nat.reduceBEq,eT,iR,e0,e3,e17,e136,e137,e138,e157,e158,e159,s3,s16,s19,sG,sT,BD,hG,hTB,neT,neT',AF,AU,hlTj,List.length_append];first|rfl|(congr 3;done)|(rw[←List.map_append];done)|(simp[Ag];done))
  ·have hb4:tj.length≤todo.length+400*(k+1):=Nat.le_trans htj (by omega);refine Gf (F23 e0 e3 e17 e136 e137 e138 e157 e158 e159 s3 s16 s19 sG sT hkl' @Ag.eq_1 hlTj @AF @AU hG hTB neT neT') ?_;refine AE ⟨n1-(k+1),Nat.sub_lt_sub_left hkl (Nat.lt_succ_self k),k+1,tj,hkl,rfl,hcr,hb4,?_⟩;repeat' refine And.intro ?_ ?_
   all_goals first|(intro j hj j1 j2;refine BX hS (by decide) hj ?_;have hj2:=hS4 j hj j1 j2;have k1:=Cp j1;have k2:=Cp j2;simp only[go_sem,fN,seval,eT,iR,AF,hj,hj2,k1,k2];done)|(simp only[go_sem,fN,seval,AS.drop,AT,AC.clears,AC.clear,AC.highs,AC.high,zD,AV.purge,AV.purges,AC.purge,AJ.purge,Nat.reduceBEq,eT,iR,e0,e3,e17,e136,e137,e138,e157,e158,e159,s3,s16,s19,sG,sT,BD,hG,hTB,neT,neT',AF,AU,hlTj,List.length_append];done)|(simp only[go_sem,fN,seval,AS.drop,AT,AC.clears,AC.clear,AC.highs,AC.high,zD,AV.purge,AV.purges,AC.purge,AJ.purge,Nat.reduceBEq,eT,iR,e0,e3,e17,e136,e137,e138,e157,e158,e159,s3,s16,s19,sG,sT,BD,hG,hTB,neT,neT',AF,AU,hlTj,List.length_append];first|rfl|(congr 3;done)|(rw[←List.map_append];done)|(simp[Ag];done))
 have hkl':¬(k:Int)<n1:=by omega
 rw[List.drop_of_length_le (by omega),GA]at hcr;simp only[Option.some.injEq,Prod.mk.injEq]at hcr;obtain⟨rfl,rfl⟩:=hcr;rw[if_neg (by simp)]at hp;by_cases h400:400<td.length
 ·rw[if_pos h400]at hp;have h400':(400:Int)<td.length:=by omega
  cases hp;refine Gf (F16 e0 e3 e136 e137 e138 sG sT hkl' h400' hlT @AF @AU hG hTB neT neT') ?_;refine Kw hS hG hTB hne trivial ?_ ?_ ?_ fun j hj j1 j2=>?_
  ·simp only[go_sem,fN,seval,eT,iR,AB,AD,AM,Option.bind_some];all_goals rfl
  ·exact sG
  ·exact sT
  ·exact hS3 j hj j1 j2
 rw[if_neg h400]at hp;have h400':¬(400:Int)<td.length:=by omega
 cases hp;refine Gf (F16 e0 e3 e136 e137 e138 sG sT hkl' h400' hlT @AF @AU hG hTB neT neT') ?_;refine Kw hS hG hTB hne trivial ?_ ?_ ?_ fun j hj j1 j2=>?_
 ·simp only[go_sem,fN,seval,eT,iR,AB,AD,AM,Option.bind_some];all_goals rfl
 ·exact sG
 ·exact sT
 ·exact hS3 j hj j1 j2

theorem AAX{P:Program}{f:FuncId}{xs:List AV}{S S':AA}{r:AV}(h:Ah P f xs S r S'):E_ P f xs S (fun r' S''=>r'=r∧S''=S'):=fun hclean σ w vs ι h1 h2 h3 h4=>(h hclean σ w vs ι h1 h2 h3 h4).mono fun e w' ⟨v,σ',ι',q1,q2,q3⟩=>⟨v,r,S',σ',ι',q1,⟨rfl,rfl⟩,q2,q3⟩
theorem VR{P:Program}{f:FuncId}{S T T':AA}{us vs:List AV}{r:AV}{d:Option Nat}{l:List Ins}{env:Nat→AV}{Q:AS→Prop}(hv:us=vs)(hh:AV.highs vs=true)(hT:Ay T)(hST:∀i,1000≤i→S i=T i)(hc:Ah P f vs T r T')(h:Run P l ((⟨env,Ec S T'⟩:AS).put d r) Q) :
  Ij P S (AV.highs us) (E_ P f us) d l env Q:=by
 subst hv;refine Ij.mk T _ hT hST hh (AAX hc) ?_;rintro r' S' hcl ⟨rfl,rfl⟩;exact h
theorem YV{S:AA}{G TB:Nat}{row:List ByteArray}{R T:List Pr}(h:G≠TB):OL S G TB row R T G=some (DM row R TB T.length):=by
 unfold OL;rw[AH _ h,AG]
theorem ZL{S:AA}{G TB:Nat}{row:List ByteArray}{R T:List Pr}:OL S G TB row R T TB=some (Bo T):=AG _ _ _
theorem VN{S:AA}{G TB i:Nat}{row:List ByteArray}{R T:List Pr}(h1:i≠G)(h2:i≠TB):OL S G TB row R T i=S i:=by
 unfold OL;rw[AH _ h2,AH _ h1]
theorem Zq{a b:Tm}(h:Bq a b=0):a.may=0∧b.may=0:=by
 unfold Bq at h;split at h
 ·rename_i q;exact⟨q,h⟩
 ·rename_i q;exact absurd h q
theorem ABX(S:AA)(G TB:Nat)(hG:1000≤G)(hTB:1000≤TB)(hne:G≠TB)(row:List ByteArray)(R T:List Pr)(p:Pr)(sG:S G=some (DM row R TB T.length))(sT:S TB=some (Bo T))(hTl:T.length≤100000)(f:Nat)(R' T':List Pr)(e:Int)(hp:In f row R T p=some (R',T',e)) :
  Ah Tryz.prog 34 [.one (.ptr G 1 0 0),aPr p] S (AO e) (OL S G TB row R' T'):=by
 refine Dh.acS fun hS C hC=>?_;unfold CR;have n3:=AK hS (i:=3) (by omega);have n5:=AK hS (i:=5) (by omega);have n8:=AK hS (i:=8) (by omega);have neT:=Cp hne;have neT':=Cp (Ne.symm hne);unfold In at hp;split at hp
 ·cases hp
 rename_i hgood;have hR:=Cu (show Bc R=0 by omega);obtain⟨m1,m2⟩:=Zq (show Bq p.1 p.2=0 by omega);have k1:=Tm.may_chk m1;have k2:=Tm.may_chk m2;have cA:=Yu hR p.1 k1.1 (by omega) 100 (by decide);have zA:=Dz (step:=Tm.inn R) 100 0 p.1 2000 (by omega) (by omega);have oA:=Jh (inner:=true) hR 100 0 p.1 k1.1;have oB:=Jh (inner:=true) hR 100 0 p.2 k2.1;change (CM (Tm.inn R) 100 0 p.1).1.chk=0∨(CM (Tm.inn R) 100 0 p.1).2.2≠0 at oA;change (CM (Tm.inn R) 100 0 p.2).1.chk=0∨(CM (Tm.inn R) 100 0 p.2).2.2≠0 at oB;have cB:=Yu hR p.2 k2.1 (by omega) 100 (by decide);have zB:=Dz (step:=Tm.inn R) 100 0 p.2 2000 (by omega) (by omega);unfold L0 at cA cB;generalize CM (Tm.inn R) 100 0 p.1=A at *;obtain⟨a,an,ea⟩:=A;generalize CM (Tm.inn R) 100 0 p.2=B at *;obtain⟨b,bn,eb⟩:=B;simp only at hp cA zA cB zB oA oB;by_cases hea:ea=0
 case neg =>
  rw[if_pos hea]at hp;cases hp;repeat' first|refine Gf (F8 @AS.startS.eq_1 n3 hea @AF @AU hG hTB sG) ?_|refine Mm fun K hK=>?_|refine Cg _ (cA) ?_
  refine Kw hS hG hTB hne trivial ?_ ?_ ?_ fun j hj j1 j2=>?_
  ·simp only[go_sem,fN,seval,eT,iR,AB,AD,AM,Option.bind_some];all_goals rfl
  ·simp only[go_sem,fN,seval,eT,iR,AF,hG,sG]
  ·simp only[go_sem,fN,seval,eT,iR,AF,hTB,sT]
  ·simp only[go_sem,fN,seval,eT,iR,AF,hj]
 subst hea;replace oA:=oA.resolve_right (by simp);rw[if_neg (by simp)]at hp;by_cases heb:eb=0
 case neg =>
  rw[if_pos heb]at hp;cases hp;repeat' first|refine Gf (F9 @AS.startS.eq_1 n3 n5 heb @AF @AU hG hTB sG) ?_|refine Mm fun K hK=>?_|refine Cg _ (cA) ?_|refine Cg _ (cB) ?_
  refine Kw hS hG hTB hne trivial ?_ ?_ ?_ fun j hj j1 j2=>?_
  ·simp only[go_sem,fN,seval,eT,iR,AB,AD,AM,Option.bind_some];all_goals rfl
  ·simp only[go_sem,fN,seval,eT,iR,AF,hG,sG]
  ·simp only[go_sem,fN,seval,eT,iR,AF,hTB,sT]
  ·simp only[go_sem,fN,seval,eT,iR,AF,hj]
 subst heb;replace oB:=oB.resolve_right (by simp);rw[if_neg (by simp),RE,RE]at hp;have cS:=MH a b;by_cases hs:a.beq b=true
 case pos =>
  rw[if_pos hs]at hp;rw[hs]at cS;cases hp;repeat' first|refine Gf (F9 @AS.startS.eq_1 n3 n5 n8 @AF @AU hG hTB sG) ?_|refine Mm fun K hK=>?_|refine Cg _ (cA) ?_|refine Cg _ (cB) ?_|refine Cg _ (cS) ?_
  refine Kw hS hG hTB hne trivial ?_ ?_ ?_ fun j hj j1 j2=>?_
  ·simp only[go_sem,fN,seval,eT,iR,AB,AD,AM,Option.bind_some];all_goals rfl
  ·simp only[go_sem,fN,seval,eT,iR,AF,hG,sG]
  ·simp only[go_sem,fN,seval,eT,iR,AF,hTB,sT]
  ·simp only[go_sem,fN,seval,eT,iR,AF,hj]
 rw[if_neg hs]at hp;rw[Bool.not_eq_true]at hs;rw[hs]at cS;have cP:=R3 row a b (by omega) (by omega);have cQ:=R3 row b a (by omega) (by omega);have hnm:∀a b:Tm,a.size≤2000→b.size≤2000→AW Tryz.prog 71 [CJ [a,b]] (CJ [(Bv a b).1,(Bv a b).2]):=fun a b ha hb=>TV [a,b] (by simp only[Tm.sizes];omega);have hsz:∀a b:Tm,a.chk=0→b.chk=0→a.size≤2000→b.size≤2000→(Bv a b).1.size≤900000∧(Bv a b).2.size≤900000:=fun a b ha hb za zb=>by
  have h:=Ku ha hb za zb;exact⟨Nat.le_trans h.z1 (by decide),Nat.le_trans h.z2 (by decide)⟩
 by_cases hP:paB row a b=true
 ·rw[if_pos hP]at hp;rw[hP]at cP;have hm:=hnm a b zA zB;have hz:=hsz a b oA oB zA zB;generalize Bv a b=q at *;unfold CJ at hm;simp only[List.map_cons,List.map_nil,Ao]at hm;repeat' first|refine Gf (F10 @AS.startS.eq_1 n3 n5 n8 @AF @AU hG hTB sG @Ag.eq_1) ?_|refine Mm fun K hK=>?_|refine Cg _ (cA) ?_|refine Cg _ (cB) ?_|refine Cg _ (cS) ?_|refine Cg _ (cP) ?_|refine Cg _ (hm) ?_
  refine VR (vs:=[.one (.ptr G 1 0 0),aPr q]) (by simp[Iz,outV,outC,stC,outCs]) (by simp[AV.highs,AV.high,AC.highs,AC.high,hG]) hS (fun j hj=>by(simp only[go_sem,fN,seval,eT,iR,AF,hj])) (ZF S G TB hG hTB hne row R T q sG sT hTl hz.1 hz.2 f R' T' e hp) ?_;refine Gg ?_;refine Kw hS hG hTB hne trivial ?_ ?_ ?_ fun j hj j1 j2=>?_
  ·simp only[go_sem,fN,seval,eT,iR,AB,AD,AM,Option.bind_some];all_goals rfl
  ·exact(A9 hG).trans (YV hne)
  ·exact(A9 hTB).trans ZL
  ·exact(A9 hj).trans (VN j1 j2)
 rw[if_neg hP]at hp;rw[Bool.not_eq_true]at hP;rw[hP]at cP;by_cases hQ:paB row b a=true
 ·rw[if_pos hQ]at hp;rw[hQ]at cQ;have hm:=hnm b a zB zA;have hz:=hsz b a oB oA zB zA;generalize Bv b a=q at *;unfold CJ at hm;simp only[List.map_cons,List.map_nil,Ao]at hm;repeat' first|refine Gf (F10 @AS.startS.eq_1 n3 n5 n8 @AF @AU hG hTB sG @Ag.eq_1) ?_|refine Mm fun K hK=>?_|refine Cg _ (cA) ?_|refine Cg _ (cB) ?_|refine Cg _ (cS) ?_|refine Cg _ (cP) ?_|refine Cg _ (cQ) ?_|refine Cg _ (hm) ?_
  refine VR (vs:=[.one (.ptr G 1 0 0),aPr q]) (by simp[Iz,outV,outC,stC,outCs]) (by simp[AV.highs,AV.high,AC.highs,AC.high,hG]) hS (fun j hj=>by(simp only[go_sem,fN,seval,eT,iR,AF,hj])) (ZF S G TB hG hTB hne row R T q sG sT hTl hz.1 hz.2 f R' T' e hp) ?_;refine Gg ?_;refine Kw hS hG hTB hne trivial ?_ ?_ ?_ fun j hj j1 j2=>?_
  ·simp only[go_sem,fN,seval,eT,iR,AB,AD,AM,Option.bind_some];all_goals rfl
  ·exact(A9 hG).trans (YV hne)
  ·exact(A9 hTB).trans ZL
  ·exact(A9 hj).trans (VN j1 j2)
 rw[if_neg hQ]at hp;rw[Bool.not_eq_true]at hQ;rw[hQ]at cQ;cases hp;repeat' first|refine Gf (F9 @AS.startS.eq_1 n3 n5 n8 @AF @AU hG hTB sG) ?_|refine Mm fun K hK=>?_|refine Cg _ (cA) ?_|refine Cg _ (cB) ?_|refine Cg _ (cS) ?_|refine Cg _ (cP) ?_|refine Cg _ (cQ) ?_
 refine Kw hS hG hTB hne trivial ?_ ?_ ?_ fun j hj j1 j2=>?_
 ·simp only[go_sem,fN,seval,eT,iR,AB,AD,AM,Option.bind_some];all_goals rfl
 ·simp only[go_sem,fN,seval,eT,iR,AF,hG,sG]
 ·simp only[go_sem,fN,seval,eT,iR,AF,hTB,sT]
 ·simp only[go_sem,fN,seval,eT,iR,AF,hj]

theorem X2(l:List Pr)(hl:l.length≤1000000):Ht Tryz.prog 33 [Be l] 40 4 (l.map Ag):=by
 unfold Ht;rw[List.length_map];refine CB.acS fun hS C hC=>?_;unfold BF;have hb:l.length*40≤140737488355328:=by omega
 by_cases h0:l.length=0
 ·have h1:l=[]:=by simpa using h0
  subst h1;refine Gg ?_;refine⟨?_,?_⟩
  ·refine Gg ?_;refine Mx (AY.own 2 7 40 4 (xs:=([]:List (List SV))) rfl rfl (by simp) (by omega)) ?_;exact AA4 (mu:=false) trivial 7 (by decide) rfl (fun i hi=>by show AI _ _ _ _=_;rw[AH _ (by omega)];rfl) rfl
  ·refine Gg ?_;exact AA4 (mu:=false) trivial 7 (by decide) rfl (fun i hi=>by show AI _ _ _ _=_;rw[AH _ (by omega)];rfl) rfl
 ·refine Gf (F2 h0 hb) ?_;exact AA4 (mu:=false) trivial 7 (by decide) rfl (fun i hi=>by show AI _ _ _ _=_;rw[AH _ (by omega)];rfl) rfl
theorem XZ{f:Nat}{R T R' T':List Pr}{r:Pr}(h:G8 f R T r=some (R',T',0)):T'.length≤400:=by
 unfold G8 at h;repeat' split at h
 all_goals first
  | (cases h;done)
  | (simp only[Option.some.injEq,Prod.mk.injEq]at h;obtain⟨h1,h2,h3⟩:=h;omega)
  | (simp only[Option.some.injEq,Prod.mk.injEq]at h;obtain⟨h1,rfl,h3⟩:=h;omega)
theorem UU{f:Nat}{row:List ByteArray}{R T R' T':List Pr}{p:Pr}(hT:T.length≤400)(h:In f row R T p=some (R',T',0)):T'.length≤400:=by
 unfold In at h;repeat' split at h
 all_goals first
  | (cases h;done)
  | exact XZ h
  | (simp only[Option.some.injEq,Prod.mk.injEq]at h;obtain⟨h1,rfl,h3⟩:=h;exact hT)
  | (simp only[Option.some.injEq,Prod.mk.injEq]at h;obtain⟨h1,h2,h3⟩:=h;omega)
theorem Ws{T:AA}{row:List ByteArray}{R R1 T0 T1:List Pr}:upS (E5 T [(36,DM row R 34 T0.length,DM row R1 34 T1.length),(34,Bo T0,Bo T1)])=OL (upS T) (up1 36) (up1 34) row R1 T1:=by
 show upS (AI (AI T 36 (some (DM row R1 34 T1.length))) 34 (some (Bo T1)))=_
 rw[MC,MC];rfl
theorem VL{row:List ByteArray}{R R1 T0 T1:List Pr}{p:Pr}{f:Nat}{e:Int}(hl:T0.length≤100000)(h:In f row R T0 p=some (R1,T1,e))(T:AA)(hT:LH T [(36,DM row R 34 T0.length,DM row R1 34 T1.length),(34,Bo T0,Bo T1)]) :
  Ah Tryz.prog 34 [.one (.ptr (up1 36) 1 0 0),aPr p] (upS T) (AO e) (upS (E5 T [(36,DM row R 34 T0.length,DM row R1 34 T1.length),(34,Bo T0,Bo T1)])):=by
 have t36:=hT (36,DM row R 34 T0.length,DM row R1 34 T1.length) (by simp);have t34:=hT (34,Bo T0,Bo T1) (by simp);simp only at t36 t34;rw[Ws];exact ABX (upS T) (up1 36) (up1 34) (Ap _) (Ap _) (by decide) row R T0 p (by rw[Ax,t36];rfl) (by rw[Ax,t34];rfl) hl f R1 T1 e h
theorem WB{P:Program}{C:Ctx}{mu:List Nat}{x:IR}{Q:AX→AS→Prop}{s:AS}{row:List ByteArray}{R T:List Pr}{p:Pr}{n k:Int}(hT:T.length≤400)(e2:s.env 2=AO n)(e9:s.env 9=.one (.ptr 36 1 0 0))(e10:s.env 10=AO k)(s11:s.S 11=some (Et p))(e11:s.env 11=.one (.ptr 11 1 0 0))(s36:s.S 36=some (.box 65 [.st (.list (row.map CV)),.st (.list (R.map Ag)),.rest 34 1 (T.length+1)]))(s34:s.S 34=some (Bo (p::T)))(s35:s.S 35=none)
  (h:∀s',s'.env 2=AO n→s'.env 9=.one (.ptr 36 1 0 0)→s'.env 10=AO k→s'.env 11=.one (.ptr 11 1 0 0)→s'.S 11=some (Et p)→s'.S 36=some (DM row R 34 T.length)→s'.S 34=some (Bo T)→s'.S 35=some (.dead 1000 4)→IWP P C mu x Q s'):IWP P C mu x Q s:=by
 have hTl:(T.map Ag).length=T.length:=List.length_map _;have g1:=AY.frontB (C:=C) (s:=s) 36 2 34 35 1000 (o:=1) (xs:=(p::T).map Ag) s36 (by simp[hTl]) (by simp) s34 (Fj (ts:=p::T)) s35 (by simp;omega);have g2:=AY.drop (C:=C) [34] _ (by decide) |> g1.trans
 have g3:=g2.trans (AY.renameB (C:=C) 36 2 35 34 1000 (b:=.arow 40 4 (T.map Ag)) (e':=65) (cs:=[.st (.list (row.map CV)),.st (.list (R.map Ag)),.row 35 T.length]) ?_ ?_ ?_ (.inl ⟨_,_,_,rfl⟩) ?_ (by show(T.map Ag).length<1000;omega))
 ·refine IWP.ghost g3 (h _ ?_ ?_ ?_ ?_ ?_ ?_ ?_ ?_)
  ·simp only[go_sem,fN,seval,AS.drop,AT,AC.clears,AC.clear,AC.highs,AC.high,zD,AV.purge,AV.purges,AC.purge,AJ.purge,Nat.reduceBEq,eT,iR,e2]
  ·simp only[go_sem,fN,seval,AS.drop,AT,AC.clears,AC.clear,AC.highs,AC.high,zD,AV.purge,AV.purges,AC.purge,AJ.purge,Nat.reduceBEq,eT,iR,e9]
  ·simp only[go_sem,fN,seval,AS.drop,AT,AC.clears,AC.clear,AC.highs,AC.high,zD,AV.purge,AV.purges,AC.purge,AJ.purge,Nat.reduceBEq,eT,iR,e10]
  ·simp only[go_sem,fN,seval,AS.drop,AT,AC.clears,AC.clear,AC.highs,AC.high,zD,AV.purge,AV.purges,AC.purge,AJ.purge,Nat.reduceBEq,eT,iR,e11]
  ·simp only[go_sem,fN,seval,AS.drop,AT,AC.clears,AC.clear,AC.highs,AC.high,zD,AV.purge,AV.purges,AC.purge,AJ.purge,Nat.reduceBEq,eT,iR,s11]
  ·simp only[go_sem,fN,seval,AS.drop,AT,AC.clears,AC.clear,AC.highs,AC.high,zD,AV.purge,AV.purges,AC.purge,AJ.purge,Nat.reduceBEq,eT,iR,hTl];rfl
  ·simp only[go_sem,fN,seval,AS.drop,AT,AC.clears,AC.clear,AC.highs,AC.high,zD,AV.purge,AV.purges,AC.purge,AJ.purge,Nat.reduceBEq,eT,iR,hTl]
  ·simp only[go_sem,fN,seval,AS.drop,AT,AC.clears,AC.clear,AC.highs,AC.high,zD,AV.purge,AV.purges,AC.purge,AJ.purge,Nat.reduceBEq,eT,iR,hTl];rfl
 ·simp only[go_sem,fN,seval,AS.drop,AT,AC.clears,AC.clear,AC.highs,AC.high,zD,AV.purge,AV.purges,AC.purge,AJ.purge,Nat.reduceBEq,eT,iR,hTl];rfl
 ·show some (AC.row 35 T.length)=some (AC.row 35 (T.map Ag).length)
  rw[hTl]
 ·simp only[go_sem,fN,seval,AS.drop,AT,AC.clears,AC.clear,AC.highs,AC.high,zD,AV.purge,AV.purges,AC.purge,AJ.purge,Nat.reduceBEq,eT,iR,hTl]
 ·simp only[go_sem,fN,seval,AS.drop,AT,AC.clears,AC.clear,AC.highs,AC.high,zD,AV.purge,AV.purges,AC.purge,AJ.purge,Nat.reduceBEq,eT,iR,hTl]
theorem Tb{row:List ByteArray}(hr:EB row=0){eqs:List Pr}(he:Bj eqs=0){n:Nat}(hn:n≤60){f:Nat}{R0:List Pr}{e0':Int}(hc:EZ f row n [] eqs=some (R0,e0')):AW Tryz.prog 10 [Bn row,Be eqs,AO n] (.tup [Be R0,AO e0']):=by
 have cr:=Tr row;rw[hr]at cr;have ce:=P8 eqs;have hel:eqs.length≤40:=by
  unfold Bj at he;split at he
  ·cases he
  ·omega
 rw[he]at ce;have hn0:¬(n:Int)<0:=by omega
 have hn6:¬(60:Int)<n:=by omega
 refine HI.ac fun C hC=>?_;unfold EO;repeat' first|refine Gf (F2 hn0 hn6) ?_|refine Mm fun K hK=>?_|refine Cg _ (cr) ?_|refine Cg _ (ce) ?_
 refine⟨false,_,_,_,X2 eqs (by omega),by simp only[go_sem,fN,seval,eT,iR],fun k hk=>absurd hk (by simp),?_⟩;have hel':(eqs.map Ag).length=eqs.length:=List.length_map _;repeat' with_reducible first|refine W ?_|refine Z0 ?_|((first|refine Wo fun K hK=>?_|refine Wp ?_|refine Wq ?_|refine Wr ?_);(try simp only[go_sem,fN,seval,eT,iR,KG,hel',dT,dF,nL]);(repeat refine Ai ?_);(try(refine hK _ ?_;clear hK K));try refine iC ?_)
 refine IWP.ghost (AY.settleC 36 1 (cs:=[.st (.list (row.map CV)),.full [],.row 34 eqs.length]) (c:=.full []) (x:=.list []) (by(simp only[go_sem,fN,seval,eT,iR];rfl)) rfl (by simp[stC])) ?_;refine IWP.loopD [11,35] (fun z s=>∃k R T,k≤n∧z=n-k∧EZ f row (n-k) R T=some (R0,e0')∧T.length≤400∧s.env 2=AO n∧s.env 9=.one (.ptr 36 1 0 0)∧s.env 10=AO k∧s.S 11=none∧s.S 35=none∧s.S 36=some (DM row R 34 T.length)∧s.S 34=some (Bo T)) n
  ⟨0,[],eqs,Nat.zero_le _,rfl,hc,by omega,by simp only[go_sem,fN,seval,eT,iR],by simp only[go_sem,fN,seval,eT,iR],by simp only[go_sem,fN,seval,eT,iR],by simp only[go_sem,fN,seval,eT,iR,noS],by simp only[go_sem,fN,seval,eT,iR,noS],by(simp only[go_sem,fN,seval,eT,iR];rfl),by simp only[go_sem,fN,seval,eT,iR]⟩ ?_
 rintro z ⟨env,S⟩ ⟨k,R,T,hk,rfl,hc,hT,e2,e9,e10,s11,s35,s36,s34⟩;simp only at e2 e9 e10 s11 s35 s36 s34;have hTl:(T.map Ag).length=T.length:=List.length_map _;cases T with
 | nil =>
  have hc':some (R,(0:Int))=some (R0,e0'):=by
   rw[←hc];cases(n-k) <;> rfl
  simp only[Option.some.injEq,Prod.mk.injEq]at hc';obtain⟨rfl,rfl⟩:=hc';have hz:¬(0:Int)<(([]:List Pr).length:Int):=by simp
  refine Gf (F7 e2 e9 e10 s34 s36 hTl hz) ?_;simp only[go_sem,fN,seval,AQ,AS.result,AB,AD,AM];try rfl
 | cons p T =>
  have hz:(0:Int)<((T.length+1:Nat):Int):=by omega
  by_cases hkn:k=n
  ·subst hkn;rw[Nat.sub_self]at hc;cases hc;refine Gf (F7 e2 e9 e10 s34 s36 hTl hz) ?_;simp only[go_sem,fN,seval,AQ,AS.result,AB,AD,AM];try rfl
  ·have hkn':¬(k:Int)=n:=by omega
   obtain⟨m,hm⟩:∃m,n-k=m+1:=⟨n-k-1,by omega⟩
   rw[hm,EZ]at hc;split at hc
   ·cases hc
   rename_i R1 T1 e1 ht;iterate 22 with_reducible first|refine W ?_|refine Z0 ?_|((first|refine Wo fun K hK=>?_|refine Wp ?_|refine Wq ?_|refine Wr ?_);(try simp only[go_sem,fN,seval,eT,iR,e2,e9,e10,s34,s36,s11,Ag,hTl,hz,hkn',dT,dF,nL]);(repeat refine Ai ?_);(try(refine hK _ ?_;clear hK K));try refine iC ?_)
   refine WB (row:=row) (R:=R) (T:=T) (p:=p) (n:=n) (k:=k) (by simp only[List.length_cons]at hT;omega) ?_ ?_ ?_ ?_ ?_ ?_ ?_ ?_ ?_
   ·simp only[go_sem,fN,seval,eT,iR,e2]
   ·simp only[go_sem,fN,seval,eT,iR,e9]
   ·simp only[go_sem,fN,seval,eT,iR,e10]
   ·simp only[go_sem,fN,seval,eT,iR]
   ·simp only[go_sem,fN,seval,eT,iR]
   ·simp only[go_sem,fN,seval,eT,iR]
   ·simp only[go_sem,fN,seval,eT,iR,s34]
   ·simp only[go_sem,fN,seval,eT,iR,s35]
   clear e2 e9 e10 s11 s35 s36 s34;rintro⟨env,S⟩ e2 e9 e10 e11 s11 s36 s34 s35;simp only at e2 e9 e10 e11 s11 s36 s34 s35;have hT1:T.length≤400:=by simp only[List.length_cons]at hT;omega
   by_cases he1:e1=0
   case neg =>
    rw[if_pos he1]at hc;cases hc;repeat' first|refine Gf (F6 e2 e9 e10 e11 s11 he1) ?_|refine Mm fun K hK=>?_
    refine⟨_,_,Rw (by simp only[go_sem,fN,seval,eT,iR,s36]) (by simp only[go_sem,fN,seval,eT,iR,s34]),VL (by omega) ht,?_⟩;repeat' first|refine Gf (F6 e2 e9 e10 e11 s11 he1) ?_|refine Mm fun K hK=>?_
    simp only[go_sem,fN,seval,AQ,AS.result,AB,AD,AM];rfl
   case pos =>
    subst he1;have hT2:=UU hT1 ht;have hT2l:(T1.map Ag).length=T1.length:=List.length_map _;rw[if_neg (by simp)]at hc;repeat' first|refine Gf (F5 e2 e9 e10 e11 s11) ?_|refine Mm fun K hK=>?_
    refine⟨_,_,Rw (by simp only[go_sem,fN,seval,eT,iR,s36]) (by simp only[go_sem,fN,seval,eT,iR,s34]),VL (by omega) ht,?_⟩;repeat' first|refine Gf (F5 e2 e9 e10 e11 s11) ?_|refine Mm fun K hK=>?_
    refine AE ⟨n-(k+1),by omega,k+1,R1,T1,by omega,rfl,by rw[show n-(k+1)=m by omega];exact hc,hT2,?_⟩;repeat' refine And.intro ?_ ?_
    all_goals first|(simp only[go_sem,fN,seval,AS.drop,AT,AC.clears,AC.clear,AC.highs,AC.high,zD,AV.purge,AV.purges,AC.purge,AJ.purge,Nat.reduceBEq,eT,iR,e2,e9,e10,e11,s11,s35,hT2l];done)|(simp only[go_sem,fN,seval,AS.drop,AT,AC.clears,AC.clear,AC.highs,AC.high,zD,AV.purge,AV.purges,AC.purge,AJ.purge,Nat.reduceBEq,eT,iR,e2,e9,e10,e11,s11,s35,hT2l];first|rfl|(congr 3;done))

set_option maxRecDepth 100000
def NK:IR :=
 (.seq (.ops [.i 4 (.box 37 (.t 1)),.i 6 (.mov (.c (.one (.full [])))),.i 7 (.mov (.c (.one (.st (.bool false)))))]) (.seq (.ops [.L 15 2 4,.i 16 (.call 89 [.t 15]),.m 8 16]) (.seq (.seq (.ops [.i 9 (.mov (.n 0))]) (.block 0 (.loop (.seq (.seq (.ops [.m 17 9,.m 18 8,.i 19 (.len false (.t 18)),.i 20 (.bin .lss (.t 17) (.t 19))]) (.cond (.t 20) .skip (.exit 0))) (.seq (.block 1 (.seq (.ops [.L 24 2 4,.m 25 8,.m 26 9,.i 27 (.indexAddr 1 (.t 25) (.t 26)),.l 28 27,.i 29 (.call 54 [.t 24,.t 28]),.m 23 29,.i 30 (.extract 0 (.t 23)),.i 31 (.extract 1 (.t 23)),.i 10 (.alloc 37 [.st (.str (ByteArray.mk (#[]))),.full []]),.s 2 10 30,.m 11 31]) (.seq (.seq (.ops [.m 32 0,.L 33 2 10,.i 34 (.callR 90 [.t 32,.t 33]),.i 35 (.un .not (.t 34))]) (.cond (.t 35) (.exit 1) .skip)) (.seq (.ops [.L 36 2 10,.i 37 (.call 57 [.t 36]),.m 12 37]) (.seq (.ops [.i 13 (.mov (.c (.one (.st (.bool true)))))]) (.seq (.seq (.ops [.i 14 (.mov (.n 1))]) (.block 2 (.loop (.seq (.seq (.ops [.m 38 14,.m 39 12,.i 40 (.len false (.t 39)),.i 41 (.bin .lss (.t 38) (.t 40)),.m 42 41,.mk (some 43) (some (42,true)) (.mov (.t 2)) .no,.i 44 (.pick (.t 42) (.t 43) (.c (.one (.st (.bool false))))),.m 45 44,.mk (some 46) (some (45,true)) (.mov (.t 13)) .no,.i 47 (.pick (.t 45) (.t 46) (.c (.one (.st (.bool false)))))]) (.cond (.t 47) .skip (.exit 2))) (.seq (.block 3 (.ops [.m 50 0,.m 51 12,.m 52 14,.i 53 (.indexAddr 2 (.t 51) (.t 52)),.L 54 2 53,.i 55 (.callR 90 [.t 50,.t 54]),.i 56 (.un .not (.t 55)),.m 13 56])) (.ops [.m 48 14,.i 49 (.bin .add (.t 48) (.n 1)),.m 14 49])))))) (.seq (.ops [.m 57 13]) (.cond (.t 57) (.seq (.ops [.m 58 8,.m 59 9,.i 60 (.indexAddr 1 (.t 58) (.t 59)),.l 61 60,.m 6 61,.i 7 (.mov (.c (.one (.st (.bool true)))))]) .ret) .skip)))))))) (.ops [.m 21 9,.i 22 (.bin .add (.t 21) (.n 1)),.m 9 22])))))) (.seq (.ops [.i 6 (.mov (.c (.one (.full [])))),.i 7 (.mov (.c (.one (.st (.bool false)))))]) .ret))))
theorem T7:OkF Tryz.prog 53 62 [40000034,40000055] NK [.t 6,.t 7]:=.of Tryz.func53 rfl rfl (by kernel_rfl) rfl
def La:IR :=
 (.seq (.ops [.i 5 (.box 37 (.t 1)),.i 8 (.alloc 37 [.st (.str (ByteArray.mk (#[]))),.full []]),.i 9 (.mov (.n 0)),.i 10 (.mov (.n 0))]) (.seq (.ops [.i 11 (.mov (.n 0))]) (.block 0 (.loop (.block 1 (.seq (.ops [.m 21 0,.L 22 2 5,.m 23 3,.i 24 (.callR 53 [.t 21,.t 22,.t 23]),.m 20 24,.i 25 (.extract 0 (.t 20)),.i 26 (.extract 1 (.t 20)),.m 12 25,.m 13 26]) (.seq (.seq (.ops [.m 27 13,.i 28 (.un .not (.t 27))]) (.cond (.t 28) (.seq (.ops [.L 29 2 5,.m 30 11,.s 2 8 29,.m 9 30,.i 10 (.mov (.n 0))]) .ret) .skip)) (.seq (.seq (.ops [.m 31 11,.m 32 2,.i 33 (.bin .eql (.t 31) (.t 32))]) (.cond (.t 33) (.seq (.ops [.i 34 (.build [.st (.str (ByteArray.mk (#[]))),.full []] []),.s 2 8 34,.i 9 (.mov (.n 0)),.i 10 (.mov (.n 9))]) .ret) .skip)) (.seq (.ops [.m 35 11,.i 36 (.bin .add (.t 35) (.n 1)),.m 11 36]) (.seq (.ops [.L 38 2 5,.m 39 12,.i 40 (.call 54 [.t 38,.t 39]),.m 37 40,.i 41 (.extract 0 (.t 37)),.i 42 (.extract 1 (.t 37)),.i 14 (.alloc 37 [.st (.str (ByteArray.mk (#[]))),.full []]),.s 2 14 41,.m 15 42]) (.seq (.seq (.ops [.i 16 (.mov (.n 0))]) (.block 2 (.loop (.seq (.seq (.ops [.m 43 16,.m 44 0,.i 45 (.len false (.t 44)),.i 46 (.bin .lss (.t 43) (.t 45))]) (.cond (.t 46) .skip (.exit 2))) (.seq (.block 3 (.seq (.ops [.m 50 0,.m 51 16,.i 52 (.indexAddr 4 (.t 50) (.t 51)),.L 53 4 52,.L 54 2 14,.i 55 (.call 55 [.t 53,.t 54]),.m 49 55,.i 56 (.extract 0 (.t 49)),.i 57 (.extract 1 (.t 49)),.i 58 (.extract 2 (.t 49)),.i 17 (.alloc 37 [.st (.str (ByteArray.mk (#[]))),.full []]),.s 2 17 56,.m 18 57,.m 19 58]) (.seq (.seq (.ops [.m 59 19]) (.cond (.t 59) (.seq (.ops [.i 60 (.build [.st (.str (ByteArray.mk (#[]))),.full []] []),.s 2 8 60,.i 9 (.mov (.n 0)),.i 10 (.mov (.n 8))]) .ret) .skip)) (.seq (.ops [.m 61 18]) (.cond (.t 61) (.seq (.ops [.L 62 2 5,.m 63 12,.L 64 2 17,.i 65 (.call 56 [.t 62,.t 63,.t 64]),.s 2 5 65]) (.exit 2)) .skip))))) (.ops [.m 47 16,.i 48 (.bin .add (.t 47) (.n 1)),.m 16 48])))))) (.seq (.ops [.L 66 2 5,.i 67 (.call 21 [.t 66,.n 2000]),.i 68 (.bin .gtr (.t 67) (.n 2000))]) (.cond (.t 68) (.seq (.ops [.i 69 (.build [.st (.str (ByteArray.mk (#[]))),.full []] []),.s 2 8 69,.i 9 (.mov (.n 0)),.i 10 (.mov (.n 8))]) .ret) .skip)))))))))))))
theorem Re:OkF Tryz.prog 26 70 [40000024] La [.cell 8 true 2,.t 9,.t 10]:=.of Tryz.func26 rfl rfl (by kernel_rfl) rfl

theorem ABw{R:List Pr}(hR:A7 R)(t:Tm)(ht:t.size≤1000000)(r:Nat)(hr:1000≤r)(S:AA)(sr:S r=some (A_ R)):Ah Tryz.prog 90 [.one (.row r R.length),aTm t] S (AZ (Dc R t)) S:=by
 have h40:=hR.len;have hKl:(R.map Ag).length=R.length:=List.length_map _;refine Su.acS fun hS C hC=>?_;unfold Nf;have n3:=AK hS (i:=3) (by omega);refine Gf (F2 @AS.startS.eq_1 n3) ?_;refine IWP.loop (fun m s=>∃k,k≤R.length∧m=R.length-k∧(R.take k).any (fun r=>BJ r.1 t)=false∧s.env 0=.one (.row r R.length)∧s.env 3=.one (.ptr 3 1 0 0)∧s.S 3=some (FA t)∧s.env 5=AO k∧∀j,1000≤j→s.S j=S j) R.length ⟨0,Nat.zero_le _,rfl,rfl,rfl,rfl,by simp only[go_sem,fN,seval,eT,iR],rfl,fun j hj=>by simp only[go_sem,fN,seval,eT,iR,AF,hj]⟩ ?_;rintro m ⟨env,S1⟩ ⟨k,hk,rfl,hno,e0,e3,s3,e5,hS1⟩;simp only at e0 e3 s3 e5 hS1;have hr1:=(hS1 r hr).trans sr;by_cases hlt:(k:Int)<R.length
 ·obtain⟨q,hq⟩:=Aa (show k<R.length by omega);have z1:=(Tm.may_chk (hR.left q (AN hq))).2;by_cases hcase:BJ q.1 t=true
  ·have hf:Dc R t=true:=List.any_eq_true.2 ⟨q,AN hq,hcase⟩;repeat' first|refine Gf (F13 e0 e3 s3 e5 hr1 hr @AF @AU hKl hlt hq @Ag.eq_1 hcase) ?_|refine Mm fun K hK=>?_|refine Cg _ (D7 q.1 t (by omega) ht) ?_
   refine BI hS trivial ?_ fun j hj=>?_
   ·simp only[go_sem,fN,seval,eT,iR,AB,AD,AM,Option.bind_some,hf];all_goals rfl
   ·have hj2:=hS1 j hj;simp only[go_sem,fN,seval,eT,iR,AF,hj,hj2]
  ·repeat' first|refine Gf (F13 e0 e3 s3 e5 hr1 hr @AF @AU hKl hlt hq @Ag.eq_1 hcase) ?_|refine Mm fun K hK=>?_|refine Cg _ (D7 q.1 t (by omega) ht) ?_
   refine AE ⟨R.length-(k+1),by omega,k+1,by omega,rfl,?_,?_⟩
   ·rw[Ab hq,List.any_append,hno];simpa using hcase
   ·simp only[go_sem,fN,seval,eT,iR,e0,e3,s3,e5];refine⟨by congr 3,fun j hj=>?_⟩;have hj2:=hS1 j hj;simp only[go_sem,fN,seval,eT,iR,AF,hj,hj2]
 ·rw[List.take_of_length_le (by omega)]at hno;have hf:Dc R t=false:=hno;refine Gf (F10 e0 e3 s3 e5 hr1 hr @AF @AU hKl hlt) ?_;refine BI hS trivial ?_ fun j hj=>?_
  ·simp only[go_sem,fN,seval,eT,iR,AB,AD,AM,Option.bind_some,hf];all_goals rfl
  ·have hj2:=hS1 j hj;simp only[go_sem,fN,seval,eT,iR,AF,hj,hj2]
theorem Zw{R:List Pr}(hR:A7 R)(t:Tm)(ht:t.size≤1000000)(r:Nat)(T:AA)(hT:T r=some (A_ R)):Ah Tryz.prog 90 [.one (.row (up1 r) R.length),aTm t] (upS T) (AZ (Dc R t)) (upS T) :=
 ABw hR t ht (up1 r) (Ap _) (upS T) (by rw[Ax,hT];rfl)
theorem ABM{R:List Pr}(hR:A7 R)(t:Tm)(ht:t.size≤900000)(r:Nat)(hr:1000≤r)(S:AA)(sr:S r=some (A_ R)):Ah Tryz.prog 53 [.one (.row r R.length),aTm t,AZ true] S (O8 (t.findP (C1 true R))) S:=by
 rw[←Tm.places_find];have hpl:=Tm.places_length t;refine T7.acS fun hS C hC=>?_;unfold NK;have n4:=AK hS (i:=4) (by omega);have n10:=AK hS (i:=10) (by omega);repeat' first|refine Gf (F3 @AS.startS.eq_1 n4 n10) ?_|refine Mm fun K hK=>?_|refine Cg _ (Kp t (by omega)) ?_
 refine IWP.loopD [10] (fun m s=>∃k,k≤t.places.length∧m=t.places.length-k∧(t.places.take k).find? (atT (C1 true R) t)=none∧s.env 0=.one (.row r R.length)∧s.env 2=AZ true∧s.env 4=.one (.ptr 4 1 0 0)∧s.S 4=some (FA t)∧s.S 10=none∧s.env 8=OU t.places∧s.env 9=AO k∧∀j,1000≤j→s.S j=S j) t.places.length ⟨0,Nat.zero_le _,rfl,rfl,rfl,rfl,rfl,by simp only[go_sem,fN,seval,eT,iR],by simp only[go_sem,fN,seval,eT,iR,n10],rfl,rfl,fun j hj=>by simp only[go_sem,fN,seval,eT,iR,AF,hj]⟩ ?_;rintro m ⟨env,S1⟩ ⟨k,hk,rfl,hno,e0,e2,e4,s4,s10,e8,e9,hS1⟩;simp only at e0 e2 e4 s4 s10 e8 e9 hS1;have hr1:=(hS1 r hr).trans sr;by_cases hlt:(k:Int)<t.places.length
 ·obtain⟨p,hp⟩:=Aa (show k<t.places.length by omega);obtain⟨x,hx,hxk⟩:=EA t p (AN hp);have hxz:=CF t x hxk;obtain⟨g1,g2⟩:=PS hp hno;have hat:atT (C1 true R) t p=C1 true R x:=by unfold atT;rw[hx]
  rw[hat]at g1 g2;have hcon:=MV p t;rw[hx]at hcon;have hfit:=fun T hT=>Zw hR x (by omega) r T hT;by_cases hf:Dc R x=true
  case neg =>
   have hT:C1 true R x=false:=by
    rw[←Bool.not_eq_true];exact fun h=>hf (Hi h)
   rw[Bool.not_eq_true]at hf;rw[hf]at hfit;repeat' first|refine Gf (F9 e0 e2 e4 s4 s10 e8 e9 hlt hp) ?_|refine Mm fun K hK=>?_|refine Cg _ (hcon) ?_
   refine⟨_,[(r,A_ R)],BC (by simp only[go_sem,fN,seval,eT,iR,AF,hr,hr1]),fun T hT=>hfit T (hT (r,A_ R) (by simp)),?_⟩;refine Gf (F9 e0 e2 e4 s4 s10 e8 e9 hlt hp) ?_;refine AE ⟨t.places.length-(k+1),by omega,k+1,by omega,rfl,g2 hT,?_⟩;repeat' refine And.intro ?_ ?_
   all_goals first|(intro j hj;refine BX hS (by decide) hj ?_;have hj2:=hS1 j hj;simp only[go_sem,fN,seval,eT,iR,AF,hj,hj2];done)|(simp only[go_sem,fN,seval,AS.drop,AT,AC.clears,AC.clear,AC.highs,AC.high,zD,AV.purge,AV.purges,AC.purge,AJ.purge,Nat.reduceBEq,eT,iR,e0,e2,e4,s4,s10,e8,e9,BD,hr];done)|(simp only[go_sem,fN,seval,AS.drop,AT,AC.clears,AC.clear,AC.highs,AC.high,zD,AV.purge,AV.purges,AC.purge,AJ.purge,Nat.reduceBEq,eT,iR,e0,e2,e4,s4,s10,e8,e9,BD,hr];congr 3)
  case pos =>
  have hkn:=Tm.knots_length x;have hke:=Tm.knots_eq x;rw[hf]at hfit;repeat' first|refine Gf (F9 e0 e2 e4 s4 s10 e8 e9 hlt hp) ?_|refine Mm fun K hK=>?_|refine Cg _ (hcon) ?_
  refine⟨_,[(r,A_ R)],BC (by simp only[go_sem,fN,seval,eT,iR,AF,hr,hr1]),fun T hT=>hfit T (hT (r,A_ R) (by simp)),?_⟩;repeat' first|refine Gf (F9 e0 e2 e4 s4 s10 e8 e9 hlt hp) ?_|refine Mm fun K hK=>?_|refine Cg _ (Ei x (by omega)) ?_
  refine IWP.loop (fun m s=>∃(i:Nat) (b:Bool),1≤i∧i≤x.knots.length∧m=x.knots.length-i∧((x.knots.take i).drop 1).any (Dc R)=!b∧s.env 0=.one (.row r R.length)∧s.env 2=AZ true∧s.env 4=.one (.ptr 4 1 0 0)∧s.S 4=some (FA t)∧s.env 8=OU t.places∧s.env 9=AO k∧s.env 12=CJ x.knots∧s.env 13=AZ b∧s.env 14=AO i∧∀j,1000≤j→s.S j=S j) (x.knots.length-1) ⟨1,true,by omega,by rw[hke];simp,rfl,by rw[hke];rfl,?_⟩ ?_
  ·simp only[go_sem,fN,seval,eT,iR,e0,e2,e4,s4,e8,e9];intro j hj;have hj2:=hS1 j hj;simp only[go_sem,fN,seval,eT,iR,AF,hj,hj2]
  clear e0 e2 e4 s4 s10 e8 e9 hr1 hS1;rintro m ⟨env,S2⟩ ⟨i,b,hi1,hi,rfl,hb,e0,e2,e4,s4,e8,e9,e12,e13,e14,hS1⟩;simp only at e0 e2 e4 s4 e8 e9 e12 e13 e14 hS1;have hr1:=(hS1 r hr).trans sr;have hdrop:x.knots.drop 1=Tm.knotsL x.args:=by rw[hke];rfl
  by_cases hil:(i:Int)<x.knots.length
  ·obtain⟨y,hy⟩:=Aa (show i<x.knots.length by omega);cases b with
   | true =>
    have hyz:y.size≤x.size:=CF x y (AN hy);have hfity:=fun T hT=>Zw hR y (by omega) r T hT;repeat' first|refine Gf (F11 e0 e2 e4 s4 e8 e9 e12 e13 e14 hil hy) ?_|refine Mm fun K hK=>?_
    refine⟨_,[(r,A_ R)],BC (by simp only[go_sem,fN,seval,eT,iR,AF,hr,hr1]),fun T hT=>hfity T (hT (r,A_ R) (by simp)),?_⟩;repeat' first|refine Gf (F11 e0 e2 e4 s4 e8 e9 e12 e13 e14 hil hy) ?_|refine Mm fun K hK=>?_
    refine AE ⟨x.knots.length-(i+1),by omega,i+1,!Dc R y,by omega,by omega,rfl,?_,?_⟩
    ·have e:(x.knots.take (i+1)).drop 1=(x.knots.take i).drop 1++[y]:=by
      rw[Ab hy,List.drop_append_of_le_length (by rw[List.length_take];omega)]
     rw[e,List.any_append,hb];simp
    ·simp only[go_sem,fN,seval,eT,iR,e0,e2,e4,s4,e8,e9,e12,e13,e14];refine⟨by congr 3,fun j hj=>?_⟩;have hj2:=hS1 j hj;simp only[go_sem,fN,seval,eT,iR,AF,hj,hj2]
   | false =>
    have hT:C1 true R x=false:=by
     have h1:OD R x.args=true:=by
      unfold OD;rw[←hdrop];simp only[Bool.not_false]at hb;rw[List.any_eq_true]at hb ⊢;obtain⟨z,hz1,hz2⟩:=hb;refine⟨z,?_,hz2⟩;rw[List.drop_take]at hz1;exact List.mem_of_mem_take hz1
     show FV R x=false
     unfold FV;rw[h1];simp
    refine Gf (F10 e0 e2 e4 s4 e8 e9 e12 e13 e14 hil) ?_;refine AE ⟨t.places.length-(k+1),by omega,k+1,by omega,rfl,g2 hT,?_⟩;repeat' refine And.intro ?_ ?_
    all_goals first|(intro j hj;refine BX hS (by decide) hj ?_;have hj2:=hS1 j hj;simp only[go_sem,fN,seval,eT,iR,AF,hj,hj2];done)|(simp only[go_sem,fN,seval,AS.drop,AT,AC.clears,AC.clear,AC.highs,AC.high,zD,AV.purge,AV.purges,AC.purge,AJ.purge,Nat.reduceBEq,eT,iR,e0,e2,e4,s4,e8,e9,BD,hr];done)|(simp only[go_sem,fN,seval,AS.drop,AT,AC.clears,AC.clear,AC.highs,AC.high,zD,AV.purge,AV.purges,AC.purge,AJ.purge,Nat.reduceBEq,eT,iR,e0,e2,e4,s4,e8,e9,BD,hr];congr 3)
  ·rw[List.take_of_length_le (by omega),hdrop]at hb;cases b with
   | true =>
    have hT:C1 true R x=true:=by
     show FV R x=true
     unfold FV OD;rw[hf,hb];rfl
    have hfin:=g1 hT;rw[hfin];refine Gf (F11 e0 e2 e4 s4 e8 e9 e12 e13 e14 hil hp) ?_;refine BI hS trivial ?_ fun j hj=>?_
    ·simp only[go_sem,fN,seval,eT,iR,AB,AD,AM,Option.bind_some];all_goals rfl
    ·have hj2:=hS1 j hj;simp only[go_sem,fN,seval,eT,iR,AF,hj,hj2]
   | false =>
    have hT:C1 true R x=false:=by
     show FV R x=false
     unfold FV OD;rw[hb];simp
    refine Gf (F10 e0 e2 e4 s4 e8 e9 e12 e13 e14 hil) ?_;refine AE ⟨t.places.length-(k+1),by omega,k+1,by omega,rfl,g2 hT,?_⟩;repeat' refine And.intro ?_ ?_
    all_goals first|(intro j hj;refine BX hS (by decide) hj ?_;have hj2:=hS1 j hj;simp only[go_sem,fN,seval,eT,iR,AF,hj,hj2];done)|(simp only[go_sem,fN,seval,AS.drop,AT,AC.clears,AC.clear,AC.highs,AC.high,zD,AV.purge,AV.purges,AC.purge,AJ.purge,Nat.reduceBEq,eT,iR,e0,e2,e4,s4,e8,e9,BD,hr];done)|(simp only[go_sem,fN,seval,AS.drop,AT,AC.clears,AC.clear,AC.highs,AC.high,zD,AV.purge,AV.purges,AC.purge,AJ.purge,Nat.reduceBEq,eT,iR,e0,e2,e4,s4,e8,e9,BD,hr];congr 3)
 ·rw[List.take_of_length_le (by omega)]at hno;rw[hno];refine Gf (F7 e0 e2 e4 s4 e8 e9 hlt) ?_;refine BI hS trivial ?_ fun j hj=>?_
  ·simp only[go_sem,fN,seval,eT,iR,AB,AD,AM,Option.bind_some];all_goals rfl
  ·have hj2:=hS1 j hj;simp only[go_sem,fN,seval,eT,iR,AF,hj,hj2]
theorem AAE{R:List Pr}(hR:A7 R)(t0:Tm)(hc0:t0.chk=0)(hz0:t0.size≤800000)(most:Nat)(hm:most≤1000000)(r:Nat)(hr:1000≤r)(S:AA)(sr:S r=some (A_ R)):Ah Tryz.prog 26 [.one (.row r R.length),aTm t0,AO most,AZ true] S (L0 (CM (Tm.inn R) most 0 t0)) S:=by
 have h40:=hR.len;have hKl:(R.map Ag).length=R.length:=List.length_map _;unfold L0;refine Re.acS fun hS C hC=>?_;unfold La;have n5:=AK hS (i:=5) (by omega);have n8:=AK hS (i:=8) (by omega);have n14:=AK hS (i:=14) (by omega);have n17:=AK hS (i:=17) (by omega);refine Gf (F3 @AS.startS.eq_1 n5 n8) ?_;refine IWP.loopD [14,17] (fun m s=>∃(n:Nat) (t:Tm),n≤most∧m=most-n∧CM (Tm.inn R) most 0 t0=CM (Tm.inn R) (most-n) n t∧t.chk=0∧t.size≤800000∧s.env 0=.one (.row r R.length)∧s.env 2=AO most∧s.env 3=AZ true∧s.env 5=.one (.ptr 5 1 0 0)∧s.env 8=.one (.ptr 8 1 0 0)∧s.env 11=AO n∧s.S 5=some (FA t)∧s.S 8=some P1∧s.S 14=none∧s.S 17=none∧∀j,1000≤j→s.S j=S j)
  most ⟨0,t0,by omega,by omega,rfl,hc0,hz0,rfl,rfl,rfl,rfl,rfl,rfl,by simp only[go_sem,fN,seval,eT,iR],by simp only[go_sem,fN,seval,eT,iR],by simp only[go_sem,fN,seval,eT,iR,n14],by simp only[go_sem,fN,seval,eT,iR,n17],fun j hj=>by simp only[go_sem,fN,seval,eT,iR,AF,hj]⟩ ?_
 rintro m ⟨env,S1⟩ ⟨n,t,hn,rfl,hend,hc,hz,e0,e2,e3,e5,e8,e11,s5,s8,s14,s17,hS1⟩;simp only at e0 e2 e3 e5 e8 e11 s5 s8 s14 s17 hS1;have hr1:=(hS1 r hr).trans sr;rw[hend];have hcon:=fun(T:AA) (hT:T r=some (A_ R))=>ABM hR t (by omega) (up1 r) (Ap _) (upS T) (by rw[Ax,hT];rfl);have hfind:Tm.inn R t=Dk R t (t.findP (C1 true R)):=MX true R t;cases hp:t.findP (C1 true R) with
 | none =>
  rw[hp]at hcon hfind;unfold O8 at hcon;rw[Hv hfind];repeat' first|refine Gf (F10 e0 e2 e3 e5 e8 e11 s5 s8 s14 s17) ?_|refine Mm fun K hK=>?_
  refine⟨_,[(r,A_ R)],BC (by simp only[go_sem,fN,seval,eT,iR,AF,hr,hr1]),fun T hT=>hcon T (hT (r,A_ R) (by simp)),?_⟩;repeat' first|refine Gf (F10 e0 e2 e3 e5 e8 e11 s5 s8 s14 s17) ?_|refine Mm fun K hK=>?_
  refine BI hS trivial ?_ fun j hj=>?_
  ·simp only[go_sem,fN,seval,eT,iR,AB,AD,AM,Option.bind_some,e8,s8];all_goals rfl
  ·have hj2:=hS1 j hj;simp only[go_sem,fN,seval,eT,iR,AF,hj,hj2]
 | some p =>
  obtain⟨x,hx,hTx,hxk⟩:=Tm.findP_at _ t p hp;have hxz:=CF t x hxk;have hat:=MV p t;rw[hx]at hat;rw[hp]at hcon hfind;unfold O8 at hcon;simp only[Dk,hx]at hfind;cases hrt:DV R x with
  | none =>
   exfalso;have h1:=Hi hTx;rw[C_.1 hrt]at h1;cases h1
  | some q =>
   obtain⟨y,e⟩:=q;rw[hrt]at hfind;simp only[Option.map_some]at hfind;obtain⟨g1,g2,g3⟩:=Im (inner:=true) hR hc hfind;have hput:=QB p t (by omega) y (by rw[hx];rfl);by_cases hmost:n=most
   ·have hmi:(n:Int)=most:=by omega
    rw[show most-n=0 by omega,H4 hfind];repeat' first|refine Gf (F11 e0 e2 e3 e5 e8 e11 s5 s8 s14 s17 hmi) ?_|refine Mm fun K hK=>?_
    refine⟨_,[(r,A_ R)],BC (by simp only[go_sem,fN,seval,eT,iR,AF,hr,hr1]),fun T hT=>hcon T (hT (r,A_ R) (by simp)),?_⟩;repeat' first|refine Gf (F11 e0 e2 e3 e5 e8 e11 s5 s8 s14 s17 hmi) ?_|refine Mm fun K hK=>?_
    refine BI hS trivial ?_ fun j hj=>?_
    ·simp only[go_sem,fN,seval,eT,iR,AB,AD,AM,Option.bind_some,e8,s8];all_goals rfl
    ·have hj2:=hS1 j hj;simp only[go_sem,fN,seval,eT,iR,AF,hj,hj2]
   have hmi:¬(n:Int)=most:=by omega
   obtain⟨k0,hk0⟩:∃k,most-n=k+1:=⟨most-n-1,by omega⟩
   rw[hk0];repeat' first|refine Gf (F11 e0 e2 e3 e5 e8 e11 s5 s8 s14 s17 hmi) ?_|refine Mm fun K hK=>?_
   refine⟨_,[(r,A_ R)],BC (by simp only[go_sem,fN,seval,eT,iR,AF,hr,hr1]),fun T hT=>hcon T (hT (r,A_ R) (by simp)),?_⟩;repeat' first|refine Gf (F11 e0 e2 e3 e5 e8 e11 s5 s8 s14 s17 hmi) ?_|refine Mm fun K hK=>?_|refine Cg _ (hat) ?_
   refine IWP.loopD [17] (fun m s=>∃k,k≤R.length∧m=R.length-k∧CI R x (R.drop k)=some (y,e)∧s.env 0=.one (.row r R.length)∧s.env 2=AO most∧s.env 3=AZ true∧s.env 5=.one (.ptr 5 1 0 0)∧s.env 8=.one (.ptr 8 1 0 0)∧s.env 11=AO (n+1)∧s.env 12=Gx p∧s.env 14=.one (.ptr 14 1 0 0)∧s.env 16=AO k∧s.S 5=some (FA t)∧s.S 8=some P1∧s.S 14=some (FA x)∧s.S 17=none∧∀j,1000≤j→s.S j=S j) R.length ⟨0,Nat.zero_le _,rfl,hrt,?_⟩ ?_
   ·simp only[go_sem,fN,seval,eT,iR,e0,e2,e3,e5,e8,e11,s5,s8,s14,s17];intro j hj;have hj2:=hS1 j hj;simp only[go_sem,fN,seval,eT,iR,AF,hj,hj2]
   clear e0 e2 e3 e5 e8 e11 s5 s8 s14 s17 hr1 hS1;rintro m ⟨env,S2⟩ ⟨k,hk,rfl,hrk,e0,e2,e3,e5,e8,e11,e12,e14,e16,s5,s8,s14,s17,hS1⟩;simp only at e0 e2 e3 e5 e8 e11 e12 e14 e16 s5 s8 s14 s17 hS1;have hr1:=(hS1 r hr).trans sr;by_cases hkl:k<R.length
   case neg =>
    rw[List.drop_of_length_le (by omega)]at hrk;cases hrk
   case pos =>
   have hlt:(k:Int)<R.length:=by omega
   obtain⟨q,hq⟩:=Aa hkl;have hmem:=AN hq;have z1:=(Tm.may_chk (hR.left q hmem)).2;have z2:=(Tm.may_chk (hR.right q hmem)).2;rw[A5 hq,Ic]at hrk;have hfits:=ZR q x (by omega) (by omega) (by omega);unfold VI at hfits;by_cases hcase:BJ q.1 x=true
   case neg =>
    rw[if_neg hcase]at hrk hfits;repeat' first|refine Gf (F21 e0 e2 e3 e5 e8 e11 e12 e14 e16 s5 s8 s14 s17 hr1 hr @AF @AU hKl hlt hq @Ag.eq_1) ?_|refine Mm fun K hK=>?_|refine Cg _ (hfits) ?_
    refine AE ⟨R.length-(k+1),by omega,k+1,by omega,rfl,hrk,?_⟩;repeat' refine And.intro ?_ ?_
    all_goals first|(intro j hj;refine BX hS (by decide) hj ?_;have hj2:=hS1 j hj;simp only[go_sem,fN,seval,eT,iR,AF,hj,hj2];done)|(simp only[go_sem,fN,seval,AS.drop,AT,AC.clears,AC.clear,AC.highs,AC.high,zD,AV.purge,AV.purges,AC.purge,AJ.purge,Nat.reduceBEq,eT,iR,e0,e2,e3,e5,e8,e11,e12,e14,e16,s5,s8,s14,s17,BD,hr];done)|(simp only[go_sem,fN,seval,AS.drop,AT,AC.clears,AC.clear,AC.highs,AC.high,zD,AV.purge,AV.purges,AC.purge,AJ.purge,Nat.reduceBEq,eT,iR,e0,e2,e3,e5,e8,e11,e12,e14,e16,s5,s8,s14,s17,BD,hr];congr 3)
   case pos =>
   rw[if_pos hcase]at hrk hfits;by_cases hon:(Au (BH q.1 x) q.2).2=true
   case neg =>
    rw[if_neg hon]at hrk;simp only[Bool.not_eq_true]at hon;rw[hon]at hfits;cases hrk;rw[JH hfind (by decide)];repeat' first|refine Gf (F21 e0 e2 e3 e5 e8 e11 e12 e14 e16 s5 s8 s14 s17 hr1 hr @AF @AU hKl hlt hq @Ag.eq_1) ?_|refine Mm fun K hK=>?_|refine Cg _ (hfits) ?_
    refine BI hS trivial ?_ fun j hj=>?_
    ·simp only[go_sem,fN,seval,eT,iR,AB,AD,AM,Option.bind_some,e8,s8];all_goals rfl
    ·have hj2:=hS1 j hj;simp only[go_sem,fN,seval,eT,iR,AF,hj,hj2]
   case pos =>
   rw[if_pos hon]at hrk;rw[hon]at hfits;simp only[Option.some.injEq,Prod.mk.injEq]at hrk;obtain⟨hy,he⟩:=hrk;subst he;rw[hy]at hfits;have hsz:=GC (t.putP p y) 2000 (by omega) (by omega);by_cases hgr:2000<(t.putP p y).size
   ·rw[GV hfind hgr];have hg:(2000:Int)<BB (t.putP p y).size 2000:=by unfold BB;split <;> omega
    repeat' first|refine Gf (F22 e0 e2 e3 e5 e8 e11 e12 e14 e16 s5 s8 s14 s17 hr1 hr @AF @AU hKl hlt hq @Ag.eq_1 hg) ?_|refine Mm fun K hK=>?_|refine Cg _ (hfits) ?_|refine Cg _ (hput) ?_|refine Cg _ (hsz) ?_
    refine BI hS trivial ?_ fun j hj=>?_
    ·simp only[go_sem,fN,seval,eT,iR,AB,AD,AM,Option.bind_some,e8,s8];all_goals rfl
    ·have hj2:=hS1 j hj;simp only[go_sem,fN,seval,eT,iR,AF,hj,hj2]
   ·have hg:¬(2000:Int)<BB (t.putP p y).size 2000:=by unfold BB;split <;> omega
    repeat' first|refine Gf (F22 e0 e2 e3 e5 e8 e11 e12 e14 e16 s5 s8 s14 s17 hr1 hr @AF @AU hKl hlt hq @Ag.eq_1 hg) ?_|refine Mm fun K hK=>?_|refine Cg _ (hfits) ?_|refine Cg _ (hput) ?_|refine Cg _ (hsz) ?_
    refine AE ⟨most-(n+1),by omega,n+1,t.putP p y,by omega,rfl,?_,g2 rfl,by omega,?_⟩
    ·rw[show most-(n+1)=k0 by omega];exact L5 hfind hgr k0 n
    ·repeat' refine And.intro ?_ ?_
     all_goals first|(intro j hj;refine BX hS (by decide) hj ?_;have hj2:=hS1 j hj;simp only[go_sem,fN,seval,eT,iR,AF,hj,hj2];done)|(simp only[go_sem,fN,seval,AS.drop,AT,AC.clears,AC.clear,AC.highs,AC.high,zD,AV.purge,AV.purges,AC.purge,AJ.purge,Nat.reduceBEq,eT,iR,e0,e2,e3,e5,e8,e11,e12,e14,e16,s5,s8,s14,s17,BD,hr];done)|(simp only[go_sem,fN,seval,AS.drop,AT,AC.clears,AC.clear,AC.highs,AC.high,zD,AV.purge,AV.purges,AC.purge,AJ.purge,Nat.reduceBEq,eT,iR,e0,e2,e3,e5,e8,e11,e12,e14,e16,s5,s8,s14,s17,BD,hr];congr 3)

def Jj:IR :=
 (.seq (.ops [.i 5 (.box 40 (.t 2)),.i 6 (.mov (.c (.one (.full [])))),.i 7 (.mov (.c (.one (.full [])))),.i 8 (.mov (.n 0))]) (.seq (.seq (.ops [.f 21 0 5,.L 22 2 21,.i 23 (.call 21 [.t 22,.n 200]),.i 24 (.bin .gtr (.t 23) (.n 200)),.m 25 24,.mk (some 26) (some (25,false)) (.fieldAddr 2 (.t 5)) .no,.mk (some 27) (some (25,false)) (.load true 2 (.t 26)) .no,.mk (some 28) (some (25,false)) (.call 21 [.t 27,.n 200]) .no,.mk (some 29) (some (25,false)) (.bin .gtr (.t 28) (.n 200)) .no,.i 30 (.pick (.t 25) (.c (.one (.st (.bool true)))) (.t 29))]) (.cond (.t 30) (.seq (.ops [.i 6 (.mov (.c (.one (.full [])))),.i 7 (.mov (.c (.one (.full [])))),.i 8 (.mov (.n 8))]) .ret) .skip)) (.seq (.ops [.i 9 (.mov (.c (.one (.full []))))]) (.seq (.seq (.ops [.i 10 (.mov (.n 0))]) (.block 0 (.loop (.seq (.seq (.ops [.m 31 10,.m 32 0,.i 33 (.len false (.t 32)),.i 34 (.bin .lss (.t 31) (.t 33))]) (.cond (.t 34) .skip (.exit 0))) (.seq (.block 1 (.seq (.ops [.m 37 0,.m 38 10,.i 39 (.indexAddr 4 (.t 37) (.t 38)),.f 40 0 39,.L 41 2 40,.f 42 0 5,.L 43 2 42,.i 44 (.call 63 [.t 41,.t 43])]) (.cond (.t 44) (.ops [.m 45 1,.m 46 0,.m 47 10,.i 48 (.indexAddr 4 (.t 46) (.t 47)),.L 49 4 48,.i 50 (.buildSlice false 40 4 [.t 49]),.i 51 (.append false 40 4 80 (.t 45) (.t 50)),.m 1 51]) (.ops [.m 52 9,.m 53 0,.m 54 10,.i 55 (.indexAddr 4 (.t 53) (.t 54)),.L 56 4 55,.i 57 (.buildSlice false 40 4 [.t 56]),.i 58 (.append true 40 4 80 (.t 52) (.t 57)),.m 9 58])))) (.ops [.m 35 10,.i 36 (.bin .add (.t 35) (.n 1)),.m 10 36])))))) (.seq (.ops [.m 59 9,.L 60 4 5,.i 61 (.buildSlice false 40 4 [.t 60]),.i 62 (.append true 40 4 80 (.t 59) (.t 61)),.m 0 62]) (.seq (.seq (.ops [.m 63 0,.i 64 (.len false (.t 63)),.i 65 (.bin .gtr (.t 64) (.n 40))]) (.cond (.t 65) (.seq (.ops [.i 6 (.mov (.c (.one (.full [])))),.i 7 (.mov (.c (.one (.full [])))),.i 8 (.mov (.n 3))]) .ret) .skip)) (.seq (.seq (.ops [.i 11 (.mov (.n 0))]) (.block 2 (.loop (.seq (.seq (.ops [.m 66 11,.m 67 0,.i 68 (.len false (.t 67)),.i 69 (.bin .lss (.t 66) (.t 68))]) (.cond (.t 69) .skip (.exit 2))) (.seq (.block 3 (.seq (.ops [.m 73 0,.m 74 0,.m 75 11,.i 76 (.indexAddr 4 (.t 74) (.t 75)),.f 77 2 76,.L 78 2 77,.i 79 (.callR 26 [.t 73,.t 78,.n 100,.c (.one (.st (.bool true)))]),.m 72 79,.i 80 (.extract 0 (.t 72)),.i 81 (.extract 1 (.t 72)),.i 82 (.extract 2 (.t 72)),.i 12 (.alloc 37 [.st (.str (ByteArray.mk (#[]))),.full []]),.s 2 12 80,.m 13 81,.m 14 82]) (.seq (.seq (.ops [.m 83 14,.i 84 (.bin .neq (.t 83) (.n 0))]) (.cond (.t 84) (.seq (.ops [.m 85 14,.i 6 (.mov (.c (.one (.full [])))),.i 7 (.mov (.c (.one (.full [])))),.m 8 85]) .ret) .skip)) (.seq (.seq (.ops [.L 86 2 12,.i 87 (.call 21 [.t 86,.n 200]),.i 88 (.bin .gtr (.t 87) (.n 200))]) (.cond (.t 88) (.seq (.ops [.i 6 (.mov (.c (.one (.full [])))),.i 7 (.mov (.c (.one (.full [])))),.i 8 (.mov (.n 8))]) .ret) .skip)) (.ops [.m 89 0,.m 90 11,.m 91 0,.m 92 11,.i 93 (.indexAddr 4 (.t 91) (.t 92)),.f 94 0 93,.L 95 2 94,.L 96 2 12,.i 97 (.build [.st (.str (ByteArray.mk (#[]))),.full [],.st (.str (ByteArray.mk (#[]))),.full []] [(0,2,.t 95),(2,2,.t 96)]),.i 98 (.indexAddr 4 (.t 89) (.t 90)),.s 4 98 97]))))) (.ops [.m 70 11,.i 71 (.bin .add (.t 70) (.n 1)),.m 11 71])))))) (.seq (.ops [.m 99 0,.i 100 (.len false (.t 99)),.i 101 (.bin .sub (.t 100) (.n 1)),.m 15 101]) (.seq (.seq (.ops [.i 16 (.mov (.n 0))]) (.block 4 (.loop (.seq (.seq (.ops [.m 102 16,.m 103 15,.i 104 (.bin .leq (.t 102) (.t 103))]) (.cond (.t 104) .skip (.exit 4))) (.seq (.block 5 (.seq (.ops [.m 108 0,.m 109 16,.i 110 (.indexAddr 4 (.t 108) (.t 109)),.L 111 4 110,.m 112 0,.m 113 15,.i 114 (.indexAddr 4 (.t 112) (.t 113)),.L 115 4 114,.m 116 16,.m 117 15,.i 118 (.bin .eql (.t 116) (.t 117)),.i 119 (.call 64 [.t 111,.t 115,.t 118]),.m 107 119,.i 120 (.extract 0 (.t 107)),.i 121 (.extract 1 (.t 107)),.m 17 120,.m 18 121]) (.seq (.seq (.ops [.m 122 18,.i 123 (.bin .neq (.t 122) (.n 0))]) (.cond (.t 123) (.seq (.ops [.m 124 18,.i 6 (.mov (.c (.one (.full [])))),.i 7 (.mov (.c (.one (.full [])))),.m 8 124]) .ret) .skip)) (.seq (.ops [.m 125 1,.m 126 17,.i 127 (.append false 40 4 80 (.t 125) (.t 126)),.m 1 127]) (.seq (.ops [.m 128 16,.m 129 15,.i 130 (.bin .lss (.t 128) (.t 129))]) (.cond (.t 130) (.seq (.ops [.m 132 0,.m 133 15,.i 134 (.indexAddr 4 (.t 132) (.t 133)),.L 135 4 134,.m 136 0,.m 137 16,.i 138 (.indexAddr 4 (.t 136) (.t 137)),.L 139 4 138,.i 140 (.call 64 [.t 135,.t 139,.c (.one (.st (.bool false)))]),.m 131 140,.i 141 (.extract 0 (.t 131)),.i 142 (.extract 1 (.t 131)),.m 19 141,.m 20 142]) (.seq (.seq (.ops [.m 143 20,.i 144 (.bin .neq (.t 143) (.n 0))]) (.cond (.t 144) (.seq (.ops [.m 145 20,.i 6 (.mov (.c (.one (.full [])))),.i 7 (.mov (.c (.one (.full [])))),.m 8 145]) .ret) .skip)) (.ops [.m 146 1,.m 147 19,.i 148 (.append false 40 4 80 (.t 146) (.t 147)),.m 1 148]))) .skip)))))) (.ops [.m 105 16,.i 106 (.bin .add (.t 105) (.n 1)),.m 16 106])))))) (.seq (.seq (.ops [.m 149 1,.i 150 (.len false (.t 149)),.i 151 (.bin .gtr (.t 150) (.n 400))]) (.cond (.t 151) (.seq (.ops [.i 6 (.mov (.c (.one (.full [])))),.i 7 (.mov (.c (.one (.full [])))),.i 8 (.mov (.n 3))]) .ret) .skip)) (.seq (.ops [.m 152 0,.m 153 1,.m 6 152,.m 7 153,.i 8 (.mov (.n 0))]) .ret)))))))))))
theorem Qq:OkF Tryz.prog 29 154 [58,62,40000079] Jj [.t 6,.t 7,.t 8]:=.of Tryz.func29 rfl rfl (by kernel_rfl) rfl
def Gm:IR :=
 (.seq (.ops [.i 6 (.mov (.c (.one (.full [])))),.i 7 (.mov (.n 0))]) (.seq (.ops [.m 21 0,.i 22 (.call 24 [.t 21]),.m 8 22]) (.seq (.seq (.ops [.m 23 8,.i 24 (.bin .eql (.t 23) (.n 0))]) (.cond (.t 24) (.ops [.m 25 1,.i 26 (.call 25 [.t 25]),.m 8 26]) .skip)) (.seq (.seq (.ops [.m 27 8,.i 28 (.bin .eql (.t 27) (.n 0)),.m 29 28,.mk (some 30) (some (29,true)) (.mov (.t 2)) .no,.mk (some 31) (some (29,true)) (.bin .lss (.t 30) (.n 0)) .no,.mk (some 32) (some (29,true)) (.mov (.t 31)) .no,.mk (some 33) (some (32,false)) (.mov (.t 2)) .no,.mk (some 34) (some (32,false)) (.bin .gtr (.t 33) (.n 60)) .no,.mk (some 35) (some (29,true)) (.pick (.t 32) (.c (.one (.st (.bool true)))) (.t 34)) .no,.i 36 (.pick (.t 29) (.t 35) (.c (.one (.st (.bool false)))))]) (.cond (.t 36) (.ops [.i 8 (.mov (.n 10))]) .skip)) (.seq (.seq (.ops [.m 37 8,.i 38 (.bin .neq (.t 37) (.n 0))]) (.cond (.t 38) (.seq (.ops [.m 39 8,.i 6 (.mov (.c (.one (.full [])))),.m 7 39]) .ret) .skip)) (.seq (.ops [.i 9 (.mov (.c (.one (.full []))))]) (.seq (.ops [.i 40 (.buildSlice false 40 4 []),.m 41 1,.i 42 (.append false 40 4 80 (.t 40) (.t 41)),.m 10 42]) (.seq (.seq (.ops [.i 11 (.mov (.n 0))]) (.block 0 (.loop (.seq (.seq (.ops [.m 43 10,.i 44 (.len false (.t 43)),.i 45 (.bin .gtr (.t 44) (.n 0))]) (.cond (.t 45) .skip (.exit 0))) (.seq (.block 1 (.seq (.seq (.ops [.m 48 11,.m 49 2,.i 50 (.bin .eql (.t 48) (.t 49))]) (.cond (.t 50) (.seq (.ops [.i 6 (.mov (.c (.one (.full [])))),.i 7 (.mov (.n 9))]) .ret) .skip)) (.seq (.ops [.m 51 10,.i 52 (.indexAddr 4 (.t 51) (.n 0)),.L 53 4 52,.i 12 (.alloc 40 [.st (.str (ByteArray.mk (#[]))),.full [],.st (.str (ByteArray.mk (#[]))),.full []]),.s 4 12 53]) (.seq (.ops [.m 54 10,.i 55 (.restP 4 (.t 54) (.n 1)),.m 10 55]) (.seq (.ops [.m 57 9,.f 58 0 12,.L 59 2 58,.i 60 (.call 26 [.t 57,.t 59,.n 100,.c (.one (.st (.bool true)))]),.m 56 60,.i 61 (.extract 0 (.t 56)),.i 62 (.extract 1 (.t 56)),.i 63 (.extract 2 (.t 56)),.i 13 (.alloc 37 [.st (.str (ByteArray.mk (#[]))),.full []]),.s 2 13 61,.m 14 62,.m 15 63]) (.seq (.seq (.ops [.m 64 15,.i 65 (.bin .neq (.t 64) (.n 0))]) (.cond (.t 65) (.seq (.ops [.m 66 15,.i 6 (.mov (.c (.one (.full [])))),.m 7 66]) .ret) .skip)) (.seq (.ops [.m 68 9,.f 69 2 12,.L 70 2 69,.i 71 (.call 26 [.t 68,.t 70,.n 100,.c (.one (.st (.bool true)))]),.m 67 71,.i 72 (.extract 0 (.t 67)),.i 73 (.extract 1 (.t 67)),.i 74 (.extract 2 (.t 67)),.i 16 (.alloc 37 [.st (.str (ByteArray.mk (#[]))),.full []]),.s 2 16 72,.m 17 73,.m 15 74]) (.seq (.seq (.ops [.m 75 15,.i 76 (.bin .neq (.t 75) (.n 0))]) (.cond (.t 76) (.seq (.ops [.m 77 15,.i 6 (.mov (.c (.one (.full [])))),.m 7 77]) .ret) .skip)) (.seq (.seq (.ops [.L 78 2 13,.L 79 2 16,.i 80 (.call 19 [.t 78,.t 79])]) (.cond (.t 80) (.exit 1) .skip)) (.seq (.seq (.ops [.m 81 0,.L 82 2 13,.L 83 2 16,.i 84 (.call 27 [.t 81,.t 82,.t 83]),.i 85 (.un .not (.t 84))]) (.cond (.t 85) (.seq (.seq (.ops [.m 86 0,.L 87 2 16,.L 88 2 13,.i 89 (.call 27 [.t 86,.t 87,.t 88]),.i 90 (.un .not (.t 89))]) (.cond (.t 90) (.seq (.ops [.i 6 (.mov (.c (.one (.full [])))),.i 7 (.mov (.n 14))]) .ret) .skip)) (.ops [.L 91 2 16,.L 92 2 13,.s 2 13 91,.s 2 16 92])) .skip)) (.seq (.ops [.L 93 2 13,.L 94 2 16,.i 95 (.buildSlice false 37 2 [.t 93,.t 94]),.i 96 (.call 28 [.t 95]),.m 18 96]) (.seq (.ops [.m 98 9,.m 99 10,.m 100 18,.i 101 (.indexAddr 2 (.t 100) (.n 0)),.L 102 2 101,.m 103 18,.i 104 (.indexAddr 2 (.t 103) (.n 1)),.L 105 2 104,.i 106 (.build [.st (.str (ByteArray.mk (#[]))),.full [],.st (.str (ByteArray.mk (#[]))),.full []] [(0,2,.t 102),(2,2,.t 105)]),.i 107 (.callW 29 [.t 98,.t 99,.t 106]),.m 97 107,.i 108 (.extract 0 (.t 97)),.i 109 (.extract 1 (.t 97)),.i 110 (.extract 2 (.t 97)),.m 19 108,.m 20 109,.m 15 110]) (.seq (.seq (.ops [.m 111 15,.i 112 (.bin .neq (.t 111) (.n 0))]) (.cond (.t 112) (.seq (.ops [.m 113 15,.i 6 (.mov (.c (.one (.full [])))),.m 7 113]) .ret) .skip)) (.seq (.ops [.m 114 19,.m 9 114]) (.ops [.m 115 20,.m 10 115]))))))))))))))) (.ops [.m 46 11,.i 47 (.bin .add (.t 46) (.n 1)),.m 11 47])))))) (.seq (.ops [.m 116 9,.m 6 116,.i 7 (.mov (.n 0))]) .ret)))))))))
theorem Ls:OkF Tryz.prog 6 117 [30000055,50000107] Gm [.t 6,.t 7]:=.of Tryz.func6 rfl rfl (by kernel_rfl) rfl


theorem P0{q:IB}:∀{l:List Pr},l.any (fun r=>BJ r.1 q.2)=false→DX q l=some []
 | [],_=>rfl
 | r::l,h=>by
  rw[List.any_cons,Bool.or_eq_false_iff]at h;rw[DX,if_neg (by rw[h.1];decide)];exact P0 h.2
theorem Oq{q:IB}:∀{l:List Pr} {a:List Tm},DX q l=some a→l.any (fun r=>BJ r.1 q.2)=true→a≠[]
 | [],a,_,h=>by cases h
 | r::l,a,h,hany=>by
  rw[DX]at h;split at h
  ·split at h
   ·rw[Option.map_eq_some_iff]at h;obtain⟨b,hb,rfl⟩:=h;simp
   ·cases h
  ·rename_i hn;rw[List.any_cons]at hany;have:BJ r.1 q.2=false:=by simpa using hn
   rw[this,Bool.false_or]at hany;exact Oq h hany
theorem M4{R:List Pr}:∀{l:List IB},(∀q∈l,Dc R q.2=false)→Bx R l=some []
 | [],_=>rfl
 | q::l,h=>by
  rw[Bx,P0 (h q (by simp)),M4 fun q hq=>h q (by simp[hq])];rfl
theorem Lh{R:List Pr}:∀{l:List IB} {a:List Tm},Bx R l=some a→(∃q∈l,Dc R q.2=true)→a≠[]
 | [],a,_,h=>by obtain⟨q,hq,_⟩:=h;cases hq
 | q::l,a,h,hex=>by
  rw[Bx]at h;split at h
  ·cases h
  ·rename_i b hb;rw[Option.map_eq_some_iff]at h;obtain⟨c,hc,rfl⟩:=h;obtain⟨q',hq',hf⟩:=hex;rcases List.mem_cons.1 hq' with rfl|hq'
   ·have:=Oq hb hf;intro e;exact this (List.append_eq_nil_iff.1 e).1
   ·have:=Lh hc ⟨q',hq',hf⟩;intro e;exact this (List.append_eq_nil_iff.1 e).2
mutual
theorem JV:∀(t:Tm) (V:List (Tm×Nat)),(t.visits V).map (fun q=>q.2)=t.knots
 | .mk n xs,V=>by
  rw[Tm.visits,Tm.knots,List.map_cons,IF]
theorem IF:∀(xs:List Tm) (V:List (Tm×Nat)) (t:Tm) (k:Nat),(Tm.visitsL V t k xs).map (fun q=>q.2)=Tm.knotsL xs
 | [],V,t,k=>rfl
 | x::xs,V,t,k=>by
  rw[Tm.visitsL,Tm.knotsL,List.map_append,JV x,IF xs]
end
theorem Le(t:Tm):(t.places.map (Va [] t)).map (·.2)=t.knots:=by
 have h:=congrArg (List.map Prod.snd) (DJ t []);rw[List.map_map]at h;have h1:∀(t:Tm) (V:List (Tm×Nat)),(t.visits V).map (fun q=>q.2)=t.knots:=fun t=>JV t;rw[show(Prod.snd ∘ DF)=(fun q:List (Tm×Nat)×Tm=>q.2) from rfl,h1]at h;exact h.symm
theorem Tt{R:List Pr}{t:Tm}(h:t.inn R=none):KW R t=some []:=by
 rw[Tm.inn_none,List.any_eq_false]at h;refine M4 fun q hq=>?_;have:q.2∈t.knots:=by rw[←Le];exact List.mem_map_of_mem hq
 simpa using h q.2 this
theorem UL{R:List Pr}{t:Tm}{a:List Tm}(h:t.inn R≠none)(hs:KW R t=some a):a≠[]:=by
 refine Lh hs ?_;cases hk:t.knots.any (Dc R) with
 | false=>exact absurd ((Tm.inn_none R t).2 hk) h
 | true =>
  obtain⟨x,hx,hf⟩:=List.any_eq_true.1 hk;rw[←Le]at hx;obtain⟨q,hq,rfl⟩:=List.mem_map.1 hx;exact⟨q,hq,hf⟩

theorem N3{r:Pr}{t:Tm}{l:List Tm}(h:KW [r] t=some l):r.1.hasCase t=!l.isEmpty:=by
 have e1:t.knots.any (Dc [r])=r.1.hasCase t:=by
  rw[Tm.hasCase_knots];congr 1;funext u;unfold Dc;simp
 cases hi:t.inn [r] with
 | none =>
  have h1:=(Tm.inn_none [r] t).1 hi;rw[e1]at h1;rw[Tt hi]at h;cases h;rw[h1];rfl
 | some q =>
  have hne:t.inn [r]≠none:=by rw[hi];simp
  have h2:=UL hne h;have h1:r.1.hasCase t=true:=by
   rw[←Bool.not_eq_false];intro h3;rw[←e1]at h3;exact hne ((Tm.inn_none [r] t).2 h3)
  rw[h1];cases l with
  | nil=>exact absurd rfl h2
  | cons a l=>rfl
def Rb(TB:Nat)(R T:List Pr)(e:Int):AV:=if e=0 then .tup [Be R,.one (.row TB T.length),AO 0] else .tup [Be [],Be [],AO e]
theorem TH{C:Ctx}{s:AS}{S:AA}{ex:AX}{TB:Nat}{R T:List Pr}{e:Int}(hS:Ay S)(hTB:1000≤TB)(he:match ex with|.normal=>True|.ret=>True|_=>False)(hz:e≠0)(e6:s.env 6=.one (.full []))(e7:s.env 7=.one (.full []))(e8:s.env 8=AO e)
  (h3:s.S TB=some (Bo T)) (h4:∀i,1000≤i→i≠TB→s.S i=S i):FR C [RV.t 6,RV.t 7,RV.t 8] (Rb TB R T e) (AI S TB (some (Bo T))) ex s:=by
 unfold Rb;rw[if_neg hz];refine B5 (.tup [.one (.full []),.one (.full []),AO e]) hS hTB rfl he ?_ rfl h3 h4;simp[AB,AD,AM,e6,e7,e8]
theorem ABu{C:Ctx}{s:AS}{S:AA}{ex:AX}{TB:Nat}{R T:List Pr}(hS:Ay S)(hTB:1000≤TB)(he:match ex with|.normal=>True|.ret=>True|_=>False)(e6:s.env 6=Be R)(e7:s.env 7=.one (.row TB T.length))(e8:s.env 8=AO 0)
  (h3:s.S TB=some (Bo T)) (h4:∀i,1000≤i→i≠TB→s.S i=S i):FR C [RV.t 6,RV.t 7,RV.t 8] (Rb TB R T 0) (AI S TB (some (Bo T))) ex s:=by
 unfold Rb;rw[if_pos rfl];refine Ka he ?_ ?_ (Ni hS rfl h3 h4) (Qd hS hTB h3 h4) (Bb hS hTB rfl)
 ·simp[AB,AD,AM,e6,e7,e8]
 ·show AV.highs [Be R,.one (.row TB T.length),AO 0]=true
  rw[AV.highs,AV.highs,AV.highs];show(true&&(AC.high (.row TB T.length)&&_))=true
  rw[EN hTB];rfl
theorem V6(S:AA)(TB:Nat)(hTB:1000≤TB)(R T:List Pr)(r:Pr)(sT:S TB=some (Bo T))(hTl:T.length≤100000)(zr1:r.1.size≤900000)(zr2:r.2.size≤900000)(f:Nat)(R' T':List Pr)(e:Int)(hp:G8 f R T r=some (R',T',e)) :
  Ah Tryz.prog 29 [Be R,.one (.row TB T.length),aPr r] S (Rb TB R' T' e) (AI S TB (some (Bo T'))):=by
 refine Qq.acS fun hS C hC=>?_;unfold Jj;have n5:=AK hS (i:=5) (by omega);have n12:=AK hS (i:=12) (by omega);have n600:=AK hS (i:=600) (by omega);have c1:=GC r.1 200 (by omega) (by omega);have c2:=GC r.2 200 (by omega) (by omega);unfold G8 at hp;by_cases hz:200<r.1.size∨200<r.2.size
 ·rw[if_pos hz]at hp;cases hp;by_cases z1:(200:Int)<BB r.1.size 200
  ·repeat' first|refine Gf (F6 @AS.startS.eq_1 n5 z1 @AF @AU hTB) ?_|refine Mm fun K hK=>?_|refine Cg _ (c1) ?_|refine Cg _ (c2) ?_
   refine TH hS hTB trivial (by decide) ?_ ?_ ?_ ?_ fun j hj j1=>?_
   ·simp only[go_sem,fN,seval,eT,iR]
   ·simp only[go_sem,fN,seval,eT,iR]
   ·simp only[go_sem,fN,seval,eT,iR]
   ·simp only[go_sem,fN,seval,eT,iR,AF,hTB,sT]
   ·simp only[go_sem,fN,seval,eT,iR,AF,hj]
  ·have z2:(200:Int)<BB r.2.size 200:=by unfold BB at z1 ⊢;split <;> split at z1 <;> omega
   repeat' first|refine Gf (F7 @AS.startS.eq_1 n5 z1 z2 @AF @AU hTB) ?_|refine Mm fun K hK=>?_|refine Cg _ (c1) ?_|refine Cg _ (c2) ?_
   refine TH hS hTB trivial (by decide) ?_ ?_ ?_ ?_ fun j hj j1=>?_
   ·simp only[go_sem,fN,seval,eT,iR]
   ·simp only[go_sem,fN,seval,eT,iR]
   ·simp only[go_sem,fN,seval,eT,iR]
   ·simp only[go_sem,fN,seval,eT,iR,AF,hTB,sT]
   ·simp only[go_sem,fN,seval,eT,iR,AF,hj]
 rw[if_neg hz]at hp;have z1:¬(200:Int)<BB r.1.size 200:=by unfold BB;split <;> omega
 have z2:¬(200:Int)<BB r.2.size 200:=by unfold BB;split <;> omega
 split at hp
 ·cases hp
 rename_i hgood;have hg1:Bc [r]=0:=by omega
 have hg2:Bc R=0:=by omega
 have hRg:=Cu hg2;have h40:=hRg.len;split at hp
 ·cases hp
 rename_i left0 todo0 hpart;have hlR0:(R.map Ag).length=R.length:=List.length_map _;repeat' first|refine Gf (F7 @AS.startS.eq_1 n5 z1 z2 @AF @AU hTB) ?_|refine Mm fun K hK=>?_|refine Cg _ (c1) ?_|refine Cg _ (c2) ?_
 refine IWP.ghost (AY.ownM 9 600 40 4 (by simp only[go_sem,fN,seval,eT,iR]) (by simp only[go_sem,fN,seval,eT,iR,n600]) (by rw[hC];decide)) ?_;refine IWP.loop (fun z s=>∃k left todo,k≤R.length∧z=R.length-k∧JC r (R.drop k) left todo=some (left0,todo0)∧left.length≤k∧todo.length≤T.length+k∧s.env 0=Be R∧s.env 1=.one (.row TB todo.length)∧s.env 5=.one (.ptr 5 1 0 0)∧s.env 9=.one (.row 600 left.length)∧s.env 10=AO k∧s.S 5=some (Et r)∧s.S 12=none∧s.S 600=some (A_ left)∧s.S TB=some (Bo todo)∧∀j,1000≤j→j≠TB→s.S j=S j) R.length
  ⟨0,[],T,Nat.zero_le _,rfl,hpart,Nat.zero_le _,by omega,rfl,rfl,rfl,rfl,rfl,by simp only[go_sem,fN,seval,eT,iR],by simp only[go_sem,fN,seval,eT,iR,n12],by(simp only[go_sem,fN,seval,eT,iR];rfl),by simp only[go_sem,fN,seval,eT,iR,AF,hTB,sT],fun j hj j1=>by simp only[go_sem,fN,seval,eT,iR,AF,hj]⟩ ?_
 clear n5 n12 n600 sT hpart;rintro z ⟨env,S1⟩ ⟨k,left,todo,hk,rfl,hpart,hll,htl,e0,e1,e5,e9,e10,s5,s12,s600,sT,hS1⟩;simp only at e0 e1 e5 e9 e10 s5 s12 s600 sT hS1;have hlL:(left.map Ag).length=left.length:=List.length_map _;have hlT:(todo.map Ag).length=todo.length:=List.length_map _;by_cases hkl:k<R.length
 ·have hkl':(k:Int)<R.length:=by omega
  obtain⟨o,ho⟩:=Aa hkl;have mo:=AN ho;have ko:=Tm.may_chk (hRg.left o mo);rw[A5 ho,JC]at hpart;have cO:=Xj o.1 r.1 (by omega) (by omega);split at hpart
  ·cases hpart
  rename_i l hl;rw[N3 hl]at cO;by_cases hem:l.isEmpty=true
  ·rw[if_pos hem]at hpart;rw[hem]at cO;repeat' first|refine Gf (F17 e0 e1 e5 e9 e10 s5 s600 sT hkl' ho @Ag.eq_1 hlR0 hlL hlT @AF @AU hTB) ?_|refine Mm fun K hK=>?_|refine Cg _ (cO) ?_
   refine AE ⟨R.length-(k+1),by omega,k+1,left++[o],todo,by omega,rfl,hpart,by simp only[List.length_append,List.length_cons,List.length_nil];omega,by omega,?_⟩;repeat' refine And.intro ?_ ?_
   all_goals first|(intro j hj j1;have hj2:=hS1 j hj j1;have k1:=Cp j1;simp only[go_sem,fN,seval,eT,iR,AF,hj,hj2,k1];done)|(simp only[go_sem,fN,seval,eT,iR,e0,e1,e5,e9,e10,s5,s12,s600,sT,AF,AU,hTB,List.length_append,List.length_cons,List.length_nil];done)|(simp only[go_sem,fN,seval,eT,iR,e0,e1,e5,e9,e10,s5,s12,s600,sT,AF,AU,hTB,List.length_append,List.length_cons,List.length_nil];first|rfl|(congr 3;done)|exact Gh|(simp[Ag];done))
  ·rw[if_neg hem]at hpart;rw[Bool.not_eq_true]at hem;rw[hem]at cO;repeat' first|refine Gf (F17 e0 e1 e5 e9 e10 s5 s600 sT hkl' ho @Ag.eq_1 hlR0 hlL hlT @AF @AU hTB) ?_|refine Mm fun K hK=>?_|refine Cg _ (cO) ?_
   refine AE ⟨R.length-(k+1),by omega,k+1,left,todo++[o],by omega,rfl,hpart,by omega,by simp only[List.length_append,List.length_cons,List.length_nil];omega,?_⟩;repeat' refine And.intro ?_ ?_
   all_goals first|(intro j hj j1;have hj2:=hS1 j hj j1;have k1:=Cp j1;simp only[go_sem,fN,seval,eT,iR,AF,hj,hj2,k1];done)|(simp only[go_sem,fN,seval,eT,iR,e0,e1,e5,e9,e10,s5,s12,s600,sT,AF,AU,hTB,List.length_append,List.length_cons,List.length_nil];done)|(simp only[go_sem,fN,seval,eT,iR,e0,e1,e5,e9,e10,s5,s12,s600,sT,AF,AU,hTB,List.length_append,List.length_cons,List.length_nil];first|rfl|(congr 3;done)|(rw[List.map_append];rfl)|(simp[Ag];done))
 have hkl':¬(k:Int)<R.length:=by omega
 refine Gf (F16 e0 e1 e5 e9 e10 s5 s600 sT hkl' @Ag.eq_1 hlR0 hlL hlT @AF @AU hTB) ?_;rw[List.drop_of_length_le (by omega),JC]at hpart;simp only[Option.some.injEq,Prod.mk.injEq]at hpart;obtain⟨rfl,rfl⟩:=hpart;refine⟨fun g40=>?_,fun g40=>?_⟩
 ·have g40':40<left.length+1:=by omega
  rw[if_pos g40']at hp;cases hp;refine Gf (F3 @AF @AU hTB) ?_;refine TH hS hTB trivial (by decide) ?_ ?_ ?_ ?_ fun j hj j1=>?_
  ·simp only[go_sem,fN,seval,eT,iR]
  ·simp only[go_sem,fN,seval,eT,iR]
  ·simp only[go_sem,fN,seval,eT,iR]
  ·simp only[go_sem,fN,seval,eT,iR,AF,AU,hTB,sT]
  ·have hj2:=hS1 j hj j1;have k1:=Cp j1;simp only[go_sem,fN,seval,eT,iR,AF,AU,hj,k1,hj2]
 have g40':¬40<left.length+1:=by omega
 rw[if_neg g40']at hp;split at hp
 ·cases hp
 rename_i R2 e2 hn;refine Gf (F4 hlL @AF @AU hTB) ?_;obtain⟨n1,hn1⟩:∃n1,left.length+1=n1:=⟨_,rfl⟩
 have hl1:(left++[r]).length=n1:=by simp[hn1]
 rw[hn1];rw[hn1]at hn;refine IWP.loopD [12] (fun z s=>∃k Rc,k≤n1∧z=n1-k∧LP (n1-k) k Rc=some (R2,e2)∧Rc.length=n1∧s.env 0=.one (.row 600 n1)∧s.env 1=.one (.row TB todo.length)∧s.env 5=.one (.ptr 5 1 0 0)∧s.env 11=AO k∧s.S 5=some (Et r)∧s.S 12=none∧s.S 600=some (A_ Rc)∧s.S TB=some (Bo todo)∧∀j,1000≤j→j≠TB→s.S j=S j) n1
  ⟨0,left++[r],Nat.zero_le _,rfl,hn,hl1,by simp only[go_sem,fN,seval,eT,iR],by simp only[go_sem,fN,seval,eT,iR,e1],by simp only[go_sem,fN,seval,eT,iR,e5],rfl,by simp only[go_sem,fN,seval,eT,iR,s5,AU],by simp only[go_sem,fN,seval,eT,iR,s12,AU],by(simp only[go_sem,fN,seval,eT,iR,AU];exact Gh),by simp only[go_sem,fN,seval,eT,iR,AF,hTB,sT],fun j hj j1=>by(have hj2:=hS1 j hj j1;have k1:=Cp j1;simp only[go_sem,fN,seval,eT,iR,AF,hj,k1,hj2])⟩ ?_
 clear e0 e1 e5 e9 e10 s5 s12 s600 sT hS1 hn;rintro z ⟨env,S2⟩ ⟨k,Rc,hk,rfl,hn,hRl,e0,e1,e5,e11,s5,s12,s600,sT,hS2⟩;simp only at e0 e1 e5 e11 s5 s12 s600 sT hS2;have hlR:(Rc.map Ag).length=n1:=by rw[List.length_map];exact hRl
 by_cases hkl:k<n1
 ·have hkl':(k:Int)<n1:=by omega
  obtain⟨m,hm⟩:∃m,n1-k=m+1:=⟨n1-k-1,by omega⟩
  obtain⟨q,hq⟩:=Aa (show k<Rc.length by omega);rw[hm,LP,hq]at hn;split at hn
  ·cases hn
  rename_i hgc;simp only at hn;have hgc:Bc Rc=0:=by omega
  have hRc:=Cu hgc;have kq:=Tm.may_chk (hRc.right q (AN hq));have hcon:=fun(T:AA) (hT:T 600=some (A_ Rc))=>AAE hRc q.2 kq.1 (by omega) 100 (by decide) (up1 600) (Ap _) (upS T) (by rw[Ax,hT];rfl);rw[hRl]at hcon;have hyz:=Dz (step:=Tm.inn Rc) 100 0 q.2 2000 (by omega) (by omega);unfold L0 at hcon;generalize CM (Tm.inn Rc) 100 0 q.2=Y at *;obtain⟨y,yn,ye⟩:=Y;simp only at hn hcon hyz;repeat' first|refine Gf (F15 e0 e1 e5 e11 s5 s12 s600 sT hkl' hq @Ag.eq_1 hlR @AF @AU hTB) ?_|refine Mm fun K hK=>?_
  refine⟨_,[(600,A_ Rc)],BC (by simp only[go_sem,fN,seval,eT,iR,s600]),fun T hT=>hcon T (hT (600,A_ Rc) (by simp)),?_⟩;by_cases hye:ye=0
  case neg =>
   rw[if_pos hye]at hn;simp only[Option.some.injEq,Prod.mk.injEq]at hn;obtain⟨rfl,rfl⟩:=hn;rw[if_pos hye]at hp;cases hp;refine Gf (F16 e0 e1 e5 e11 s5 s12 s600 sT hkl' hq @Ag.eq_1 hlR @AF @AU hTB hye) ?_;refine TH hS hTB trivial hye ?_ ?_ ?_ ?_ fun j hj j1=>?_
   ·simp only[go_sem,fN,seval,eT,iR]
   ·simp only[go_sem,fN,seval,eT,iR]
   ·simp only[go_sem,fN,seval,eT,iR]
   ·simp only[go_sem,fN,seval,eT,iR,AF,hTB,sT]
   ·have hj2:=hS2 j hj j1;have k1:=Cp j1;simp only[go_sem,fN,seval,eT,iR,AF,AU,hj,k1,hj2]
  case pos =>
  subst hye;rw[if_neg (by simp)]at hn;have hys:=GC y 200 (by omega) (by omega);by_cases hy2:200<y.size
  ·have hy2':(200:Int)<BB y.size 200:=by unfold BB;split <;> omega
   rw[if_pos hy2]at hn;simp only[Option.some.injEq,Prod.mk.injEq]at hn;obtain⟨rfl,rfl⟩:=hn;rw[if_pos (by decide)]at hp;cases hp;repeat' first|refine Gf (F16 e0 e1 e5 e11 s5 s12 s600 sT hkl' hq @Ag.eq_1 hlR @AF @AU hTB hy2') ?_|refine Mm fun K hK=>?_|refine Cg _ (hys) ?_
   refine TH hS hTB trivial (by decide) ?_ ?_ ?_ ?_ fun j hj j1=>?_
   ·simp only[go_sem,fN,seval,eT,iR]
   ·simp only[go_sem,fN,seval,eT,iR]
   ·simp only[go_sem,fN,seval,eT,iR]
   ·simp only[go_sem,fN,seval,eT,iR,AF,hTB,sT]
   ·have hj2:=hS2 j hj j1;have k1:=Cp j1;simp only[go_sem,fN,seval,eT,iR,AF,AU,hj,k1,hj2]
  have hy2':¬(200:Int)<BB y.size 200:=by unfold BB;split <;> omega
  rw[if_neg hy2]at hn;repeat' first|refine Gf (F16 e0 e1 e5 e11 s5 s12 s600 sT hkl' hq @Ag.eq_1 hlR @AF @AU hTB hy2') ?_|refine Mm fun K hK=>?_|refine Cg _ (hys) ?_
  refine AE ⟨n1-(k+1),by omega,k+1,Rc.set k (q.1,y),by omega,rfl,by rw[show n1-(k+1)=m by omega];exact hn,by rw[List.length_set];exact hRl,?_⟩;repeat' refine And.intro ?_ ?_
  all_goals first|(intro j hj j1;refine BX hS (by decide) hj ?_;have hj2:=hS2 j hj j1;have k1:=Cp j1;simp only[go_sem,fN,seval,eT,iR,AF,hj,hj2,k1];done)|(simp only[go_sem,fN,seval,AS.drop,AT,AC.clears,AC.clear,AC.highs,AC.high,zD,AV.purge,AV.purges,AC.purge,AJ.purge,Nat.reduceBEq,eT,iR,e0,e1,e5,e11,s5,s12,s600,sT,BD,hTB,AF,AU,hlR];done)|(simp only[go_sem,fN,seval,AS.drop,AT,AC.clears,AC.clear,AC.highs,AC.high,zD,AV.purge,AV.purges,AC.purge,AJ.purge,Nat.reduceBEq,eT,iR,e0,e1,e5,e11,s5,s12,s600,sT,BD,hTB,AF,AU,hlR];first|rfl|(congr 3;done)|exact PN hq)
 have hkl':¬(k:Int)<n1:=by omega
 rw[show n1-k=0 by omega,LP]at hn;simp only[Option.some.injEq,Prod.mk.injEq]at hn;obtain⟨rfl,rfl⟩:=hn;rw[if_neg (by simp)]at hp;split at hp
 ·cases hp
 rename_i r2 hr2;split at hp
 ·cases hp
 rename_i hgood2;have hg2':Bc Rc=0:=by omega
 have hR2:=Cu hg2';have hr2':Rc[n1-1]?=some r2:=by rw[←hRl,←List.getLast?_eq_getElem?];exact hr2
 split at hp
 ·cases hp
 rename_i todo2 e3' hcr;have n40:n1≤40:=by have:=hR2.len;omega
 have hn10:n1-1<Rc.length:=by omega
 refine IWP.ghost ((AY.share (id:=600) s600).trans (AY.settle (C:=C) 0 (v:=Be Rc) ?_)) ?_
 ·simp only[go_sem,fN,seval,eT,iR,e0,hlR]
 refine Gf (F14 e0 e1 e5 e11 s5 s12 sT hkl' @Ag.eq_1 hRl hlR @AF @AU hTB) ?_;have hi0:((n1:Int)-1).toNat=n1-1:=by omega
 have hi1:(0:Int)≤(n1:Int)-1:=by omega
 refine IWP.loop (fun z s=>∃k td,k≤n1∧z=n1-k∧GA f r2 (Rc.drop k) td=some (todo2,e3')∧td.length≤todo.length+400*k∧s.env 0=Be Rc∧s.env 1=.one (.row TB td.length)∧s.env 15=AO ((n1:Int)-1)∧s.env 16=AO k∧s.S TB=some (Bo td)∧∀j,1000≤j→j≠TB→s.S j=S j) n1
  ⟨0,todo,Nat.zero_le _,rfl,hcr,by omega,by simp only[go_sem,fN,seval,eT,iR],by simp only[go_sem,fN,seval,eT,iR,e1],by simp only[go_sem,fN,seval,eT,iR,hRl,hlR],rfl,by simp only[go_sem,fN,seval,eT,iR,AF,hTB,sT],fun j hj j1=>by(have hj2:=hS2 j hj j1;have k1:=Cp j1;simp only[go_sem,fN,seval,eT,iR,AF,hj,k1,hj2])⟩ ?_
 clear e0 e1 e5 e11 s5 s12 s600 sT hS2 hcr;rintro z ⟨env,S3⟩ ⟨k,td,hk,rfl,hcr,htd,e0,e1,e15,e16,sT,hS3⟩;simp only at e0 e1 e15 e16 sT hS3;have hlT:(td.map Ag).length=td.length:=List.length_map _;by_cases hkl:k<n1
 ·have hkl':(k:Int)≤(n1:Int)-1:=by omega
  obtain⟨o,ho⟩:=Aa (show k<Rc.length by omega);rw[A5 ho,GA]at hcr;have mo:=AN ho;have mr:=AN hr2';have hemp:(Rc.drop (k+1)).isEmpty=decide ((k:Int)=(n1:Int)-1):=by
   rw[Bool.eq_iff_iff,List.isEmpty_iff,List.drop_eq_nil_iff,decide_eq_true_eq];omega
  rw[hemp]at hcr;have hdd:decide ((k:Int)=(n1:Int)-1)=decide (k=n1-1):=decide_eq_decide.2 (by omega);have cB1:=NH (hR2.left o mo) (hR2.right o mo) (hR2.left r2 mr) (hR2.right r2 mr) (decide ((k:Int)=(n1:Int)-1));have hs1:=R8 hR2 (i:=k) (j:=n1-1) (by omega) hn10;rw[KI ho hr2',KI ho hr2',←hdd]at hs1;rw[hs1]at cB1;have cB2:=NH (hR2.left r2 mr) (hR2.right r2 mr) (hR2.left o mo) (hR2.right o mo) false;split at hcr
  ·cases hcr
  ·rename_i hc1;cases hcr;rw[Ca hc1]at cB1;unfold crV at cB1;rw[if_pos (by decide)]at hp;cases hp;repeat' first|refine Gf (F16 e0 e1 e15 e16 sT hkl' hi0 hi1 ho hr2' @Ag.eq_1 hlR hlT @AF @AU hTB) ?_|refine Mm fun K hK=>?_|refine Cg _ (cB1) ?_
   refine TH hS hTB trivial (by decide) ?_ ?_ ?_ ?_ fun j hj j1=>?_
   ·simp only[go_sem,fN,seval,eT,iR]
   ·simp only[go_sem,fN,seval,eT,iR]
   ·simp only[go_sem,fN,seval,eT,iR]
   ·simp only[go_sem,fN,seval,eT,iR,AF,hTB,sT]
   ·have hj2:=hS3 j hj j1;have k1:=Cp j1;simp only[go_sem,fN,seval,eT,iR,AF,AU,hj,k1,hj2]
  ·rename_i l hc1;have hll:=HQ (hR2.left o mo) (hR2.right o mo) (hR2.left r2 mr) (hR2.right r2 mr) (Ca hc1);rw[Ca hc1]at cB1;unfold crV at cB1;by_cases hlast:(k:Int)=(n1:Int)-1
   ·rw[if_pos (by simpa using hlast)]at hcr;cases hcr;have hd:decide ((k:Int)=(n1:Int)-1)=true:=by simpa using hlast
    rw[hd]at cB1;have hnl:¬(k:Int)<(n1:Int)-1:=by omega
    repeat' first|refine Gf (F18 e0 e1 e15 e16 sT hkl' hi0 hi1 ho hr2' @Ag.eq_1 hlR hlT @AF @AU hTB hd hnl) ?_|refine Mm fun K hK=>?_|refine Cg _ (cB1) ?_
    refine AE ⟨n1-(k+1),by omega,k+1,td++l,by omega,rfl,?_,?_,?_⟩
    ·rw[List.drop_of_length_le (by omega)];rfl
    ·rw[List.length_append];omega
    repeat' refine And.intro ?_ ?_
    all_goals first|(intro j hj j1;have hj2:=hS3 j hj j1;have k1:=Cp j1;simp only[go_sem,fN,seval,eT,iR,AF,hj,hj2,k1];done)|(simp only[go_sem,fN,seval,eT,iR,e0,e1,e15,e16,sT,AF,AU,hTB,hlT,List.length_append];done)|(simp only[go_sem,fN,seval,eT,iR,e0,e1,e15,e16,sT,AF,AU,hTB,hlT,List.length_append];first|rfl|(congr 3;done)|(rw[←List.map_append];done)|(simp[Ag];done))
   ·have hd:decide ((k:Int)=(n1:Int)-1)=false:=by simpa using hlast
    have hnl:(k:Int)<(n1:Int)-1:=by omega
    rw[hd]at cB1;rw[hd]at hcr;rw[if_neg (by simp)]at hcr;have hs2:=R8 hR2 (i:=n1-1) (j:=k) hn10 (by omega);rw[KI hr2' ho,KI hr2' ho,show decide (n1-1=k)=false from decide_eq_false (by omega)]at hs2;rw[hs2]at cB2;split at hcr
    ·cases hcr
    ·rename_i hc2;cases hcr;rw[Ca hc2]at cB2;unfold crV at cB2;rw[if_pos (by decide)]at hp;cases hp;repeat' first|refine Gf (F18 e0 e1 e15 e16 sT hkl' hi0 hi1 ho hr2' @Ag.eq_1 hlR hlT @AF @AU hTB hd hnl) ?_|refine Mm fun K hK=>?_|refine Cg _ (cB1) ?_|refine Cg _ (cB2) ?_
     refine TH hS hTB trivial (by decide) ?_ ?_ ?_ ?_ fun j hj j1=>?_
     ·simp only[go_sem,fN,seval,eT,iR]
     ·simp only[go_sem,fN,seval,eT,iR]
     ·simp only[go_sem,fN,seval,eT,iR]
     ·simp only[go_sem,fN,seval,eT,iR,AF,hTB,sT];rw[←List.map_append]
     ·have hj2:=hS3 j hj j1;have k1:=Cp j1;simp only[go_sem,fN,seval,eT,iR,AF,AU,hj,k1,hj2]
    ·rename_i l' hc2;have hll2:=HQ (hR2.left r2 mr) (hR2.right r2 mr) (hR2.left o mo) (hR2.right o mo) (Ca hc2);rw[Ca hc2]at cB2;unfold crV at cB2;repeat' first|refine Gf (F18 e0 e1 e15 e16 sT hkl' hi0 hi1 ho hr2' @Ag.eq_1 hlR hlT @AF @AU hTB hd hnl) ?_|refine Mm fun K hK=>?_|refine Cg _ (cB1) ?_|refine Cg _ (cB2) ?_
     refine AE ⟨n1-(k+1),by omega,k+1,td++l++l',by omega,rfl,hcr,?_,?_⟩
     ·simp only[List.length_append];omega
     repeat' refine And.intro ?_ ?_
     all_goals first|(intro j hj j1;have hj2:=hS3 j hj j1;have k1:=Cp j1;simp only[go_sem,fN,seval,eT,iR,AF,hj,hj2,k1];done)|(simp only[go_sem,fN,seval,eT,iR,e0,e1,e15,e16,sT,AF,AU,hTB,hlT,List.length_append];done)|(simp only[go_sem,fN,seval,eT,iR,e0,e1,e15,e16,sT,AF,AU,hTB,hlT,List.length_append];first|rfl|(congr 3;done)|(rw[List.map_append,List.map_append];done)|(simp[Ag];done))
 have hkl':¬(k:Int)≤(n1:Int)-1:=by omega
 rw[List.drop_of_length_le (by omega),GA]at hcr;simp only[Option.some.injEq,Prod.mk.injEq]at hcr;obtain⟨rfl,rfl⟩:=hcr;rw[if_neg (by simp)]at hp;by_cases h400:400<td.length
 ·rw[if_pos h400]at hp;have h400':(400:Int)<td.length:=by omega
  cases hp;refine Gf (F11 e0 e1 e15 e16 sT hkl' h400' hlT @AF @AU hTB) ?_;refine TH hS hTB trivial (by decide) ?_ ?_ ?_ ?_ fun j hj j1=>?_
  ·simp only[go_sem,fN,seval,eT,iR]
  ·simp only[go_sem,fN,seval,eT,iR]
  ·simp only[go_sem,fN,seval,eT,iR]
  ·simp only[go_sem,fN,seval,eT,iR,AF,hTB,sT]
  ·exact hS3 j hj j1
 rw[if_neg h400]at hp;have h400':¬(400:Int)<td.length:=by omega
 cases hp;refine Gf (F11 e0 e1 e15 e16 sT hkl' h400' hlT @AF @AU hTB) ?_;refine ABu hS hTB trivial ?_ ?_ ?_ ?_ fun j hj j1=>?_
 ·simp only[go_sem,fN,seval,eT,iR]
 ·simp only[go_sem,fN,seval,eT,iR]
 ·simp only[go_sem,fN,seval,eT,iR]
 ·simp only[go_sem,fN,seval,eT,iR,AF,hTB,sT]
 ·exact hS3 j hj j1

def PR:IR :=
 (.seq (.ops [.i 4 (.mov (.n 0))]) (.seq (.seq (.ops [.i 5 (.mov (.n 0))]) (.block 0 (.loop (.seq (.seq (.ops [.m 6 5,.m 7 0,.i 8 (.len false (.t 7)),.i 9 (.bin .lss (.t 6) (.t 8))]) (.cond (.t 9) .skip (.exit 0))) (.seq (.block 1 (.seq (.ops [.m 12 0,.m 13 5,.i 14 (.indexAddr 1 (.t 12) (.t 13)),.l 15 14,.m 16 1,.i 17 (.bin .eql (.t 15) (.t 16))]) (.cond (.t 17) (.seq (.ops [.m 18 5,.m 4 18]) .ret) .skip))) (.ops [.m 10 5,.i 11 (.bin .add (.t 10) (.n 1)),.m 5 11])))))) (.seq (.ops [.i 4 (.mov (.c (.one (.st (.int .i64 (-1))))))]) .ret)))
theorem Xk:OkF Tryz.prog 121 19 [] PR [.t 4]:=.of Tryz.func121 rfl rfl (by kernel_rfl) rfl
def Eg:IR :=
 (.seq (.ops [.i 4 (.box 37 (.t 1)),.i 5 (.box 37 (.t 2)),.i 6 (.mov (.c (.one (.st (.bool false)))))]) (.seq (.ops [.m 9 0,.f 10 0 4,.l 11 10,.i 12 (.call 121 [.t 9,.t 11]),.m 7 12]) (.seq (.ops [.m 13 0,.f 14 0 5,.l 15 14,.i 16 (.call 121 [.t 13,.t 15]),.m 8 16]) (.seq (.seq (.ops [.m 17 7,.m 18 8,.i 19 (.bin .neq (.t 17) (.t 18))]) (.cond (.t 19) (.seq (.ops [.m 20 7,.m 21 8,.i 22 (.bin .gtr (.t 20) (.t 21)),.m 6 22]) .ret) .skip)) (.seq (.seq (.ops [.f 23 0 4,.l 24 23,.f 25 0 5,.l 26 25,.i 27 (.bin .neq (.t 24) (.t 26))]) (.cond (.t 27) (.seq (.ops [.f 28 0 4,.l 29 28,.f 30 0 5,.l 31 30,.i 32 (.bin .gtr (.t 29) (.t 31)),.m 6 32]) .ret) .skip)) (.seq (.ops [.f 33 1 4,.l 34 33,.i 35 (.len false (.t 34)),.f 36 1 5,.l 37 36,.i 38 (.len false (.t 37)),.i 39 (.bin .gtr (.t 35) (.t 38)),.m 6 39]) .ret))))))
theorem GT:OkF Tryz.prog 93 40 [] Eg [.t 6]:=.of Tryz.func93 rfl rfl (by kernel_rfl) rfl
def Li:IR :=
 (.seq (.ops [.i 2 (.mov (.n 0))]) (.seq (.seq (.ops [.m 4 0,.i 5 (.len false (.t 4)),.i 6 (.bin .gtr (.t 5) (.n 40))]) (.cond (.t 6) (.seq (.ops [.i 2 (.mov (.n 3))]) .ret) .skip)) (.seq (.seq (.ops [.i 3 (.mov (.n 0))]) (.block 0 (.loop (.seq (.seq (.ops [.m 7 3,.m 8 0,.i 9 (.len false (.t 8)),.i 10 (.bin .lss (.t 7) (.t 9))]) (.cond (.t 10) .skip (.exit 0))) (.seq (.block 1 (.seq (.seq (.ops [.m 13 0,.m 14 3,.i 15 (.indexAddr 1 (.t 13) (.t 14)),.l 16 15,.i 17 (.call 49 [.t 16]),.i 18 (.un .not (.t 17)),.m 19 18,.mk (some 20) (some (19,false)) (.mov (.t 0)) .no,.mk (some 21) (some (19,false)) (.mov (.t 3)) .no,.mk (some 22) (some (19,false)) (.indexAddr 1 (.t 20) (.t 21)) .no,.mk (some 23) (some (19,false)) (.load false 1 (.t 22)) .no,.mk (some 24) (some (19,false)) (.call 50 [.t 23]) .no,.i 25 (.pick (.t 19) (.c (.one (.st (.bool true)))) (.t 24))]) (.cond (.t 25) (.seq (.ops [.i 2 (.mov (.n 1))]) .ret) .skip)) (.seq (.ops [.m 26 0,.m 27 3,.i 28 (.indexAddr 1 (.t 26) (.t 27)),.l 29 28,.m 30 0,.m 31 3,.i 32 (.sliceL 1 (.t 30) none (some (.t 31))),.i 33 (.call 51 [.t 29,.t 32])]) (.cond (.t 33) (.seq (.ops [.i 2 (.mov (.n 4))]) .ret) .skip)))) (.ops [.m 11 3,.i 12 (.bin .add (.t 11) (.n 1)),.m 3 12])))))) (.seq (.ops [.i 2 (.mov (.n 0))]) .ret))))
theorem RS:OkF Tryz.prog 24 34 [] Li [.t 2]:=.of Tryz.func24 rfl rfl (by kernel_rfl) rfl
def PO:IR :=
 (.seq (.ops [.i 1 (.box 37 (.t 0)),.i 2 (.mov (.c (.one (.full []))))]) (.seq (.ops [.L 6 2 1,.i 7 (.call 57 [.t 6]),.m 3 7]) (.seq (.ops [.i 4 (.mov (.c (.one (.full []))))]) (.seq (.seq (.ops [.i 5 (.mov (.n 0))]) (.block 0 (.loop (.seq (.seq (.ops [.m 8 5,.m 9 3,.i 10 (.len false (.t 9)),.i 11 (.bin .lss (.t 8) (.t 10))]) (.cond (.t 11) .skip (.exit 0))) (.seq (.block 1 (.ops [.m 14 4,.m 15 5,.m 16 3,.m 17 5,.i 18 (.indexAddr 2 (.t 16) (.t 17)),.L 19 2 18,.i 20 (.call 57 [.t 19]),.i 21 (.len false (.t 20)),.i 22 (.bin .add (.t 15) (.t 21)),.i 23 (.buildFlat [.t 22]),.i 24 (.append false 3 1 8 (.t 14) (.t 23)),.m 4 24])) (.ops [.m 12 5,.i 13 (.bin .add (.t 12) (.n 1)),.m 5 13])))))) (.seq (.ops [.m 25 4,.m 2 25]) .ret)))))
theorem XT:OkF Tryz.prog 58 26 [] PO [.t 2]:=.of Tryz.func58 rfl rfl (by kernel_rfl) rfl
def IJ:IR :=
 (.seq (.ops [.i 16 (.mov (.c (.one (.st (.bool false)))))]) (.seq (.ops [.m 23 1,.m 24 6,.i 25 (.indexAddr 2 (.t 23) (.t 24)),.L 26 2 25,.i 17 (.alloc 37 [.st (.str (ByteArray.mk (#[]))),.full []]),.s 2 17 26]) (.seq (.ops [.m 27 2,.m 28 7,.i 29 (.indexAddr 2 (.t 27) (.t 28)),.L 30 2 29,.i 18 (.alloc 37 [.st (.str (ByteArray.mk (#[]))),.full []]),.s 2 18 30]) (.seq (.seq (.ops [.f 31 0 17,.l 32 31,.i 33 (.call 50 [.t 32])]) (.cond (.t 33) (.seq (.ops [.i 16 (.mov (.c (.one (.st (.bool false)))))]) .ret) .skip)) (.seq (.seq (.ops [.m 34 6,.i 35 (.bin .add (.t 34) (.n 1)),.m 19 35]) (.block 0 (.loop (.seq (.seq (.ops [.m 36 19,.m 37 3,.m 38 6,.i 39 (.indexAddr 1 (.t 37) (.t 38)),.l 40 39,.i 41 (.bin .lss (.t 36) (.t 40))]) (.cond (.t 41) .skip (.exit 0))) (.seq (.block 1 (.seq (.ops [.m 46 1,.m 47 19,.i 48 (.indexAddr 2 (.t 46) (.t 47)),.L 49 2 48,.L 50 2 18,.i 51 (.call 19 [.t 49,.t 50]),.m 52 51,.mk (some 53) (some (52,false)) (.mov (.t 5)) .no,.mk (some 54) (some (52,false)) (.mov (.t 19)) .no,.mk (some 55) (some (52,false)) (.indexAddr 1 (.t 53) (.t 54)) .no,.mk (some 56) (some (52,false)) (.load false 1 (.t 55)) .no,.mk (some 57) (some (52,false)) (.mov (.t 7)) .no,.mk (some 58) (some (52,false)) (.indexAddr 1 (.t 56) (.t 57)) .no,.mk (some 59) (some (52,false)) (.load false 1 (.t 58)) .no,.i 60 (.pick (.t 52) (.c (.one (.st (.bool true)))) (.t 59))]) (.cond (.t 60) (.seq (.ops [.i 16 (.mov (.c (.one (.st (.bool true)))))]) .ret) .skip))) (.ops [.m 42 3,.m 43 19,.i 44 (.indexAddr 1 (.t 42) (.t 43)),.l 45 44,.m 19 45])))))) (.seq (.seq (.ops [.f 61 0 18,.l 62 61,.i 63 (.call 50 [.t 62]),.m 64 63,.mk (some 65) (some (64,false)) (.mov (.t 0)) .no,.mk (some 66) (some (64,false)) (.load true 2 (.t 18)) .no,.mk (some 67) (some (64,false)) (.load true 2 (.t 17)) .no,.mk (some 68) (some (64,false)) (.call 93 [.t 65,.t 66,.t 67]) .no,.i 69 (.pick (.t 64) (.c (.one (.st (.bool true)))) (.t 68))]) (.cond (.t 69) (.seq (.ops [.i 16 (.mov (.c (.one (.st (.bool false)))))]) .ret) .skip)) (.seq (.seq (.ops [.m 70 7,.i 71 (.bin .add (.t 70) (.n 1)),.m 20 71]) (.block 2 (.loop (.seq (.seq (.ops [.m 72 20,.m 73 4,.m 74 7,.i 75 (.indexAddr 1 (.t 73) (.t 74)),.l 76 75,.i 77 (.bin .lss (.t 72) (.t 76))]) (.cond (.t 77) .skip (.exit 2))) (.seq (.block 3 (.seq (.ops [.m 82 5,.m 83 6,.i 84 (.indexAddr 1 (.t 82) (.t 83)),.l 85 84,.m 86 20,.i 87 (.indexAddr 1 (.t 85) (.t 86)),.l 88 87,.i 89 (.un .not (.t 88))]) (.cond (.t 89) (.seq (.ops [.i 16 (.mov (.c (.one (.st (.bool false)))))]) .ret) .skip))) (.ops [.m 78 4,.m 79 20,.i 80 (.indexAddr 1 (.t 78) (.t 79)),.l 81 80,.m 20 81])))))) (.seq (.seq (.ops [.m 90 0,.L 91 2 17,.L 92 2 18,.i 93 (.call 93 [.t 90,.t 91,.t 92])]) (.cond (.t 93) (.seq (.ops [.i 16 (.mov (.c (.one (.st (.bool true)))))]) .ret) .skip)) (.seq (.ops [.m 94 7,.i 95 (.bin .add (.t 94) (.n 1)),.m 21 95]) (.seq (.seq (.ops [.m 96 6,.i 97 (.bin .add (.t 96) (.n 1)),.m 22 97]) (.block 4 (.loop (.seq (.seq (.ops [.m 98 22,.m 99 3,.m 100 6,.i 101 (.indexAddr 1 (.t 99) (.t 100)),.l 102 101,.i 103 (.bin .lss (.t 98) (.t 102))]) (.cond (.t 103) .skip (.exit 4))) (.seq (.block 5 (.seq (.seq (.ops [.m 108 1,.m 109 22,.i 110 (.indexAddr 2 (.t 108) (.t 109)),.L 111 2 110,.m 112 2,.m 113 21,.i 114 (.indexAddr 2 (.t 112) (.t 113)),.L 115 2 114,.i 116 (.call 19 [.t 111,.t 115]),.i 117 (.un .not (.t 116))]) (.cond (.t 117) (.seq (.ops [.m 118 5,.m 119 22,.i 120 (.indexAddr 1 (.t 118) (.t 119)),.l 121 120,.m 122 21,.i 123 (.indexAddr 1 (.t 121) (.t 122)),.l 124 123,.m 16 124]) .ret) .skip)) (.ops [.m 125 4,.m 126 21,.i 127 (.indexAddr 1 (.t 125) (.t 126)),.l 128 127,.m 21 128]))) (.ops [.m 104 3,.m 105 22,.i 106 (.indexAddr 1 (.t 104) (.t 105)),.l 107 106,.m 22 107])))))) (.seq (.ops [.i 16 (.mov (.c (.one (.st (.bool false)))))]) .ret)))))))))))
theorem ON:OkF Tryz.prog 59 129 [] IJ [.t 16]:=.of Tryz.func59 rfl rfl (by kernel_rfl) rfl
def Lf:IR :=
 (.seq (.ops [.i 4 (.box 37 (.t 1)),.i 5 (.box 37 (.t 2)),.i 6 (.mov (.c (.one (.st (.bool false)))))]) (.seq (.ops [.L 14 2 4,.i 15 (.call 57 [.t 14]),.m 7 15]) (.seq (.ops [.L 16 2 5,.i 17 (.call 57 [.t 16]),.m 8 17]) (.seq (.ops [.L 18 2 4,.i 19 (.call 58 [.t 18]),.m 9 19]) (.seq (.ops [.L 20 2 5,.i 21 (.call 58 [.t 20]),.m 10 21]) (.seq (.ops [.m 22 7,.i 23 (.len false (.t 22)),.i 24 (.makeSlice 96 1 24 [.list []] (.t 23) (.t 23)),.m 11 24]) (.seq (.seq (.ops [.m 25 7,.i 26 (.len false (.t 25)),.i 27 (.bin .sub (.t 26) (.n 1)),.m 12 27]) (.block 0 (.loop (.seq (.seq (.ops [.m 28 12,.i 29 (.bin .geq (.t 28) (.n 0))]) (.cond (.t 29) .skip (.exit 0))) (.seq (.block 1 (.seq (.ops [.m 32 11,.m 33 12,.m 34 8,.i 35 (.len false (.t 34)),.i 36 (.makeSlice 4 1 1 [.bool false] (.t 35) (.t 35)),.i 37 (.indexAddr 1 (.t 32) (.t 33)),.s 1 37 36]) (.seq (.ops [.m 38 8,.i 39 (.len false (.t 38)),.i 40 (.bin .sub (.t 39) (.n 1)),.m 13 40]) (.block 2 (.loop (.seq (.seq (.ops [.m 41 13,.i 42 (.bin .geq (.t 41) (.n 0))]) (.cond (.t 42) .skip (.exit 2))) (.seq (.block 3 (.ops [.m 45 11,.m 46 12,.i 47 (.indexAddr 1 (.t 45) (.t 46)),.l 48 47,.m 49 13,.m 50 0,.m 51 7,.m 52 8,.m 53 9,.m 54 10,.m 55 11,.m 56 12,.m 57 13,.i 58 (.callR 59 [.t 50,.t 51,.t 52,.t 53,.t 54,.t 55,.t 56,.t 57]),.i 59 (.indexAddr 1 (.t 48) (.t 49)),.s 1 59 58])) (.ops [.m 43 13,.i 44 (.bin .sub (.t 43) (.n 1)),.m 13 44])))))))) (.ops [.m 30 12,.i 31 (.bin .sub (.t 30) (.n 1)),.m 12 31])))))) (.seq (.ops [.m 60 11,.i 61 (.indexAddr 1 (.t 60) (.n 0)),.l 62 61,.i 63 (.indexAddr 1 (.t 62) (.n 0)),.l 64 63,.m 6 64]) .ret))))))))
theorem TY:OkF Tryz.prog 27 65 [40000058] Lf [.t 6]:=.of Tryz.func27 rfl rfl (by kernel_rfl) rfl


theorem Hx(l:List ByteArray)(x:ByteArray):AW Tryz.prog 121 [Bn l,Bs x] (AO (B2 l x)):=by
 refine Xk.ac fun C hC=>?_;unfold PR;refine IWP.learn 0 (by omega) fun hkn=>?_;have hkn:=DT hkn;rw[List.length_map]at hkn;refine Gg ?_;refine IWP.loop (fun n s=>∃k,k≤l.length∧n=l.length-k∧B2 l x=HC (l.drop k) x k∧s.env 0=Bn l∧s.env 1=Bs x∧s.env 5=AO k) l.length ⟨0,Nat.zero_le _,rfl,rfl,rfl,rfl,rfl⟩ ?_;rintro n ⟨env,S⟩ ⟨k,hk,rfl,hr,e0,e1,e5⟩;simp only at e0 e1 e5;by_cases hlt:(k:Int)<l.length
 ·obtain⟨a,ha⟩:=Aa (show k<l.length by omega);rw[A5 ha,HC]at hr;by_cases he:a=x
  ·subst he;rw[if_pos rfl]at hr;refine Gf (F5 e0 e1 e5 hlt ha) ?_;simp only[go_sem,fN,seval,AQ,AS.result,AB,AD,AM];rw[hr]
  ·rw[if_neg he]at hr;refine Gf (F6 e0 e1 e5 hlt ha he) ?_;refine AE ⟨l.length-(k+1),by omega,k+1,by omega,rfl,by rw[hr];rfl,?_⟩;simp only[go_sem,fN,seval,eT,iR,e0,e1,e5];congr 3
 ·rw[List.drop_of_length_le (by omega),HC]at hr;refine Gf (F4 e0 e1 e5 hlt) ?_;simp only[go_sem,fN,seval,AQ,AS.result,AB,AD,AM];rw[hr]
theorem ABZ{x y:ByteArray}(h:¬x=y):(!(sLt x y||decide (x=y)))=sLt y x:=by
 rcases EC x y with h1|h1|h1
 ·rw[h1,Fw h1];rfl
 ·exact absurd h1 h
 ·rw[h1,Fw h1];simp[h]
theorem NZ(row:List ByteArray)(a b:Tm):AW Tryz.prog 93 [Bn row,aTm a,aTm b] (AZ (decide (0<Cf row a b))):=by
 have hp:=Nh (row:=row) (a:=a) (b:=b);by_cases h1:B2 row a.name=B2 row b.name
 case neg =>
  have e:decide (0<Cf row a b)=decide (B2 row b.name<B2 row a.name):=by
   rw[decide_eq_decide,hp];exact⟨fun h=>h.elim id fun h=>absurd h.1 h1,.inl⟩
  rw[e];refine GT.ac fun C hC=>?_;unfold Eg;repeat' first|refine Gf h1 ?_|refine Mm fun K hK=>?_|refine Cg _ (Hx row a.name) ?_|refine Cg _ (Hx row b.name) ?_
  simp only[go_sem,fN,seval,AQ,AS.result,AB,AD,AM]
 case pos =>
 by_cases h2:a.name=b.name
 case neg =>
  have e:decide (0<Cf row a b)=!(sLt a.name b.name||decide (a.name=b.name)):=by
   rw[ABZ h2,Bool.eq_iff_iff,decide_eq_true_eq,hp];exact⟨fun h=>h.elim (fun h=>by omega) fun h=>h.2.elim id fun h=>absurd h.1 h2,fun h=>.inr ⟨h1,.inl h⟩⟩
  rw[e];refine GT.ac fun C hC=>?_;unfold Eg;repeat' first|refine Gf (F2 h1 h2) ?_|refine Mm fun K hK=>?_|refine Cg _ (Hx row a.name) ?_|refine Cg _ (Hx row b.name) ?_
  simp only[go_sem,fN,seval,AQ,AS.result,AB,AD,AM]
 case pos =>
  have e:decide (0<Cf row a b)=decide ((b.args.length:Int)<a.args.length):=by
   rw[decide_eq_decide,hp];constructor
   ·rintro(h|⟨_,h|h⟩)
    ·omega
    ·rw[h2,BY]at h;cases h
    ·omega
   ·intro h;exact .inr ⟨h1,.inr ⟨h2,by omega⟩⟩
  rw[e];refine GT.ac fun C hC=>?_;unfold Eg;repeat' first|refine Gf (F2 h1 h2) ?_|refine Mm fun K hK=>?_|refine Cg _ (Hx row a.name) ?_|refine Cg _ (Hx row b.name) ?_
  simp only[go_sem,fN,seval,AQ,AS.result,AB,AD,AM]
theorem XO(row:List ByteArray):AW Tryz.prog 24 [Bn row] (AO (EB row)):=by
 refine RS.ac fun C hC=>?_;unfold Li;by_cases h40:40<row.length
 ·have h40':(40:Int)<row.length:=by omega
  refine Gf h40' ?_;simp only[go_sem,fN,seval,AQ,AS.result,AB,AD,AM];unfold EB;rw[if_pos h40]
 have h40':¬(40:Int)<row.length:=by omega
 have hm:EB row=ID [] row:=by unfold EB;rw[if_neg h40]
 refine Gf h40' ?_;refine IWP.loop (fun n s=>∃k,k≤row.length∧n=row.length-k∧EB row=ID (row.take k) (row.drop k)∧s.env 0=Bn row∧s.env 3=AO k) row.length ⟨0,Nat.zero_le _,rfl,by rw[hm];rfl,rfl,rfl⟩ ?_;rintro n ⟨env,S⟩ ⟨k,hk,rfl,hr,e0,e3⟩;simp only at e0 e3;by_cases hlt:(k:Int)<row.length
 ·obtain⟨a,ha⟩:=Aa (show k<row.length by omega);rw[A5 ha,ID]at hr;have htk:(row.map CV).take k=(row.take k).map CV:=(List.map_take).symm;have hw1:∀x∈row.map CV,x.length=1:=Fa;have hI:AW Tryz.prog 51 [Bs a,.one (.st (.list ((row.map CV).take k)))] (AZ (Dt a (row.take k))):=by
   rw[htk];exact AAi _ _
  cases h1:BA a with
  | false =>
   rw[if_neg (by rw[h1];simp)]at hr;repeat' first|refine Gf (F5 h1 e0 e3 hlt ha) ?_|refine Mm fun K hK=>?_|refine Cg _ (C4 a) ?_
   simp only[go_sem,fN,seval,AQ,AS.result,AB,AD,AM];rw[hr]
  | true =>
   cases h2:AP a with
   | true =>
    rw[if_neg (by rw[h2];simp)]at hr;repeat' first|refine Gf (F6 h1 h2 e0 e3 hlt ha) ?_|refine Mm fun K hK=>?_|refine Cg _ (C4 a) ?_|refine Cg _ (BN a) ?_
    simp only[go_sem,fN,seval,AQ,AS.result,AB,AD,AM];rw[hr]
   | false =>
    rw[if_pos ⟨h1,h2⟩]at hr;cases h3:Dt a (row.take k) with
    | true =>
     rw[if_pos h3]at hr;rw[h3]at hI;repeat' first|refine Gf (F6 h1 h2 e0 e3 hlt ha) ?_|refine Mm fun K hK=>?_|refine Cg _ (C4 a) ?_|refine Cg _ (BN a) ?_|refine Cg _ (hI) ?_
     simp only[go_sem,fN,seval,AQ,AS.result,AB,AD,AM];rw[hr]
    | false =>
     rw[if_neg (by rw[h3];simp),←Ab ha]at hr;rw[h3]at hI;repeat' first|refine Gf (F6 h1 h2 e0 e3 hlt ha) ?_|refine Mm fun K hK=>?_|refine Cg _ (C4 a) ?_|refine Cg _ (BN a) ?_|refine Cg _ (hI) ?_
     refine AE ⟨row.length-(k+1),by omega,k+1,by omega,rfl,hr,?_⟩;simp only[go_sem,fN,seval,eT,iR,e0,e3];congr 3
 ·rw[List.drop_of_length_le (by omega),ID]at hr;refine Gf (F3 e0 e3 hlt) ?_;simp only[go_sem,fN,seval,AQ,AS.result,AB,AD,AM];rw[hr]
def Dj(l:List Tm):List Int:=(l.zipIdx).map fun p=>((p.2+p.1.size:Nat):Int)
theorem W4(l:List Tm):(Dj l).length=l.length:=by simp[Dj]
theorem D8{l:List Tm}{i:Nat}{x:Tm}(h:l[i]?=some x):(Dj l)[i]?=some ((i+x.size:Nat):Int):=by
 simp[Dj,List.getElem?_map,List.getElem?_zipIdx,h]
theorem UQ{l:List Tm}{k:Nat}{x:Tm}(h:l[k]?=some x):(Dj l).take (k+1)=(Dj l).take k++[((k+x.size:Nat):Int)]:=Ab (D8 h)
theorem knots_size{t k:Tm}(h:k∈t.knots):k.size≤t.size:=by
 obtain⟨i,hi⟩:=List.getElem?_of_mem h;have:=MP hi;omega
theorem UZ{ts:List Int}:∀x∈ts.map HM,x.length=1:=by
 intro x hx;obtain⟨a,_,rfl⟩:=List.mem_map.1 hx;rfl
theorem Ye(t:Tm)(hz:t.size≤1000000):AW Tryz.prog 58 [aTm t] (.one (.st (.list ((Dj t.knots).map HM)))):=by
 have hkl:=Tm.knots_length t;have hKn:=Ei t hz;have hks:∀k∈t.knots,k.size≤t.size:=fun k hk=>knots_size hk;generalize t.knots=l at *;refine XT.ac fun C hC=>?_;unfold PO;repeat' first|refine Gg ?_|refine Mm fun K hK=>?_|refine Cg _ (hKn) ?_
 refine IWP.ghost (AY.own (C:=C) 4 50 3 1 (xs:=([]:List Int).map HM) rfl rfl UZ (by omega)) ?_;refine IWP.loop (fun n s=>∃k,k≤l.length∧n=l.length-k∧s.env 3=CJ l∧s.env 4=.one (.row 50 k)∧s.S 50=some (.arow 3 1 (((Dj l).take k).map HM))∧s.env 5=AO k) l.length ⟨0,Nat.zero_le _,rfl,rfl,rfl,rfl,rfl⟩ ?_;rintro n ⟨env,S⟩ ⟨k,hk,rfl,e3,e4,s50,e5⟩;simp only at e3 e4 s50 e5;have hel:=W4 l;have htl:((Dj l).take k).length=k:=by rw[List.length_take];omega
 by_cases hlt:(k:Int)<l.length
 ·obtain⟨a,ha⟩:=Aa (show k<l.length by omega);have haz:=hks a (List.mem_of_getElem? ha);have hKa:=Ei a (by omega);have hkal:=Tm.knots_length a;have hst:=UQ ha;repeat' first|refine Gf (F8 e3 e4 s50 e5 hlt ha htl hkal) ?_|refine Mm fun K hK=>?_|refine Cg _ (hKa) ?_
  refine AE ⟨l.length-(k+1),by omega,k+1,by omega,rfl,?_⟩;simp only[go_sem,fN,seval,eT,iR,e3,e4,s50,e5,htl];rw[hst];simp[hkal]
 ·have hke:k=l.length:=by omega
  rw[List.take_of_length_le (by omega)]at s50 htl;subst hke;refine Gf (F6 e3 e4 s50 e5 hlt @Nat.lt_irrefl) ?_;simp only[go_sem,fN,seval,AQ,AS.result,AB,AD,AM,e4,s50,hel]

section
variable {C:Ctx} {s:AS}
theorem AY.crow{id:Nat}{e:TypeId}{xs:List SV}(hS:s.S id=some (.mrow e 1 (xs.map ([·]))))(hne:0<xs.length):AY C s (s.set id (.crow e (xs.map .st))):=fun a w ⟨σ,ι,R⟩=>by
 have hb:=R.blk _ _ hS;generalize hys:xs.map ([·])=ys at hb hS;cases hb with
 | mnil h1 h2 =>
  have h0:(xs.map fun x=>[x]).length=0:=congrArg List.length hys;rw[List.length_map]at h0;omega
 | @mrow _ _ _ g vs h1 h2 h3 h4 h5 h6 h7 h8 h9 =>
  subst hys;rw[List.length_map]at h4;obtain⟨hu,R'⟩:=R.turn (w':=w) hS (.crow e (xs.map .st)) (ι id) (σ':=σ) (fun _ _ h=>h) (fun _ _ _=>rfl) R.fit (by simp[AJ.len]) (fun _=>⟨rfl,rfl⟩) ⟨rfl,rfl,rfl⟩ (Nat.le_refl _) (fun _ _ _=>rfl) (fun g h=>.inl h) (fun hu=>by
   refine .crow h1 h2 h3 (by rw[List.length_map];omega) h5 (An.of_get (by simp;omega) fun j v c hv hc=>?_) h9;rw[List.getElem?_map,Option.map_eq_some_iff]at hc;obtain⟨x,hx,rfl⟩:=hc;obtain⟨v',k1,k2⟩:=h8 j [x] 0 x (by rw[List.getElem?_map,hx];rfl) rfl;rw[List.getElem?_take]at hv;split at hv
   ·have e1:vs[j]?=some v:=by simpa using hv
    rw[show j*1+0=j by omega,e1]at k1;cases k1;exact .st k2
   ·cases hv)
  exact⟨_,_,R'⟩
theorem AY.calmC{id:Nat}{e:TypeId}{cs:List AC}{xs:List SV}(hS:s.S id=some (.crow e cs))(hc:stCs s.S cs=some xs):AY C s (s.set id (.crow e (xs.map .st))):=fun a w ⟨σ,ι,R⟩=>by
 have hb:=R.blk _ _ hS;cases hb with
 | @crow _ _ g vs h1 h2 h3 h4 h5 h6 h7 =>
  have hsc:=R.stCs h6 hc;have hl:xs.length=cs.length:=by
   have q1:=hsc.len;have q2:=h6.len;omega
  obtain⟨hu,R'⟩:=R.turn (w':=w) hS (.crow e (xs.map .st)) (ι id) (σ':=σ) (fun _ _ h=>h) (fun _ _ _=>rfl) R.fit (by simp[AJ.len,hl]) (fun _=>⟨rfl,rfl⟩) ⟨rfl,rfl,rfl⟩ (Nat.le_refl _) (fun _ _ _=>rfl) (fun g h=>.inl h) (fun hu=>.crow h1 h2 h3 (by rw[List.length_map,hl];exact h4) h5 (by rw[List.length_map,hl];exact(hsc.mono fun _ _ x=>At.st x).map_right) h7);exact⟨_,_,R'⟩
end

end Go.Proofs.YtbhnmjkmieiadaaGreatDoor
