/-
  Part 13 of the texts. Conditions: none.
-/
import Derived.Test.YtbhnmjkmieiadaaGreatDoorTCo12
import Derived.Defers
import Derived.Recover
import Derived.ChangeKeysEq
namespace Go.Proofs.YtbhnmjkmieiadaaGreatDoor
open Go Go.RowKit
set_option linter.unusedVariables false
set_option linter.unusedSimpArgs false
set_option maxHeartbeats 4000000
abbrev C7 (row:List ByteArray) (R:List Pr) (TB m:Nat):AK:=.box 65 [.st (.list (row.map DH)),.st (.list (R.map As)),.row TB m]
def M4 (S:AA) (G TB:Nat) (row:List ByteArray) (R T:List Pr):AA:=AG (AG S G (some (C7 row R TB T.length))) TB (some (Cw T))
theorem Rk {row:List ByteArray} {R:List Pr} {TB m:Nat} (h:1000≤TB):(C7 row R TB m).high=true:=by
 show AC.highs [.st _,.st _,.row TB m]=true
 rw [AC.highs,AC.highs,AC.highs,Gc h]
 rfl
theorem J0 {C:Ctx} {rs:List RV} {s:AS} {S:AA} {ex:AX} {G TB:Nat} {row:List ByteArray} {R T:List Pr} {e:Int} (hS:Am S) (hG:1000≤G) (hTB:1000≤TB) (hne:G ≠ TB) (he:match ex with | .normal=>True | .ret=>True | _=>False)
  (h:((AB s rs).map AL).bind (outV s.S)=some (AN e)) (h3:s.S G=some (C7 row R TB T.length)) (h3':s.S TB=some (Cw T)) (h4:∀ i,1000≤i→i ≠ G→i ≠ TB→s.S i=S i):F7 C rs (AN e) (M4 S G TB row R T) ex s:=by
 rw [Option.bind_eq_some_iff] at h
 obtain ⟨r0,h1,h2⟩:=h
 exact X8 r0 hS hG hTB (Ne.symm hne) (Rk hTB) rfl he h1 h2 h3 h3' h4
abbrev Xs (row:List ByteArray) (id n TB m:Nat):AK:=.box 65 [.st (.list (row.map DH)),.row id n,.row TB m]
theorem UA {C:Ctx} {s:AS} {G TB id m:Nat} {row:List ByteArray} {R:List Pr} (hne:G ≠ id) (h1:s.S id=some (Bs R)) (h3:s.S G=some (Xs row id R.length TB m)) :
  Aa C s ((s.set id (.arow 40 4 (R.map As))).set G (C7 row R TB m)):=by
 refine (Aa.share (id:=id) h1).trans (Aa.settleC G 1 (cs:=[.st (.list (row.map DH)),.row id R.length,.row TB m]) (c:=.row id R.length) (x:=.list (R.map As)) ?_ rfl ?_)
 ·show AG s.S id _ G=_
  rw [AF _ hne]
  exact h3
 ·show stC (AG s.S id _) (.row id R.length)=_
  simp [stC,AG]
theorem Li {C:Ctx} {s:AS} {S:AA} {ex:AX} {G TB id:Nat} {row:List ByteArray} {R T:List Pr} {e:Int} (hS:Am S) (hG:1000≤G) (hTB:1000≤TB) (hne:G ≠ TB) (hid:id < 1000) (he:match ex with | .normal=>True | .ret=>True | _=>False)
  (h:s.env 4=AN e) (h1:s.S id=some (Bs R)) (h3:s.S G=some (Xs row id R.length TB T.length)) (h3':s.S TB=some (Cw T)) (h4:∀ i,1000≤i→i ≠ G→i ≠ TB→s.S i=S i):F7 C [RV.t 4] (AN e) (M4 S G TB row R T) ex s:=by
 refine MO (UA (by omega) h1 h3) (J0 hS hG hTB hne he ?_ ?_ ?_ fun j hj j1 j2=>?_)
 ·show ((AB _ [RV.t 4]).map AL).bind _=_
  simp only [AB,AD,AS.set,h]
  rfl
 ·show AG _ G _ G=_
  rw [AE]
 ·show AG (AG s.S id _) G _ TB=_
  rw [AF _ (Ne.symm hne),AF _ (by omega)]
  exact h3'
 ·show AG (AG s.S id _) G _ j=_
  rw [AF _ j1,AF _ (by omega)]
  exact h4 j hj j1 j2
theorem LD {l:List Pr} {r:Pr}:AK.mrow 40 4 (l.map As ++ [As r])=Bs (l ++ [r]):=by
 show _=AK.mrow _ _ ((l ++ [r]).map As)
 rw [List.map_append]
 rfl
theorem Ul {l:List Pr} {k:Nat} {q:Pr} {y:Tm} (h:l[k]?=some q):AK.mrow 40 4 ((l.map As).set k [.str q.1.name,.list (q.1.args.map Ao),.str y.name,.list (y.args.map Ao)])=Bs (l.set k (q.1,y)):=by
 show _=AK.mrow _ _ ((l.set k (q.1,y)).map As)
 rw [List.map_set]
 rfl
theorem D3 {a b:Nat} (h:a ≠ b):(a=b)=False:=eq_false h
theorem MI {a b:Pr} (ha1:a.1.may=0) (ha2:a.2.may=0) (hb1:b.1.may=0) (hb2:b.2.may=0) {same:Bool} {l:List Pr} (h:VK (Ew 88 1 a) (Ew 89 1 b) same=some l):l.length≤200:=by
 have oA:=HQ (c:=88) (by decide) (by decide) (k:=1) (by omega) ha1 ha2
 have oB:=HQ (c:=89) (by decide) (by decide) (k:=1) (by omega) hb1 hb2
 have:=L_ oA.c1 oA.c2 oA.z1 oB.c1 oB.c2 oB.z1 (fun p hp=>hp) h
 rw [Tm.places_length] at this
 have:=oA.z1
 omega
theorem XC (S:AA) (G TB:Nat) (hG:1000≤G) (hTB:1000≤TB) (hne:G ≠ TB) (row:List ByteArray) (R T:List Pr) (r:Pr) (sG:S G=some (C7 row R TB T.length)) (sT:S TB=some (Cw T)) (hTl:T.length≤100000) (zr1:r.1.size≤900000) (zr2:r.2.size≤900000) (f:Nat) (R' T':List Pr) (e:Int) (hp:OD f R T r=some (R',T',e)) :
  Ah Tryz.prog 72 [.one (.ptr G 1 0 0),aPr r] S (AN e) (M4 S G TB row R' T'):=by
 refine Df.acS fun hS C hC=>?_
 unfold CJ
 have n3:=AJ hS (i:=3) (by omega)
 have n8:=AJ hS (i:=8) (by omega)
 have n12:=AJ hS (i:=12) (by omega)
 have n16:=AJ hS (i:=16) (by omega)
 have n19:=AJ hS (i:=19) (by omega)
 have n600:=AJ hS (i:=600) (by omega)
 have neT:=D3 hne
 have neT':=D3 (Ne.symm hne)
 have c1:=F_ r.1 (by omega)
 have c2:=F_ r.2 (by omega)
 unfold OD at hp
 by_cases hz:200 < r.1.size ∨ 200 < r.2.size
 ·rw [if_pos hz] at hp
  cases hp
  by_cases z1:(200:Int) < r.1.size
  ·repeat' (first | (with_reducible first | refine W ?_ | refine Z0 ?_ | ((first | refine Wo fun K hK=>?_ | refine Wp ?_ | refine Wq ?_ | refine Wr ?_);(try simp only [go_sem,fN,seval,eT,iR,AS.startS,n3,z1,AM,Ag,hG,hTB,dT,dF,nL]);(repeat refine Ai ?_);(try (refine hK _ ?_;clear hK K));try refine iC ?_)) | refine Cg _ (c1) ?_ | refine Cg _ (c2) ?_)
   refine J0 hS hG hTB hne trivial ?_ ?_ ?_ fun j hj j1 j2=>?_
   ·simp only [go_sem,fN,seval,eT,iR,AB,AD,AL,Option.bind_some]
    all_goals rfl
   ·simp only [go_sem,fN,seval,eT,iR,AM,hG,sG]
   ·simp only [go_sem,fN,seval,eT,iR,AM,hTB,sT]
   ·simp only [go_sem,fN,seval,eT,iR,AM,hj]
  ·have z2:(200:Int) < r.2.size:=by omega
   repeat' (first | (with_reducible first | refine W ?_ | refine Z0 ?_ | ((first | refine Wo fun K hK=>?_ | refine Wp ?_ | refine Wq ?_ | refine Wr ?_);(try simp only [go_sem,fN,seval,eT,iR,AS.startS,n3,z1,z2,AM,Ag,hG,hTB,dT,dF,nL]);(repeat refine Ai ?_);(try (refine hK _ ?_;clear hK K));try refine iC ?_)) | refine Cg _ (c1) ?_ | refine Cg _ (c2) ?_)
   refine J0 hS hG hTB hne trivial ?_ ?_ ?_ fun j hj j1 j2=>?_
   ·simp only [go_sem,fN,seval,eT,iR,AB,AD,AL,Option.bind_some]
    all_goals rfl
   ·simp only [go_sem,fN,seval,eT,iR,AM,hG,sG]
   ·simp only [go_sem,fN,seval,eT,iR,AM,hTB,sT]
   ·simp only [go_sem,fN,seval,eT,iR,AM,hj]
 rw [if_neg hz] at hp
 have z1:¬ (200:Int) < r.1.size:=by omega
 have z2:¬ (200:Int) < r.2.size:=by omega
 split at hp
 ·cases hp
 rename_i hgood
 have hg1:BG [r]=0:=by omega
 have hg2:BG R=0:=by omega
 have hRg:=Dy hg2
 have h40:=hRg.len
 split at hp
 ·cases hp
 rename_i left0 todo0 hpart
 repeat' (first | (with_reducible first | refine W ?_ | refine Z0 ?_ | ((first | refine Wo fun K hK=>?_ | refine Wp ?_ | refine Wq ?_ | refine Wr ?_);(try simp only [go_sem,fN,seval,eT,iR,AS.startS,n3,z1,z2,AM,Ag,hG,hTB,sG,dT,dF,nL]);(repeat refine Ai ?_);(try (refine hK _ ?_;clear hK K));try refine iC ?_)) | refine Cg _ (c1) ?_ | refine Cg _ (c2) ?_)
 refine IWP.ghost (Aa.ownM 6 600 40 4 (by simp only [go_sem,fN,seval,eT,iR]) (by simp only [go_sem,fN,seval,eT,iR,n600]) (by rw [hC];decide)) ?_
 refine IWP.loopD [8] (fun z s=>∃ k left todo,k≤R.length∧z=R.length - k∧N6 r (R.drop k) left todo=some (left0,todo0)∧left.length≤k∧todo.length≤T.length + k∧s.env 0=.one (.ptr G 1 0 0)∧s.env 3=.one (.ptr 3 1 0 0)∧s.env 5=.one (.full [As r])∧s.env 6=.one (.row 600 left.length)∧s.env 37=CI R∧s.env 38=AN R.length∧s.env 39=AN k∧s.S 3=some (Hk r)∧s.S 8=none∧s.S 12=none∧s.S 16=none∧s.S 19=none∧s.S 600=some (Bs left)∧s.S G=some (C7 row R TB todo.length)∧s.S TB=some (Cw todo)∧∀ j,1000≤j→j ≠ G→j ≠ TB→s.S j=S j) R.length
  ⟨0,[],T,Nat.zero_le _,rfl,hpart,Nat.zero_le _,by omega,rfl,rfl,rfl,rfl,rfl,rfl,rfl,by simp only [go_sem,fN,seval,eT,iR],by simp only [go_sem,fN,seval,eT,iR,n8],by simp only [go_sem,fN,seval,eT,iR,n12],by simp only [go_sem,fN,seval,eT,iR,n16],by simp only [go_sem,fN,seval,eT,iR,n19],by (simp only [go_sem,fN,seval,eT,iR];rfl),by simp only [go_sem,fN,seval,eT,iR,AM,hG,sG],by simp only [go_sem,fN,seval,eT,iR,AM,hTB,sT],fun j hj j1 j2=>by simp only [go_sem,fN,seval,eT,iR,AM,hj]⟩ ?_
 clear n3 n8 n12 n16 n19 n600 sG sT hpart
 rintro z ⟨env,S1⟩ ⟨k,left,todo,hk,rfl,hpart,hll,htl,e0,e3,e5,e6,e37,e38,e39,s3,s8,s12,s16,s19,s600,sG,sT,hS1⟩
 simp only at e0 e3 e5 e6 e37 e38 e39 s3 s8 s12 s16 s19 s600 sG sT hS1
 have hlL:(left.map As).length=left.length:=List.length_map _
 have hlT:(todo.map As).length=todo.length:=List.length_map _
 by_cases hkl:k < R.length
 ·have hkl':(k:Int) < R.length:=by omega
  obtain ⟨o,ho⟩:=Aj hkl
  have mo:=AU ho
  have ko:=Tm.may_chk (hRg.left o mo)
  rw [BQ ho,N6] at hpart
  have cO:=Zu (Dy hg1) o.1 ko.1 (by omega)
  split at hpart
  ·cases hpart
  rename_i l hl
  rw [hl] at cO
  unfold PV at cO
  have hr1:[r].map As=[As r]:=rfl
  by_cases hem:l.isEmpty=true
  ·rw [if_pos hem] at hpart
   have hl0:¬ (0:Int) < (l.length:Int):=by rw [List.isEmpty_iff] at hem;rw [hem];simp
   repeat' (first | (with_reducible first | refine W ?_ | refine Z0 ?_ | ((first | refine Wo fun K hK=>?_ | refine Wp ?_ | refine Wq ?_ | refine Wr ?_);(try simp only [go_sem,fN,seval,eT,iR,e0,e3,e5,e6,e37,e38,e39,s3,s8,s600,sG,sT,hkl',ho,As,hl0,hlL,hlT,AM,Ag,hG,hTB,neT,neT',dT,dF,nL]);(repeat refine Ai ?_);(try (refine hK _ ?_;clear hK K));try refine iC ?_)) | refine Cg _ (cO) ?_)
   refine AH ⟨R.length - (k + 1),by omega,k + 1,left ++ [o],todo,by omega,rfl,hpart,by first | omega | (simp only [List.length_append,List.length_cons,List.length_nil];omega),by first | omega | (simp only [List.length_append,List.length_cons,List.length_nil];omega),?_⟩
   repeat' refine And.intro ?_ ?_
   all_goals first | (intro j hj j1 j2;refine CY hS (by decide) hj ?_;have hj2:=hS1 j hj j1 j2;have k1:=D3 j1;have k2:=D3 j2;simp only [go_sem,fN,seval,eT,iR,AM,hj,hj2,k1,k2];done) | (simp only [go_sem,fN,seval,AS.drop,Ac,AC.clears,AC.clear,AC.highs,AC.high,zD,AV.purge,AV.purges,AC.purge,AK.purge,Nat.reduceBEq,eT,iR,e0,e3,e5,e6,e37,e38,e39,s3,s8,s12,s16,s19,s600,sG,sT,B7,hG,hTB,neT,neT',AM,Ag,List.length_append,List.length_cons,List.length_nil];done) | (simp only [go_sem,fN,seval,AS.drop,Ac,AC.clears,AC.clear,AC.highs,AC.high,zD,AV.purge,AV.purges,AC.purge,AK.purge,Nat.reduceBEq,eT,iR,e0,e3,e5,e6,e37,e38,e39,s3,s8,s12,s16,s19,s600,sG,sT,B7,hG,hTB,neT,neT',AM,Ag,List.length_append,List.length_cons,List.length_nil];first | rfl | (congr 3;done) | (simp [As];done))
  ·rw [if_neg hem] at hpart
   have hl0:(0:Int) < (l.length:Int):=by
    cases l with
    | nil=>simp at hem
    | cons a l=>simp only [List.length_cons];omega
   repeat' (first | (with_reducible first | refine W ?_ | refine Z0 ?_ | ((first | refine Wo fun K hK=>?_ | refine Wp ?_ | refine Wq ?_ | refine Wr ?_);(try simp only [go_sem,fN,seval,eT,iR,e0,e3,e5,e6,e37,e38,e39,s3,s8,s600,sG,sT,hkl',ho,As,hl0,hlL,hlT,AM,Ag,hG,hTB,neT,neT',dT,dF,nL]);(repeat refine Ai ?_);(try (refine hK _ ?_;clear hK K));try refine iC ?_)) | refine Cg _ (cO) ?_)
   refine AH ⟨R.length - (k + 1),by omega,k + 1,left,todo ++ [o],by omega,rfl,hpart,by first | omega | (simp only [List.length_append,List.length_cons,List.length_nil];omega),by first | omega | (simp only [List.length_append,List.length_cons,List.length_nil];omega),?_⟩
   repeat' refine And.intro ?_ ?_
   all_goals first | (intro j hj j1 j2;refine CY hS (by decide) hj ?_;have hj2:=hS1 j hj j1 j2;have k1:=D3 j1;have k2:=D3 j2;simp only [go_sem,fN,seval,eT,iR,AM,hj,hj2,k1,k2];done) | (simp only [go_sem,fN,seval,AS.drop,Ac,AC.clears,AC.clear,AC.highs,AC.high,zD,AV.purge,AV.purges,AC.purge,AK.purge,Nat.reduceBEq,eT,iR,e0,e3,e5,e6,e37,e38,e39,s3,s8,s12,s16,s19,s600,sG,sT,B7,hG,hTB,neT,neT',AM,Ag,List.length_append,List.length_cons,List.length_nil];done) | (simp only [go_sem,fN,seval,AS.drop,Ac,AC.clears,AC.clear,AC.highs,AC.high,zD,AV.purge,AV.purges,AC.purge,AK.purge,Nat.reduceBEq,eT,iR,e0,e3,e5,e6,e37,e38,e39,s3,s8,s12,s16,s19,s600,sG,sT,B7,hG,hTB,neT,neT',AM,Ag,List.length_append,List.length_cons,List.length_nil];first | rfl | (congr 3;done) | (simp [As];done))
 have hkl':¬ (k:Int) < R.length:=by omega
 repeat' with_reducible first | refine W ?_ | refine Z0 ?_ | ((first | refine Wo fun K hK=>?_ | refine Wp ?_ | refine Wq ?_ | refine Wr ?_);(try simp only [go_sem,fN,seval,eT,iR,e0,e3,e5,e6,e37,e38,e39,s3,s8,s600,sG,sT,hkl',As,hlL,hlT,AM,Ag,hG,hTB,neT,neT',dT,dF,nL]);(repeat refine Ai ?_);(try (refine hK _ ?_;clear hK K));try refine iC ?_)
 rw [List.drop_of_length_le (by omega),N6] at hpart
 simp only [Option.some.injEq,Prod.mk.injEq] at hpart
 obtain ⟨rfl,rfl⟩:=hpart
 refine ⟨fun g40=>?_,fun g40=>?_⟩
 ·have g40':40 < left.length + 1:=by omega
  rw [if_pos g40'] at hp
  cases hp
  repeat' with_reducible first | refine W ?_ | refine Z0 ?_ | ((first | refine Wo fun K hK=>?_ | refine Wp ?_ | refine Wq ?_ | refine Wr ?_);(try simp only [go_sem,fN,seval,eT,iR,AM,Ag,hG,hTB,neT,neT',dT,dF,nL]);(repeat refine Ai ?_);(try (refine hK _ ?_;clear hK K));try refine iC ?_)
  have hlen1:(left ++ [r]).length=left.length + 1:=by simp
  refine Li (id:=600) hS hG hTB hne (by decide) trivial ?_ ?_ ?_ ?_ fun j hj j1 j2=>?_
  ·simp only [go_sem,fN,seval,eT,iR]
  ·simp only [go_sem,fN,seval,eT,iR,AM,Ag,hG,hTB,neT,neT']
   exact LD
  ·rw [hlen1]
   simp only [go_sem,fN,seval,eT,iR,AM,Ag,hG,hTB,neT,neT']
  ·simp only [go_sem,fN,seval,eT,iR,AM,Ag,hG,hTB,neT,neT',sT]
  ·have hj2:=hS1 j hj j1 j2
   have k1:=D3 j1
   have k2:=D3 j2
   simp only [go_sem,fN,seval,eT,iR,AM,Ag,hj,k1,k2,hj2]
 have g40':¬ 40 < left.length + 1:=by omega
 rw [if_neg g40'] at hp
 split at hp
 ·cases hp
 rename_i R2 e2 hn
 repeat' with_reducible first | refine W ?_ | refine Z0 ?_ | ((first | refine Wo fun K hK=>?_ | refine Wp ?_ | refine Wq ?_ | refine Wr ?_);(try simp only [go_sem,fN,seval,eT,iR,e0,e3,hlL,AM,Ag,hG,hTB,neT,neT',dT,dF,nL]);(repeat refine Ai ?_);(try (refine hK _ ?_;clear hK K));try refine iC ?_)
 obtain ⟨n1,hn1⟩:∃ n1,left.length + 1=n1:=⟨_,rfl⟩
 have hl1:(left ++ [r]).length=n1:=by simp [hn1]
 rw [hn1]
 rw [hn1] at hn
 refine IWP.loopD [12] (fun z s=>∃ k Rc,k≤n1∧z=n1 - k∧RA (n1 - k) k Rc=some (R2,e2)∧Rc.length=n1∧s.env 0=.one (.ptr G 1 0 0)∧s.env 3=.one (.ptr 3 1 0 0)∧s.env 85=AN n1∧s.env 86=AN k∧s.S 3=some (Hk r)∧s.S 12=none∧s.S 16=none∧s.S 19=none∧s.S 600=some (Bs Rc)∧s.S G=some (Xs row 600 n1 TB todo.length)∧s.S TB=some (Cw todo)∧∀ j,1000≤j→j ≠ G→j ≠ TB→s.S j=S j) n1
  ⟨0,left ++ [r],Nat.zero_le _,rfl,hn,hl1,by simp only [go_sem,fN,seval,eT,iR,e0],by simp only [go_sem,fN,seval,eT,iR,e3],rfl,rfl,by simp only [go_sem,fN,seval,eT,iR,s3,Ag,hG],by simp only [go_sem,fN,seval,eT,iR,s12,Ag,hG],by simp only [go_sem,fN,seval,eT,iR,s16,Ag,hG],by simp only [go_sem,fN,seval,eT,iR,s19,Ag,hG],by (simp only [go_sem,fN,seval,eT,iR,Ag,hG];exact LD),by simp only [go_sem,fN,seval,eT,iR],by simp only [go_sem,fN,seval,eT,iR,AM,hTB,neT',sT],fun j hj j1 j2=>by (have hj2:=hS1 j hj j1 j2;have k1:=D3 j1;simp only [go_sem,fN,seval,eT,iR,AM,hj,k1,hj2])⟩ ?_
 clear e0 e3 e5 e6 e37 e38 e39 s3 s8 s12 s16 s19 s600 sG sT hS1 hn
 rintro z ⟨env,S2⟩ ⟨k,Rc,hk,rfl,hn,hRl,e0,e3,e85,e86,s3,s12,s16,s19,s600,sG,sT,hS2⟩
 simp only at e0 e3 e85 e86 s3 s12 s16 s19 s600 sG sT hS2
 have hlR:(Rc.map As).length=n1:=by rw [List.length_map];exact hRl
 by_cases hkl:k < n1
 ·have hkl':(k:Int) < n1:=by omega
  obtain ⟨m,hm⟩:∃ m,n1 - k=m + 1:=⟨n1 - k - 1,by omega⟩
  obtain ⟨q,hq⟩:=Aj (show k < Rc.length by omega)
  rw [hm,RA,hq] at hn
  split at hn
  ·cases hn
  rename_i hgc
  simp only at hn
  have hgc:BG Rc=0:=by omega
  have hRc:=Dy hgc
  have kq:=Tm.may_chk (hRc.right q (AU hq))
  have hcon:=fun (T:AA) (hT:T 600=some (Bs Rc))=>Zi hRc q.2 kq.1 (by omega) 100 (by decide) (up1 600) (Ap _) (upS T) (by rw [At,hT];rfl)
  rw [hRl] at hcon
  have hyz:=HZ (step:=Tm.inn Rc) 100 0 q.2 2000 (by omega) (by omega)
  unfold S5 at hcon
  generalize B_ (Tm.inn Rc) 100 0 q.2=Y at *
  obtain ⟨y,yn,ye⟩:=Y
  simp only at hn hcon hyz
  repeat' with_reducible first | refine W ?_ | refine Z0 ?_ | ((first | refine Wo fun K hK=>?_ | refine Wp ?_ | refine Wq ?_ | refine Wr ?_);(try simp only [go_sem,fN,seval,eT,iR,e0,e3,e85,e86,s3,s12,s600,sG,sT,hkl',hq,As,hlR,AM,Ag,hG,hTB,neT,neT',dT,dF,nL]);(repeat refine Ai ?_);(try (refine hK _ ?_;clear hK K));try refine iC ?_)
  refine ⟨_,[(600,Bs Rc)],BV (by simp only [go_sem,fN,seval,eT,iR,s600]),fun T hT=>hcon T (hT (600,Bs Rc) (by simp)),?_⟩
  by_cases hye:ye=0
  case neg =>
   rw [if_pos hye] at hn
   simp only [Option.some.injEq,Prod.mk.injEq] at hn
   obtain ⟨rfl,rfl⟩:=hn
   rw [if_pos hye] at hp
   cases hp
   repeat' with_reducible first | refine W ?_ | refine Z0 ?_ | ((first | refine Wo fun K hK=>?_ | refine Wp ?_ | refine Wq ?_ | refine Wr ?_);(try simp only [go_sem,fN,seval,eT,iR,e0,e3,e85,e86,s3,s12,s600,sG,sT,hkl',hq,As,hlR,AM,Ag,hG,hTB,neT,neT',hye,dT,dF,nL]);(repeat refine Ai ?_);(try (refine hK _ ?_;clear hK K));try refine iC ?_)
   refine Li (id:=600) hS hG hTB hne (by decide) trivial ?_ ?_ ?_ ?_ fun j hj j1 j2=>?_
   ·simp only [go_sem,fN,seval,eT,iR]
   ·simp only [go_sem,fN,seval,eT,iR,s600]
   ·rw [hRl]
    simp only [go_sem,fN,seval,eT,iR,AM,hG,sG]
   ·simp only [go_sem,fN,seval,eT,iR,AM,hTB,sT]
   ·have hj2:=hS2 j hj j1 j2
    have k1:=D3 j1
    have k2:=D3 j2
    simp only [go_sem,fN,seval,eT,iR,AM,Ag,hj,k1,k2,hj2]
  case pos =>
  subst hye
  rw [if_neg (by simp)] at hn
  have hys:=F_ y (by omega)
  by_cases hy2:200 < y.size
  ·have hy2':(200:Int) < y.size:=by omega
   rw [if_pos hy2] at hn
   simp only [Option.some.injEq,Prod.mk.injEq] at hn
   obtain ⟨rfl,rfl⟩:=hn
   rw [if_pos (by decide)] at hp
   cases hp
   repeat' (first | (with_reducible first | refine W ?_ | refine Z0 ?_ | ((first | refine Wo fun K hK=>?_ | refine Wp ?_ | refine Wq ?_ | refine Wr ?_);(try simp only [go_sem,fN,seval,eT,iR,e0,e3,e85,e86,s3,s12,s600,sG,sT,hkl',hq,As,hlR,AM,Ag,hG,hTB,neT,neT',hy2',dT,dF,nL]);(repeat refine Ai ?_);(try (refine hK _ ?_;clear hK K));try refine iC ?_)) | refine Cg _ (hys) ?_)
   refine Li (id:=600) hS hG hTB hne (by decide) trivial ?_ ?_ ?_ ?_ fun j hj j1 j2=>?_
   ·simp only [go_sem,fN,seval,eT,iR]
   ·simp only [go_sem,fN,seval,eT,iR,s600]
   ·rw [hRl]
    simp only [go_sem,fN,seval,eT,iR,AM,hG,sG]
   ·simp only [go_sem,fN,seval,eT,iR,AM,hTB,sT]
   ·have hj2:=hS2 j hj j1 j2
    have k1:=D3 j1
    have k2:=D3 j2
    simp only [go_sem,fN,seval,eT,iR,AM,Ag,hj,k1,k2,hj2]
  have hy2':¬ (200:Int) < y.size:=by omega
  rw [if_neg hy2] at hn
  repeat' (first | (with_reducible first | refine W ?_ | refine Z0 ?_ | ((first | refine Wo fun K hK=>?_ | refine Wp ?_ | refine Wq ?_ | refine Wr ?_);(try simp only [go_sem,fN,seval,eT,iR,e0,e3,e85,e86,s3,s12,s600,sG,sT,hkl',hq,As,hlR,AM,Ag,hG,hTB,neT,neT',hy2',dT,dF,nL]);(repeat refine Ai ?_);(try (refine hK _ ?_;clear hK K));try refine iC ?_)) | refine Cg _ (hys) ?_)
  refine AH ⟨n1 - (k + 1),by omega,k + 1,Rc.set k (q.1,y),by omega,rfl,by rw [show n1 - (k + 1)=m by omega];exact hn,by rw [List.length_set];exact hRl,?_⟩
  repeat' refine And.intro ?_ ?_
  all_goals first | (intro j hj j1 j2;refine CY hS (by decide) hj ?_;have hj2:=hS2 j hj j1 j2;have k1:=D3 j1;have k2:=D3 j2;simp only [go_sem,fN,seval,eT,iR,AM,hj,hj2,k1,k2];done) | (simp only [go_sem,fN,seval,AS.drop,Ac,AC.clears,AC.clear,AC.highs,AC.high,zD,AV.purge,AV.purges,AC.purge,AK.purge,Nat.reduceBEq,eT,iR,e0,e3,e85,e86,s3,s12,s16,s19,s600,sG,sT,B7,hG,hTB,neT,neT',AM,Ag,hlR];done) | (simp only [go_sem,fN,seval,AS.drop,Ac,AC.clears,AC.clear,AC.highs,AC.high,zD,AV.purge,AV.purges,AC.purge,AK.purge,Nat.reduceBEq,eT,iR,e0,e3,e85,e86,s3,s12,s16,s19,s600,sG,sT,B7,hG,hTB,neT,neT',AM,Ag,hlR];first | rfl | (congr 3;done) | exact Ul hq)
 have hkl':¬ (k:Int) < n1:=by omega
 rw [show n1 - k=0 by omega,RA] at hn
 simp only [Option.some.injEq,Prod.mk.injEq] at hn
 obtain ⟨rfl,rfl⟩:=hn
 rw [if_neg (by simp)] at hp
 split at hp
 ·cases hp
 rename_i r2 hr2
 split at hp
 ·cases hp
 rename_i hgood2
 have hg2':BG Rc=0:=by omega
 have hR2:=Dy hg2'
 have hr2':Rc[n1 - 1]?=some r2:=by rw [← hRl,← List.getLast?_eq_getElem?];exact hr2
 have hi0:((n1:Int) - 1).toNat=n1 - 1:=by omega
 split at hp
 ·cases hp
 rename_i todo2 e3' hcr
 refine IWP.ghost (UA (id:=600) (R:=Rc) (G:=G) (row:=row) (TB:=TB) (m:=todo.length) (by omega) s600 (by rw [hRl];exact sG)) ?_
 repeat' with_reducible first | refine W ?_ | refine Z0 ?_ | ((first | refine Wo fun K hK=>?_ | refine Wp ?_ | refine Wq ?_ | refine Wr ?_);(try simp only [go_sem,fN,seval,eT,iR,e0,e3,e85,e86,s3,s12,s16,s19,sT,hkl',hr2',hi0,As,hRl,hlR,AM,Ag,hG,hTB,neT,neT',dT,dF,nL]);(repeat refine Ai ?_);(try (refine hK _ ?_;clear hK K));try refine iC ?_)
 have n40:n1≤40:=by have:=hR2.len;omega
 refine IWP.loopD [16,19] (fun z s=>∃ k td,k≤n1∧z=n1 - k∧JX f r2 (Rc.drop k) td=some (todo2,e3')∧td.length≤todo.length + 400 * k∧s.env 0=.one (.ptr G 1 0 0)∧s.env 3=.one (.ptr 3 1 0 0)∧s.env 136=CI Rc∧s.env 137=AN n1∧s.env 138=AN k∧s.S 3=some (Hk r2)∧s.S 16=none∧s.S 19=none∧s.S G=some (C7 row Rc TB td.length)∧s.S TB=some (Cw td)∧∀ j,1000≤j→j ≠ G→j ≠ TB→s.S j=S j) n1
  ⟨0,todo,Nat.zero_le _,rfl,hcr,by omega,by simp only [go_sem,fN,seval,eT,iR,e0],by simp only [go_sem,fN,seval,eT,iR,e3],rfl,by simp only [go_sem,fN,seval,eT,iR,hRl,hlR],rfl,by simp only [go_sem,fN,seval,eT,iR,Ag,hG],by simp only [go_sem,fN,seval,eT,iR,s16,Ag,hG],by simp only [go_sem,fN,seval,eT,iR,s19,Ag,hG],by simp only [go_sem,fN,seval,eT,iR,Ag,AM,hG],by simp only [go_sem,fN,seval,eT,iR,AM,hTB,neT',sT],fun j hj j1 j2=>by (have hj2:=hS2 j hj j1 j2;have k1:=D3 j1;simp only [go_sem,fN,seval,eT,iR,AM,hj,k1,hj2])⟩ ?_
 clear e0 e3 e85 e86 s3 s12 s16 s19 s600 sG sT hS2 hcr
 rintro z ⟨env,S3⟩ ⟨k,td,hk,rfl,hcr,htd,e0,e3,e136,e137,e138,s3,s16,s19,sG,sT,hS3⟩
 simp only at e0 e3 e136 e137 e138 s3 s16 s19 sG sT hS3
 have hlT:(td.map As).length=td.length:=List.length_map _
 have hlR:(Rc.map As).length=n1:=by rw [List.length_map];exact hRl
 by_cases hkl:k < n1
 ·have hkl':(k:Int) < n1:=by omega
  obtain ⟨o,ho⟩:=Aj (show k < Rc.length by omega)
  rw [BQ ho,JX] at hcr
  have mo:=AU ho
  have mr:=AU hr2'
  have hemp:(Rc.drop (k + 1)).isEmpty=decide ((k:Int)=(n1:Int) - 1):=by
   rw [Bool.eq_iff_iff,List.isEmpty_iff,List.drop_eq_nil_iff,decide_eq_true_eq]
   omega
  rw [hemp] at hcr
  have cB1:=Jo (hR2.left o mo) (hR2.right o mo) (hR2.left r2 mr) (hR2.right r2 mr) (decide ((k:Int)=(n1:Int) - 1))
  have cB2:=Jo (hR2.left r2 mr) (hR2.right r2 mr) (hR2.left o mo) (hR2.right o mo) false
  repeat' with_reducible first | refine W ?_ | refine Z0 ?_ | ((first | refine Wo fun K hK=>?_ | refine Wp ?_ | refine Wq ?_ | refine Wr ?_);(try simp only [go_sem,fN,seval,eT,iR,e0,e3,e136,e137,e138,s3,s16,s19,sG,sT,hkl',ho,As,hlR,hlT,AM,Ag,hG,hTB,neT,neT',dT,dF,nL]);(repeat refine Ai ?_);(try (refine hK _ ?_;clear hK K));try refine iC ?_)
  refine IWP.loopD [19] (fun z s=>∃ j tj,z=2 - j∧(j=0∧tj=td ∨ j=1∧¬ (k:Int)=(n1:Int) - 1∧(∃ l,Qz f (Ew 88 1 o) (Ew 89 1 r2) (decide ((k:Int)=(n1:Int) - 1))=some (some l)∧tj=td ++ l) ∨ j=2∧¬ (k:Int)=(n1:Int) - 1∧JX f r2 (Rc.drop (k + 1)) tj=some (todo2,e3')∧tj.length≤td.length + 400)∧s.env 0=.one (.ptr G 1 0 0)∧s.env 3=.one (.ptr 3 1 0 0)∧s.env 17=Ad (decide ((k:Int)=(n1:Int) - 1))∧s.env 136=CI Rc∧s.env 137=AN n1∧s.env 138=AN k∧s.env 157=.one (.full [As o ++ As r2,As r2 ++ As o])∧s.env 158=AN 2∧s.env 159=AN j∧s.S 3=some (Hk r2)∧s.S 16=some (Hk o)∧s.S 19=none∧s.S G=some (C7 row Rc TB tj.length)∧s.S TB=some (Cw tj)∧∀ j,1000≤j→j ≠ G→j ≠ TB→s.S j=S j) 2
   ⟨0,td,rfl,.inl ⟨rfl,rfl⟩,by simp only [go_sem,fN,seval,eT,iR,e0],by simp only [go_sem,fN,seval,eT,iR,e3],rfl,by simp only [go_sem,fN,seval,eT,iR,e136],by simp only [go_sem,fN,seval,eT,iR,e137],by simp only [go_sem,fN,seval,eT,iR,e138],rfl,rfl,rfl,by simp only [go_sem,fN,seval,eT,iR,s3,Ag],by simp only [go_sem,fN,seval,eT,iR,Ag],by simp only [go_sem,fN,seval,eT,iR,s19],by simp only [go_sem,fN,seval,eT,iR,AM,hG,sG],by simp only [go_sem,fN,seval,eT,iR,AM,hTB,sT],fun j hj j1 j2=>by (have hj2:=hS3 j hj j1 j2;simp only [go_sem,fN,seval,eT,iR,AM,hj,hj2])⟩ ?_
  clear e0 e3 e136 e137 e138 s3 s16 s19 sG sT hS3
  rintro z ⟨env,S4⟩ ⟨j,tj,rfl,hQ,e0,e3,e17,e136,e137,e138,e157,e158,e159,s3,s16,s19,sG,sT,hS4⟩
  simp only at e0 e3 e17 e136 e137 e138 e157 e158 e159 s3 s16 s19 sG sT hS4
  have hlTj:(tj.map As).length=tj.length:=List.length_map _
  rcases hQ with ⟨rfl,rfl⟩ | ⟨rfl,hnl,l,hl,rfl⟩ | ⟨rfl,hnl,hcr,htj⟩
  ·split at hcr
   ·cases hcr
   ·rename_i hc1
    cases hcr
    rw [D6 hc1] at cB1
    unfold crV at cB1
    repeat' (first | (with_reducible first | refine W ?_ | refine Z0 ?_ | ((first | refine Wo fun K hK=>?_ | refine Wp ?_ | refine Wq ?_ | refine Wr ?_);(try simp only [go_sem,fN,seval,eT,iR,e0,e3,e17,e136,e137,e138,e157,e158,e159,s3,s16,s19,sG,sT,hkl',As,hlTj,AM,Ag,hG,hTB,neT,neT',dT,dF,nL]);(repeat refine Ai ?_);(try (refine hK _ ?_;clear hK K));try refine iC ?_)) | refine Cg _ (cB1) ?_)
    rw [if_pos (by decide)] at hp
    cases hp
    refine J0 hS hG hTB hne trivial ?_ ?_ ?_ fun j hj j1 j2=>?_
    ·simp only [go_sem,fN,seval,eT,iR,AB,AD,AL,Option.bind_some]
     all_goals rfl
    ·simp only [go_sem,fN,seval,eT,iR,AM,hG,sG]
    ·simp only [go_sem,fN,seval,eT,iR,AM,hTB,sT]
    ·have hj2:=hS4 j hj j1 j2
     simp only [go_sem,fN,seval,eT,iR,AM,hj,hj2]
   ·rename_i l hc1
    have hll:=MI (hR2.left o mo) (hR2.right o mo) (hR2.left r2 mr) (hR2.right r2 mr) (D6 hc1)
    rw [D6 hc1] at cB1
    unfold crV at cB1
    by_cases hlast:(k:Int)=(n1:Int) - 1
    ·rw [if_pos (by simpa using hlast)] at hcr
     cases hcr
     have hd:decide ((k:Int)=(n1:Int) - 1)=true:=by simpa using hlast
     rw [hd] at cB1 e17
     repeat' (first | (with_reducible first | refine W ?_ | refine Z0 ?_ | ((first | refine Wo fun K hK=>?_ | refine Wp ?_ | refine Wq ?_ | refine Wr ?_);(try simp only [go_sem,fN,seval,eT,iR,e0,e3,e17,e136,e137,e138,e157,e158,e159,s3,s16,s19,sG,sT,hkl',As,hlTj,AM,Ag,hG,hTB,neT,neT',dT,dF,nL]);(repeat refine Ai ?_);(try (refine hK _ ?_;clear hK K));try refine iC ?_)) | refine Cg _ (cB1) ?_)
     refine AH ⟨n1 - (k + 1),by omega,k + 1,tj ++ l,by omega,rfl,?_,?_,?_⟩
     ·rw [List.drop_of_length_le (by omega)];rfl
     ·rw [List.length_append];omega
     repeat' refine And.intro ?_ ?_
     all_goals first | (intro j hj j1 j2;refine CY hS (by decide) hj ?_;have hj2:=hS4 j hj j1 j2;have k1:=D3 j1;have k2:=D3 j2;simp only [go_sem,fN,seval,eT,iR,AM,hj,hj2,k1,k2];done) | (simp only [go_sem,fN,seval,AS.drop,Ac,AC.clears,AC.clear,AC.highs,AC.high,zD,AV.purge,AV.purges,AC.purge,AK.purge,Nat.reduceBEq,eT,iR,e0,e3,e17,e136,e137,e138,e157,e158,e159,s3,s16,s19,sG,sT,B7,hG,hTB,neT,neT',AM,Ag,hlTj,List.length_append];done) | (simp only [go_sem,fN,seval,AS.drop,Ac,AC.clears,AC.clear,AC.highs,AC.high,zD,AV.purge,AV.purges,AC.purge,AK.purge,Nat.reduceBEq,eT,iR,e0,e3,e17,e136,e137,e138,e157,e158,e159,s3,s16,s19,sG,sT,B7,hG,hTB,neT,neT',AM,Ag,hlTj,List.length_append];first | rfl | (congr 3;done) | (rw [← List.map_append];done) | (simp [As];done))
    ·have hd:decide ((k:Int)=(n1:Int) - 1)=false:=by simpa using hlast
     rw [hd] at cB1
     rw [hd] at e17
     rw [hd] at hcr
     rw [if_neg (by simp)] at hcr
     repeat' (first | (with_reducible first | refine W ?_ | refine Z0 ?_ | ((first | refine Wo fun K hK=>?_ | refine Wp ?_ | refine Wq ?_ | refine Wr ?_);(try simp only [go_sem,fN,seval,eT,iR,e0,e3,e17,e136,e137,e138,e157,e158,e159,s3,s16,s19,sG,sT,hkl',As,hlTj,AM,Ag,hG,hTB,neT,neT',dT,dF,nL]);(repeat refine Ai ?_);(try (refine hK _ ?_;clear hK K));try refine iC ?_)) | refine Cg _ (cB1) ?_)
     refine AH ⟨1,by omega,1,tj ++ l,rfl,.inr (.inl ⟨rfl,hlast,l,hc1,rfl⟩),?_⟩
     rw [hd]
     repeat' refine And.intro ?_ ?_
     all_goals first | (intro j hj j1 j2;refine CY hS (by decide) hj ?_;have hj2:=hS4 j hj j1 j2;have k1:=D3 j1;have k2:=D3 j2;simp only [go_sem,fN,seval,eT,iR,AM,hj,hj2,k1,k2];done) | (simp only [go_sem,fN,seval,AS.drop,Ac,AC.clears,AC.clear,AC.highs,AC.high,zD,AV.purge,AV.purges,AC.purge,AK.purge,Nat.reduceBEq,eT,iR,e0,e3,e17,e136,e137,e138,e157,e158,e159,s3,s16,s19,sG,sT,B7,hG,hTB,neT,neT',AM,Ag,hlTj,List.length_append];done) | (simp only [go_sem,fN,seval,AS.drop,Ac,AC.clears,AC.clear,AC.highs,AC.high,zD,AV.purge,AV.purges,AC.purge,AK.purge,Nat.reduceBEq,eT,iR,e0,e3,e17,e136,e137,e138,e157,e158,e159,s3,s16,s19,sG,sT,B7,hG,hTB,neT,neT',AM,Ag,hlTj,List.length_append];first | rfl | (congr 3;done) | (rw [← List.map_append];done) | (simp [As];done))
  ·have hd:decide ((k:Int)=(n1:Int) - 1)=false:=by simpa using hnl
   have hll:=MI (hR2.left o mo) (hR2.right o mo) (hR2.left r2 mr) (hR2.right r2 mr) (D6 hl)
   rw [hl] at hcr
   simp only at hcr
   rw [hd,if_neg (by simp)] at hcr
   rw [hd] at e17
   split at hcr
   ·cases hcr
   ·rename_i hc2
    cases hcr
    rw [D6 hc2] at cB2
    unfold crV at cB2
    repeat' (first | (with_reducible first | refine W ?_ | refine Z0 ?_ | ((first | refine Wo fun K hK=>?_ | refine Wp ?_ | refine Wq ?_ | refine Wr ?_);(try simp only [go_sem,fN,seval,eT,iR,e0,e3,e17,e136,e137,e138,e157,e158,e159,s3,s16,s19,sG,sT,hkl',As,hlTj,AM,Ag,hG,hTB,neT,neT',dT,dF,nL]);(repeat refine Ai ?_);(try (refine hK _ ?_;clear hK K));try refine iC ?_)) | refine Cg _ (cB2) ?_)
    rw [if_pos (by decide)] at hp
    cases hp
    refine J0 hS hG hTB hne trivial ?_ ?_ ?_ fun j hj j1 j2=>?_
    ·simp only [go_sem,fN,seval,eT,iR,AB,AD,AL,Option.bind_some]
     all_goals rfl
    ·simp only [go_sem,fN,seval,eT,iR,AM,hG,sG]
    ·simp only [go_sem,fN,seval,eT,iR,AM,hTB,sT]
    ·have hj2:=hS4 j hj j1 j2
     simp only [go_sem,fN,seval,eT,iR,AM,hj,hj2]
   ·rename_i l' hc2
    have hll2:=MI (hR2.left r2 mr) (hR2.right r2 mr) (hR2.left o mo) (hR2.right o mo) (D6 hc2)
    rw [D6 hc2] at cB2
    unfold crV at cB2
    repeat' (first | (with_reducible first | refine W ?_ | refine Z0 ?_ | ((first | refine Wo fun K hK=>?_ | refine Wp ?_ | refine Wq ?_ | refine Wr ?_);(try simp only [go_sem,fN,seval,eT,iR,e0,e3,e17,e136,e137,e138,e157,e158,e159,s3,s16,s19,sG,sT,hkl',As,hlTj,AM,Ag,hG,hTB,neT,neT',dT,dF,nL]);(repeat refine Ai ?_);(try (refine hK _ ?_;clear hK K));try refine iC ?_)) | refine Cg _ (cB2) ?_)
    refine AH ⟨0,by omega,2,td ++ l ++ l',rfl,.inr (.inr ⟨rfl,hnl,hcr,?_⟩),?_⟩
    ·simp only [List.length_append];omega
    rw [hd]
    repeat' refine And.intro ?_ ?_
    all_goals first | (intro j hj j1 j2;refine CY hS (by decide) hj ?_;have hj2:=hS4 j hj j1 j2;have k1:=D3 j1;have k2:=D3 j2;simp only [go_sem,fN,seval,eT,iR,AM,hj,hj2,k1,k2];done) | (simp only [go_sem,fN,seval,AS.drop,Ac,AC.clears,AC.clear,AC.highs,AC.high,zD,AV.purge,AV.purges,AC.purge,AK.purge,Nat.reduceBEq,eT,iR,e0,e3,e17,e136,e137,e138,e157,e158,e159,s3,s16,s19,sG,sT,B7,hG,hTB,neT,neT',AM,Ag,hlTj,List.length_append];done) | (simp only [go_sem,fN,seval,AS.drop,Ac,AC.clears,AC.clear,AC.highs,AC.high,zD,AV.purge,AV.purges,AC.purge,AK.purge,Nat.reduceBEq,eT,iR,e0,e3,e17,e136,e137,e138,e157,e158,e159,s3,s16,s19,sG,sT,B7,hG,hTB,neT,neT',AM,Ag,hlTj,List.length_append];first | rfl | (congr 3;done) | (rw [← List.map_append];done) | (simp [As];done))
  ·have hb4:tj.length≤todo.length + 400 * (k + 1):=Nat.le_trans htj (by omega)
   repeat' with_reducible first | refine W ?_ | refine Z0 ?_ | ((first | refine Wo fun K hK=>?_ | refine Wp ?_ | refine Wq ?_ | refine Wr ?_);(try simp only [go_sem,fN,seval,eT,iR,e0,e3,e17,e136,e137,e138,e157,e158,e159,s3,s16,s19,sG,sT,hkl',As,hlTj,AM,Ag,hG,hTB,neT,neT',dT,dF,nL]);(repeat refine Ai ?_);(try (refine hK _ ?_;clear hK K));try refine iC ?_)
   refine AH ⟨n1 - (k + 1),Nat.sub_lt_sub_left hkl (Nat.lt_succ_self k),k + 1,tj,hkl,rfl,hcr,hb4,?_⟩
   repeat' refine And.intro ?_ ?_
   all_goals first | (intro j hj j1 j2;refine CY hS (by decide) hj ?_;have hj2:=hS4 j hj j1 j2;have k1:=D3 j1;have k2:=D3 j2;simp only [go_sem,fN,seval,eT,iR,AM,hj,hj2,k1,k2];done) | (simp only [go_sem,fN,seval,AS.drop,Ac,AC.clears,AC.clear,AC.highs,AC.high,zD,AV.purge,AV.purges,AC.purge,AK.purge,Nat.reduceBEq,eT,iR,e0,e3,e17,e136,e137,e138,e157,e158,e159,s3,s16,s19,sG,sT,B7,hG,hTB,neT,neT',AM,Ag,hlTj,List.length_append];done) | (simp only [go_sem,fN,seval,AS.drop,Ac,AC.clears,AC.clear,AC.highs,AC.high,zD,AV.purge,AV.purges,AC.purge,AK.purge,Nat.reduceBEq,eT,iR,e0,e3,e17,e136,e137,e138,e157,e158,e159,s3,s16,s19,sG,sT,B7,hG,hTB,neT,neT',AM,Ag,hlTj,List.length_append];first | rfl | (congr 3;done) | (rw [← List.map_append];done) | (simp [As];done))
 have hkl':¬ (k:Int) < n1:=by omega
 rw [List.drop_of_length_le (by omega),JX] at hcr
 simp only [Option.some.injEq,Prod.mk.injEq] at hcr
 obtain ⟨rfl,rfl⟩:=hcr
 rw [if_neg (by simp)] at hp
 by_cases h400:400 < td.length
 ·rw [if_pos h400] at hp
  have h400':(400:Int) < td.length:=by omega
  cases hp
  repeat' with_reducible first | refine W ?_ | refine Z0 ?_ | ((first | refine Wo fun K hK=>?_ | refine Wp ?_ | refine Wq ?_ | refine Wr ?_);(try simp only [go_sem,fN,seval,eT,iR,e0,e3,e136,e137,e138,sG,sT,hkl',h400',hlT,AM,Ag,hG,hTB,neT,neT',dT,dF,nL]);(repeat refine Ai ?_);(try (refine hK _ ?_;clear hK K));try refine iC ?_)
  refine J0 hS hG hTB hne trivial ?_ ?_ ?_ fun j hj j1 j2=>?_
  ·simp only [go_sem,fN,seval,eT,iR,AB,AD,AL,Option.bind_some]
   all_goals rfl
  ·exact sG
  ·exact sT
  ·exact hS3 j hj j1 j2
 rw [if_neg h400] at hp
 have h400':¬ (400:Int) < td.length:=by omega
 cases hp
 repeat' with_reducible first | refine W ?_ | refine Z0 ?_ | ((first | refine Wo fun K hK=>?_ | refine Wp ?_ | refine Wq ?_ | refine Wr ?_);(try simp only [go_sem,fN,seval,eT,iR,e0,e3,e136,e137,e138,sG,sT,hkl',h400',hlT,AM,Ag,hG,hTB,neT,neT',dT,dF,nL]);(repeat refine Ai ?_);(try (refine hK _ ?_;clear hK K));try refine iC ?_)
 refine J0 hS hG hTB hne trivial ?_ ?_ ?_ fun j hj j1 j2=>?_
 ·simp only [go_sem,fN,seval,eT,iR,AB,AD,AL,Option.bind_some]
  all_goals rfl
 ·exact sG
 ·exact sT
 ·exact hS3 j hj j1 j2

theorem YR {P:Program} {f:FuncId} {xs:List AV} {S S':AA} {r:AV} (h:Ah P f xs S r S'):E3 P f xs S (fun r' S''=>r'=r∧S''=S'):=fun hclean σ w vs ι h1 h2 h3 h4=>(h hclean σ w vs ι h1 h2 h3 h4).mono fun e w' ⟨v,σ',ι',q1,q2,q3⟩=>⟨v,r,S',σ',ι',q1,⟨rfl,rfl⟩,q2,q3⟩
theorem TY {P:Program} {f:FuncId} {S T T':AA} {us vs:List AV} {r:AV} {d:Option Nat} {l:List Ins} {env:Nat→AV} {Q:AS→Prop} (hv:us=vs) (hh:AV.highs vs=true) (hT:Am T) (hST:∀ i,1000≤i→S i=T i) (hc:Ah P f vs T r T') (h:Run P l ((⟨env,ES S T'⟩:AS).put d r) Q) :
  IH P S (AV.highs us) (E3 P f us) d l env Q:=by
 subst hv
 refine IH.mk T _ hT hST hh (YR hc) ?_
 rintro r' S' hcl ⟨rfl,rfl⟩
 exact h
theorem YB {S:AA} {G TB:Nat} {row:List ByteArray} {R T:List Pr} (h:G ≠ TB):M4 S G TB row R T G=some (C7 row R TB T.length):=by
 unfold M4
 rw [AF _ h,AE]
theorem WQ {S:AA} {G TB:Nat} {row:List ByteArray} {R T:List Pr}:M4 S G TB row R T TB=some (Cw T):=AE _ _ _
theorem TT {S:AA} {G TB i:Nat} {row:List ByteArray} {R T:List Pr} (h1:i ≠ G) (h2:i ≠ TB):M4 S G TB row R T i=S i:=by
 unfold M4
 rw [AF _ h2,AF _ h1]
theorem Xx {a b:Tm} (h:BS a b=0):a.may=0∧b.may=0:=by
 unfold BS at h
 split at h
 ·rename_i q;exact ⟨q,h⟩
 ·rename_i q;exact absurd h q
theorem Zd (S:AA) (G TB:Nat) (hG:1000≤G) (hTB:1000≤TB) (hne:G ≠ TB) (row:List ByteArray) (R T:List Pr) (p:Pr) (sG:S G=some (C7 row R TB T.length)) (sT:S TB=some (Cw T)) (hTl:T.length≤100000) (f:Nat) (R' T':List Pr) (e:Int) (hp:J9 f row R T p=some (R',T',e)) :
  Ah Tryz.prog 34 [.one (.ptr G 1 0 0),aPr p] S (AN e) (M4 S G TB row R' T'):=by
 refine Db.acS fun hS C hC=>?_
 unfold CC
 have n3:=AJ hS (i:=3) (by omega)
 have n5:=AJ hS (i:=5) (by omega)
 have n8:=AJ hS (i:=8) (by omega)
 have neT:=D3 hne
 have neT':=D3 (Ne.symm hne)
 unfold J9 at hp
 split at hp
 ·cases hp
 rename_i hgood
 have hR:=Dy (show BG R=0 by omega)
 obtain ⟨m1,m2⟩:=Xx (show BS p.1 p.2=0 by omega)
 have k1:=Tm.may_chk m1
 have k2:=Tm.may_chk m2
 have cA:=PE hR p.1 k1.1 (by omega) 100 (by decide)
 have zA:=HZ (step:=Tm.inn R) 100 0 p.1 2000 (by omega) (by omega)
 have oA:=Oh (inner:=true) hR 100 0 p.1 k1.1
 have oB:=Oh (inner:=true) hR 100 0 p.2 k2.1
 change (B_ (Tm.inn R) 100 0 p.1).1.chk=0 ∨ (B_ (Tm.inn R) 100 0 p.1).2.2 ≠ 0 at oA
 change (B_ (Tm.inn R) 100 0 p.2).1.chk=0 ∨ (B_ (Tm.inn R) 100 0 p.2).2.2 ≠ 0 at oB
 have cB:=PE hR p.2 k2.1 (by omega) 100 (by decide)
 have zB:=HZ (step:=Tm.inn R) 100 0 p.2 2000 (by omega) (by omega)
 unfold S5 at cA cB
 generalize B_ (Tm.inn R) 100 0 p.1=A at *
 obtain ⟨a,an,ea⟩:=A
 generalize B_ (Tm.inn R) 100 0 p.2=B at *
 obtain ⟨b,bn,eb⟩:=B
 simp only at hp cA zA cB zB oA oB
 by_cases hea:ea=0
 case neg =>
  rw [if_pos hea] at hp
  cases hp
  repeat' (first | (with_reducible first | refine W ?_ | refine Z0 ?_ | ((first | refine Wo fun K hK=>?_ | refine Wp ?_ | refine Wq ?_ | refine Wr ?_);(try simp only [go_sem,fN,seval,eT,iR,AS.startS,n3,hea,AM,Ag,hG,hTB,sG,dT,dF,nL]);(repeat refine Ai ?_);(try (refine hK _ ?_;clear hK K));try refine iC ?_)) | refine Cg _ (cA) ?_)
  refine J0 hS hG hTB hne trivial ?_ ?_ ?_ fun j hj j1 j2=>?_
  ·simp only [go_sem,fN,seval,eT,iR,AB,AD,AL,Option.bind_some]
   all_goals rfl
  ·simp only [go_sem,fN,seval,eT,iR,AM,hG,sG]
  ·simp only [go_sem,fN,seval,eT,iR,AM,hTB,sT]
  ·simp only [go_sem,fN,seval,eT,iR,AM,hj]
 subst hea
 replace oA:=oA.resolve_right (by simp)
 rw [if_neg (by simp)] at hp
 by_cases heb:eb=0
 case neg =>
  rw [if_pos heb] at hp
  cases hp
  repeat' (first | (with_reducible first | refine W ?_ | refine Z0 ?_ | ((first | refine Wo fun K hK=>?_ | refine Wp ?_ | refine Wq ?_ | refine Wr ?_);(try simp only [go_sem,fN,seval,eT,iR,AS.startS,n3,n5,heb,AM,Ag,hG,hTB,sG,dT,dF,nL]);(repeat refine Ai ?_);(try (refine hK _ ?_;clear hK K));try refine iC ?_)) | refine Cg _ (cA) ?_ | refine Cg _ (cB) ?_)
  refine J0 hS hG hTB hne trivial ?_ ?_ ?_ fun j hj j1 j2=>?_
  ·simp only [go_sem,fN,seval,eT,iR,AB,AD,AL,Option.bind_some]
   all_goals rfl
  ·simp only [go_sem,fN,seval,eT,iR,AM,hG,sG]
  ·simp only [go_sem,fN,seval,eT,iR,AM,hTB,sT]
  ·simp only [go_sem,fN,seval,eT,iR,AM,hj]
 subst heb
 replace oB:=oB.resolve_right (by simp)
 rw [if_neg (by simp),SS,SS] at hp
 have cS:=Jc a b
 by_cases hs:a.beq b=true
 case pos =>
  rw [if_pos hs] at hp
  rw [hs] at cS
  cases hp
  repeat' (first | (with_reducible first | refine W ?_ | refine Z0 ?_ | ((first | refine Wo fun K hK=>?_ | refine Wp ?_ | refine Wq ?_ | refine Wr ?_);(try simp only [go_sem,fN,seval,eT,iR,AS.startS,n3,n5,n8,AM,Ag,hG,hTB,sG,dT,dF,nL]);(repeat refine Ai ?_);(try (refine hK _ ?_;clear hK K));try refine iC ?_)) | refine Cg _ (cA) ?_ | refine Cg _ (cB) ?_ | refine Cg _ (cS) ?_)
  refine J0 hS hG hTB hne trivial ?_ ?_ ?_ fun j hj j1 j2=>?_
  ·simp only [go_sem,fN,seval,eT,iR,AB,AD,AL,Option.bind_some]
   all_goals rfl
  ·simp only [go_sem,fN,seval,eT,iR,AM,hG,sG]
  ·simp only [go_sem,fN,seval,eT,iR,AM,hTB,sT]
  ·simp only [go_sem,fN,seval,eT,iR,AM,hj]
 rw [if_neg hs] at hp
 rw [Bool.not_eq_true] at hs
 rw [hs] at cS
 have cP:=La row a b (by omega) (by omega)
 have cQ:=La row b a (by omega) (by omega)
 have hnm:∀ a b:Tm,a.size≤2000→b.size≤2000→AY Tryz.prog 71 [F6 [a,b]] (F6 [(DF a b).1,(DF a b).2]):=fun a b ha hb=>Qp [a,b] (by simp only [Tm.sizes];omega)
 have hsz:∀ a b:Tm,a.chk=0→b.chk=0→a.size≤2000→b.size≤2000→(DF a b).1.size≤900000∧(DF a b).2.size≤900000:=fun a b ha hb za zb=>by
  have h:=NP ha hb za zb
  exact ⟨Nat.le_trans h.z1 (by decide),Nat.le_trans h.z2 (by decide)⟩
 by_cases hP:paB row a b=true
 ·rw [if_pos hP] at hp
  rw [hP] at cP
  have hm:=hnm a b zA zB
  have hz:=hsz a b oA oB zA zB
  generalize DF a b=q at *
  unfold F6 at hm
  simp only [List.map_cons,List.map_nil,An] at hm
  repeat' (first | (with_reducible first | refine W ?_ | refine Z0 ?_ | ((first | refine Wo fun K hK=>?_ | refine Wp ?_ | refine Wq ?_ | refine Wr ?_);(try simp only [go_sem,fN,seval,eT,iR,AS.startS,n3,n5,n8,AM,Ag,hG,hTB,sG,As,dT,dF,nL]);(repeat refine Ai ?_);(try (refine hK _ ?_;clear hK K));try refine iC ?_)) | refine Cg _ (cA) ?_ | refine Cg _ (cB) ?_ | refine Cg _ (cS) ?_ | refine Cg _ (cP) ?_ | refine Cg _ (hm) ?_)
  refine TY (vs:=[.one (.ptr G 1 0 0),aPr q]) (by simp [IP,outV,outC,stC,outCs]) (by simp [AV.highs,AV.high,AC.highs,AC.high,hG]) hS (fun j hj=>by (simp only [go_sem,fN,seval,eT,iR,AM,hj])) (XC S G TB hG hTB hne row R T q sG sT hTl hz.1 hz.2 f R' T' e hp) ?_
  repeat' with_reducible first | refine W ?_ | refine Z0 ?_ | ((first | refine Wo fun K hK=>?_ | refine Wp ?_ | refine Wq ?_ | refine Wr ?_);(try simp only [go_sem,fN,seval,eT,iR,dT,dF,nL]);(repeat refine Ai ?_);(try (refine hK _ ?_;clear hK K));try refine iC ?_)
  refine J0 hS hG hTB hne trivial ?_ ?_ ?_ fun j hj j1 j2=>?_
  ·simp only [go_sem,fN,seval,eT,iR,AB,AD,AL,Option.bind_some]
   all_goals rfl
  ·exact (A6 hG).trans (YB hne)
  ·exact (A6 hTB).trans WQ
  ·exact (A6 hj).trans (TT j1 j2)
 rw [if_neg hP] at hp
 rw [Bool.not_eq_true] at hP
 rw [hP] at cP
 by_cases hQ:paB row b a=true
 ·rw [if_pos hQ] at hp
  rw [hQ] at cQ
  have hm:=hnm b a zB zA
  have hz:=hsz b a oB oA zB zA
  generalize DF b a=q at *
  unfold F6 at hm
  simp only [List.map_cons,List.map_nil,An] at hm
  repeat' (first | (with_reducible first | refine W ?_ | refine Z0 ?_ | ((first | refine Wo fun K hK=>?_ | refine Wp ?_ | refine Wq ?_ | refine Wr ?_);(try simp only [go_sem,fN,seval,eT,iR,AS.startS,n3,n5,n8,AM,Ag,hG,hTB,sG,As,dT,dF,nL]);(repeat refine Ai ?_);(try (refine hK _ ?_;clear hK K));try refine iC ?_)) | refine Cg _ (cA) ?_ | refine Cg _ (cB) ?_ | refine Cg _ (cS) ?_ | refine Cg _ (cP) ?_ | refine Cg _ (cQ) ?_ | refine Cg _ (hm) ?_)
  refine TY (vs:=[.one (.ptr G 1 0 0),aPr q]) (by simp [IP,outV,outC,stC,outCs]) (by simp [AV.highs,AV.high,AC.highs,AC.high,hG]) hS (fun j hj=>by (simp only [go_sem,fN,seval,eT,iR,AM,hj])) (XC S G TB hG hTB hne row R T q sG sT hTl hz.1 hz.2 f R' T' e hp) ?_
  repeat' with_reducible first | refine W ?_ | refine Z0 ?_ | ((first | refine Wo fun K hK=>?_ | refine Wp ?_ | refine Wq ?_ | refine Wr ?_);(try simp only [go_sem,fN,seval,eT,iR,dT,dF,nL]);(repeat refine Ai ?_);(try (refine hK _ ?_;clear hK K));try refine iC ?_)
  refine J0 hS hG hTB hne trivial ?_ ?_ ?_ fun j hj j1 j2=>?_
  ·simp only [go_sem,fN,seval,eT,iR,AB,AD,AL,Option.bind_some]
   all_goals rfl
  ·exact (A6 hG).trans (YB hne)
  ·exact (A6 hTB).trans WQ
  ·exact (A6 hj).trans (TT j1 j2)
 rw [if_neg hQ] at hp
 rw [Bool.not_eq_true] at hQ
 rw [hQ] at cQ
 cases hp
 repeat' (first | (with_reducible first | refine W ?_ | refine Z0 ?_ | ((first | refine Wo fun K hK=>?_ | refine Wp ?_ | refine Wq ?_ | refine Wr ?_);(try simp only [go_sem,fN,seval,eT,iR,AS.startS,n3,n5,n8,AM,Ag,hG,hTB,sG,dT,dF,nL]);(repeat refine Ai ?_);(try (refine hK _ ?_;clear hK K));try refine iC ?_)) | refine Cg _ (cA) ?_ | refine Cg _ (cB) ?_ | refine Cg _ (cS) ?_ | refine Cg _ (cP) ?_ | refine Cg _ (cQ) ?_)
 refine J0 hS hG hTB hne trivial ?_ ?_ ?_ fun j hj j1 j2=>?_
 ·simp only [go_sem,fN,seval,eT,iR,AB,AD,AL,Option.bind_some]
  all_goals rfl
 ·simp only [go_sem,fN,seval,eT,iR,AM,hG,sG]
 ·simp only [go_sem,fN,seval,eT,iR,AM,hTB,sT]
 ·simp only [go_sem,fN,seval,eT,iR,AM,hj]

theorem V0 (l:List Pr) (hl:l.length≤1000000):Hf Tryz.prog 33 [CI l] 40 4 (l.map As):=by
 unfold Hf
 rw [List.length_map]
 refine Br.acS fun hS C hC=>?_
 unfold BB
 have hb:l.length * 40≤140737488355328:=by omega
 by_cases h0:l.length=0
 ·have h1:l=[]:=by simpa using h0
  subst h1
  repeat' with_reducible first | refine W ?_ | refine Z0 ?_ | ((first | refine Wo fun K hK=>?_ | refine Wp ?_ | refine Wq ?_ | refine Wr ?_);(try simp only [go_sem,fN,seval,eT,iR,dT,dF,nL]);(repeat refine Ai ?_);(try (refine hK _ ?_;clear hK K));try refine iC ?_)
  refine ⟨?_,?_⟩
  ·repeat' with_reducible first | refine W ?_ | refine Z0 ?_ | ((first | refine Wo fun K hK=>?_ | refine Wp ?_ | refine Wq ?_ | refine Wr ?_);(try simp only [go_sem,fN,seval,eT,iR,dT,dF,nL]);(repeat refine Ai ?_);(try (refine hK _ ?_;clear hK K));try refine iC ?_)
   refine MO (Aa.own 2 7 40 4 (xs:=([]:List (List SV))) rfl rfl (by simp) (by omega)) ?_
   exact Ye (mu:=false) trivial 7 (by decide) rfl (fun i hi=>by show AG _ _ _ _=_;rw [AF _ (by omega)];rfl) rfl
  ·repeat' with_reducible first | refine W ?_ | refine Z0 ?_ | ((first | refine Wo fun K hK=>?_ | refine Wp ?_ | refine Wq ?_ | refine Wr ?_);(try simp only [go_sem,fN,seval,eT,iR,dT,dF,nL]);(repeat refine Ai ?_);(try (refine hK _ ?_;clear hK K));try refine iC ?_)
   exact Ye (mu:=false) trivial 7 (by decide) rfl (fun i hi=>by show AG _ _ _ _=_;rw [AF _ (by omega)];rfl) rfl
 ·repeat' with_reducible first | refine W ?_ | refine Z0 ?_ | ((first | refine Wo fun K hK=>?_ | refine Wp ?_ | refine Wq ?_ | refine Wr ?_);(try simp only [go_sem,fN,seval,eT,iR,h0,hb,dT,dF,nL]);(repeat refine Ai ?_);(try (refine hK _ ?_;clear hK K));try refine iC ?_)
  exact Ye (mu:=false) trivial 7 (by decide) rfl (fun i hi=>by show AG _ _ _ _=_;rw [AF _ (by omega)];rfl) rfl
theorem Uh {f:Nat} {R T R' T':List Pr} {r:Pr} (h:OD f R T r=some (R',T',0)):T'.length≤400:=by
 unfold OD at h
 repeat' split at h
 all_goals first
  | (cases h;done)
  | (simp only [Option.some.injEq,Prod.mk.injEq] at h;obtain ⟨h1,h2,h3⟩:=h;omega)
  | (simp only [Option.some.injEq,Prod.mk.injEq] at h;obtain ⟨h1,rfl,h3⟩:=h;omega)
theorem Rw {f:Nat} {row:List ByteArray} {R T R' T':List Pr} {p:Pr} (hT:T.length≤400) (h:J9 f row R T p=some (R',T',0)):T'.length≤400:=by
 unfold J9 at h
 repeat' split at h
 all_goals first
  | (cases h;done)
  | exact Uh h
  | (simp only [Option.some.injEq,Prod.mk.injEq] at h;obtain ⟨h1,rfl,h3⟩:=h;exact hT)
  | (simp only [Option.some.injEq,Prod.mk.injEq] at h;obtain ⟨h1,h2,h3⟩:=h;omega)
theorem Ui {T:AA} {row:List ByteArray} {R R1 T0 T1:List Pr}:upS (E1 T [(36,C7 row R 34 T0.length,C7 row R1 34 T1.length),(34,Cw T0,Cw T1)])=M4 (upS T) (up1 36) (up1 34) row R1 T1:=by
 show upS (AG (AG T 36 (some (C7 row R1 34 T1.length))) 34 (some (Cw T1)))=_
 rw [Ov,Ov]
 rfl
theorem Ti {row:List ByteArray} {R R1 T0 T1:List Pr} {p:Pr} {f:Nat} {e:Int} (hl:T0.length≤100000) (h:J9 f row R T0 p=some (R1,T1,e)) (T:AA) (hT:N3 T [(36,C7 row R 34 T0.length,C7 row R1 34 T1.length),(34,Cw T0,Cw T1)]) :
  Ah Tryz.prog 34 [.one (.ptr (up1 36) 1 0 0),aPr p] (upS T) (AN e) (upS (E1 T [(36,C7 row R 34 T0.length,C7 row R1 34 T1.length),(34,Cw T0,Cw T1)])):=by
 have t36:=hT (36,C7 row R 34 T0.length,C7 row R1 34 T1.length) (by simp)
 have t34:=hT (34,Cw T0,Cw T1) (by simp)
 simp only at t36 t34
 rw [Ui]
 exact Zd (upS T) (up1 36) (up1 34) (Ap _) (Ap _) (by decide) row R T0 p (by rw [At,t36];rfl) (by rw [At,t34];rfl) hl f R1 T1 e h
theorem VP {P:Program} {C:Ctx} {mu:List Nat} {x:IR} {Q:AX→AS→Prop} {s:AS} {row:List ByteArray} {R T:List Pr} {p:Pr} {n k:Int} (hT:T.length≤400) (e2:s.env 2=AN n) (e9:s.env 9=.one (.ptr 36 1 0 0)) (e10:s.env 10=AN k) (s11:s.S 11=some (Hk p)) (e11:s.env 11=.one (.ptr 11 1 0 0)) (s36:s.S 36=some (.box 65 [.st (.list (row.map DH)),.st (.list (R.map As)),.rest 34 1 (T.length + 1)])) (s34:s.S 34=some (Cw (p :: T))) (s35:s.S 35=none)
  (h:∀ s',s'.env 2=AN n→s'.env 9=.one (.ptr 36 1 0 0)→s'.env 10=AN k→s'.env 11=.one (.ptr 11 1 0 0)→s'.S 11=some (Hk p)→s'.S 36=some (C7 row R 34 T.length)→s'.S 34=some (Cw T)→s'.S 35=some (.dead 1000 4)→IWP P C mu x Q s'):IWP P C mu x Q s:=by
 have hTl:(T.map As).length=T.length:=List.length_map _
 have g1:=Aa.frontB (C:=C) (s:=s) 36 2 34 35 1000 (o:=1) (xs:=(p :: T).map As) s36 (by simp [hTl]) (by simp) s34 (HW (ts:=p :: T)) s35 (by simp;omega)
 have g2:=Aa.drop (C:=C) [34] _ (by decide) |> g1.trans
 have g3:=g2.trans (Aa.renameB (C:=C) 36 2 35 34 1000 (b:=.arow 40 4 (T.map As)) (e':=65) (cs:=[.st (.list (row.map DH)),.st (.list (R.map As)),.row 35 T.length]) ?_ ?_ ?_ (.inl ⟨_,_,_,rfl⟩) ?_ (by show (T.map As).length < 1000;omega))
 ·refine IWP.ghost g3 (h _ ?_ ?_ ?_ ?_ ?_ ?_ ?_ ?_)
  ·simp only [go_sem,fN,seval,AS.drop,Ac,AC.clears,AC.clear,AC.highs,AC.high,zD,AV.purge,AV.purges,AC.purge,AK.purge,Nat.reduceBEq,eT,iR,e2]
  ·simp only [go_sem,fN,seval,AS.drop,Ac,AC.clears,AC.clear,AC.highs,AC.high,zD,AV.purge,AV.purges,AC.purge,AK.purge,Nat.reduceBEq,eT,iR,e9]
  ·simp only [go_sem,fN,seval,AS.drop,Ac,AC.clears,AC.clear,AC.highs,AC.high,zD,AV.purge,AV.purges,AC.purge,AK.purge,Nat.reduceBEq,eT,iR,e10]
  ·simp only [go_sem,fN,seval,AS.drop,Ac,AC.clears,AC.clear,AC.highs,AC.high,zD,AV.purge,AV.purges,AC.purge,AK.purge,Nat.reduceBEq,eT,iR,e11]
  ·simp only [go_sem,fN,seval,AS.drop,Ac,AC.clears,AC.clear,AC.highs,AC.high,zD,AV.purge,AV.purges,AC.purge,AK.purge,Nat.reduceBEq,eT,iR,s11]
  ·simp only [go_sem,fN,seval,AS.drop,Ac,AC.clears,AC.clear,AC.highs,AC.high,zD,AV.purge,AV.purges,AC.purge,AK.purge,Nat.reduceBEq,eT,iR,hTl]
   rfl
  ·simp only [go_sem,fN,seval,AS.drop,Ac,AC.clears,AC.clear,AC.highs,AC.high,zD,AV.purge,AV.purges,AC.purge,AK.purge,Nat.reduceBEq,eT,iR,hTl]
  ·simp only [go_sem,fN,seval,AS.drop,Ac,AC.clears,AC.clear,AC.highs,AC.high,zD,AV.purge,AV.purges,AC.purge,AK.purge,Nat.reduceBEq,eT,iR,hTl]
   rfl
 ·simp only [go_sem,fN,seval,AS.drop,Ac,AC.clears,AC.clear,AC.highs,AC.high,zD,AV.purge,AV.purges,AC.purge,AK.purge,Nat.reduceBEq,eT,iR,hTl]
  rfl
 ·show some (AC.row 35 T.length)=some (AC.row 35 (T.map As).length)
  rw [hTl]
 ·simp only [go_sem,fN,seval,AS.drop,Ac,AC.clears,AC.clear,AC.highs,AC.high,zD,AV.purge,AV.purges,AC.purge,AK.purge,Nat.reduceBEq,eT,iR,hTl]
 ·simp only [go_sem,fN,seval,AS.drop,Ac,AC.clears,AC.clear,AC.highs,AC.high,zD,AV.purge,AV.purges,AC.purge,AK.purge,Nat.reduceBEq,eT,iR,hTl]
theorem SW {row:List ByteArray} (hr:Ds row=0) {eqs:List Pr} (he:Bg eqs=0) {n:Nat} (hn:n≤60) {f:Nat} {R0:List Pr} {e0':Int} (hc:FZ f row n [] eqs=some (R0,e0')):AY Tryz.prog 10 [CX row,CI eqs,AN n] (.tup [CI R0,AN e0']):=by
 have cr:=H6 row
 rw [hr] at cr
 have ce:=JE eqs
 have hel:eqs.length≤40:=by
  unfold Bg at he
  split at he
  ·cases he
  ·omega
 rw [he] at ce
 have hn0:¬ (n:Int) < 0:=by omega
 have hn6:¬ (60:Int) < n:=by omega
 refine HB.ac fun C hC=>?_
 unfold EA
 repeat' (first | (with_reducible first | refine W ?_ | refine Z0 ?_ | ((first | refine Wo fun K hK=>?_ | refine Wp ?_ | refine Wq ?_ | refine Wr ?_);(try simp only [go_sem,fN,seval,eT,iR,hn0,hn6,dT,dF,nL]);(repeat refine Ai ?_);(try (refine hK _ ?_;clear hK K));try refine iC ?_)) | refine Cg _ (cr) ?_ | refine Cg _ (ce) ?_)
 refine ⟨false,_,_,_,V0 eqs (by omega),by simp only [go_sem,fN,seval,eT,iR],fun k hk=>absurd hk (by simp),?_⟩
 have hel':(eqs.map As).length=eqs.length:=List.length_map _
 repeat' with_reducible first | refine W ?_ | refine Z0 ?_ | ((first | refine Wo fun K hK=>?_ | refine Wp ?_ | refine Wq ?_ | refine Wr ?_);(try simp only [go_sem,fN,seval,eT,iR,J4,hel',dT,dF,nL]);(repeat refine Ai ?_);(try (refine hK _ ?_;clear hK K));try refine iC ?_)
 refine IWP.ghost (Aa.settleC 36 1 (cs:=[.st (.list (row.map DH)),.full [],.row 34 eqs.length]) (c:=.full []) (x:=.list []) (by (simp only [go_sem,fN,seval,eT,iR];rfl)) rfl (by simp [stC])) ?_
 refine IWP.loopD [11,35] (fun z s=>∃ k R T,k≤n∧z=n - k∧FZ f row (n - k) R T=some (R0,e0')∧T.length≤400∧s.env 2=AN n∧s.env 9=.one (.ptr 36 1 0 0)∧s.env 10=AN k∧s.S 11=none∧s.S 35=none∧s.S 36=some (C7 row R 34 T.length)∧s.S 34=some (Cw T)) n
  ⟨0,[],eqs,Nat.zero_le _,rfl,hc,by omega,by simp only [go_sem,fN,seval,eT,iR],by simp only [go_sem,fN,seval,eT,iR],by simp only [go_sem,fN,seval,eT,iR],by simp only [go_sem,fN,seval,eT,iR,noS],by simp only [go_sem,fN,seval,eT,iR,noS],by (simp only [go_sem,fN,seval,eT,iR];rfl),by simp only [go_sem,fN,seval,eT,iR]⟩ ?_
 rintro z ⟨env,S⟩ ⟨k,R,T,hk,rfl,hc,hT,e2,e9,e10,s11,s35,s36,s34⟩
 simp only at e2 e9 e10 s11 s35 s36 s34
 have hTl:(T.map As).length=T.length:=List.length_map _
 cases T with
 | nil =>
  have hc':some (R,(0:Int))=some (R0,e0'):=by
   rw [← hc]
   cases (n - k) <;> rfl
  simp only [Option.some.injEq,Prod.mk.injEq] at hc'
  obtain ⟨rfl,rfl⟩:=hc'
  have hz:¬ (0:Int) < (([]:List Pr).length:Int):=by simp
  repeat' with_reducible first | refine W ?_ | refine Z0 ?_ | ((first | refine Wo fun K hK=>?_ | refine Wp ?_ | refine Wq ?_ | refine Wr ?_);(try simp only [go_sem,fN,seval,eT,iR,e2,e9,e10,s34,s36,hTl,hz,dT,dF,nL]);(repeat refine Ai ?_);(try (refine hK _ ?_;clear hK K));try refine iC ?_)
  simp only [go_sem,fN,seval,AR,AS.result,AB,AD,AL]
  try rfl
 | cons p T =>
  have hz:(0:Int) < ((T.length + 1:Nat):Int):=by omega
  by_cases hkn:k=n
  ·subst hkn
   rw [Nat.sub_self] at hc
   cases hc
   repeat' with_reducible first | refine W ?_ | refine Z0 ?_ | ((first | refine Wo fun K hK=>?_ | refine Wp ?_ | refine Wq ?_ | refine Wr ?_);(try simp only [go_sem,fN,seval,eT,iR,e2,e9,e10,s34,s36,hTl,hz,dT,dF,nL]);(repeat refine Ai ?_);(try (refine hK _ ?_;clear hK K));try refine iC ?_)
   simp only [go_sem,fN,seval,AR,AS.result,AB,AD,AL]
   try rfl
  ·have hkn':¬ (k:Int)=n:=by omega
   obtain ⟨m,hm⟩:∃ m,n - k=m + 1:=⟨n - k - 1,by omega⟩
   rw [hm,FZ] at hc
   split at hc
   ·cases hc
   rename_i R1 T1 e1 ht
   iterate 22 with_reducible first | refine W ?_ | refine Z0 ?_ | ((first | refine Wo fun K hK=>?_ | refine Wp ?_ | refine Wq ?_ | refine Wr ?_);(try simp only [go_sem,fN,seval,eT,iR,e2,e9,e10,s34,s36,s11,As,hTl,hz,hkn',dT,dF,nL]);(repeat refine Ai ?_);(try (refine hK _ ?_;clear hK K));try refine iC ?_)
   refine VP (row:=row) (R:=R) (T:=T) (p:=p) (n:=n) (k:=k) (by simp only [List.length_cons] at hT;omega) ?_ ?_ ?_ ?_ ?_ ?_ ?_ ?_ ?_
   ·simp only [go_sem,fN,seval,eT,iR,e2]
   ·simp only [go_sem,fN,seval,eT,iR,e9]
   ·simp only [go_sem,fN,seval,eT,iR,e10]
   ·simp only [go_sem,fN,seval,eT,iR]
   ·simp only [go_sem,fN,seval,eT,iR]
   ·simp only [go_sem,fN,seval,eT,iR]
   ·simp only [go_sem,fN,seval,eT,iR,s34]
   ·simp only [go_sem,fN,seval,eT,iR,s35]
   clear e2 e9 e10 s11 s35 s36 s34
   rintro ⟨env,S⟩ e2 e9 e10 e11 s11 s36 s34 s35
   simp only at e2 e9 e10 e11 s11 s36 s34 s35
   have hT1:T.length≤400:=by simp only [List.length_cons] at hT;omega
   by_cases he1:e1=0
   case neg =>
    rw [if_pos he1] at hc
    cases hc
    repeat' with_reducible first | refine W ?_ | refine Z0 ?_ | ((first | refine Wo fun K hK=>?_ | refine Wp ?_ | refine Wq ?_ | refine Wr ?_);(try simp only [go_sem,fN,seval,eT,iR,e2,e9,e10,e11,s11,he1,dT,dF,nL]);(repeat refine Ai ?_);(try (refine hK _ ?_;clear hK K));try refine iC ?_)
    refine ⟨_,_,Pt (by simp only [go_sem,fN,seval,eT,iR,s36]) (by simp only [go_sem,fN,seval,eT,iR,s34]),Ti (by omega) ht,?_⟩
    repeat' with_reducible first | refine W ?_ | refine Z0 ?_ | ((first | refine Wo fun K hK=>?_ | refine Wp ?_ | refine Wq ?_ | refine Wr ?_);(try simp only [go_sem,fN,seval,eT,iR,e2,e9,e10,e11,s11,he1,dT,dF,nL]);(repeat refine Ai ?_);(try (refine hK _ ?_;clear hK K));try refine iC ?_)
    simp only [go_sem,fN,seval,AR,AS.result,AB,AD,AL]
    rfl
   case pos =>
    subst he1
    have hT2:=Rw hT1 ht
    have hT2l:(T1.map As).length=T1.length:=List.length_map _
    rw [if_neg (by simp)] at hc
    repeat' with_reducible first | refine W ?_ | refine Z0 ?_ | ((first | refine Wo fun K hK=>?_ | refine Wp ?_ | refine Wq ?_ | refine Wr ?_);(try simp only [go_sem,fN,seval,eT,iR,e2,e9,e10,e11,s11,dT,dF,nL]);(repeat refine Ai ?_);(try (refine hK _ ?_;clear hK K));try refine iC ?_)
    refine ⟨_,_,Pt (by simp only [go_sem,fN,seval,eT,iR,s36]) (by simp only [go_sem,fN,seval,eT,iR,s34]),Ti (by omega) ht,?_⟩
    repeat' with_reducible first | refine W ?_ | refine Z0 ?_ | ((first | refine Wo fun K hK=>?_ | refine Wp ?_ | refine Wq ?_ | refine Wr ?_);(try simp only [go_sem,fN,seval,eT,iR,e2,e9,e10,e11,s11,dT,dF,nL]);(repeat refine Ai ?_);(try (refine hK _ ?_;clear hK K));try refine iC ?_)
    refine AH ⟨n - (k + 1),by omega,k + 1,R1,T1,by omega,rfl,by rw [show n - (k + 1)=m by omega];exact hc,hT2,?_⟩
    repeat' refine And.intro ?_ ?_
    all_goals first | (simp only [go_sem,fN,seval,AS.drop,Ac,AC.clears,AC.clear,AC.highs,AC.high,zD,AV.purge,AV.purges,AC.purge,AK.purge,Nat.reduceBEq,eT,iR,e2,e9,e10,e11,s11,s35,hT2l];done) | (simp only [go_sem,fN,seval,AS.drop,Ac,AC.clears,AC.clear,AC.highs,AC.high,zD,AV.purge,AV.purges,AC.purge,AK.purge,Nat.reduceBEq,eT,iR,e2,e9,e10,e11,s11,s35,hT2l];first | rfl | (congr 3;done))



set_option maxRecDepth 100000

theorem TZ {t:Tm} (hc:t.chk=0) (hz:t.size≤200):t.may=0:=by
 unfold Tm.may
 rw [if_neg (by omega)]
 exact hc

def Di:IR :=
 (.seq (.ops [.i 4 (.mov (.c (.one (.st (.bool false)))))]) (.seq (.seq (.ops [.i 5 (.mov (.n 0))]) (.block 0 (.loop (.seq (.seq (.ops [.m 8 5,.m 9 1,.i 10 (.len false (.t 9)),.i 11 (.bin .lss (.t 8) (.t 10))]) (.cond (.t 11) .skip (.exit 0))) (.seq (.block 1 (.seq (.ops [.m 15 0,.m 16 1,.m 17 5,.i 18 (.indexAddr 4 (.t 16) (.t 17)),.f 19 0 18,.L 20 2 19,.m 21 1,.m 22 5,.i 23 (.indexAddr 4 (.t 21) (.t 22)),.f 24 2 23,.L 25 2 24,.i 26 (.call 37 [.t 15,.t 20,.t 25]),.m 14 26,.i 27 (.extract 0 (.t 14)),.i 28 (.extract 1 (.t 14)),.m 6 27,.m 7 28]) (.seq (.ops [.m 29 7,.i 30 (.bin .neq (.t 29) (.n 0)),.m 31 30,.mk (some 32) (some (31,false)) (.mov (.t 6)) .no,.mk (some 33) (some (31,false)) (.un .not (.t 32)) .no,.i 34 (.pick (.t 31) (.c (.one (.st (.bool true)))) (.t 33))]) (.cond (.t 34) (.seq (.ops [.i 4 (.mov (.c (.one (.st (.bool false)))))]) .ret) .skip)))) (.ops [.m 12 5,.i 13 (.bin .add (.t 12) (.n 1)),.m 5 13])))))) (.seq (.ops [.i 4 (.mov (.c (.one (.st (.bool true)))))]) .ret)))
theorem Ga:OkF Tryz.prog 15 35 [] Di [.t 4]:=.of Tryz.func15 rfl rfl (by kernel_rfl) rfl

theorem ZK {row:List ByteArray} (hrm:Ds row=0) {t u:Tm} (k1:t.chk=0) (q1:t.size≤200) (k2:u.chk=0) (q2:u.size≤200):AY Tryz.prog 37 [CX row,aTm t,aTm u] (.tup [Ad (paB row t u),AN 0]):=by
 have e:EV row t u=0:=by
  unfold EV BS
  rw [if_pos hrm,if_pos (TZ k1 q1)]
  exact TZ k2 q2
 have:=Qa row t u
 unfold Sa at this
 rw [if_pos e,e] at this
 exact this
theorem ZA {row:List ByteArray} (hrm:Ds row=0) {R:List Pr} (hR:A7 R):AY Tryz.prog 15 [CX row,CI R] (Ad (R.all fun r=>paB row r.1 r.2)):=by
 have h40:=hR.len
 refine Ga.ac fun C hC=>?_
 unfold Di
 repeat' with_reducible first | refine W ?_ | refine Z0 ?_ | ((first | refine Wo fun K hK=>?_ | refine Wp ?_ | refine Wq ?_ | refine Wr ?_);(try simp only [go_sem,fN,seval,eT,iR,dT,dF,nL]);(repeat refine Ai ?_);(try (refine hK _ ?_;clear hK K));try refine iC ?_)
 refine IWP.loop (fun m s=>∃ k,k≤R.length∧m=R.length - k∧(R.take k).all (fun r=>paB row r.1 r.2)=true∧s.env 0=CX row∧s.env 1=CI R∧s.env 5=AN k) R.length ⟨0,Nat.zero_le _,rfl,rfl,rfl,rfl,rfl⟩ ?_
 rintro m ⟨env,S⟩ ⟨k,hk,rfl,hall,e0,e1,e5⟩
 simp only at e0 e1 e5
 by_cases hkl:k < R.length
 case neg =>
  have hkl':¬ (k:Int) < R.length:=by omega
  rw [List.take_of_length_le (by omega)] at hall
  repeat' with_reducible first | refine W ?_ | refine Z0 ?_ | ((first | refine Wo fun K hK=>?_ | refine Wp ?_ | refine Wq ?_ | refine Wr ?_);(try simp only [go_sem,fN,seval,eT,iR,e0,e1,e5,hkl',dT,dF,nL]);(repeat refine Ai ?_);(try (refine hK _ ?_;clear hK K));try refine iC ?_)
  simp only [go_sem,fN,seval,AR,AS.result,AB,AD,AL,hall]
 have hkl':(k:Int) < R.length:=by omega
 obtain ⟨q,hq⟩:=Aj hkl
 have mq:=AU hq
 have a1:=Tm.may_chk (hR.left q mq)
 have a2:=Tm.may_chk (hR.right q mq)
 have cp:=ZK hrm a1.1 a1.2 a2.1 a2.2
 cases hb:paB row q.1 q.2 with
 | true =>
  rw [hb] at cp
  repeat' (first | (with_reducible first | refine W ?_ | refine Z0 ?_ | ((first | refine Wo fun K hK=>?_ | refine Wp ?_ | refine Wq ?_ | refine Wr ?_);(try simp only [go_sem,fN,seval,eT,iR,e0,e1,e5,hkl',hq,As,dT,dF,nL]);(repeat refine Ai ?_);(try (refine hK _ ?_;clear hK K));try refine iC ?_)) | refine Cg _ (cp) ?_)
  refine AH ⟨R.length - (k + 1),by omega,k + 1,by omega,rfl,?_,?_⟩
  ·rw [Au hq,List.all_append,hall]
   simp [hb]
  ·simp only [go_sem,fN,seval,eT,iR,e0,e1,e5]
   congr 3
 | false =>
  rw [hb] at cp
  have hno:(R.all fun r=>paB row r.1 r.2)=false:=by
   rw [List.all_eq_false]
   exact ⟨q,mq,by simp [hb]⟩
  repeat' (first | (with_reducible first | refine W ?_ | refine Z0 ?_ | ((first | refine Wo fun K hK=>?_ | refine Wp ?_ | refine Wq ?_ | refine Wr ?_);(try simp only [go_sem,fN,seval,eT,iR,e0,e1,e5,hkl',hq,As,dT,dF,nL]);(repeat refine Ai ?_);(try (refine hK _ ?_;clear hK K));try refine iC ?_)) | refine Cg _ (cp) ?_)
  simp only [go_sem,fN,seval,AR,AS.result,AB,AD,AL,hno]

theorem Aa.kill {C:Ctx} {s:AS} (id:Nat) {ty:TypeId} {xs:List AC} (hS:s.S id=some (.box ty xs)):Aa C s (s.set id (.dead 1 0)):=fun a w ⟨σ,ι,R⟩=>by
 have hb:=R.blk _ _ hS
 cases hb with
 | @box _ _ g vs h1 h2 h3 h4 h5 =>
  obtain ⟨hu,R'⟩:=R.turn (w':=w) hS (.dead 1 0) (ι id) (σ':=σ) (fun _ _ h=>h) (fun _ _ _=>rfl) R.fit (Nat.le_refl _) (fun _=>⟨rfl,rfl⟩) ⟨rfl,rfl,rfl⟩ (Nat.le_refl _) (fun _ _ _=>rfl) (fun g h=>.inl h)
   (fun hu=>.dead fun g' hg'=>by rw [h1] at hg';cases hg';exact ⟨_,h3,rfl⟩)
  exact ⟨σ,_,R'⟩
theorem TW {C:Ctx} {v:Value} {s:AS} {S:AA} {a0:Nat} (hS:Am S) (ha:1000≤a0) (h3:s.S a0=some (.dead 1 0)) (h4:∀ i,1000≤i→i ≠ a0→s.S i=S i):Yg C v (AG S a0 (some (.dead 1 0))) (.pan v) s :=
 ⟨rfl,_,Aa.low (Ra hS rfl h3 h4),TE hS ha h3 h4,BP hS ha rfl⟩
theorem XQ {C:Ctx} {v:Value} {s:AS} {S:AA} {a0:Nat} {ty:TypeId} {xs:List AC} (hS:Am S) (ha:1000≤a0) (h3:s.S a0=some (.box ty xs)) (h4:∀ i,1000≤i→i ≠ a0→s.S i=S i):Yg C v (AG S a0 (some (.dead 1 0))) (.pan v) s:=by
 obtain ⟨h1,s2,hg,h5,h6⟩:=TW (C:=C) (v:=v) (s:=s.set a0 (.dead 1 0)) hS ha (AE _ _ _) (fun i hi hne=>(AF _ hne _).trans (h4 i hi hne))
 exact ⟨h1,s2,(Aa.kill a0 h3).trans hg,h5,h6⟩

def EW (u:ByteArray):Bool:=decide (0 < u.size) && decide (Cv u 0=40)
theorem QT {u:ByteArray} (h:0 < u.size):u.extract 0 1=⟨#[40]⟩ ↔ Cv u 0=40:=by
 have e1:(u.extract 0 1).data.toList=u.data.toList.take 1:=by
  rw [ByteArray.data_extract,Array.toList_extract,List.extract_eq_take_drop]
  rfl
 have hl:0 < u.data.toList.length:=h
 unfold Cv
 obtain ⟨c,l,hc⟩:∃ c l,u.data.toList=c :: l:=by
  cases hu:u.data.toList with
  | nil=>rw [hu] at hl;cases hl
  | cons c l=>exact ⟨c,l,rfl⟩
 rw [hc] at e1 ⊢
 constructor
 ·intro he
  rw [he] at e1
  have:c=40:=by
   have h2:[40]=[c]:=e1
   injection h2 with h3
   exact h3.symm
  subst this
  rfl
 ·intro he
  have hc40:c=40:=by
   have:c.toNat=40:=by
    have h':((c.toNat:Nat):Int)=40:=he
    omega
   exact UInt8.toNat_inj.1 this
  subst hc40
  apply ByteArray.ext
  apply Array.toList_inj.1
  rw [e1]
  rfl
theorem Od (u:ByteArray):AY Tryz.prog 129 [Bo u,Bo ⟨#[40]⟩] (Ad (EW u)):=by
 have h40i:((#[(40:UInt8)].size:Nat):Int)=1:=rfl
 by_cases h0:u.size=0
 ·have hb:EW u=false:=by unfold EW;rw [h0];rfl
  rw [hb]
  have h0i:¬ (1:Int)≤u.size:=by omega
  refine B8.ac fun C hC=>?_
  unfold BT
  repeat' with_reducible first | refine W ?_ | refine Z0 ?_ | ((first | refine Wo fun K hK=>?_ | refine Wp ?_ | refine Wq ?_ | refine Wr ?_);(try simp only [go_sem,fN,seval,eT,iR,h0i,h40i,dT,dF,nL]);(repeat refine Ai ?_);(try (refine hK _ ?_;clear hK K));try refine iC ?_)
  simp only [go_sem,fN,seval,AR,AS.result,AB,AD,AL]
 ·have h0i:(1:Int)≤u.size:=by omega
  have he:=QT (u:=u) (by omega)
  have hb:EW u=decide (u.extract 0 1=⟨#[40]⟩):=by
   unfold EW
   rw [decide_eq_true (by omega:0 < u.size),Bool.true_and]
   exact decide_eq_decide.2 he.symm
  rw [hb]
  refine B8.ac fun C hC=>?_
  unfold BT
  repeat' with_reducible first | refine W ?_ | refine Z0 ?_ | ((first | refine Wo fun K hK=>?_ | refine Wp ?_ | refine Wq ?_ | refine Wr ?_);(try simp only [go_sem,fN,seval,eT,iR,h0i,h40i,dT,dF,nL]);(repeat refine Ai ?_);(try (refine hK _ ?_;clear hK K));try refine iC ?_)
  simp only [go_sem,fN,seval,AR,AS.result,AB,AD,AL]
theorem Gp (u:ByteArray):AY Tryz.prog 115 [Bo u,Bo ⟨#[40]⟩] (Ad (EW u)):=by
 refine Gh.ac fun C hC=>?_
 unfold D9
 repeat' (first | (with_reducible first | refine W ?_ | refine Z0 ?_ | ((first | refine Wo fun K hK=>?_ | refine Wp ?_ | refine Wq ?_ | refine Wr ?_);(try simp only [go_sem,fN,seval,eT,iR,dT,dF,nL]);(repeat refine Ai ?_);(try (refine hK _ ?_;clear hK K));try refine iC ?_)) | refine Cg _ (Od u) ?_)
 simp only [go_sem,fN,seval,AR,AS.result,AB,AD,AL]
abbrev Iu (u:ByteArray) (l:Int):AK:=.box 113 [.st (.str u),.st (.int .i64 l)]
abbrev Lw (e:Int):Value:=.iface 109 (.int .i64 e)
theorem Lk {s:ByteArray} {i:Nat} (hi:i≤s.size):BU s i=⟨#[]⟩ ↔ i=s.size:=by
 constructor
 ·intro h
  have:=Dr s i
  rw [h] at this
  have h0:(⟨#[]⟩:ByteArray).size=0:=rfl
  omega
 ·intro h
  have:=Dr s i
  exact ByteArray.size_eq_zero_iff.1 (by omega)
def Z9 (s:ByteArray) (r:Rd) (b:Nat) (S:AA) (x:AS):Prop:=∃ r0,(AB x [RV.cell 2 true 2]).map AL=some r0∧outV x.S r0=some (aTm r.t)∧x.S b=some (Iu (BU s r.i) (200 - r.k))∧∀ i,1000≤i→i ≠ b→x.S i=S i
def WE (b:Nat) (S:AA) (x:AS):Prop:=((∃ ty xs,x.S b=some (.box ty xs)) ∨ x.S b=some (.dead 1 0))∧∀ i,1000≤i→i ≠ b→x.S i=S i
theorem DI {b:Nat} {S:AA} {x:AS} {u:ByteArray} {l:Int} (h:x.S b=some (Iu u l)) (h2:∀ i,1000≤i→i ≠ b→x.S i=S i):WE b S x:=⟨.inl ⟨_,_,h⟩,h2⟩
def ZO (s:ByteArray) (r:Rd) (b:Nat) (S:AA):Prop :=
 (r.e=0→Ah Tryz.prog 85 [.one (.ptr b 1 0 0)] S (aTm r.t) (AG S b (some (Iu (BU s r.i) (200 - r.k))))) ∧
 (r.e ≠ 0→X_ Tryz.prog 85 [.one (.ptr b 1 0 0)] S (Lw r.e) (AG S b (some (.dead 1 0))))
theorem WO {s:ByteArray} {r:Rd} {b:Nat} {S:AA} (hb:1000≤b) (h:Am S→∀ (C:Ctx) (Q:AX→AS→Prop),C.n=125→(r.e=0→∀ x,Z9 s r b S x→Q .ret x)→(r.e ≠ 0→∀ x,WE b S x→Q (.pan (Lw r.e)) x)→IWP Tryz.prog C [90] Be Q (AS.startS [.one (.ptr b 1 0 0)] S)):ZO s r b S:=by
 refine ⟨fun he=>?_,fun he=>?_⟩
 ·refine CV.acS fun hS C hC=>h hS C _ hC (fun _ x hx=>?_) (fun hne=>absurd he hne)
  obtain ⟨r0,h1,h2,h3,h4⟩:=hx
  exact Bi r0 hS hb rfl trivial h1 h2 h3 h4
 ·refine CV.acP fun hS C hC=>h hS C _ hC (fun h0=>absurd h0 he) (fun _ x hx=>?_)
  obtain ⟨⟨ty,xs,h1⟩ | h1,h2⟩:=hx
  ·exact XQ hS hb h1 h2
  ·exact TW hS hb h1 h2
def AAF (s:ByteArray) (r:Rd) (f:Nat) (nm:ByteArray) (acc:List Tm) (j c:Nat) (more:Bool):Prop :=
 (more=true∧∃ g,r=rdA s g nm acc j c∧2 * (s.size - j)≤g∧g≤f∧j < s.size) ∨ (more=false∧r=⟨.mk nm acc,j + 1,c,0⟩∧j < s.size)
theorem Yi (s:ByteArray) (hs:s.size≤100000):∀ f i k:Nat,i≤s.size→k≤200→2 * (s.size - i) < f→∀ (b:Nat) (S:AA),1000≤b→S b=some (Iu (BU s i) (200 - k))→ZO s (rd s f i k) b S:=by
 intro f
 induction f using Nat.strongRecOn with
 | _ f ih =>
 intro i k hi hk hf b S hb sb
 obtain ⟨f,rfl⟩:∃ g,f=g + 1:=⟨f - 1,by omega⟩
 obtain ⟨l1,l2⟩:=MC hi
 have hus:=Dr s i
 refine WO hb fun hS C Q hC hok hpan=>?_
 have n2:S 2=none:=AJ hS (by omega)
 have n4:S 4=none:=AJ hS (by omega)
 have n900:S 900=none:=AJ hS (by omega)
 have e2:¬ b=2:=by omega
 have e4:¬ b=4:=by omega
 have e900:¬ b=900:=by omega
 have d2:¬ 2=b:=by omega
 have d4:¬ 4=b:=by omega
 have d900:¬ 900=b:=by omega
 unfold Be
 repeat' with_reducible first | refine W ?_ | refine Z0 ?_ | ((first | refine Wx rfl fun K hK=>?_ | refine Wp ?_ | refine Wq ?_ | refine Wr ?_);(try simp only [go_sem,fN,seval,eT,iR,n2,e2,d2,dT,dF,nL]);(repeat refine Ai ?_);(try (refine hK _ ?_;clear hK K));try refine iC ?_)
 refine IWP.cut 0 (fun x=>x.env 0=.one (.ptr b 1 0 0)∧x.env 2=.one (.ptr 2 1 0 0)∧x.env 3=AN ((Ab s i - i:Nat):Int)∧x.S 2=some ID∧x.S 4=none∧x.S 900=none∧x.S b=some (Iu (BU s i) (200 - k))∧∀ i,1000≤i→i ≠ b→x.S i=S i) ?_ ?_
 ·refine IWP.loop (fun m x=>∃ j,i + j≤s.size∧m=s.size - i - j∧Ab s i=Ab s (i + j)∧x.env 0=.one (.ptr b 1 0 0)∧x.env 2=.one (.ptr 2 1 0 0)∧x.env 3=AN j∧x.S 2=some ID∧x.S 4=none∧x.S 900=none∧x.S b=some (Iu (BU s i) (200 - k))∧∀ i,1000≤i→i ≠ b→x.S i=S i) (s.size - i) ⟨0,hi,rfl,rfl,rfl,rfl,rfl,by simp only [go_sem,fN,seval,eT,iR],by simp only [go_sem,fN,seval,eT,iR,n4],by simp only [go_sem,fN,seval,eT,iR,n900],by simp only [go_sem,fN,seval,eT,iR,e2,sb],fun i hi hne=>?_⟩ ?_
  ·have i2:¬ i=2:=by omega
   simp only [go_sem,fN,seval,eT,iR,i2]
  rintro m ⟨env,S1⟩ ⟨j,hj,rfl,hl,v0,v2,v3,t2,t4,t900,tb,hrest⟩
  simp only at v0 v2 v3 t2 t4 t900 tb hrest
  by_cases hlt:(j:Int) < (BU s i).size
  ·have hbt:=F2 (s:=s) (i:=i) (k:=j) (by omega)
   have hbr:=EX s (i + j)
   rw [← hbt] at hbr
   by_cases hlet:BI (Cv (BU s i) j)=true
   ·repeat' (first | (with_reducible first | refine W ?_ | refine Z0 ?_ | ((first | refine Wx rfl fun K hK=>?_ | refine Wp ?_ | refine Wq ?_ | refine Wr ?_);(try simp only [go_sem,fN,seval,eT,iR,v0,v2,v3,t2,t4,t900,tb,hlt,hlet,dT,dF,nL]);(repeat refine Ai ?_);(try (refine hK _ ?_;clear hK K));try refine iC ?_)) | refine Cg _ (MR (Cv (BU s i) j) hbr.1) ?_)
    refine AH ⟨s.size - i - (j + 1),by omega,j + 1,by omega,rfl,?_,?_⟩
    ·rw [hl]
     exact Q6 (by omega) (by rw [← hbt];exact hlet)
    ·simp only [go_sem,fN,seval,eT,iR,v0,v2,v3,t2,t4,t900,tb]
     exact ⟨by congr 3,hrest⟩
   ·have hst:Ab s (i + j)=i + j:=MS (by omega) (by rw [← hbt];exact hlet)
    repeat' (first | (with_reducible first | refine W ?_ | refine Z0 ?_ | ((first | refine Wx rfl fun K hK=>?_ | refine Wp ?_ | refine Wq ?_ | refine Wr ?_);(try simp only [go_sem,fN,seval,eT,iR,v0,v2,v3,t2,t4,t900,tb,hlt,hlet,dT,dF,nL]);(repeat refine Ai ?_);(try (refine hK _ ?_;clear hK K));try refine iC ?_)) | refine Cg _ (MR (Cv (BU s i) j) hbr.1) ?_)
    refine ⟨rfl,?_⟩
    simp only [go_sem,fN,seval,eT,iR,v0,v2,v3,t2,t4,t900,tb]
    refine ⟨?_,hrest⟩
    rw [hl,hst]
    congr 4
    omega
  ·have hst:Ab s (i + j)=i + j:=OM (by omega)
   repeat' with_reducible first | refine W ?_ | refine Z0 ?_ | ((first | refine Wx rfl fun K hK=>?_ | refine Wp ?_ | refine Wq ?_ | refine Wr ?_);(try simp only [go_sem,fN,seval,eT,iR,v0,v2,v3,t2,t4,t900,tb,hlt,dT,dF,nL]);(repeat refine Ai ?_);(try (refine hK _ ?_;clear hK K));try refine iC ?_)
   refine ⟨rfl,?_⟩
   simp only [go_sem,fN,seval,eT,iR,v0,v2,v3,t2,t4,t900,tb]
   refine ⟨?_,hrest⟩
   rw [hl,hst]
   congr 4
   omega
 rintro ⟨env,S1⟩ ⟨v0,v2,v3,t2,t4,t900,tb,hrest⟩
 simp only at v0 v2 v3 t2 t4 t900 tb hrest
 have htn:=Lk hi
 by_cases h0:Ab s i=i
 ·rw [TK h0] at hok hpan
  have hz:((Ab s i - i:Nat):Int)=0:=by omega
  rw [hz] at v3
  by_cases h1:i=s.size
  ·have ht:=htn.2 h1
   rw [if_pos h1] at hpan
   repeat' with_reducible first | refine W ?_ | refine Z0 ?_ | ((first | refine Wx rfl fun K hK=>?_ | refine Wp ?_ | refine Wq ?_ | refine Wr ?_);(try simp only [go_sem,fN,seval,eT,iR,v0,v2,v3,t2,t4,t900,tb,ht,dT,dF,nL]);(repeat refine Ai ?_);(try (refine hK _ ?_;clear hK K));try refine iC ?_)
   refine IWP.opsPan 1 _ rfl (by kernel_rfl) ?_
   simp only [go_sem,fN,seval,eT,iR,CT,List.take_succ_cons,List.take_zero]
   intro envP
   repeat' (with_reducible first | refine Wy ?_ | refine Wz ?_ | refine Wv ?_)
   exact hpan (by show ¬ (13:Int)=0;decide) _ (DI tb hrest)
  ·have ht:¬ BU s i=⟨#[]⟩:=fun h=>h1 (htn.1 h)
   rw [if_neg h1] at hpan
   repeat' with_reducible first | refine W ?_ | refine Z0 ?_ | ((first | refine Wx rfl fun K hK=>?_ | refine Wp ?_ | refine Wq ?_ | refine Wr ?_);(try simp only [go_sem,fN,seval,eT,iR,v0,v2,v3,t2,t4,t900,tb,ht,dT,dF,nL]);(repeat refine Ai ?_);(try (refine hK _ ?_;clear hK K));try refine iC ?_)
   refine IWP.opsPan 1 _ rfl (by kernel_rfl) ?_
   simp only [go_sem,fN,seval,eT,iR,CT,List.take_succ_cons,List.take_zero]
   intro envP
   repeat' (with_reducible first | refine Wy ?_ | refine Wz ?_ | refine Wv ?_)
   exact hpan (by show ¬ (12:Int)=0;decide) _ (DI tb hrest)
 obtain ⟨n0,hn0⟩:∃ n0,Ab s i=i + n0:=⟨Ab s i - i,by omega⟩
 have hq:Ab s i - i=n0:=by omega
 rw [hq] at v3
 have q1:¬ (n0:Int)=0:=by omega
 have hin0:i + n0≤s.size:=by omega
 obtain ⟨nm,hnm⟩:∃ nm,s.extract i (i + n0)=nm:=⟨_,rfl⟩
 have hext:(BU s i).extract 0 n0=nm:=(UH hin0).trans hnm
 have hdr:=tail_drop (s:=s) (i:=i) (n:=n0) hin0
 by_cases h1:A_ nm=true
 case neg =>
  rw [Ta h0 (by rw [hn0,hnm];exact h1)] at hok hpan
  repeat' (first | (with_reducible first | refine W ?_ | refine Z0 ?_ | ((first | refine Wx rfl fun K hK=>?_ | refine Wp ?_ | refine Wq ?_ | refine Wr ?_);(try simp only [go_sem,fN,seval,eT,iR,v0,v2,v3,t2,t4,t900,tb,q1,hext,h1,dT,dF,nL]);(repeat refine Ai ?_);(try (refine hK _ ?_;clear hK K));try refine iC ?_)) | refine Cg _ (H9 nm) ?_)
  refine IWP.opsPan 1 _ rfl (by kernel_rfl) ?_
  simp only [go_sem,fN,seval,eT,iR,CT,List.take_succ_cons,List.take_zero]
  intro envP
  repeat' (with_reducible first | refine Wy ?_ | refine Wz ?_ | refine Wv ?_)
  refine hpan (by show ¬ (1:Int)=0;decide) _ (DI (u:=BU s i) (l:=200 - k) ?_ fun i hi hne=>?_)
  ·simp only [go_sem,fN,seval,eT,iR,tb,e4]
  ·have i4:¬ i=4:=by omega
   simp only [go_sem,fN,seval,eT,iR,i4]
   exact hrest i hi hne
 case pos =>
 have hk1:((200:Int) - k - 1 < 0) ↔ 200 < k + 1:=by omega
 by_cases h2:200 < k + 1
 ·have h2i:(200:Int) - k - 1 < 0:=hk1.2 h2
  rw [QY h0 (by rw [hn0,hnm];exact h1) h2] at hok hpan
  repeat' (first | (with_reducible first | refine W ?_ | refine Z0 ?_ | ((first | refine Wx rfl fun K hK=>?_ | refine Wp ?_ | refine Wq ?_ | refine Wr ?_);(try simp only [go_sem,fN,seval,eT,iR,v0,v2,v3,t2,t4,t900,tb,q1,hext,h1,h2i,e4,dT,dF,nL]);(repeat refine Ai ?_);(try (refine hK _ ?_;clear hK K));try refine iC ?_)) | refine Cg _ (H9 nm) ?_)
  refine IWP.opsPan 1 _ rfl (by kernel_rfl) ?_
  simp only [go_sem,fN,seval,eT,iR,CT,List.take_succ_cons,List.take_zero]
  intro envP
  repeat' (with_reducible first | refine Wy ?_ | refine Wz ?_ | refine Wv ?_)
  refine hpan (by show ¬ (3:Int)=0;decide) _ (DI (u:=BU s i) (l:=200 - k - 1) ?_ fun i hi hne=>?_)
  ·simp only [go_sem,fN,seval,eT,iR,tb,e4]
  ·have i4:¬ i=4:=by omega
   simp only [go_sem,fN,seval,eT,iR,i4,hne]
   exact hrest i hi hne
 have h2i:¬ (200:Int) - k - 1 < 0:=fun h=>h2 (hk1.1 h)
 have hus2:=Dr s (i + n0)
 by_cases h3:EW (BU s (i + n0))=true
 case neg =>
  have h3':Ab s i=s.size ∨ Ak s (Ab s i) ≠ 40:=by
   rw [hn0]
   by_cases hz:i + n0=s.size
   ·exact .inl hz
   ·refine .inr fun h40=>h3 ?_
    have hbt:=F2 (s:=s) (i:=i + n0) (k:=0) (by omega)
    rw [Nat.add_zero,h40] at hbt
    unfold EW
    rw [hbt,hus2]
    simp
    omega
  rw [Oy h0 (by rw [hn0,hnm];exact h1) h2 h3',hn0,hnm] at hok hpan
  repeat' (first | (with_reducible first | refine W ?_ | refine Z0 ?_ | ((first | refine Wx rfl fun K hK=>?_ | refine Wp ?_ | refine Wq ?_ | refine Wr ?_);(try simp only [go_sem,fN,seval,eT,iR,v0,v2,v3,t2,t4,t900,tb,q1,hext,hdr,h1,h2i,h3,e4,d4,e2,d2,dT,dF,nL]);(repeat refine Ai ?_);(try (refine hK _ ?_;clear hK K));try refine iC ?_)) | refine Cg _ (H9 nm) ?_ | refine Cg _ (Gp (BU s (i + n0))) ?_)
  refine hok rfl _ ⟨.agg [.st (.str nm),.full []],?_,?_,?_,fun i hi hne=>?_⟩
  ·simp only [go_sem,fN,seval,eT,iR,AB,AD,AL,v0,v2,v3,t2,t4,t900,tb,e4,d4,e2,d2]
  ·simp only [go_sem,fN,seval,eT,iR]
   rfl
  ·simp only [go_sem,fN,seval,eT,iR,tb,e4,e2,hdr]
   rw [show (200:Int) - ((k + 1:Nat):Int)=200 - k - 1 by omega]
  ·have i4:¬ i=4:=by omega
   have i2:¬ i=2:=by omega
   simp only [go_sem,fN,seval,eT,iR,i4,i2,hne]
   exact hrest i hi hne
 case pos =>
 have h3n:¬ (Ab s i=s.size ∨ Ak s (Ab s i) ≠ 40):=by
  unfold EW at h3
  rw [Bool.and_eq_true,decide_eq_true_eq,decide_eq_true_eq,hus2] at h3
  have hbt:=F2 (s:=s) (i:=i + n0) (k:=0) (by omega)
  rw [hn0]
  intro h
  rcases h with h | h
  ·omega
  ·exact h (by rw [Nat.add_zero] at hbt;rw [← hbt];exact h3.2)
 by_cases h4:AP nm=true
 ·rw [TV h0 (by rw [hn0,hnm];exact h1) h2 h3n (by rw [hn0,hnm];exact h4)] at hok hpan
  repeat' (first | (with_reducible first | refine W ?_ | refine Z0 ?_ | ((first | refine Wx rfl fun K hK=>?_ | refine Wp ?_ | refine Wq ?_ | refine Wr ?_);(try simp only [go_sem,fN,seval,eT,iR,v0,v2,v3,t2,t4,t900,tb,q1,hext,hdr,h1,h2i,h3,h4,e4,d4,e2,d2,dT,dF,nL]);(repeat refine Ai ?_);(try (refine hK _ ?_;clear hK K));try refine iC ?_)) | refine Cg _ (H9 nm) ?_ | refine Cg _ (Gp (BU s (i + n0))) ?_ | refine Cg _ (Al nm) ?_)
  refine IWP.opsPan 1 _ rfl (by kernel_rfl) ?_
  simp only [go_sem,fN,seval,eT,iR,CT,List.take_succ_cons,List.take_zero]
  intro envP
  repeat' (with_reducible first | refine Wy ?_ | refine Wz ?_ | refine Wv ?_)
  refine hpan (by show ¬ (2:Int)=0;decide) _ (DI (u:=BU s (i + n0)) (l:=200 - k - 1) ?_ fun i hi hne=>?_)
  ·simp only [go_sem,fN,seval,eT,iR,tb,e4,hdr]
  ·have i4:¬ i=4:=by omega
   simp only [go_sem,fN,seval,eT,iR,i4,hne]
   exact hrest i hi hne
 rw [TS h0 (by rw [hn0,hnm];exact h1) h2 h3n (by rw [hn0,hnm];exact h4),hn0,hnm] at hok hpan
 have hlt0:i + n0 < s.size:=by
  have:Ab s i ≠ s.size:=fun h=>h3n (.inl h)
  omega
 have hf0:2 * (s.size - (i + n0))≤f:=by omega
 generalize i + n0=to at *
 repeat' (first | (with_reducible first | refine W ?_ | refine Z0 ?_ | ((first | refine Wx rfl fun K hK=>?_ | refine Wp ?_ | refine Wq ?_ | refine Wr ?_);(try simp only [go_sem,fN,seval,eT,iR,v0,v2,v3,t2,t4,t900,tb,q1,hext,hdr,h1,h2i,h3,h4,e4,d4,e2,d2,dT,dF,nL]);(repeat refine Ai ?_);(try (refine hK _ ?_;clear hK K));try refine iC ?_)) | refine Cg _ (H9 nm) ?_ | refine Cg _ (Gp (BU s to)) ?_ | refine Cg _ (Al nm) ?_)
 generalize hr:rdA s f nm [] to (k + 1)=r at hok hpan
 refine IWP.ghost (Aa.ownC 4 1 900 37 2 (xs:=([]:List Tm).map Ao) (by simp only [go_sem,fN,seval,eT,iR,e4,d4,e2,d2,t4];rfl) rfl (by simp only [go_sem,fN,seval,eT,iR,t900,d900,e900]) Do) ?_
 refine IWP.loop (fun m x=>∃ (acc:List Tm) (j c:Nat) (more:Bool),AAF s r f nm acc j c more∧m=s.size - j∧c≤200∧acc.length≤c∧x.env 0=.one (.ptr b 1 0 0)∧x.env 2=.one (.ptr 2 1 0 0)∧x.env 4=.one (.ptr 4 1 0 0)∧x.env 5=Ad more∧x.S 2=some ID∧x.S 4=some (.box 37 [.st (.str nm),.row 900 acc.length])∧x.S 900=some (.arow 37 2 (acc.map Ao))∧x.S b=some (Iu (BU s j) (200 - c))∧∀ i,1000≤i→i ≠ b→x.S i=S i)
  (s.size - to) ⟨[],to,k + 1,true,.inl ⟨rfl,f,hr.symm,hf0,Nat.le_refl _,hlt0⟩,rfl,by omega,by simp,?_⟩ ?_
 ·simp only [go_sem,fN,seval,eT,iR,v0,v2,v3,t2,t4,t900,tb,e4,d4,e2,d2,e900,d900]
  refine ⟨rfl,by rw [show (200:Int) - ((k + 1:Nat):Int)=200 - k - 1 by omega],fun i' hi' hne'=>?_⟩
  have i4:¬ i'=4:=by omega
  have i900:¬ i'=900:=by omega
  simp only [go_sem,fN,seval,eT,iR,i4,i900,hne']
  exact hrest i' hi' hne'
 clear hr hf0 hlt0 v0 v2 v3 t2 t4 t900 tb hrest hext hdr hnm h3 h3n hus2 hin0 hq
 rintro m ⟨env,S2⟩ ⟨acc,j,c,more,hinv,rfl,hc,hac,v0,v2,v4,v5,t2,t4,t900,tb,hrest⟩
 simp only at v0 v2 v4 v5 t2 t4 t900 tb hrest
 have hal:(acc.map Ao).length=acc.length:=List.length_map _
 have husj:=Dr s j
 rcases hinv with ⟨rfl,g,hr,hg,hgf,hj⟩ | ⟨rfl,hr,hj⟩
 ·have hdr:=tail_drop (s:=s) (i:=j) (n:=1) (by omega)
  obtain ⟨g,rfl⟩:∃ g',g=g' + 1:=⟨g - 1,by omega⟩
  have hcall:=fun S' (h:S' (up1 b)=some (Iu (BU s (j + 1)) (200 - c)))=>ih g (by omega) (j + 1) c (by omega) hc (by omega) (up1 b) S' (Ap b) h
  have hq:=TA s g (j + 1) c (by omega) hc (by omega)
  have hqle:=hq.le
  have hqin:=hq.in_
  by_cases he:(rd s g (j + 1) c).e=0
  case neg =>
   rw [TM he] at hr
   repeat' (first | (with_reducible first | refine W ?_ | refine Z0 ?_) | (first | refine IWP.opsPan 3 ⟨some 90,none,.callS 85 [.t 89],.keeps [4,4]⟩ rfl (by kernel_rfl) ?_) | (with_reducible ((first | refine Wx rfl fun K hK=>?_ | refine Wp ?_ | refine Wq ?_ | refine Wr ?_);(try simp only [go_sem,fN,seval,eT,iR,v0,v2,v4,v5,t2,t4,t900,tb,hdr,e4,d4,e2,d2,e900,d900,dT,dF,nL]);(repeat refine Ai ?_);(try (refine hK _ ?_;clear hK K));try refine iC ?_)))
   simp only [go_sem,fN,seval,eT,iR,CT,List.take_succ_cons,List.take_zero,v0,v2,v4,v5,t2,t4,t900,tb,hdr,e4,d4,e2,d2,e900,d900]
   subst hr
   refine ⟨_,_,(hcall _ (by rw [At,AE];rfl)).2 he,fun envP=>?_⟩
   repeat' (with_reducible first | refine Wy ?_ | refine Wz ?_ | refine Wv ?_)
   refine hpan he _ ⟨.inr ?_,fun i hi hne=>?_⟩
   ·simp only [go_sem,fN,seval,eT,iR]
   ·simp only [go_sem,fN,seval,eT,iR,hne]
    exact hrest i hi hne
  case pos =>
  obtain ⟨o1,o2,o3,o4⟩:=hq.ok he
  have husq:=Dr s (rd s g (j + 1) c).i
  have hnq:=Lk hqin
  repeat' with_reducible first | refine W ?_ | refine Z0 ?_ | ((first | refine Wx rfl fun K hK=>?_ | refine Wp ?_ | refine Wq ?_ | refine Wr ?_);(try simp only [go_sem,fN,seval,eT,iR,v0,v2,v4,v5,t2,t4,t900,tb,hdr,e4,d4,e2,d2,e900,d900,dT,dF,nL]);(repeat refine Ai ?_);(try (refine hK _ ?_;clear hK K));try refine iC ?_)
  refine ⟨_,_,(hcall _ (by rw [At,AE];rfl)).1 he,?_⟩
  have c1:=fun h=>hr.trans (Nf (n:=nm) (acc:=acc) he h)
  have c2:=fun h h'=>hr.trans (Nd (n:=nm) (acc:=acc) he h h')
  have c3:=fun h h' h''=>hr.trans (W_ (n:=nm) (acc:=acc) he h h' h'')
  have c4:=fun h h' h''=>hr.trans (QN (n:=nm) (acc:=acc) he h h' h'')
  clear hcall ih hr
  generalize rd s g (j + 1) c=q at *
  have hal2:acc.length + 1≤1000000:=by omega
  by_cases q1:q.i=s.size
  ·have hq1:=hnq.2 q1
   rw [c1 q1] at hpan
   repeat' with_reducible first | refine W ?_ | refine Z0 ?_ | ((first | refine Wx rfl fun K hK=>?_ | refine Wp ?_ | refine Wq ?_ | refine Wr ?_);(try simp only [go_sem,fN,seval,eT,iR,v0,v2,v4,v5,t2,t4,t900,tb,hdr,e4,d4,e2,d2,e900,d900,hal,hq1,dT,dF,nL]);(repeat refine Ai ?_);(try (refine hK _ ?_;clear hK K));try refine iC ?_)
   refine IWP.opsPan 1 _ rfl (by kernel_rfl) ?_
   simp only [go_sem,fN,seval,eT,iR,CT,List.take_succ_cons,List.take_zero]
   intro envP
   repeat' (with_reducible first | refine Wy ?_ | refine Wz ?_ | refine Wv ?_)
   refine hpan (by show ¬ (13:Int)=0;decide) _ (DI (u:=BU s q.i) (l:=200 - q.k) ?_ fun i hi hne=>?_)
   ·simp only [go_sem,fN,seval,eT,iR,e4,e900,hq1]
   ·have i4:¬ i=4:=by omega
    have i900:¬ i=900:=by omega
    simp only [go_sem,fN,seval,eT,iR,i4,i900,hne]
    exact hrest i hi hne
  have hq1:¬ BU s q.i=⟨#[]⟩:=fun h=>q1 (hnq.1 h)
  have hbt:=F2 (s:=s) (i:=q.i) (k:=0) (by omega)
  rw [Nat.add_zero] at hbt
  by_cases q2:Cv (BU s q.i) 0=41
  ·have hr:=c2 q1 (by rw [← hbt];exact q2)
   repeat' with_reducible first | refine W ?_ | refine Z0 ?_ | ((first | refine Wx rfl fun K hK=>?_ | refine Wp ?_ | refine Wq ?_ | refine Wr ?_);(try simp only [go_sem,fN,seval,eT,iR,v0,v2,v4,v5,t2,t4,t900,tb,hdr,e4,d4,e2,d2,e900,d900,hal,hq1,q2,dT,dF,nL]);(repeat refine Ai ?_);(try (refine hK _ ?_;clear hK K));try refine iC ?_)
   refine AH ⟨s.size - q.i,by omega,acc ++ [q.t],q.i,q.k,false,.inr ⟨rfl,hr,by omega⟩,rfl,o2,by simp;omega,?_⟩
   simp only [go_sem,fN,seval,eT,iR,v0,v2,v4,v5,t2,t4,t900,tb,e4,d4,e2,d2,e900,d900,hal]
   refine ⟨by rw [Ea],fun i hi hne=>?_⟩
   have i4:¬ i=4:=by omega
   have i900:¬ i=900:=by omega
   simp only [go_sem,fN,seval,eT,iR,i4,i900,hne]
   exact hrest i hi hne
  by_cases q3:Cv (BU s q.i) 0=44
  ·have hr:=c3 q1 (by rw [← hbt];exact q2) (by rw [← hbt];exact q3)
   repeat' with_reducible first | refine W ?_ | refine Z0 ?_ | ((first | refine Wx rfl fun K hK=>?_ | refine Wp ?_ | refine Wq ?_ | refine Wr ?_);(try simp only [go_sem,fN,seval,eT,iR,v0,v2,v4,v5,t2,t4,t900,tb,hdr,e4,d4,e2,d2,e900,d900,hal,hq1,q2,q3,dT,dF,nL]);(repeat refine Ai ?_);(try (refine hK _ ?_;clear hK K));try refine iC ?_)
   refine AH ⟨s.size - q.i,by omega,acc ++ [q.t],q.i,q.k,true,.inl ⟨rfl,g,hr,by omega,by omega,by omega⟩,rfl,o2,by simp;omega,?_⟩
   simp only [go_sem,fN,seval,eT,iR,v0,v2,v4,v5,t2,t4,t900,tb,e4,d4,e2,d2,e900,d900,hal]
   refine ⟨by rw [Ea],fun i hi hne=>?_⟩
   have i4:¬ i=4:=by omega
   have i900:¬ i=900:=by omega
   simp only [go_sem,fN,seval,eT,iR,i4,i900,hne]
   exact hrest i hi hne
  ·rw [c4 q1 (by rw [← hbt];exact q2) (by rw [← hbt];exact q3)] at hpan
   repeat' with_reducible first | refine W ?_ | refine Z0 ?_ | ((first | refine Wx rfl fun K hK=>?_ | refine Wp ?_ | refine Wq ?_ | refine Wr ?_);(try simp only [go_sem,fN,seval,eT,iR,v0,v2,v4,v5,t2,t4,t900,tb,hdr,e4,d4,e2,d2,e900,d900,hal,hq1,q2,q3,dT,dF,nL]);(repeat refine Ai ?_);(try (refine hK _ ?_;clear hK K));try refine iC ?_)
   refine IWP.opsPan 1 _ rfl (by kernel_rfl) ?_
   simp only [go_sem,fN,seval,eT,iR,CT,List.take_succ_cons,List.take_zero]
   intro envP
   repeat' (with_reducible first | refine Wy ?_ | refine Wz ?_ | refine Wv ?_)
   refine hpan (by show ¬ (12:Int)=0;decide) _ (DI (u:=BU s q.i) (l:=200 - q.k) ?_ fun i hi hne=>?_)
   ·simp only [go_sem,fN,seval,eT,iR,e4,e900]
   ·have i4:¬ i=4:=by omega
    have i900:¬ i=900:=by omega
    simp only [go_sem,fN,seval,eT,iR,i4,i900,hne]
    exact hrest i hi hne
 ·have hdr:=tail_drop (s:=s) (i:=j) (n:=1) (by omega)
  subst hr
  repeat' with_reducible first | refine W ?_ | refine Z0 ?_ | ((first | refine Wx rfl fun K hK=>?_ | refine Wp ?_ | refine Wq ?_ | refine Wr ?_);(try simp only [go_sem,fN,seval,eT,iR,v0,v2,v4,v5,t2,t4,t900,tb,hdr,e4,d4,e2,d2,e900,d900,dT,dF,nL]);(repeat refine Ai ?_);(try (refine hK _ ?_;clear hK K));try refine iC ?_)
  refine hok rfl _ ⟨.agg [.st (.str nm),.row 900 acc.length],?_,?_,?_,fun i hi hne=>?_⟩
  ·simp only [go_sem,fN,seval,eT,iR,AB,AD,AL,v0,v2,v4,t2,t4,t900,tb,e4,d4,e2,d2,e900,d900]
  ·simp only [go_sem,fN,seval,eT,iR,t900,e900,d900,hal]
   rfl
  ·simp only [go_sem,fN,seval,eT,iR,tb,e4,e2,e900,hdr]
  ·have i2:¬ i=2:=by omega
   simp only [go_sem,fN,seval,eT,iR,i2,hne]
   exact hrest i hi hne

def LZ (S:AA) (ι:Ax) (σ:Sto) (w:World) (S':AA) (w':World):Prop:=∃ σ' ι',Am S'∧Upd S ι S' ι'∧Cz σ' S' ι' w'∧Fit σ' w'∧(∀ p x,σ p=some x→σ' p=some x) ∧
 (∀ p:Addr,p.block < w.heap.size→Bh S ι p.block→σ' p=σ p)∧(w'.os=w.os∧w'.tape=w.tape∧w'.output=w.output)∧w.heap.size≤w'.heap.size ∧
 (∀ g,g < w.heap.size→Bh S ι g→w'.heap[g]?=w.heap[g]?)∧(∀ id b g,S' id=some b→(ι' id).g=some g→w.heap.size≤g ∨ ¬ Bh S ι g)
theorem LZ.refl {S:AA} {ι:Ax} {σ:Sto} {w:World} (h1:Am S) (h2:Cz σ S ι w) (h3:Fit σ w):LZ S ι σ w S w :=
 ⟨σ,ι,h1,Upd.refl _ _,h2,h3,fun _ _ h=>h,fun _ _ _=>rfl,⟨rfl,rfl,rfl⟩,Nat.le_refl _,fun _ _ _=>rfl,fun id b g hb hg=>.inr fun hn=>hn id b hb hg⟩
def XI (P:Program) (f:FuncId) (xs:List AV) (S:AA) (u u':FrameMode) (S':AA):Prop :=
 Am S→∀ (σ:Sto) (w:World) (vs:List Value) (ι:Ax),CB σ→Fit σ w→Cz σ S ι w→Af (AQ σ S ι) vs xs →
  CallsD P f vs.toArray u w fun e u1 w'=>(∃ v,e=.returned v)∧u1=u'∧LZ S ι σ w S' w'
section
variable {P:Program} {C:Ctx} {a:Act} {w:World} {σ:Sto} {ι:Ax} {s:AS}
theorem Ir (R:AT C σ ι s a w):Cz σ (upS s.S) (fun i=>ι (dn1 i)) w:=by
 have hup:∀ i,dn1 (up1 i)=i:=Gi
 have hS:∀ i b,s.S i=some b→upS s.S (up1 i)=some (b.ren up1):=fun i b hb=>Cc hb
 have hι:∀ i b,s.S i=some b→(fun i=>ι (dn1 i)) (up1 i)=ι i:=fun i b _=>by show ι (dn1 (up1 i))=_;rw [hup]
 refine ⟨fun id b hb=>?_,fun id id' b b' g h1 h2 g1 g2=>?_⟩
 ·obtain ⟨hle,b',h1,rfl⟩:=CF hb
  exact Bm.ren (S2:=upS s.S) (ι2:=fun i=>ι (dn1 i)) (ρ:=up1) hS hι (R.blk _ _ h1)
 ·obtain ⟨l1,c1,k1,_⟩:=CF h1
  obtain ⟨l2,c2,k2,_⟩:=CF h2
  have:=R.inj _ _ _ _ g k1 k2 g1 g2
  rw [← FV l1,← FV l2,this]
theorem Rq (R:AT C σ ι s a w) {v:Value} {av:AV} (h:AQ σ s.S ι v av):AQ σ (upS s.S) (fun i=>ι (dn1 i)) v (av.ren up1) :=
 AQ.ren (S2:=upS s.S) (ι2:=fun i=>ι (dn1 i)) (ρ:=up1) (fun i b hb=>Cc hb) (fun i b _=>by show ι (dn1 (up1 i))=_;rw [Gi]) h
theorem Q7 {S':AA} {w':World} (R:AT C σ ι s a w) (h:LZ (upS s.S) (fun i=>ι (dn1 i)) σ w S' w'):A8 C ⟨s.env,dnS S'⟩ a w':=by
 obtain ⟨σ',ι',hclean,hupd,hown',hf',hkeep,hold,hos,hsz,hsame,hbase⟩:=h
 have hup:∀ i,dn1 (up1 i)=i:=Gi
 have hS:∀ i b,s.S i=some b→upS s.S (up1 i)=some (b.ren up1):=fun i b hb=>Cc hb
 have hSd:∀ i b,S' i=some b→dnS S' (dn1 i)=some (b.ren dn1):=fun i b hb=>Et (hclean i b hb).1 hb
 obtain ⟨ι2,hι2⟩:∃ ι2:Ax,∀ i,ι2 i=ι' (up1 i):=⟨fun i=>ι' (up1 i),fun _=>rfl⟩
 have hιd:∀ i b,S' i=some b→ι2 (dn1 i)=ι' i:=fun i b hb=>by
  rw [hι2,FV (hclean i b hb).1]
 have hu:Upd s.S ι (dnS S') ι2:=fun id b hb=>by
  obtain ⟨b',h1,h2,h3⟩:=hupd _ _ (hS id b hb)
  have h4:=hSd _ _ h1
  rw [hup] at h4
  refine ⟨_,h4,by rw [BR] at h2 ⊢;exact h2,fun hl=>?_⟩
  rw [BR] at hl
  obtain ⟨q1,q2⟩:=h3 (by rw [BR];exact hl)
  refine ⟨by rw [HH] at q1 ⊢;exact q1,?_⟩
  rw [hι2,q2]
  show ι (dn1 (up1 id))=_
  rw [hup]
 have hnot:∀ g,g < C.N→¬ C.G g→Bh (upS s.S) (fun i=>ι (dn1 i)) g:=fun g h1 h2 id b hb hg=>by
  obtain ⟨_,b',k1,_⟩:=CF hb
  rcases R.base _ _ g k1 hg with h | h
  ·omega
  ·exact h2 h
 refine ⟨σ',ι2,R.size,fun i hi=>(R.env i hi).mono hkeep hu,R.nod.mono (fun D h=>(hsame D (Array.getElem?_eq_some_iff.1 h).1 (Dz (Ir R).1 h)).trans h),hf',fun id b hb=>?_,fun id id' b b' g h1 h2 g1 g2=>?_,fun id b g hb hg=>?_,fun p x hx=>hkeep _ _ (R.ext p x hx),fun p h1 h2=>?_,⟨hos.1.trans R.os.1,hos.2.1.trans R.os.2.1,hos.2.2.trans R.os.2.2⟩,⟨Nat.le_trans R.grown.1 hsz,Nat.le_trans R.grown.2 hsz⟩,fun g h1 h2=>?_,R.upd.trans hu⟩
 ·obtain ⟨b',h1,rfl⟩:=CK hb
  have:=Bm.ren (S2:=dnS S') (ι2:=ι2) (ρ:=dn1) hSd hιd (hown'.1 _ _ h1)
  rw [hι2]
  exact this
 ·obtain ⟨c1,k1,_⟩:=CK h1
  obtain ⟨c2,k2,_⟩:=CK h2
  rw [hι2] at g1 g2
  have:=congrArg dn1 (hown'.2 _ _ _ _ g k1 k2 g1 g2)
  rw [hup,hup] at this
  exact this
 ·obtain ⟨b',h1,_⟩:=CK hb
  rw [hι2] at hg
  rcases hbase _ _ g h1 hg with h2 | h2
  ·exact .inl (by have:=R.grown.1;omega)
  ·by_cases hN:g < C.N
   ·by_cases hG:C.G g
    ·exact .inr hG
    ·exact absurd (hnot g hN hG) h2
   ·exact .inl (by omega)
 ·exact (hold p (by have:=R.grown.1;omega) (hnot _ h1 h2)).trans (R.old p h1 h2)
 ·exact (hsame g (by have:=R.grown.1;omega) (hnot g h1 h2)).trans (R.same g h1 h2)
theorem IB {fn:Func} {g:FuncId} {vs:List Value} {avs:List AV} {u u':FrameMode} {S':AA} {K:Ending→World→Prop} (R:AT C σ ι s a w) (hpl:B6 P g=true) (hvs:Af (AQ σ s.S ι) vs avs) (hu:u ≠ .run)
  (hd:XI P g (AV.rens up1 avs) (upS s.S) u u' S') (hset:settle u'=.returning) (hfin:∀ w',A8 C ⟨s.env,dnS S'⟩ a w'→∃ v,(results fn a.tmps).run P w'=.ok v w'∧K (.returned v) w') :
  Leaves P fn a.tmps K [{ target:=.fn (.func g) vs.toArray,args:=#[] }] u w:=by
 refine leaves_cons (f:=g) (args:=vs.toArray) hu ?_ ?_
 ·have:=DP (P:=P) (w:=w) (args:=vs.toArray) hpl
  simpa [invoke] using this
 ·have hargs:Af (AQ σ (upS s.S) (fun i=>ι (dn1 i))) vs (AV.rens up1 avs):=by
   rw [AV.rens_eq]
   exact (hvs.mono fun _ _ x=>Rq R x).map_right
  refine (hd (Ec _) σ w vs _ (C.glob.mono R.ext) R.fit (Ir R) hargs).mono fun e u1 w' he=>?_
  obtain ⟨⟨v,rfl⟩,rfl,hb⟩:=he
  dsimp only
  rw [hset]
  exact hfin w' (Q7 R hb)
end
theorem Ll {P:Program} {w:World} {x t:TypeId} {k:IntKind} {z:Value} (hd:P.underlying t=some (.int k)) (hz:(P.info? t).bind (·.zero)=some z):(Instr.typeAssert .nilIface x t true).run P w=.ok (.tuple #[z,.bool false]) w:=by
 rw [Option.bind_eq_some_iff] at hz
 obtain ⟨i,hi,hz⟩:=hz
 unfold Instr.typeAssert
 simp [run_underlying hd,zeroValue,run_typeInfo w hi,hz]
theorem MD {P:Program} {w:World} {x t:TypeId} {k:IntKind} {v:Value} (hd:P.underlying t=some (.int k)):(Instr.typeAssert (.iface t v) x t true).run P w=.ok (.tuple #[v,.bool true]) w:=by
 unfold Instr.typeAssert
 simp [run_underlying hd]
theorem Ng {C:Ctx} {S:AA} {ι:Ax} {σ:Sto} {w w':World} {s:AS} {a:Act} (hC:C.N=w.heap.size∧(C.G=fun g=>¬ Bh S ι g)∧C.σ0=σ∧C.w0=w∧C.S0=S∧C.ι0=ι) (hS:Am s.S) (h:A8 C s a w'):LZ S ι σ w s.S w':=by
 obtain ⟨h1,h2,h3,h4,h5,h6⟩:=hC
 obtain ⟨σ',ι',R⟩:=h
 have ho:=R.old
 have hu:=R.upd
 have he:=R.ext
 have hs:=R.same
 have hb:=R.base
 have hg:=R.grown
 have hos:=R.os
 rw [h1,h2] at ho hs hb
 rw [h3] at ho he
 rw [h4] at hs hg hos
 rw [h5,h6] at hu
 exact ⟨σ',ι',hS,hu,⟨R.blk,R.inj⟩,R.fit,he,fun p q1 q2=>ho p q1 (fun h=>h q2),hos,hg.2,fun g q1 q2=>hs g q1 (fun h=>h q2),fun id b g q1 q2=>hb id b g q1 q2⟩
def Z_ (P:Program) (g:FuncId) (avs:List AV) (rs:List RV) (r:AV):AX→AS→Prop
 | .normal,s | .ret,s=>∃ S',XI P g (AV.rens up1 avs) (upS s.S) .returning .returning S'∧(⟨s.env,dnS S'⟩:AS).result rs=some r
 | .pan v,s=>∃ u' S',XI P g (AV.rens up1 avs) (upS s.S) (.panicking [{ v:=v,recovered:=false }]) u' S'∧settle u'=.returning∧(⟨s.env,dnS S'⟩:AS).result rs=some r
 | _,_=>False
def AS.up (s:AS):AS:=⟨fun i=>(s.env i).ren up1,upS s.S⟩
section
variable {P:Program}
theorem Eh {n:Nat} {mu:List Nat} {c:Code} {x y:IR} (h:A9 P n mu c=some (.seq x y)):∃ c1 c2,c=.seq c1 c2∧A9 P n mu c1=some x∧A9 P n mu c2=some y:=by
 cases c <;> simp only [A9] at h
 case seq c1 c2 =>
  split at h
  ·rename_i x' y' e1 e2
   cases h
   exact ⟨c1,c2,rfl,e1,e2⟩
  ·cases h
 all_goals (exfalso;revert h;(repeat' split) <;> simp)
def Z5:Code→Code
 | .seq _ (.seq _ (.seq d _))=>d
 | c=>c
theorem PH {f:FuncId} {fn:Func} {mu:List Nat} {c:Code} {xA xB xD xE:IR} {rs:List RV} {xs:List AV} {r:AV} {g t id:Nat} {caps:Array Operand} {xs':List Opd} {oM oF:Oper} {ts:Array TypeId}
  (hf:P.funcs[f]?=some fn) (hb:fn.body=some c) (hx:A9 P fn.ntmps mu c=some (.seq xA (.seq xB (.seq xD xE)))) (hr:ET P fn.ntmps fn.results.toList=some rs) (hn:xs.length≤fn.ntmps)
  (hD:Z5 c=.region id #[oM,oF] false) (hM1:oM.op=.makeFunc (.func g) #[] caps) (hM2:oM.dst=some t) (hM3:oM.guard=none) (hF1:oF.op=.defer { callee:=.value (.tmp t),args:=#[],argTypes:=ts }) (hF2:oF.dst=none) (hF3:oF.guard=none) (ht:t < fn.ntmps)
  (hcaps:Bw fn.ntmps caps.toList=some xs') (hpl:B6 P g=true)
  (h:∀ C:Ctx,C.n=fn.ntmps→IWP P C mu xA (AX.then (fun s=>IWP P C mu xB (AX.then (fun s=>∃ cs,s.caps xs'=some cs∧∀ C':Ctx,C'.n=fn.ntmps→IWP P C' mu xE (Z_ P g (cs.map fun c=>(AV.one c).ren up1) rs r) (s.put (some t) (.one (.fn g cs))).up) (AR rs r)) s) (AR rs r)) (AS.start xs)):AY P f xs r:=by
 intro σ w vs hglob hfit hvs
 have hl:=hvs.len
 let C:Ctx:=⟨fn.ntmps,w.heap.size,fun _=>False,σ,w,noS,noH,fun i b h=>by simp [noS] at h,hglob,[],none,true⟩
 obtain ⟨A,c2,rfl,hA,h2⟩:=Eh hx
 obtain ⟨B,c3,rfl,hB,h3⟩:=Eh h2
 obtain ⟨D,E,rfl,hD',hE⟩:=Eh h3
 have hD:D=.region id #[oM,oF] false:=hD
 subst hD
 refine calls_of_wp_defers hf hb ?_
 have R0:AT C σ noH (AS.start xs) { tmps:=vs.toArray ++ Array.replicate (fn.ntmps - vs.toArray.size) undef,defers:=[] } w:=by
  refine ⟨by simp [C];omega,fun i hi=>?_,Dk,hfit,fun id b h=>by simp [AS.start,noS] at h,fun id id' b b' g h=>by simp [AS.start,noS] at h,fun id b g h=>by simp [AS.start,noS] at h,fun _ _ h=>h,fun _ _ _=>rfl,⟨rfl,rfl,rfl⟩,⟨Nat.le_refl _,Nat.le_refl _⟩,fun _ _ _=>rfl,Upd.refl _ _⟩
  show AQ σ noS noH _ ((xs[i]?).getD (.tup []))
  rw [Array.getD_eq_getD_getElem?]
  by_cases hlt:i < vs.length
  ·rw [Array.getElem?_append_left (by simpa using hlt)]
   obtain ⟨b,hb1,hb2⟩:=hvs.get' (List.getElem?_eq_getElem hlt)
   rw [hb1]
   simpa [hlt] using hb2
  ·rw [Array.getElem?_append_right (by simp;omega),List.getElem?_eq_none (by omega)]
   have hi':i < fn.ntmps:=hi
   rw [Array.getElem?_replicate,if_pos (by simp;omega)]
   exact .tup (fun _=>undef) rfl (by simp) (by simp)
 have early:∀ (s:AS) (a':Act) (w':World),s.result rs=some r→A8 C s a' w'→Leaves P fn a'.tmps (fun e w'=>∃ v σ',e=.returned v∧AQ σ' noS noH v r∧Fit σ' w'∧Ext w.heap.size σ σ'∧Below w.heap.size w w') a'.defers .returning w':=by
  intro s a' w' hs hH
  obtain ⟨σ',ι',R'⟩:=hH
  obtain ⟨v,v1,v2⟩:=Om R' (fn:=fn) hr hs
  have hnod:a'.defers=[]:=R'.nod.none rfl
  rw [hnod]
  exact ⟨v,v1,v,σ',rfl,v2,R'.fit,⟨R'.ext,fun p hp=>R'.old p hp (fun h=>h)⟩,⟨R'.os.1,R'.os.2.1,R'.os.2.2,R'.grown.2,fun k hk=>R'.same k hk (fun h=>h)⟩⟩
 refine wp_seq (wp_mono (wpIn_wide.1 (h C rfl A hA _ w ⟨σ,noH,R0⟩)) fun e a' w' he=>?_)
 cases e with
 | normal =>
  obtain ⟨s,hs,hH⟩:=he
  refine wp_seq (wp_mono (wpIn_wide.1 (hs B hB a' w' hH)) fun e a' w' he=>?_)
  cases e with
  | normal =>
   obtain ⟨s,⟨cs,hcs,hwalk⟩,⟨σ1,ι1,R⟩⟩:=he
   refine wp_seq ?_
   have rc:=If R hcaps hcs
   have ecap:(caps.toList.map a'.eval).toArray=caps.map a'.eval:=by rw [← Array.toList_map,Array.toArray_toList]
   have hv:AQ σ1 s.S ι1 (.func (.func g) #[] (caps.map a'.eval)) (.one (.fn g cs)):=by
    rw [← ecap]
    refine .one (.fn (fun j=>((caps.toList.map a'.eval)[j]?).getD undef) (by simpa using rc.len) (fun j b hb=>?_) (fun j b hb=>?_))
    ·obtain ⟨v,v1,v2⟩:=rc.get hb
     rw [v1]
     simpa using v1
    ·obtain ⟨v,v1,v2⟩:=rc.get hb
     rw [v1]
     exact v2
   have rf:(execOp a'.eval oM).run P w'=.ok (.value (.func (.func g) #[] (caps.map a'.eval))) w':=by
    simp [execOp,hM1,Instr.makeFunc]
   have R1:=R.put (d:=some t) hv
   have hta:t < a'.tmps.size:=Nat.lt_of_lt_of_le ht R.size
   have hev:(a'.put (some t) (.func (.func g) #[] (caps.map a'.eval))).eval (.tmp t)=.func (.func g) #[] (caps.map a'.eval):=by
    simp [Act.eval,Act.put,hta]
   have rF:(execOp (a'.put (some t) (.func (.func g) #[] (caps.map a'.eval))).eval oF).run P w'=.ok (.defer { target:=.fn (.func g) (caps.map a'.eval),args:=#[] }) w':=by
    simp [execOp,hF1,resolve,hev,Deferred.ofValue]
   refine wp_region ?_
   show wpOps P #[oM,oF] _ [0,1] a' w'
   rw [wpOps_cons]
   show (if Region.wanted oM _ then _ else _)
   rw [if_pos (by simp [Region.wanted,hM3])]
   refine .inl ?_
   show Oper.wp P oM a' w' _ _
   unfold Oper.wp
   rw [rf,Oper.upon_value,hM2,wpOps_cons]
   show (if Region.wanted oF _ then _ else _)
   rw [if_pos (by simp [Region.wanted,hF3])]
   refine .inl ?_
   show Oper.wp P oF _ w' _ _
   unfold Oper.wp
   rw [rF,Oper.upon_defer,hF2]
   let C':Ctx:=⟨fn.ntmps,w.heap.size,fun _=>False,σ1,w',upS s.S,fun i=>ι1 (dn1 i),Ec _,hglob.mono R.ext,[{ target:=.fn (.func g) (caps.toList.map a'.eval).toArray,args:=#[] }],none,true⟩
   have hnod0:a'.defers=[]:=R.nod.none rfl
   have RC:AT C' σ1 (fun i=>ι1 (dn1 i)) (s.put (some t) (.one (.fn g cs))).up { a'.put (some t) (.func (.func g) #[] (caps.map a'.eval)) with defers:={ target:=.fn (.func g) (caps.map a'.eval),args:=#[] } :: (a'.put (some t) (.func (.func g) #[] (caps.map a'.eval))).defers } w':=by
    refine ⟨R1.size,fun i hi=>Rq R1 (R1.env i hi),?_,R1.fit,(Ir R1).1,(Ir R1).2,fun id b g hb hg=>?_,fun _ _ h=>h,fun _ _ _=>rfl,⟨rfl,rfl,rfl⟩,⟨R.grown.1,Nat.le_refl _⟩,fun _ _ _=>rfl,Upd.refl _ _⟩
    ·have e0:({ target:=.fn (.func g) (caps.map a'.eval),args:=#[] }:Deferred) :: a'.defers=C'.ds:=by rw [hnod0,← ecap]
     have m0:I2 C' C'.ds w':=Dk
     rw [← e0] at m0
     exact m0
    ·obtain ⟨_,b',k1,_⟩:=CF hb
     exact R1.base _ _ g k1 hg
   have hvs1:Af (AQ σ1 (upS s.S) (fun i=>ι1 (dn1 i))) (caps.toList.map a'.eval) (cs.map fun c=>(AV.one c).ren up1):=(rc.mono fun _ _ x=>Rq R (.one x)).map_right
   have fin:∀ (s4:AS) (a4:Act) (w4:World),s4.result rs=some r→A8 C' s4 a4 w4→∃ v,(results fn a4.tmps).run P w4=.ok v w4∧∃ v1 σ',Ending.returned v=.returned v1∧AQ σ' noS noH v1 r∧Fit σ' w4∧Ext w.heap.size σ σ'∧Below w.heap.size w w4:=fun s4 a4 w4 hs4 hH4=>by
    obtain ⟨σ4,ι4,R4⟩:=hH4
    obtain ⟨v,v1,v2⟩:=Om R4 (fn:=fn) hr hs4
    exact ⟨v,v1,v,σ4,rfl,v2,R4.fit,⟨fun p x hp=>R4.ext p x (R.ext p x hp),fun p hp=>(R4.old p hp (fun h=>h)).trans (R.old p hp (fun h=>h))⟩,⟨R4.os.1.trans R.os.1,R4.os.2.1.trans R.os.2.1,R4.os.2.2.trans R.os.2.2,Nat.le_trans R.grown.2 R4.grown.2,fun k hk=>(R4.same k hk (fun h=>h)).trans (R.same k hk (fun h=>h))⟩⟩
   refine wp_mono (wpIn_wide.1 (hwalk C' rfl E hE _ w' ⟨σ1,_,RC⟩)) fun e a3 w3 he=>?_
   cases e with
   | normal =>
    obtain ⟨s3,⟨S',hdef,hres⟩,⟨σ3,ι3,R3⟩⟩:=he
    show Leaves P fn a3.tmps _ a3.defers .returning w3
    rw [R3.nod.none rfl]
    exact IB R3 hpl (hvs1.mono fun _ _ x=>x.mono R3.ext R3.upd) (by simp) hdef rfl fun w4 hH4=>fin _ _ _ hres hH4
   | ret =>
    obtain ⟨s3,⟨S',hdef,hres⟩,⟨σ3,ι3,R3⟩⟩:=he
    show Leaves P fn a3.tmps _ a3.defers .returning w3
    rw [R3.nod.none rfl]
    exact IB R3 hpl (hvs1.mono fun _ _ x=>x.mono R3.ext R3.upd) (by simp) hdef rfl fun w4 hH4=>fin _ _ _ hres hH4
   | exit id =>
    obtain ⟨s3,h3,_⟩:=he
    exact h3.elim
   | panic ch =>
    obtain ⟨s3,v,⟨⟨u',S',hdef,hset,hres⟩,rfl⟩,⟨σ3,ι3,R3⟩⟩:=he
    show Leaves P fn a3.tmps _ a3.defers (.panicking _) w3
    rw [R3.nod.none rfl]
    exact IB R3 hpl (hvs1.mono fun _ _ x=>x.mono R3.ext R3.upd) (by simp) hdef hset fun w4 hH4=>fin _ _ _ hres hH4
   | goto l=>exact he.elim
   | outgrown=>exact he.elim
  | ret =>
   obtain ⟨s,h1,h2⟩:=he
   exact early s _ _ (show AR rs r .ret s from h1).2 h2
  | exit id =>
   obtain ⟨s,h1,h2⟩:=he
   exact (show AR rs r (.exit id) s from h1).1.elim
  | panic ch =>
   obtain ⟨s,v,h1,h2⟩:=he
   exact (show AR rs r (.pan v) s from h1.1).1.elim
  | goto l=>exact he.elim
  | outgrown=>exact he.elim
 | ret =>
  obtain ⟨s,h1,h2⟩:=he
  exact early s _ _ (show AR rs r .ret s from h1).2 h2
 | exit id =>
  obtain ⟨s,h1,h2⟩:=he
  exact (show AR rs r (.exit id) s from h1).1.elim
 | panic ch =>
  obtain ⟨s,v,h1,h2⟩:=he
  exact (show AR rs r (.pan v) s from h1.1).1.elim
 | goto l=>exact he.elim
 | outgrown=>exact he.elim
end

def X5 (b c:Nat) (n:Int) (ok:Bool):Nat→AV
 | 0=>.one (.ptr b 1 0 0)
 | 1=>.one (.ptr c 1 0 0)
 | 2=>AN n
 | 3=>Ad ok
 | _=>.any
theorem W9 {b c:Nat} {n:Int} {ok:Bool} {S:AA} {σ:Sto} {ι:Ax} {w:World} {v1 v2:Value} {a:Act} (hclean:Am S) (hglob:CB σ) (hfit:Fit σ w) (hown:Cz σ S ι w) (h1:AQ σ S ι v1 (.one (.ptr b 1 0 0))) (h2:AQ σ S ι v2 (.one (.ptr c 1 0 0))) (hn:inR .i64 n)
  (hs:12≤a.tmps.size) (g0:a.tmps.getD 0 undef=v1) (g1:a.tmps.getD 1 undef=v2) (g2:a.tmps.getD 2 undef=.int .i64 n) (g3:a.tmps.getD 3 undef=.bool ok) (hd:a.defers=[]) :
  A8 ⟨12,w.heap.size,fun g=>¬ Bh S ι g,σ,w,S,ι,hclean,hglob,[],none,true⟩ ⟨X5 b c n ok,S⟩ a w:=by
 refine ⟨σ,ι,hs,fun i hi=>?_,⟨[],by rw [hd];rfl,List.nodup_nil,fun D h=>(by simp at h),fun _=>rfl⟩,hfit,hown.1,hown.2,fun id b g h hg=>.inr (fun hno=>hno id b h hg),fun _ _ h=>h,fun _ _ _=>rfl,⟨rfl,rfl,rfl⟩,⟨Nat.le_refl _,Nat.le_refl _⟩,fun _ _ _=>rfl,Upd.refl _ _⟩
 match i with
 | 0=>rw [g0];exact h1
 | 1=>rw [g1];exact h2
 | 2=>rw [g2];exact .one (.st (.int hn))
 | 3=>rw [g3];exact .one (.st .bool)
 | _ + 4=>exact .any
set_option maxRecDepth 100000 in
theorem Pu (b c:Nat) (S:AA):XI Tryz.prog 84 [.one (.ptr b 1 0 0),.one (.ptr c 1 0 0)] S .returning .returning S:=by
 intro hclean σ w vs ι hglob hfit hown hvs
 obtain ⟨v1,v2,rfl,r1,r2⟩:∃ v1 v2,vs=[v1,v2]∧AQ σ S ι v1 (.one (.ptr b 1 0 0))∧AQ σ S ι v2 (.one (.ptr c 1 0 0)):=by
  cases hvs with
  | cons h1 hvs=>cases hvs with
   | cons h2 hvs=>cases hvs with
    | nil=>exact ⟨_,_,rfl,h1,h2⟩
 have hta:∀ w,(Instr.typeAssert .nilIface 20 109 true).run Tryz.prog w=.ok (.tuple #[.int .i64 0,.bool false]) w:=fun w=>Ll (P:=Tryz.prog) (t:=109) Tryz.underlying109 (by kernel_rfl)
 obtain ⟨c1,c2,hc,h1,h2⟩:=Eh GP
 have hb:Tryz.f84.body=some (.seq c1 c2):=congrArg some hc
 injection hc with e1 e2
 subst e1
 clear e2 h1
 refine callsD_of_wpS Tryz.func84 hb fun c₀ cs hu=>?_
 apply wpS_seq
 apply wpS_region
 simp [wpOpsS,go_sem,recoverD,hu,hta,Tryz.ntmps84,Exit.thenS]
 have hH:=W9 (b:=b) (c:=c) (n:=0) (ok:=false) (a:={ tmps:=#[v1,v2] ++ (((((((Array.replicate 10 undef).setIfInBounds 3 Value.nilIface).setIfInBounds 4 (Value.tuple #[Value.int IntKind.i64 0,Value.bool false])).setIfInBounds 2 (Value.tuple #[Value.int IntKind.i64 0,Value.bool false])).setIfInBounds 5 (Value.int IntKind.i64 0)).setIfInBounds 6 (Value.bool false)).setIfInBounds 0 (Value.int IntKind.i64 0)).setIfInBounds 1 (Value.bool false),defers:=[] }) hclean hglob hfit hown r1 r2 (by rw [I9];omega) (by simp) (by simp) (by simp) (by simp) (by simp) rfl
 refine wpS_of_wp (wp_mono (wpIn_wide.1 ((?hw:IWP Tryz.prog _ [] _ (fun e s=>e=.normal∧s.S=S) ⟨X5 b c 0 false,S⟩) c2 h2 _ w hH)) fun e a' w' he=>?_)
 case' hw=>skip
 rotate_left
 ·skip
  cases e with
  | normal =>
   obtain ⟨s,⟨_,hS⟩,hH'⟩:=he
   have hbe:=Ng ⟨rfl,rfl,rfl,rfl,rfl,rfl⟩ (by rw [hS];exact hclean) hH'
   rw [hS] at hbe
   obtain ⟨σ',ι',R'⟩:=hH'
   refine ⟨R'.nod.none rfl,.returning,by rw [← hu],.tuple #[],by simp [results,Tryz.results84],⟨_,rfl⟩,rfl,hbe⟩
  | ret=>obtain ⟨s,h,_⟩:=he;cases h.1
  | exit id=>obtain ⟨s,h,_⟩:=he;cases h.1
  | panic ch=>obtain ⟨s,v,h,_⟩:=he;cases h.1.1
  | goto l=>exact he.elim
  | outgrown=>exact he.elim
 ·repeat' with_reducible first | refine W ?_ | refine Z0 ?_ | ((first | refine Wo fun K hK=>?_ | refine Wp ?_ | refine Wq ?_ | refine Wr ?_);(try simp only [go_sem,fN,seval,eT,iR,X5,dT,dF,nL]);(repeat refine Ai ?_);(try (refine hK _ ?_;clear hK K));try refine iC ?_)
  exact ⟨rfl,rfl⟩
def Zf (S:AA) (b c:Nat) (n:Int):AA:=AG (AG S b (some (.box 37 [.st (.str ⟨#[]⟩),.full []]))) c (some (.box 23 [.st (.int .i64 n)]))
set_option maxRecDepth 100000 in
theorem SJ (n:Int) (hn:inR .i64 n) (b c:Nat) (S:AA) (hb1:1000≤b) (hc1:1000≤c) (hbc:b ≠ c) {cs1:List AC} {x1:AC} (sb:S b=some (.box 37 cs1)) (hl:cs1.length=2) (sc:S c=some (.box 23 [x1])) :
  XI Tryz.prog 84 [.one (.ptr b 1 0 0),.one (.ptr c 1 0 0)] S (.panicking [{ v:=Lw n,recovered:=false }]) (.panicking [{ v:=Lw n,recovered:=true }]) (Zf S b c n):=by
 intro hclean σ w vs ι hglob hfit hown hvs
 obtain ⟨v1,v2,rfl,r1,r2⟩:∃ v1 v2,vs=[v1,v2]∧AQ σ S ι v1 (.one (.ptr b 1 0 0))∧AQ σ S ι v2 (.one (.ptr c 1 0 0)):=by
  cases hvs with
  | cons h1 hvs=>cases hvs with
   | cons h2 hvs=>cases hvs with
    | nil=>exact ⟨_,_,rfl,h1,h2⟩
 have hta:∀ w,(Instr.typeAssert (.iface 109 (.int .i64 n)) 20 109 true).run Tryz.prog w=.ok (.tuple #[.int .i64 n,.bool true]) w:=fun w=>MD (P:=Tryz.prog) (t:=109) Tryz.underlying109
 obtain ⟨c1,c2,hc,h1,h2⟩:=Eh GP
 have hb:Tryz.f84.body=some (.seq c1 c2):=congrArg some hc
 injection hc with e1 e2
 subst e1
 clear e2 h1
 refine callsD_of_wpS Tryz.func84 hb fun c₀ cs hu=>?_
 apply wpS_seq
 apply wpS_region
 simp [wpOpsS,go_sem,recoverD,hu,hta,Tryz.ntmps84,Exit.thenS]
 have hH:=W9 (b:=b) (c:=c) (n:=n) (ok:=true) (a:={ tmps:=#[v1,v2] ++ (((((((Array.replicate 10 undef).setIfInBounds 3 (Lw n)).setIfInBounds 4 (Value.tuple #[Value.int IntKind.i64 n,Value.bool true])).setIfInBounds 2 (Value.tuple #[Value.int IntKind.i64 n,Value.bool true])).setIfInBounds 5 (Value.int IntKind.i64 n)).setIfInBounds 6 (Value.bool true)).setIfInBounds 0 (Value.int IntKind.i64 n)).setIfInBounds 1 (Value.bool true),defers:=[] }) hclean hglob hfit hown r1 r2 hn (by simp) (by simp) (by simp) (by simp) (by simp) rfl
 refine wpS_of_wp (wp_mono (wpIn_wide.1 ((?hw:IWP Tryz.prog _ [] _ (fun e s=>e=.normal∧s.S=Zf S b c n) ⟨X5 b c n true,S⟩) c2 h2 _ w hH)) fun e a' w' he=>?_)
 case' hw=>skip
 rotate_left
 ·cases e with
  | normal =>
   obtain ⟨s,⟨_,hS⟩,hH'⟩:=he
   have hbe:=Ng ⟨rfl,rfl,rfl,rfl,rfl,rfl⟩ (by rw [hS];exact BP (BP hclean hb1 (by simp [AK.high,AC.highs,AC.high])) hc1 (by simp [AK.high,AC.highs,AC.high])) hH'
   rw [hS] at hbe
   obtain ⟨σ',ι',R'⟩:=hH'
   refine ⟨R'.nod.none rfl,_,rfl,.tuple #[],by simp [results,Tryz.results84],⟨_,rfl⟩,rfl,hbe⟩
  | ret=>obtain ⟨s,h,_⟩:=he;cases h.1
  | exit id=>obtain ⟨s,h,_⟩:=he;cases h.1
  | panic ch=>obtain ⟨s,v,h,_⟩:=he;cases h.1.1
  | goto l=>exact he.elim
  | outgrown=>exact he.elim
 ·have hcb:¬ c=b:=fun h=>hbc h.symm
  repeat' with_reducible first | refine W ?_ | refine Z0 ?_ | ((first | refine Wo fun K hK=>?_ | refine Wp ?_ | refine Wq ?_ | refine Wr ?_);(try simp only [go_sem,fN,seval,eT,iR,X5,sb,sc,hl,hcb,dT,dF,nL]);(repeat refine Ai ?_);(try (refine hK _ ?_;clear hK K));try refine iC ?_)
  refine ⟨rfl,?_⟩
  have hdl:List.drop 2 cs1=[]:=List.drop_eq_nil_of_le (by omega)
  rw [hdl]
  rfl
theorem YQ (n:Int):settle (.panicking [{ v:=Lw n,recovered:=true }])=.returning:=by
 rfl
theorem Qb {n:Int} (hn:inR .i64 n) {x:AS} {c1 c2:AC} {x1:AC} (e2:x.env 2=.one (.ptr 1002 1 0 0)) (e3:x.env 3=.one (.ptr 1003 1 0 0)) (t2:x.S 1002=some (.box 37 [c1,c2])) (t3:x.S 1003=some (.box 23 [x1])) :
  Z_ Tryz.prog 84 [.one (.ptr 1002 1 0 0),.one (.ptr 1003 1 0 0)] [RV.cell 2 true 2,RV.cell 3 false 1] (Hs (.mk ⟨#[]⟩ [],n)) (.pan (Lw n)) x:=by
 refine ⟨_,_,SJ n hn 2002 2003 (upS x.S) (cs1:=[c1.ren up1,c2.ren up1]) (x1:=x1.ren up1) (by decide) (by decide) (by decide) ?_ rfl ?_,YQ n,?_⟩
 ·rw [show (2002:Nat)=up1 1002 from rfl,At,t2]
  rfl
 ·rw [show (2003:Nat)=up1 1003 from rfl,At,t3]
  rfl
 ·unfold Zf
  rw [show (2002:Nat)=up1 1002 from rfl,show (2003:Nat)=up1 1003 from rfl,I1,I1,Jr]
  unfold AS.result
  simp only [go_sem,fN,seval,eT,iR,AB,AD,AL,e2,e3]
  rfl
set_option maxRecDepth 100000 in
theorem UD (s:ByteArray):AY Tryz.prog 47 [Bo s] (Hs (EK s)):=by
 have hro:EK s=if 4000 < s.size then (.mk ⟨#[]⟩ [],3) else if (rdS s).e=0 then (if (rdS s).i < s.size then (.mk ⟨#[]⟩ [],12) else ((rdS s).t,0)) else (.mk ⟨#[]⟩ [],(rdS s).e):=rfl
 refine PH (f:=47) (g:=84) (t:=9) (rs:=[.cell 2 true 2,.cell 3 false 1]) Tryz.func47 rfl M2 rfl (Nat.le_of_ble_eq_true rfl) rfl rfl rfl rfl rfl rfl rfl (Nat.le_of_ble_eq_true rfl) rfl (by kernel_rfl) fun C hC=>?_
 have hC:C.n=22:=hC
 by_cases h0:(4000:Int) < s.size
 ·rw [hro,if_pos (by omega)]
  unfold Hs
  repeat' with_reducible first | refine W ?_ | refine Z0 ?_ | ((first | refine Wx rfl fun K hK=>?_ | refine Wp ?_ | refine Wq ?_ | refine Wr ?_);(try simp only [go_sem,fN,seval,eT,iR,h0,dT,dF,nL]);(repeat refine Ai ?_);(try (refine hK _ ?_;clear hK K));try refine iC ?_)
  refine AH ?_
  repeat' with_reducible first | refine W ?_ | refine Z0 ?_ | ((first | refine Wx rfl fun K hK=>?_ | refine Wp ?_ | refine Wq ?_ | refine Wr ?_);(try simp only [go_sem,fN,seval,eT,iR,h0,dT,dF,nL]);(repeat refine Ai ?_);(try (refine hK _ ?_;clear hK K));try refine iC ?_)
  simp only [go_sem,fN,seval,AR,AS.result,AB,AD,AL]
  rfl
 have hs:s.size≤100000:=by omega
 rw [hro,if_neg (by omega)]
 repeat' with_reducible first | refine W ?_ | refine Z0 ?_ | ((first | refine Wx rfl fun K hK=>?_ | refine Wp ?_ | refine Wq ?_ | refine Wr ?_);(try simp only [go_sem,fN,seval,eT,iR,h0,dT,dF,nL]);(repeat refine Ai ?_);(try (refine hK _ ?_;clear hK K));try refine iC ?_)
 refine AH ?_
 repeat' with_reducible first | refine W ?_ | refine Z0 ?_ | ((first | refine Wx rfl fun K hK=>?_ | refine Wp ?_ | refine Wq ?_ | refine Wr ?_);(try simp only [go_sem,fN,seval,eT,iR,h0,dT,dF,nL]);(repeat refine Ai ?_);(try (refine hK _ ?_;clear hK K));try refine iC ?_)
 refine AH ⟨_,by simp [AS.caps];rfl,fun C' hC'=>?_⟩
 have hC':C'.n=22:=hC'
 generalize hT:AS.up _=T
 have e0:T.env 0=Bo s:=by subst hT;rfl
 have e2:T.env 2=.one (.ptr 1002 1 0 0):=by subst hT;rfl
 have e3:T.env 3=.one (.ptr 1003 1 0 0):=by subst hT;rfl
 have t2:T.S 1002=some ID:=by subst hT;rfl
 have t3:T.S 1003=some (.box 23 [.st (.int .i64 0)]):=by subst hT;rfl
 have t12:T.S 12=none:=by subst hT;rfl
 obtain ⟨env,S⟩:=T
 simp only at e0 e2 e3 t2 t3 t12
 clear hT
 have hcall:=fun S' (h:S' (up1 12)=some (Iu s 200))=>Yi s hs (2 * s.size + 1) 0 0 (by omega) (by omega) (by omega) (up1 12) S' (Ap 12) (by rw [h,US];rfl)
 have hr:rd s (2 * s.size + 1) 0 0=rdS s:=rfl
 rw [hr] at hcall
 have hok:=TA s (2 * s.size + 1) 0 0 (by omega) (by omega) (by omega)
 rw [hr] at hok
 have hrange:inR .i64 (rdS s).e:=by
  rw [I9]
  have:=hok.err
  omega
 by_cases h1:(rdS s).e=0
 case neg =>
  rw [if_neg h1]
  repeat' (first | (with_reducible first | refine W ?_ | refine Z0 ?_) | (first | refine IWP.opsPanE 1 ⟨some 14,none,.callS 85 [.t 13],.no⟩ rfl (by kernel_rfl) ?_) | (with_reducible ((first | refine Wx rfl fun K hK=>?_ | refine Wp ?_ | refine Wq ?_ | refine Wr ?_);(try simp only [go_sem,fN,seval,eT,iR,e0,e2,e3,t2,t3,t12,dT,dF,nL]);(repeat refine Ai ?_);(try (refine hK _ ?_;clear hK K));try refine iC ?_)))
  simp only [go_sem,fN,seval,eT,iR,CT,List.take_succ_cons,List.take_zero,e0,e2,e3,t2,t3,t12]
  refine ⟨_,_,(hcall _ (by rw [At,AE];rfl)).2 h1,fun envP hE=>?_⟩
  refine Wy (Qb (c1:=.st (.str ⟨#[]⟩)) (c2:=.full []) (x1:=.st (.int .i64 0)) hrange ((hE 2 rfl).trans (by simp only [go_sem,fN,seval,eT,iR,e2])) ((hE 3 rfl).trans (by simp only [go_sem,fN,seval,eT,iR,e3])) ?_ ?_)
  ·simp only [go_sem,fN,seval,eT,iR,t2]
  ·simp only [go_sem,fN,seval,eT,iR,t3]
 case pos =>
 rw [if_pos h1]
 obtain ⟨o1,o2,o3,o4⟩:=hok.ok h1
 have hiq:=hok.in_
 have hnq:=Lk hiq
 by_cases h2:(rdS s).i < s.size
 ·have h2n:¬ BU s (rdS s).i=⟨#[]⟩:=fun h=>by have:=hnq.1 h;omega
  rw [if_pos h2]
  repeat' with_reducible first | refine W ?_ | refine Z0 ?_ | ((first | refine Wx rfl fun K hK=>?_ | refine Wp ?_ | refine Wq ?_ | refine Wr ?_);(try simp only [go_sem,fN,seval,eT,iR,e0,e2,e3,t2,t3,t12,dT,dF,nL]);(repeat refine Ai ?_);(try (refine hK _ ?_;clear hK K));try refine iC ?_)
  refine ⟨_,_,(hcall _ (by rw [At,AE];rfl)).1 h1,?_⟩
  repeat' with_reducible first | refine W ?_ | refine Z0 ?_ | ((first | refine Wx rfl fun K hK=>?_ | refine Wp ?_ | refine Wq ?_ | refine Wr ?_);(try simp only [go_sem,fN,seval,eT,iR,e0,e2,e3,t2,t3,t12,h2n,dT,dF,nL]);(repeat refine Ai ?_);(try (refine hK _ ?_;clear hK K));try refine iC ?_)
  refine IWP.opsPanE 1 _ rfl (by kernel_rfl) ?_
  simp only [go_sem,fN,seval,eT,iR,CT,List.take_succ_cons,List.take_zero,e0,e2,e3,t2,t3,t12]
  intro envP hE
  refine Wy (Qb (n:=12) (c1:=.st (.str (rdS s).t.name)) (c2:=.st (.list (List.map Ao (rdS s).t.args))) (x1:=.st (.int .i64 0)) (by decide) ((hE 2 rfl).trans (by simp only [go_sem,fN,seval,eT,iR,e2])) ((hE 3 rfl).trans (by simp only [go_sem,fN,seval,eT,iR,e3])) ?_ ?_)
  ·simp only [go_sem,fN,seval,eT,iR,t2]
  ·simp only [go_sem,fN,seval,eT,iR,t3]
 ·have h2n:BU s (rdS s).i=⟨#[]⟩:=hnq.2 (by omega)
  rw [if_neg h2]
  repeat' with_reducible first | refine W ?_ | refine Z0 ?_ | ((first | refine Wx rfl fun K hK=>?_ | refine Wp ?_ | refine Wq ?_ | refine Wr ?_);(try simp only [go_sem,fN,seval,eT,iR,e0,e2,e3,t2,t3,t12,dT,dF,nL]);(repeat refine Ai ?_);(try (refine hK _ ?_;clear hK K));try refine iC ?_)
  refine ⟨_,_,(hcall _ (by rw [At,AE];rfl)).1 h1,?_⟩
  repeat' with_reducible first | refine W ?_ | refine Z0 ?_ | ((first | refine Wx rfl fun K hK=>?_ | refine Wp ?_ | refine Wq ?_ | refine Wr ?_);(try simp only [go_sem,fN,seval,eT,iR,e0,e2,e3,t2,t3,t12,h2n,dT,dF,nL]);(repeat refine Ai ?_);(try (refine hK _ ?_;clear hK K));try refine iC ?_)
  refine ⟨_,Pu _ _ _,?_⟩
  rw [Jr]
  unfold AS.result
  simp only [go_sem,fN,seval,eT,iR,AB,AD,AL,e2,e3]
  rfl

def D2:IR :=
 (.seq (.ops [.i 0 (.mov (.c (.one (.st (.bool false)))))]) (.seq (.ops [.i 8 (.call 47 [.c (.one (.st (.str (ByteArray.mk (#[102,40,97,44,88,41])))))]),.m 7 8,.i 9 (.extract 0 (.t 7)),.i 10 (.extract 1 (.t 7)),.i 1 (.alloc 37 [.st (.str (ByteArray.mk (#[]))),.full []]),.s 2 1 9,.m 2 10]) (.seq (.ops [.i 12 (.call 47 [.c (.one (.st (.str (ByteArray.mk (#[102,40,89,44,98,41])))))]),.m 11 12,.i 13 (.extract 0 (.t 11)),.i 14 (.extract 1 (.t 11)),.i 3 (.alloc 37 [.st (.str (ByteArray.mk (#[]))),.full []]),.s 2 3 13,.m 4 14]) (.seq (.ops [.L 16 2 1,.L 17 2 3,.i 18 (.build [.st (.str (ByteArray.mk (#[]))),.full [],.st (.str (ByteArray.mk (#[]))),.full []] [(0,2,.t 16),(2,2,.t 17)]),.i 19 (.buildSlice false 40 4 [.t 18]),.i 20 (.call 48 [.t 19]),.m 15 20,.i 21 (.extract 0 (.t 15)),.i 22 (.extract 1 (.t 15)),.m 5 21,.m 6 22]) (.seq (.ops [.m 23 2,.i 24 (.bin .eql (.t 23) (.n 0)),.m 25 24,.mk (some 26) (some (25,true)) (.mov (.t 4)) .no,.mk (some 27) (some (25,true)) (.bin .eql (.t 26) (.n 0)) .no,.i 28 (.pick (.t 25) (.t 27) (.c (.one (.st (.bool false))))),.m 29 28,.mk (some 30) (some (29,true)) (.mov (.t 6)) .no,.mk (some 31) (some (29,true)) (.bin .eql (.t 30) (.n 0)) .no,.i 32 (.pick (.t 29) (.t 31) (.c (.one (.st (.bool false))))),.m 33 32,.mk (some 34) (some (33,true)) (.mov (.t 5)) .no,.mk (some 35) (some (33,true)) (.len false (.t 34)) .no,.mk (some 36) (some (33,true)) (.bin .eql (.t 35) (.n 2)) .no,.i 37 (.pick (.t 33) (.t 36) (.c (.one (.st (.bool false))))),.m 38 37,.mk (some 39) (some (38,true)) (.mov (.t 5)) .no,.mk (some 40) (some (38,true)) (.indexAddr 3 (.t 39) (.n 0)) .no,.mk (some 41) (some (38,true)) (.fieldAddr 0 (.t 40)) .no,.mk (some 42) (some (38,true)) (.load false 1 (.t 41)) .no,.mk (some 43) (some (38,true)) (.bin .eql (.t 42) (.c (.one (.st (.str (ByteArray.mk (#[88]))))))) .no,.i 44 (.pick (.t 38) (.t 43) (.c (.one (.st (.bool false))))),.m 45 44,.mk (some 46) (some (45,true)) (.mov (.t 5)) .no,.mk (some 47) (some (45,true)) (.indexAddr 3 (.t 46) (.n 0)) .no,.mk (some 48) (some (45,true)) (.fieldAddr 1 (.t 47)) .no,.mk (some 49) (some (45,true)) (.fieldAddr 0 (.t 48)) .no,.mk (some 50) (some (45,true)) (.load false 1 (.t 49)) .no,.mk (some 51) (some (45,true)) (.bin .eql (.t 50) (.c (.one (.st (.str (ByteArray.mk (#[98]))))))) .no,.i 52 (.pick (.t 45) (.t 51) (.c (.one (.st (.bool false))))),.m 53 52,.mk (some 54) (some (53,true)) (.mov (.t 5)) .no,.mk (some 55) (some (53,true)) (.indexAddr 3 (.t 54) (.n 1)) .no,.mk (some 56) (some (53,true)) (.fieldAddr 1 (.t 55)) .no,.mk (some 57) (some (53,true)) (.fieldAddr 0 (.t 56)) .no,.mk (some 58) (some (53,true)) (.load false 1 (.t 57)) .no,.mk (some 59) (some (53,true)) (.bin .eql (.t 58) (.c (.one (.st (.str (ByteArray.mk (#[97]))))))) .no,.i 60 (.pick (.t 53) (.t 59) (.c (.one (.st (.bool false))))),.m 0 60]) .ret)))))
theorem HD:OkF Tryz.prog 23 61 [] D2 [.t 0]:=.of Tryz.func23 rfl rfl (by kernel_rfl) rfl

abbrev nA:ByteArray:=⟨#[97]⟩
abbrev nB:ByteArray:=⟨#[98]⟩
abbrev nF:ByteArray:=⟨#[102]⟩
abbrev nX:ByteArray:=⟨#[88]⟩
abbrev nY:ByteArray:=⟨#[89]⟩
abbrev Vw:Tm:=.mk nF [.mk nA [],.mk nX []]
abbrev Wu:Tm:=.mk nF [.mk nY [],.mk nB []]
set_option maxRecDepth 100000 in
theorem SU:EK ⟨#[102,40,97,44,88,41]⟩=(Vw,0):=by kernel_rfl
set_option maxRecDepth 100000 in
theorem Sm:EK ⟨#[102,40,89,44,98,41]⟩=(Wu,0):=by kernel_rfl
theorem YI:Bg [(Vw,Wu)]=0:=by kernel_rfl
abbrev ZS:List Bd:=[(nX,.mk nB []),(nY,.mk nA [])]
theorem Ug:C3 3 [] [(Vw,Wu)] (ZS,0):=by
 refine .go (s':=[]) (ps:=[(.mk nA [],.mk nY []),(.mk nX [],.mk nB [])]) (by kernel_rfl) ?_
 refine .go (s':=[(nY,.mk nA [])]) (ps:=[]) (by kernel_rfl) ?_
 refine .go (s':=ZS) (ps:=[]) (by kernel_rfl) ?_
 exact .nil
set_option maxRecDepth 20000 in
theorem Zx:AY Tryz.prog 23 [] (Ad true):=by
 have h1:=UD ⟨#[102,40,97,44,88,41]⟩
 have h2:=UD ⟨#[102,40,89,44,98,41]⟩
 rw [SU] at h1
 rw [Sm] at h2
 have h3:=Up YI Ug
 unfold Hs at h1 h2
 refine HD.ac fun C hC=>?_
 unfold D2
 repeat' (first | (with_reducible first | refine W ?_ | refine Z0 ?_ | ((first | refine Wo fun K hK=>?_ | refine Wp ?_ | refine Wq ?_ | refine Wr ?_);(try simp only [go_sem,fN,seval,eT,iR,Cx,dT,dF,nL]);(repeat refine Ai ?_);(try (refine hK _ ?_;clear hK K));try refine iC ?_)) | refine Cg _ (h1) ?_ | refine Cg _ (h2) ?_ | refine Cg _ (h3) ?_)
 simp only [go_sem,fN,seval,AR,AS.result,AB,AD,AL]

def Bx:IR :=
 (.seq (.ops [.i 6 (.mov (.c (.one (.st (.bool false)))))]) (.seq (.ops [.m 14 0,.i 15 (.call 8 [.t 14]),.m 7 15]) (.seq (.ops [.m 17 1,.i 18 (.call 7 [.t 17]),.m 19 7,.m 20 2,.i 21 (.call 9 [.t 20,.n 40]),.i 22 (.bin .sub (.n 60) (.t 21)),.i 23 (.call 10 [.t 18,.t 19,.t 22]),.m 16 23,.i 24 (.extract 0 (.t 16)),.i 25 (.extract 1 (.t 16)),.m 8 24,.m 9 25]) (.seq (.seq (.ops [.m 26 9,.i 27 (.bin .neq (.t 26) (.n 0))]) (.cond (.t 27) (.seq (.ops [.m 28 8,.i 29 (.len false (.t 28)),.i 30 (.bin .eql (.t 29) (.n 0)),.m 31 30,.mk (some 32) (some (31,true)) (.mov (.t 9)) .no,.mk (some 33) (some (31,true)) (.bin .eql (.t 32) (.n 14)) .no,.mk (some 34) (some (31,true)) (.mov (.t 33)) .no,.mk (some 35) (some (34,false)) (.mov (.t 9)) .no,.mk (some 36) (some (34,false)) (.bin .eql (.t 35) (.n 9)) .no,.mk (some 37) (some (31,true)) (.pick (.t 34) (.c (.one (.st (.bool true)))) (.t 36)) .no,.mk (some 38) (some (31,true)) (.mov (.t 37)) .no,.mk (some 39) (some (38,false)) (.mov (.t 9)) .no,.mk (some 40) (some (38,false)) (.bin .eql (.t 39) (.n 8)) .no,.mk (some 41) (some (31,true)) (.pick (.t 38) (.c (.one (.st (.bool true)))) (.t 40)) .no,.mk (some 42) (some (31,true)) (.mov (.t 41)) .no,.mk (some 43) (some (42,false)) (.mov (.t 9)) .no,.mk (some 44) (some (42,false)) (.bin .eql (.t 43) (.n 3)) .no,.mk (some 45) (some (31,true)) (.pick (.t 42) (.c (.one (.st (.bool true)))) (.t 44)) .no,.i 46 (.pick (.t 31) (.t 45) (.c (.one (.st (.bool false))))),.m 47 46,.mk (some 48) (some (47,true)) (.call 23 []) .no,.i 49 (.pick (.t 47) (.t 48) (.c (.one (.st (.bool false))))),.m 6 49]) .ret) .skip)) (.seq (.ops [.m 51 8,.i 52 (.call 13 [.t 51,.n 200]),.m 50 52,.i 53 (.extract 0 (.t 50)),.i 54 (.extract 1 (.t 50)),.m 10 53,.m 9 54]) (.seq (.seq (.ops [.m 55 9,.i 56 (.bin .neq (.t 55) (.n 0)),.m 57 56,.mk (some 58) (some (57,false)) (.mov (.t 10)) .no,.mk (some 59) (some (57,false)) (.un .not (.t 58)) .no,.i 60 (.pick (.t 57) (.c (.one (.st (.bool true)))) (.t 59)),.m 61 60,.mk (some 62) (some (61,false)) (.mov (.t 1)) .no,.mk (some 63) (some (61,false)) (.call 7 [.t 62]) .no,.mk (some 64) (some (61,false)) (.mov (.t 8)) .no,.mk (some 65) (some (61,false)) (.call 15 [.t 63,.t 64]) .no,.mk (some 66) (some (61,false)) (.un .not (.t 65)) .no,.i 67 (.pick (.t 61) (.c (.one (.st (.bool true)))) (.t 66)),.m 68 67,.mk (some 69) (some (68,false)) (.mov (.t 8)) .no,.mk (some 70) (some (68,false)) (.len false (.t 69)) .no,.mk (some 71) (some (68,false)) (.bin .eql (.t 70) (.n 0)) .no,.i 72 (.pick (.t 68) (.c (.one (.st (.bool true)))) (.t 71))]) (.cond (.t 72) (.seq (.ops [.i 6 (.mov (.c (.one (.st (.bool false)))))]) .ret) .skip)) (.seq (.seq (.ops [.i 11 (.mov (.n 0))]) (.block 0 (.loop (.seq (.seq (.ops [.m 73 11,.m 74 7,.i 75 (.len false (.t 74)),.i 76 (.bin .lss (.t 73) (.t 75))]) (.cond (.t 76) .skip (.exit 0))) (.seq (.block 1 (.seq (.ops [.m 80 8,.m 81 7,.m 82 11,.i 83 (.indexAddr 4 (.t 81) (.t 82)),.f 84 0 83,.L 85 2 84,.m 86 7,.m 87 11,.i 88 (.indexAddr 4 (.t 86) (.t 87)),.f 89 2 88,.L 90 2 89,.i 91 (.call 22 [.t 80,.t 85,.t 90,.n 200]),.m 79 91,.i 92 (.extract 0 (.t 79)),.i 93 (.extract 1 (.t 79)),.m 12 92,.m 13 93]) (.seq (.ops [.m 94 13,.i 95 (.bin .neq (.t 94) (.n 0)),.m 96 95,.mk (some 97) (some (96,false)) (.mov (.t 12)) .no,.mk (some 98) (some (96,false)) (.un .not (.t 97)) .no,.i 99 (.pick (.t 96) (.c (.one (.st (.bool true)))) (.t 98))]) (.cond (.t 99) (.seq (.ops [.i 6 (.mov (.c (.one (.st (.bool false)))))]) .ret) .skip)))) (.ops [.m 77 11,.i 78 (.bin .add (.t 77) (.n 1)),.m 11 78])))))) (.seq (.ops [.i 6 (.mov (.c (.one (.st (.bool true)))))]) .ret))))))))
theorem Cm:OkF Tryz.prog 5 100 [] Bx [.t 6]:=.of Tryz.func5 rfl rfl (by kernel_rfl) rfl

end Go.Proofs.YtbhnmjkmieiadaaGreatDoor
