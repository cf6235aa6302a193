/-
  Part 10 of the texts. Conditions: none.
-/
import Derived.Test.YtbhnmjkmieiadaaGreatDoorCMa9
namespace Go.Proofs.YtbhnmjkmieiadaaGreatDoor
open Go Go.RowKit
set_option maxRecDepth 100000
def BG:IR :=
 (.seq (.ops [.i 2 (.mov (.c (.one (.full []))))]) (.seq (.seq (.ops [.m 3 0,.i 4 (.eqN false (.t 3))]) (.cond (.t 4) (.seq (.ops [.i 2 (.mov (.c (.one (.full []))))]) .ret) .skip)) (.seq (.ops [.i 5 (.buildSlice false 37 2 []),.m 6 0,.i 7 (.append true 37 2 40 (.t 5) (.t 6)),.m 2 7]) .ret)))
theorem CC:OkF Tryz.prog 79 8 [7] BG [.t 2]:=.of Tryz.func79 rfl rfl (by kernel_rfl) rfl

def IC:IR :=
 (.seq (.ops [.i 3 (.box 37 (.t 0)),.i 4 (.box 37 (.t 1)),.i 6 (.mov (.c (.one (.st (.bool false)))))]) (.seq (.seq (.ops [.f 10 0 3,.l 11 10,.i 12 (.call 67 [.t 11])]) (.cond (.t 12) (.seq (.seq (.ops [.m 14 2,.f 15 0 3,.l 16 15,.i 17 (.lookup none true (.agg [.st (.str (ByteArray.mk (#[]))),.full []]) (.t 14) (.t 16)),.m 13 17,.i 18 (.extract 0 (.t 13)),.i 19 (.extract 1 (.t 13)),.i 7 (.alloc 37 [.st (.str (ByteArray.mk (#[]))),.full []]),.s 2 7 18,.m 8 19]) (.seq (.ops [.m 20 8]) (.cond (.t 20) (.seq (.ops [.L 21 2 7,.L 22 2 4,.i 23 (.call 69 [.t 21,.t 22]),.m 6 23]) .ret) .skip))) (.seq (.ops [.m 24 2,.f 25 0 3,.l 26 25,.L 27 2 4,.mk none none (.mapSet none (.t 24) (.t 26) (.t 27)) .no]) (.seq (.ops [.i 6 (.mov (.c (.one (.st (.bool true)))))]) .ret))) .skip)) (.seq (.seq (.ops [.f 28 0 3,.l 29 28,.f 30 0 4,.l 31 30,.i 32 (.bin .neq (.t 29) (.t 31)),.m 33 32,.mk (some 34) (some (33,false)) (.fieldAddr 1 (.t 3)) .no,.mk (some 35) (some (33,false)) (.load false 1 (.t 34)) .no,.mk (some 36) (some (33,false)) (.len false (.t 35)) .no,.mk (some 37) (some (33,false)) (.fieldAddr 1 (.t 4)) .no,.mk (some 38) (some (33,false)) (.load false 1 (.t 37)) .no,.mk (some 39) (some (33,false)) (.len false (.t 38)) .no,.mk (some 40) (some (33,false)) (.bin .neq (.t 36) (.t 39)) .no,.i 41 (.pick (.t 33) (.c (.one (.st (.bool true)))) (.t 40))]) (.cond (.t 41) (.seq (.ops [.i 6 (.mov (.c (.one (.st (.bool false)))))]) .ret) .skip)) (.seq (.seq (.ops [.f 42 1 3,.l 43 42,.i 44 (.len false (.t 43)),.i 45 (.mov (.n 0))]) (.block 0 (.loop (.seq (.ops [.i 46 (.bin .lss (.t 45) (.t 44))]) (.seq (.cond (.t 46) .skip (.exit 0)) (.seq (.block 1 (.seq (.ops [.m 47 45,.m 9 47]) (.seq (.ops [.f 48 1 3,.l 49 48,.m 50 9,.i 51 (.indexAddr 2 (.t 49) (.t 50)),.L 52 2 51,.f 53 1 4,.l 54 53,.m 55 9,.i 56 (.indexAddr 2 (.t 54) (.t 55)),.L 57 2 56,.m 58 2,.i 59 (.callS 127 [.t 52,.t 57,.t 58]),.i 60 (.un .not (.t 59))]) (.cond (.t 60) (.seq (.ops [.i 6 (.mov (.c (.one (.st (.bool false)))))]) .ret) .skip)))) (.ops [.i 61 (.bin .add (.t 45) (.n 1)),.m 45 61]))))))) (.seq (.ops [.i 6 (.mov (.c (.one (.st (.bool true)))))]) .ret)))))
theorem N7:OkF Tryz.prog 127 62 [59] IC [.t 6]:=.of Tryz.func127 rfl rfl (by kernel_rfl) rfl
def IV:IR :=
 (.seq (.ops [.i 2 (.box 37 (.t 0)),.i 3 (.box 37 (.t 1)),.i 4 (.mov (.c (.one (.full [])))),.i 5 (.mov (.c (.one (.st (.bool false)))))]) (.seq (.ops [.i 10 (.makeMap none),.m 6 10]) (.seq (.seq (.ops [.L 11 2 2,.L 12 2 3,.m 13 6,.i 14 (.callS 127 [.t 11,.t 12,.t 13]),.i 15 (.un .not (.t 14))]) (.cond (.t 15) (.seq (.ops [.i 4 (.mov (.c (.one (.full [])))),.i 5 (.mov (.c (.one (.st (.bool false)))))]) .ret) .skip)) (.seq (.ops [.i 7 (.mov (.c (.one (.full []))))]) (.seq (.seq (.ops [.m 16 6,.i 17 (.rangeM (.t 16))]) (.block 0 (.loop (.seq (.ops [.i 18 (.next (.t 17)),.i 19 (.extract 0 (.t 18))]) (.seq (.cond (.t 19) .skip (.exit 0)) (.block 1 (.seq (.ops [.i 20 (.entry (.t 17)),.i 21 (.extract 0 (.t 20)),.i 22 (.extract 1 (.t 20)),.i 9 (.alloc 37 [.st (.str (ByteArray.mk (#[]))),.full []]),.m 8 21,.s 2 9 22]) (.ops [.m 23 7,.m 24 8,.L 25 2 9,.i 26 (.call 42 [.t 25]),.i 27 (.build [.st (.str (ByteArray.mk (#[]))),.st (.str (ByteArray.mk (#[]))),.full []] [(0,1,.t 24),(1,2,.t 26)]),.i 28 (.buildSlice false 82 3 [.t 27]),.i 29 (.append true 82 3 56 (.t 23) (.t 28)),.m 7 29])))))))) (.seq (.ops [.m 30 7,.i 31 (.callS 117 [.t 30]),.m 4 31,.i 5 (.mov (.c (.one (.st (.bool true)))))]) .ret))))))
theorem OW:OkF Tryz.prog 112 32 [14,29,31] IV [.t 4,.t 5]:=.of Tryz.func112 rfl rfl (by kernel_rfl) rfl
def GX:IR :=
 (.seq (.ops [.i 3 (.box 37 (.t 0)),.i 4 (.box 37 (.t 1)),.i 6 (.mov (.c (.one (.full [])))),.i 7 (.mov (.c (.one (.st (.bool false)))))]) (.seq (.seq (.ops [.f 13 0 3,.l 14 13,.i 15 (.call 50 [.t 14])]) (.cond (.t 15) (.seq (.ops [.m 17 2,.f 18 0 3,.l 19 18,.i 20 (.call 94 [.t 17,.t 19]),.m 16 20,.i 21 (.extract 0 (.t 16)),.i 22 (.extract 1 (.t 16)),.i 8 (.alloc 37 [.st (.str (ByteArray.mk (#[]))),.full []]),.s 2 8 21,.m 9 22]) (.seq (.seq (.ops [.m 23 9]) (.cond (.t 23) (.seq (.ops [.m 24 2,.L 25 2 8,.L 26 2 4,.i 27 (.call 19 [.t 25,.t 26]),.m 6 24,.m 7 27]) .ret) .skip)) (.seq (.ops [.m 28 2,.f 29 0 3,.l 30 29,.L 31 2 4,.i 32 (.build [.st (.str (ByteArray.mk (#[]))),.st (.str (ByteArray.mk (#[]))),.full []] [(0,1,.t 30),(1,2,.t 31)]),.i 33 (.buildSlice false 82 3 [.t 32]),.i 34 (.append false 82 3 56 (.t 28) (.t 33)),.m 6 34,.i 7 (.mov (.c (.one (.st (.bool true)))))]) .ret))) .skip)) (.seq (.seq (.ops [.f 35 0 3,.l 36 35,.f 37 0 4,.l 38 37,.i 39 (.bin .neq (.t 36) (.t 38)),.m 40 39,.mk (some 41) (some (40,false)) (.fieldAddr 1 (.t 3)) .no,.mk (some 42) (some (40,false)) (.load false 1 (.t 41)) .no,.mk (some 43) (some (40,false)) (.len false (.t 42)) .no,.mk (some 44) (some (40,false)) (.fieldAddr 1 (.t 4)) .no,.mk (some 45) (some (40,false)) (.load false 1 (.t 44)) .no,.mk (some 46) (some (40,false)) (.len false (.t 45)) .no,.mk (some 47) (some (40,false)) (.bin .neq (.t 43) (.t 46)) .no,.i 48 (.pick (.t 40) (.c (.one (.st (.bool true)))) (.t 47))]) (.cond (.t 48) (.seq (.ops [.i 6 (.mov (.c (.one (.full [])))),.i 7 (.mov (.c (.one (.st (.bool false)))))]) .ret) .skip)) (.seq (.seq (.ops [.i 10 (.mov (.n 0))]) (.block 0 (.loop (.seq (.seq (.ops [.m 49 10,.f 50 1 3,.l 51 50,.i 52 (.len false (.t 51)),.i 53 (.bin .lss (.t 49) (.t 52))]) (.cond (.t 53) .skip (.exit 0))) (.seq (.block 1 (.seq (.ops [.f 57 1 3,.l 58 57,.m 59 10,.i 60 (.indexAddr 2 (.t 58) (.t 59)),.L 61 2 60,.f 62 1 4,.l 63 62,.m 64 10,.i 65 (.indexAddr 2 (.t 63) (.t 64)),.L 66 2 65,.m 67 2,.i 68 (.callS 118 [.t 61,.t 66,.t 67]),.m 56 68,.i 69 (.extract 0 (.t 56)),.i 70 (.extract 1 (.t 56)),.m 11 69,.m 12 70]) (.seq (.seq (.ops [.m 71 12,.i 72 (.un .not (.t 71))]) (.cond (.t 72) (.seq (.ops [.i 6 (.mov (.c (.one (.full [])))),.i 7 (.mov (.c (.one (.st (.bool false)))))]) .ret) .skip)) (.ops [.m 73 11,.m 2 73])))) (.ops [.m 54 10,.i 55 (.bin .add (.t 54) (.n 1)),.m 10 55])))))) (.seq (.ops [.m 74 2,.m 6 74,.i 7 (.mov (.c (.one (.st (.bool true)))))]) .ret)))))
theorem I_:OkF Tryz.prog 118 75 [68] GX [.t 6,.t 7]:=.of Tryz.func118 rfl rfl (by kernel_rfl) rfl
def JF:IR :=
 (.seq (.ops [.i 2 (.box 37 (.t 0)),.i 3 (.box 37 (.t 1)),.i 4 (.mov (.c (.one (.full [])))),.i 5 (.mov (.c (.one (.st (.bool false)))))]) (.seq (.ops [.L 9 2 2,.L 10 2 3,.i 11 (.callS 118 [.t 9,.t 10,.c (.one (.full []))]),.m 8 11,.i 12 (.extract 0 (.t 8)),.i 13 (.extract 1 (.t 8)),.m 6 12,.m 7 13]) (.seq (.seq (.ops [.m 14 7,.i 15 (.un .not (.t 14))]) (.cond (.t 15) (.seq (.ops [.i 4 (.mov (.c (.one (.full [])))),.i 5 (.mov (.c (.one (.st (.bool false)))))]) .ret) .skip)) (.seq (.ops [.m 16 6,.i 17 (.call 119 [.t 16]),.m 4 17,.i 5 (.mov (.c (.one (.st (.bool true)))))]) .ret))))
theorem RF:OkF Tryz.prog 91 18 [11] JF [.t 4,.t 5]:=.of Tryz.func91 rfl rfl (by kernel_rfl) rfl
def Jl:IR :=
 (.seq (.ops [.i 2 (.box 37 (.t 0)),.i 3 (.box 37 (.t 1)),.i 4 (.mov (.c (.one (.st (.bool false)))))]) (.seq (.ops [.L 9 2 2,.i 10 (.call 57 [.t 9]),.m 5 10]) (.seq (.seq (.ops [.i 6 (.mov (.n 0))]) (.block 0 (.loop (.seq (.seq (.ops [.m 11 6,.m 12 5,.i 13 (.len false (.t 12)),.i 14 (.bin .lss (.t 11) (.t 13))]) (.cond (.t 14) .skip (.exit 0))) (.seq (.block 1 (.seq (.ops [.L 18 2 3,.m 19 5,.m 20 6,.i 21 (.indexAddr 2 (.t 19) (.t 20)),.L 22 2 21,.i 23 (.call 91 [.t 18,.t 22]),.m 17 23,.i 24 (.extract 0 (.t 17)),.i 25 (.extract 1 (.t 17)),.m 7 24,.m 8 25]) (.seq (.ops [.m 26 8]) (.cond (.t 26) (.seq (.ops [.i 4 (.mov (.c (.one (.st (.bool true)))))]) .ret) .skip)))) (.ops [.m 15 6,.i 16 (.bin .add (.t 15) (.n 1)),.m 6 16])))))) (.seq (.ops [.i 4 (.mov (.c (.one (.st (.bool false)))))]) .ret))))
theorem RH:OkF Tryz.prog 63 27 [] Jl [.t 4]:=.of Tryz.func63 rfl rfl (by kernel_rfl) rfl

set_option linter.unusedVariables false
set_option linter.unusedSimpArgs false
set_option maxHeartbeats 1000000
def Un(b:Bd):KV×AV:=(.s b.1,aTm b.2)
abbrev XP(l:List Bd):AJ:=.map none (l.map Un)
theorem KR(l:List Bd)(n:ByteArray):Da (l.map Un) (.s n)=(lookup l n).map fun t=>aTm t:=by
 induction l with
 | nil=>rfl
 | cons b l ih =>
  unfold lookup;rw[List.map_cons,Da,List.find?_cons];by_cases h:b.1=n
  ·have h1:decide (b.1=n)=true:=decide_eq_true h;rw[if_pos (show(Un b).1=KV.s n from congrArg KV.s h)];simp only[h1];rfl
  ·have h1:decide (b.1=n)=false:=decide_eq_false h;rw[if_neg (show ¬(Un b).1=KV.s n from fun e=>h (KV.s.inj e)),ih];simp only[h1];rfl
theorem WA{l:List Bd}{n:ByteArray}(h:lookup l n=none)(t:Tm):Lq (l.map Un) (.s n) (aTm t)=(l++[(n,t)]).map Un:=by
 rw[Ph (by rw[KR,h];rfl),List.map_append];rfl
theorem ABc(p:Tm)(hz:p.size≤1000000):∀(t:Tm) (a0:Nat) (l:List Bd) (S:AA),1000≤a0→S a0=some (XP l) →
  Ah Tryz.prog 127 [aTm p,aTm t,.one (.mptr a0)] S (AZ (p.mt t l).2) (AI S a0 (some (XP (p.mt t l).1))):=by
 induction h:SizeOf.sizeOf p using Nat.strongRecOn generalizing p with
 | _ N ih =>
 subst h;intro t a0 l S ha0 hSa;have hs:=Tm.size_eq p;have hln:=Tm.length_le p.args;refine N7.acS fun hS C hC=>?_;have n3:S 3=none:=AK hS (by omega);have n4:S 4=none:=AK hS (by omega);have n7:S 7=none:=AK hS (by omega);have d3:¬3=a0:=by omega
 have d4:¬4=a0:=by omega
 have d7:¬7=a0:=by omega
 have e3:¬a0=3:=by omega
 have e4:¬a0=4:=by omega
 have e7:¬a0=7:=by omega
 unfold IC;repeat' first|refine Gf (F2 n3 n4) ?_|refine Mm fun K hK=>?_
 refine⟨_,Az _,?_⟩;cases hv:AP p.name with
 | true =>
  cases hl:lookup l p.name with
  | some x =>
   repeat' (first|(with_reducible first|refine W ?_|refine Z0 ?_|((first|refine Wo fun K hK=>?_|refine Wp ?_|refine Wq ?_|refine Wr ?_);(try simp only[go_sem,fN,seval,eT,iR,hv,hSa,n3,n4,n7,d3,d4,d7,e3,e4,e7,Dp,J5,KV.of,JP,KR,hl,dT,dF,nL]);(repeat refine Ai ?_);(try(refine hK _ ?_;clear hK K));try refine iC ?_))|refine Cg _ (MH _ _) ?_)
   rw[Tm.mt_old hv hl];refine B5 (AZ (x.beq t)) hS ha0 rfl trivial rfl rfl (by simp only[go_sem,fN,seval,eT,iR,e3,e4,e7,hSa]) fun i hi hne=>?_;have i3:¬i=3:=by omega
   have i4:¬i=4:=by omega
   have i7:¬i=7:=by omega
   simp only[go_sem,fN,seval,eT,iR,i3,i4,i7]
  | none =>
   repeat' with_reducible first|refine W ?_|refine Z0 ?_|((first|refine Wo fun K hK=>?_|refine Wp ?_|refine Wq ?_|refine Wr ?_);(try simp only[go_sem,fN,seval,eT,iR,hv,hSa,n3,n4,n7,d3,d4,d7,e3,e4,e7,Dp,J5,KV.of,JP,KR,hl,WA,dT,dF,nL]);(repeat refine Ai ?_);(try(refine hK _ ?_;clear hK K));try refine iC ?_)
   rw[Tm.mt_new hv hl];refine B5 (AZ true) hS ha0 rfl trivial rfl rfl (by simp only[go_sem,fN,seval,eT,iR,e3,e4,e7,hSa]) fun i hi hne=>?_;have i3:¬i=3:=by omega
   have i4:¬i=4:=by omega
   have i7:¬i=7:=by omega
   simp only[go_sem,fN,seval,eT,iR,i3,i4,i7,hne]
 | false =>
  by_cases hn:p.name=t.name
  case neg =>
   have hc:¬(p.name=t.name∧p.args.length=t.args.length):=fun h=>hn h.1;refine Gf (F12 hv hSa n3 n4 n7 d3 d4 d7 e3 e4 e7 hn) ?_;rw[Tm.mt_clash hv hc];refine B5 (AZ false) hS ha0 rfl trivial rfl rfl (by simp only[go_sem,fN,seval,eT,iR,e3,e4,hSa]) fun i hi hne=>?_;have i3:¬i=3:=by omega
   have i4:¬i=4:=by omega
   simp only[go_sem,fN,seval,eT,iR,i3,i4]
  by_cases hlen:p.args.length=t.args.length
  case neg =>
   have hc:¬(p.name=t.name∧p.args.length=t.args.length):=fun h=>hlen h.2;have hlen':¬(p.args.length:Int)=t.args.length:=by omega
   refine Gf (F13 hv hSa n3 n4 n7 d3 d4 d7 e3 e4 e7 hn hlen') ?_;rw[Tm.mt_clash hv hc];refine B5 (AZ false) hS ha0 rfl trivial rfl rfl (by simp only[go_sem,fN,seval,eT,iR,e3,e4,hSa]) fun i hi hne=>?_;have i3:¬i=3:=by omega
   have i4:¬i=4:=by omega
   simp only[go_sem,fN,seval,eT,iR,i3,i4]
  have hlen':(p.args.length:Int)=t.args.length:=by omega
  have hknot:p.mt t l=Tm.mtL p.args t.args l:=Tm.mt_knot hv hn hlen;refine Gf (F13 hv hSa n3 n4 n7 d3 d4 d7 e3 e4 e7 hn hlen') ?_;refine IWP.loop (fun m x=>∃k,k≤p.args.length∧m=p.args.length-k∧(Tm.mtL (p.args.take k) (t.args.take k) l).2=true∧x.env 2=.one (.mptr a0)∧x.env 3=.one (.ptr 3 1 0 0)∧x.env 4=.one (.ptr 4 1 0 0)∧x.env 44=AO p.args.length∧x.env 45=AO k ∧
    x.S 3=some (.box 37 [.st (.str t.name),.st (.list (p.args.map Al))])∧x.S 4=some (.box 37 [.st (.str t.name),.st (.list (t.args.map Al))])∧x.S a0=some (XP (Tm.mtL (p.args.take k) (t.args.take k) l).1)∧∀i,1000≤i→i≠a0→x.S i=S i)
   p.args.length ⟨0,Nat.zero_le _,rfl,by simp[Tm.mtL],rfl,rfl,rfl,by simp only[go_sem,fN,seval,eT,iR,hlen'],rfl,by simp only[go_sem,fN,seval,eT,iR,hn],rfl,by(simp only[go_sem,fN,seval,eT,iR,e3,e4,hSa]);simp[Tm.mtL],fun i hi hne=>?_⟩ ?_
  ·have i3:¬i=3:=by omega
   have i4:¬i=4:=by omega
   simp only[go_sem,fN,seval,eT,iR,i3,i4]
  rintro m ⟨env,S1⟩ ⟨k,hk,rfl,hok,e2,e3',e4',e44,e45,s3,s4,sa,hrest⟩;simp only at e2 e3' e4' e44 e45 s3 s4 sa hrest;have hend:∀(b:Bool) (r:List Bd) (env:Nat→AV) (S2:AA),env 6=AZ b→S2 a0=some (XP r)→(∀i,1000≤i→i≠a0→S2 i=S i)→FR C [.t 6] (AZ b) (AI S a0 (some (XP r))) .ret ⟨env,S2⟩:=fun b r env S2 h6 h1 h2 =>
   B5 (AZ b) hS ha0 rfl trivial (by simp only[AB,AD,AM,h6,Option.map_some]) rfl h1 h2
  by_cases hlt:(k:Int)<p.args.length
  ·obtain⟨a,ha⟩:=Aa (show k<p.args.length by omega);obtain⟨c,hc⟩:=Aa (show k<t.args.length by omega);have hstep:=Tm.mtL_take hlen ha hc hok;repeat' first|refine Gf (F11 e2 e3' e4' e44 e45 s3 s4 sa hlt ha hc) ?_|refine Mm fun K hK=>?_
   refine⟨_,_,ih _ (Tm.lt_of_arg (AN ha)) a (by have:=Tm.size_mem (AN ha);omega) rfl c (up1 a0) (Tm.mtL (p.args.take k) (t.args.take k) l).1 (upS S1) (Ap a0) (by rw[Ax,sa];rfl),?_⟩;rw[←hstep];cases hb:(Tm.mtL (p.args.take (k+1)) (t.args.take (k+1)) l).2 with
   | true =>
    refine Gf (F8 hb e2 e3' e4' e44 e45 s3 s4) ?_;refine AE ⟨p.args.length-(k+1),by omega,k+1,by omega,rfl,hb,?_⟩;simp only[go_sem,fN,seval,eT,iR,e2,e3',e4',e44,s3,s4,d3,d4];refine⟨by congr 3,fun i hi hne=>?_⟩;simp only[go_sem,fN,seval,eT,iR,hne];exact hrest i hi hne
   | false =>
    have hno:=Tm.mtL_no hlen hb;refine Gf (F8 hb e2 e3' e4' e44 e45 s3 s4) ?_;rw[hknot,hno];refine hend false _ _ _ rfl (by simp only[go_sem,fN,seval,eT,iR]) fun i hi hne=>?_;simp only[go_sem,fN,seval,eT,iR,hne];exact hrest i hi hne
  ·rw[List.take_of_length_le (by omega),List.take_of_length_le (by omega)]at hok sa;refine Gf (F3 e44 e45 hlt) ?_;rw[hknot,hok];exact hend true _ _ _ rfl sa hrest
theorem N9{l m:List Bd}(h:l.Perm m)(hn:Bg m):BE l=BE m :=
 Ew (Bz (DB h.symm hn)) (Bz hn) ((Bu l).trans (h.trans (Bu m).symm))
theorem KU(p t:Tm)(hp:p.size≤100000)(ht:t.size≤1000000):AW Tryz.prog 112 [aTm p,aTm t] (.tup [ER (BH p t),AZ (BJ p t)]):=by
 have hnm:=MI p t;have hml:=UJ p t;have hms:=AAu p t;refine OW.ac fun C hC=>?_;unfold IV;repeat' first|refine Gg ?_|refine Mm fun K hK=>?_
 refine⟨_,_,ABc p (by omega) t (up1 10) [] _ (Ap 10) (by rw[Ax];rfl),?_⟩;cases hc:(p.mt t []).2 with
 | false =>
  refine Gf hc ?_;simp only[go_sem,fN,seval,AQ,AS.result,AB,AD,AM];unfold BH BJ;rw[hc];rfl
 | true =>
  have hca:BH p t=BE (p.mt t []).1:=by unfold BH;rw[if_pos hc]
  have his:BJ p t=true:=hc;repeat' with_reducible first|refine W ?_|refine Z0 ?_|((first|refine Wo fun K hK=>?_|refine Wp ?_|refine Wq ?_|refine Wr ?_);(try simp only[go_sem,fN,seval,eT,iR,hc,Dp,dT,dF,nL]);(repeat refine Ai ?_);(try(refine hK _ ?_;clear hK K));try refine iC ?_)
  rw[hca,his];generalize (p.mt t []).1=l at *;refine IWP.ghost (AY.ownM 7 500 82 3 (by rfl) (by rfl) (by rw[hC];decide)) ?_;refine IWP.loopD [9] (fun m x=>∃seen:List Nat,seen.Nodup∧(∀j∈seen,j<l.length)∧m=l.length-seen.length∧x.env 7=.one (.row 500 seen.length)∧x.env 17=.one (.ptr 17 1 0 0)∧x.S 10=some (XP l)∧x.S 17=some (.iter (.mptr 10) l.length seen)∧x.S 500=some (Bl (met l seen))∧x.S 9=none) l.length ⟨[],List.nodup_nil,by simp,rfl,rfl,rfl,by simp only[go_sem,fN,seval,eT,iR],by simp only[go_sem,fN,seval,eT,iR],rfl,rfl⟩ ?_;rintro m ⟨env,S⟩ ⟨seen,hnd,hlt,rfl,e7,e17,s10,s17,s500,s9⟩;simp only at e7 e17 s10 s17 s500 s9;have hsl:=RY hnd hlt;have hmt:=VS hlt;repeat' with_reducible first|refine W ?_|refine Z0 ?_|((first|refine Wo fun K hK=>?_|refine Wp ?_|refine Wq ?_|refine Wr ?_);(try simp only[go_sem,fN,seval,eT,iR,e7,e17,s10,s17,FW,dT,dF,nL]);(repeat refine Ai ?_);(try(refine hK _ ?_;clear hK K));try refine iC ?_)
  refine⟨fun hall=>?_,fun j x c hx hj hkv=>?_⟩
  ·have hmp:=Zj hnd hlt hall;have hl':seen.length=l.length:=by rw[←hmt];exact hmp.length_eq
   refine hK _ ?_;clear hK K;refine Wb ?_;refine Wa ?_;with_reducible refine Wp ?_
   simp only[go_sem,fN,seval,true_implies,false_implies,implies_true,dT,dF,nL];(try with_reducible refine iC ?_);repeat' (with_reducible first|refine Wb ?_|refine Wc ?_|refine Wd ?_|refine We ?_|refine Wg ?_|refine Wh ?_|refine Wi ?_|refine Wj ?_|refine Wk (by decide) ?_|refine Wl ?_|refine Wm ?_|refine Wn ?_)
   refine IWP.mid (fun x=>x.env 4=.one (.row 500 l.length)∧x.env 5=AZ true∧x.S 500=some (Bl (BE l))) ?_ ?_
   ·have hs:=Tk (met l seen) (DB hmp.symm hnm) (by omega) (up1 500) (Ap 500) (upS S) (by rw[Ax,s500];rfl);rw[hmt,hl',N9 hmp hnm]at hs;rw[hl']at e7;repeat' first|refine Hf e7 ?_|refine Mm fun K hK=>?_
    refine⟨_,_,hs,?_⟩;repeat' first|refine Hf e7 ?_|refine Mm fun K hK=>?_
    refine⟨rfl,?_⟩;simp only[go_sem,fN,seval,eT,iR]
   rintro⟨env,S⟩ ⟨e4,e5,s500⟩;simp only at e4 e5 s500;refine IWP.ghost (AY.share (id:=500) s500) ?_;refine Hg ?_;simp only[go_sem,fN,seval,AQ,AS.result,AB,AD,AM,e4,e5,Bi]
  ·rw[Option.map_eq_some_iff]at hx;obtain⟨b,hb,rfl⟩:=hx;have hbz:=hms b (AN hb);have hjl:j<l.length:=by
    rcases Nat.lt_or_ge j l.length with h|h
    ·exact h
    ·rw[List.getElem?_eq_none h]at hb;cases hb
   have hcv:c=.one (.st (.str b.1)):=by
    have:some (AV.one (.st (.str b.1)))=some c:=hkv
    cases this;rfl
   subst hcv;have hnd':(seen++[j]).Nodup:=by
    rw[List.nodup_append];exact⟨hnd,by simp,fun a ha b hb e=>hj (by rw[List.mem_singleton.1 hb]at e;rw[←e];exact ha)⟩
   have hlt':∀i∈seen++[j],i<l.length:=fun i hi=>by
    rcases List.mem_append.1 hi with h|h
    ·exact hlt i h
    ·rw[List.mem_singleton.1 h];exact hjl
   have hsl':=RY hnd' hlt';rw[List.length_append,List.length_singleton]at hsl';refine hK _ ?_;clear hK K;refine Wb ?_;repeat' (first|(with_reducible first|refine W ?_|refine Z0 ?_|((first|refine Wo fun K hK=>?_|refine Wp ?_|refine Wq ?_|refine Wr ?_);(try simp only[go_sem,fN,seval,eT,iR,e7,e17,s10,s17,s500,s9,FW,List.getLast?_concat,hb,Un,KV.sv,hmt,BZ,dT,dF,nL]);(repeat refine Ai ?_);(try(refine hK _ ?_;clear hK K));try refine iC ?_))|refine Cg _ (KJ b.2 (by omega)) ?_)
   refine AE ⟨l.length-(seen.length+1),by omega,seen++[j],hnd',hlt',by rw[List.length_append,List.length_singleton],?_⟩;rw[Zh hb];simp only[go_sem,fN,seval,AS.drop,AT,AC.clears,AC.clear,AC.highs,AC.high,zD,AV.purge,AV.purges,AC.purge,AJ.purge,Nat.reduceBEq,eT,iR,e7,e17,s10,s500];show AJ.mrow _ _ ((met l seen).map BZ++[BZ b])=Bl _
   rw[Bl,List.map_append];rfl

theorem M5(l:List Tm)(h0:0<l.length)(hl:l.length≤1000000):Ht Tryz.prog 79 [CJ l] 37 2 (l.map Al) true:=by
 unfold Ht;rw[List.length_map];refine CC.acS fun hS C hC=>?_;unfold BG;have h0':¬l.length=0:=by omega
 have hb:l.length*40≤140737488355328:=by omega
 refine Gf (F2 h0' hb) ?_;exact AA4 (mu:=true) trivial 7 (by decide) rfl (fun i hi=>by show AI _ _ _ _=_;rw[AH _ (by omega)];rfl) rfl
def Gl(r:Tm×Int×Int):AV:=.tup [aTm r.1,AO r.2.1,AO r.2.2]
theorem Xw{R:List Pr}(hR:A7 R)(t:Tm)(hc:t.chk=0)(hz:t.size≤1000000)(f:Nat)(hf:f≤R.length):AW Tryz.prog 78 [Be R,aTm t,AO f] (Gl (Db t f (R.drop f))):=by
 unfold Gl;have h40:=hR.len;refine Gw.ac fun C hC=>?_;unfold ES;refine Gg ?_;refine IWP.loop (fun m s=>∃k,k≤R.length∧m=R.length-k∧Db t f (R.drop f)=Db t k (R.drop k)∧s.env 0=Be R∧s.env 4=.one (.ptr 4 1 0 0)∧s.env 6=.one (.ptr 6 1 0 0)∧s.S 4=some (.box 37 [.st (.str t.name),.st (.list (t.args.map Al))])∧s.S 6=some (.box 37 [.st (.str ⟨#[]⟩),.full []])∧s.S 12=none∧s.env 9=AO k) (R.length-f) ⟨f,hf,rfl,rfl,rfl,rfl,rfl,rfl,rfl,rfl,rfl⟩ ?_;rintro m ⟨env,S⟩ ⟨k,hk,rfl,hrk,e0,e4,e6,s4,s6,s12,e9⟩;simp only at e0 e4 e6 s4 s6 s12 e9;rw[hrk];by_cases hlt:(k:Int)<R.length
 ·obtain⟨r,hr⟩:=Aa (show k<R.length by omega);have hmem:=AN hr;have c1:=Tm.may_chk (hR.left r hmem);have c2:=Tm.may_chk (hR.right r hmem);have hok:=Qj c1.1 hc;have hd:=A5 hr;rw[hd,Db];by_cases hcase:BJ r.1 t=true
  ·rw[if_pos hcase];have hon:=NX (BH r.1 t) (by have:=LI (p:=r.1) (t:=t);omega) hok.ord r.2 hok.var c2.1;by_cases hon2:(Au (BH r.1 t) r.2).2=true
   ·repeat' first|refine Gf (F12 e0 e4 e6 s4 s6 s12 e9 hlt hr @Ag.eq_1 hcase hon2) ?_|refine Mm fun K hK=>?_|refine Cg _ (KU r.1 t (by omega) hz) ?_|refine Cg _ (hon) ?_
    simp only[go_sem,fN,seval,AQ,AS.result,AB,AD,AM,e6,s6,hon2]
   ·have hnil:=L1 hon2;simp only[Bool.not_eq_true]at hon2;repeat' first|refine Gf (F12 e0 e4 e6 s4 s6 s12 e9 hlt hr @Ag.eq_1 hcase hon2) ?_|refine Mm fun K hK=>?_|refine Cg _ (KU r.1 t (by omega) hz) ?_|refine Cg _ (hon) ?_
    simp only[go_sem,fN,seval,AQ,AS.result,AB,AD,AM,e6,s6,hon2,hnil];rfl
  ·rw[if_neg hcase];repeat' first|refine Gf (F11 e0 e4 e6 s4 s6 s12 e9 hlt hr @Ag.eq_1 hcase) ?_|refine Mm fun K hK=>?_|refine Cg _ (KU r.1 t (by omega) hz) ?_
   refine AE ⟨R.length-(k+1),by omega,k+1,by omega,rfl,?_,?_⟩
   ·rfl
   ·simp only[go_sem,fN,seval,eT,iR,e0,e4,e6,s4,s6,s12,e9];congr 3
 ·have hd:R.drop k=[]:=List.drop_of_length_le (by omega);rw[hd];refine Gf (F8 e0 e4 e6 s4 s6 s12 e9 hlt) ?_;simp only[go_sem,fN,seval,AQ,AS.result,AB,AD,AM,e6,s6];rfl
def Eb(t:Tm)(r:Option (Tm×Int)):AV:=match r with
 | none=>.tup [aTm t,AZ false,AO 0]
 | some (x,e)=>.tup [aTm x,AZ true,AO e]
theorem ABB{R:List Pr}{t:Tm}(h:DV R t=none):Gl (Db t 0 (R.drop 0))=.tup [aTm Tm.nil,AO (-1),AO 0]:=by
 have:=NW R t R 0;unfold DV at h;rw[h]at this;rw[List.drop_zero,Gl,this]
theorem AA8{R:List Pr}{t x:Tm}{e:Int}(h:DV R t=some (x,e)):∃i:Nat,Gl (Db t 0 (R.drop 0))=.tup [aTm x,AO i,AO e]:=by
 have:=NW R t R 0;unfold DV at h;rw[h]at this;obtain⟨i,hi⟩:=this;exact⟨i,by rw[List.drop_zero,Gl,hi]⟩
theorem RW{R:List Pr}(hR:A7 R)(t:Tm)(hc:t.chk=0)(hz:t.size≤1000000):AW Tryz.prog 77 [Be R,aTm t] (Eb Tm.nil (t.inn R)):=by
 induction h:SizeOf.sizeOf t using Nat.strongRecOn generalizing t with
 | _ N ih =>
 subst h;have hs:=Tm.size_eq t;have hln:=Tm.length_le t.args;refine G9.ac fun C hC=>?_;unfold EJ;refine Gg ?_;refine IWP.loopD [8] (fun m s=>∃k,k≤t.args.length∧m=t.args.length-k∧(∀b∈t.args.take k,b.inn R=none)∧s.env 0=Be R∧s.env 3=.one (.ptr 3 1 0 0)∧s.env 4=.one (.ptr 4 1 0 0)∧s.S 3=some (.box 37 [.st (.str t.name),.st (.list (t.args.map Al))])∧s.S 4=some (.box 37 [.st (.str ⟨#[]⟩),.full []])∧s.S 8=none∧s.S 11=none∧s.S 12=none∧s.S 41=none∧s.env 17=AO t.args.length∧s.env 18=AO k)
  t.args.length ⟨0,Nat.zero_le _,rfl,by simp,rfl,rfl,rfl,rfl,rfl,rfl,rfl,rfl,rfl,rfl,rfl⟩ ?_
 rintro m ⟨env,S⟩ ⟨k,hk,rfl,hno,e0,e3,e4,s3,s4,s8,s11,s12,s41,e17,e18⟩;simp only at e0 e3 e4 s3 s4 s8 s11 s12 s41 e17 e18;by_cases hlt:(k:Int)<t.args.length
 ·obtain⟨a,ha⟩:=Aa (show k<t.args.length by omega);have hmem:=AN ha;have hcon:=ih _ (Tm.lt_of_arg hmem) a ((Tm.chk_args hc).2 a hmem) (by have:=Tm.size_mem hmem;omega) rfl;cases hi:a.inn R with
  | none =>
   rw[hi]at hcon;unfold Eb at hcon;repeat' first|refine Gf (F13 e0 e3 e4 s3 s4 s8 s11 s12 s41 e17 e18 hlt ha) ?_|refine Mm fun K hK=>?_|refine Cg _ (hcon) ?_
   refine AE ⟨t.args.length-(k+1),by omega,k+1,by omega,rfl,?_,?_⟩
   ·intro b hb;rw[Ab ha]at hb;rcases List.mem_append.1 hb with hb|hb
    ·exact hno b hb
    ·rw[List.mem_singleton.1 hb];exact hi
   ·simp only[go_sem,fN,seval,AS.drop,AT,AC.clears,AC.clear,AC.highs,AC.high,zD,AV.purge,AV.purges,AC.purge,AJ.purge,Nat.reduceBEq,eT,iR,e0,e3,e4,s3,s4,s8,s11,s12,s41,e17,e18];congr 3
  | some r =>
   obtain⟨y,e⟩:=r;rw[hi]at hcon;unfold Eb at hcon;have hin:t.inn R=some (.mk t.name (t.args.set k y),e):=by
    rw[Tm.inn_eq,QT ha hno hi]
   rw[hin];unfold Eb;by_cases he:e=0;all_goals
    repeat' first|refine Gf (F14 e0 e3 e4 s3 s4 s8 s11 s12 s41 e17 e18 hlt ha he) ?_|refine Mm fun K hK=>?_|refine Cg _ (hcon) ?_
    refine⟨_,_,_,_,M5 t.args (by omega) (by omega),by simp[AI,s41],?_⟩;refine Wr ?_;simp only[go_sem,fN,seval,eT,iR,e0,e3,e4,s3,s4,s8,s11,s12,s41,e17,e18,hlt,ha,he];refine hK _ ?_;clear hK K;refine Wb ?_;refine IWP.mid (fun x=>x.env 4=.one (.ptr 4 1 0 0)∧x.env 11=.one (.ptr 11 1 0 0)∧x.env 9=AZ true∧x.env 10=AO e∧x.S 4=some (.box 37 [.st (.str ⟨#[]⟩),.full []])∧x.S 11=some (.box 37 [.st (.str t.name),.row 41 t.args.length])∧x.S 41=some (.mrow 37 2 ((t.args.set k y).map Al))) ?_ ?_
    ·refine Gf (F14 e0 e3 e4 s3 s4 s8 s11 s12 s41 e17 e18 hlt ha he) ?_;refine⟨rfl,?_⟩;simp only[go_sem,fN,seval,eT,iR,e0,e3,e4,s3,s4,s8,s11,s12,s41,e17,e18,hlt,ha,he];rw[List.map_set,Ao]
    rintro⟨env,S⟩ ⟨e4,e11,e9,e10,s4,s11,s41⟩;simp only at e4 e11 e9 e10 s4 s11 s41;refine IWP.ghost (AY.share (id:=41) s41) ?_;have hl1:(t.args.set k y).length=t.args.length:=by simp
    refine Gf (F7 e4 e11 e9 e10 s4 s11 hl1) ?_;simp only[go_sem,fN,seval,AQ,AS.result,AB,AD,AM,e4,s4,hl1];first|rfl|(rw[he];rfl)
 ·rw[List.take_of_length_le (by omega)]at hno;have hin:t.inn R=DV R t:=by rw[Tm.inn_eq,MO hno]
  rw[hin];have hroot:=Xw hR t hc hz 0 (by omega);cases hr:DV R t with
  | none =>
   rw[ABB hr]at hroot;unfold Eb;repeat' first|refine Gf (F12 e0 e3 e4 s3 s4 s8 s11 s12 s41 e17 e18 hlt) ?_|refine Mm fun K hK=>?_|refine Cg _ (hroot) ?_
   simp only[go_sem,fN,seval,AQ,AS.result,AB,AD,AM,e4,s4]
  | some r =>
   obtain⟨x,e⟩:=r;obtain⟨i,hi⟩:=AA8 hr;rw[hi]at hroot;unfold Eb;repeat' first|refine Gf (F12 e0 e3 e4 s3 s4 s8 s11 s12 s41 e17 e18 hlt) ?_|refine Mm fun K hK=>?_|refine Cg _ (hroot) ?_
   simp only[go_sem,fN,seval,AQ,AS.result,AB,AD,AM,e4,s4]

def L0(r:Tm×Int×Int):AV:=.tup [aTm r.1,AO r.2.1,AO r.2.2]
abbrev FA(t:Tm):AJ:=.box 37 [.st (.str t.name),.st (.list (t.args.map Al))]
abbrev P1:AJ:=.box 37 [.st (.str ⟨#[]⟩),.full []]
theorem Hv{step:Tm→Option (Tm×Int)}{t:Tm}(h:step t=none)(k:Nat)(n:Int):CM step k n t=(t,n,0):=by
 cases k <;> (unfold CM;rw[h])
theorem H4{step:Tm→Option (Tm×Int)}{t:Tm}{r:Tm×Int}(h:step t=some r)(n:Int):CM step 0 n t=(Tm.nil,0,9):=by
 unfold CM;rw[h]
theorem JH{step:Tm→Option (Tm×Int)}{t x:Tm}{e:Int}(h:step t=some (x,e))(he:e≠0)(k:Nat)(n:Int):CM step (k+1) n t=(Tm.nil,0,e):=by
 rw[CM,h];exact if_pos he
theorem GV{step:Tm→Option (Tm×Int)}{t x:Tm}(h:step t=some (x,0))(hz:2000<x.size)(k:Nat)(n:Int):CM step (k+1) n t=(Tm.nil,0,8):=by
 rw[CM,h];simp only[ne_eq,not_true_eq_false,if_false];exact if_pos hz
theorem L5{step:Tm→Option (Tm×Int)}{t x:Tm}(h:step t=some (x,0))(hz:¬2000<x.size)(k:Nat)(n:Int):CM step (k+1) n t=CM step k (n+1) x:=by
 rw[CM,h];simp only[ne_eq,not_true_eq_false,if_false];exact if_neg hz
theorem Yu{R:List Pr}(hR:A7 R)(t0:Tm)(hc0:t0.chk=0)(hz0:t0.size≤900000)(most:Nat)(hm:most≤1000000):AW Tryz.prog 41 [Be R,aTm t0,AO most] (L0 (CM (Tm.inn R) most 0 t0)):=by
 unfold L0;refine Lp.ac fun C hC=>?_;unfold Gt;repeat' first|refine Gg ?_|refine Mm fun K hK=>?_|refine Cg _ (KJ t0 (by omega)) ?_
 refine IWP.loopD [10] (fun m s=>∃(n:Nat) (t:Tm),n≤most∧m=most-n∧CM (Tm.inn R) most 0 t0=CM (Tm.inn R) (most-n) n t∧t.chk=0∧t.size≤900000∧s.env 0=Be R∧s.env 2=AO most∧s.env 4=.one (.ptr 4 1 0 0)∧s.env 6=.one (.ptr 6 1 0 0)∧s.env 9=AO n∧s.S 4=some (FA t)∧s.S 6=some P1∧s.S 10=none)
  most ⟨0,t0,by omega,by omega,rfl,hc0,hz0,rfl,rfl,rfl,rfl,rfl,rfl,rfl,rfl⟩ ?_
 rintro m ⟨env,S⟩ ⟨n,t,hn,rfl,hend,hc,hz,e0,e2,e4,e6,e9,s4,s6,s10⟩;simp only at e0 e2 e4 e6 e9 s4 s6 s10;rw[hend];have hcon:=RW hR t hc (by omega);cases hs:t.inn R with
 | none =>
  rw[hs]at hcon;unfold Eb at hcon;rw[Hv hs];repeat' first|refine Gf (F8 e0 e2 e4 e6 e9 s4 s6 s10) ?_|refine Mm fun K hK=>?_|refine Cg _ (hcon) ?_
  simp only[go_sem,fN,seval,AQ,AS.result,AB,AD,AM,e6,s6]
 | some r =>
  obtain⟨x,e⟩:=r;rw[hs]at hcon;unfold Eb at hcon;obtain⟨g1,g2,g3⟩:=Js hR hc hs;by_cases hmost:n=most
  ·have hmi:(n:Int)=most:=by omega
   rw[show most-n=0 by omega,H4 hs];repeat' first|refine Gf (F9 e0 e2 e4 e6 e9 s4 s6 s10 hmi) ?_|refine Mm fun K hK=>?_|refine Cg _ (hcon) ?_
   simp only[go_sem,fN,seval,AQ,AS.result,AB,AD,AM,e6,s6];rfl
  have hmi:¬(n:Int)=most:=by omega
  obtain⟨k,hk⟩:∃k,most-n=k+1:=⟨most-n-1,by omega⟩
  rw[hk];by_cases he:e=0
  case neg =>
   rw[JH hs he];repeat' first|refine Gf (F10 e0 e2 e4 e6 e9 s4 s6 s10 hmi he) ?_|refine Mm fun K hK=>?_|refine Cg _ (hcon) ?_
   simp only[go_sem,fN,seval,AQ,AS.result,AB,AD,AM,e6,s6];rfl
  case pos =>
  subst he;have hsz:=GZ x (by omega);by_cases hgr:(2000:Int)<x.size
  ·rw[GV hs (by omega)];repeat' first|refine Gf (F10 e0 e2 e4 e6 e9 s4 s6 s10 hmi hgr) ?_|refine Mm fun K hK=>?_|refine Cg _ (hcon) ?_|refine Cg _ (hsz) ?_
   simp only[go_sem,fN,seval,AQ,AS.result,AB,AD,AM,e6,s6];rfl
  ·repeat' first|refine Gf (F10 e0 e2 e4 e6 e9 s4 s6 s10 hmi hgr) ?_|refine Mm fun K hK=>?_|refine Cg _ (hcon) ?_|refine Cg _ (hsz) ?_
   refine AE ⟨most-(n+1),by omega,n+1,x,by omega,rfl,?_,g2 rfl,by omega,?_⟩
   ·rw[show most-(n+1)=k by omega];exact L5 hs (by omega) k n
   ·simp only[go_sem,fN,seval,AS.drop,AT,AC.clears,AC.clear,AC.highs,AC.high,zD,AV.purge,AV.purges,AC.purge,AJ.purge,Nat.reduceBEq,eT,iR,e0,e2,e4,e6,e9,s4,s6,s10];congr 3
def Y2(R:List Pr)(a b:Tm)(m:Int):Bool×Int:=if ABA R a=0 then(if b.may=0 then(if VT m=0 then VU R m.toNat a b else(false,VT m)) else(false,b.may)) else(false,ABA R a)

abbrev Jf(l:List Bd):AJ:=.arow 82 3 (l.map BZ)
def mtV(i:Nat)(p t:Tm)(l:List Bd):AV:=if(AP p.name||(p.mt t l).2)=true then .one (.row i (p.mt t l).1.length) else .one (.full [])
theorem Q7{i:Nat}{p t:Tm}{l:List Bd}(h:(p.mt t l).2=true):mtV i p t l=.one (.row i (p.mt t l).1.length):=by unfold mtV;rw[h,Bool.or_true,if_pos rfl]
theorem Vg{i:Nat}{p t:Tm}{l:List Bd}(h:AP p.name=true):mtV i p t l=.one (.row i (p.mt t l).1.length):=by unfold mtV;rw[h,Bool.true_or,if_pos rfl]
theorem T5{i:Nat}{p t:Tm}{l:List Bd}(hv:AP p.name=false)(h:(p.mt t l).2=false):mtV i p t l=.one (.full []):=by unfold mtV;rw[h,hv];rfl
theorem KB(p:Tm)(hz:p.size≤1000000)
  (ih:∀a∈p.args,∀(t:Tm) (i:Nat) (l:List Bd) (S:AA),1000≤i→l.length+a.size≤2000000→S i=some (Jf l) →
   Ah Tryz.prog 118 [aTm a,aTm t,.one (.row i l.length)] S (.tup [mtV i a t l,AZ (a.mt t l).2]) (AI S i (some (Jf (a.mt t l).1))))
  (C:Ctx) (hC:C.n=75) (t:Tm) (i:Nat) (hi:100<i) (l:List Bd) (hl:l.length+p.size≤2000000) (S:AA) (hS:∀j,j<100→S j=none) (si:S i=some (Jf l)) (env:Nat→AV) (e0:env 0=aTm p) (e1:env 1=aTm t) (e2:env 2=.one (.row i l.length))
  (Q:AX→AS→Prop) (hQ:∀env' S',env' 6=mtV i p t l→env' 7=AZ (p.mt t l).2→S' i=some (Jf (p.mt t l).1)→(∀j,100≤j→j≠i→S' j=S j)→Q .ret ⟨env',S'⟩) :
  IWP Tryz.prog C [68] GX Q ⟨env,S⟩:=by
 have hs:=Tm.size_eq p;have hln:=Tm.length_le p.args;have n3:S 3=none:=hS 3 (by omega);have n4:S 4=none:=hS 4 (by omega);have n8:S 8=none:=hS 8 (by omega);have d3:¬3=i:=by omega
 have d4:¬4=i:=by omega
 have d8:¬8=i:=by omega
 have f3:¬i=3:=by omega
 have f4:¬i=4:=by omega
 have f8:¬i=8:=by omega
 unfold GX;repeat' first|refine Gf (F5 n3 n4 e0 e1 e2) ?_|refine Mm fun K hK=>?_
 refine⟨_,BN _,?_⟩;cases hv:AP p.name with
 | true =>
  repeat' first|refine Gf (F14 hv n3 n4 n8 d3 d4 d8 f3 f4 f8 e0 e1 e2 si) ?_|refine Mm fun K hK=>?_
  refine⟨_,SI l p.name,?_⟩;cases hlk:lookup l p.name with
  | some x =>
   repeat' (first|(with_reducible first|refine W ?_|refine Z0 ?_|((first|refine Wo fun K hK=>?_|refine Wp ?_|refine Wq ?_|refine Wr ?_);(try simp only[go_sem,fN,seval,eT,iR,hlk,n3,n4,n8,d3,d4,d8,f3,f4,f8,e0,e1,e2,si,Option.getD_some,Option.isSome_some,dT,dF,nL]);(repeat refine Ai ?_);(try(refine hK _ ?_;clear hK K));try refine iC ?_))|refine Cg _ (H5 _ _) ?_)
   have hm:=Tm.mt_old (t:=t) hv hlk;refine hQ _ _ ?_ ?_ ?_ fun j hj hne=>?_
   ·rw[Vg hv,hm];simp only[go_sem,fN,seval,eT,iR]
   ·rw[hm];simp only[go_sem,fN,seval,eT,iR]
   ·rw[hm];simp only[go_sem,fN,seval,eT,iR,f3,f4,f8,si]
   ·have j3:¬j=3:=by omega
    have j4:¬j=4:=by omega
    have j8:¬j=8:=by omega
    simp only[go_sem,fN,seval,eT,iR,j3,j4,j8]
  | none =>
   repeat' with_reducible first|refine W ?_|refine Z0 ?_|((first|refine Wo fun K hK=>?_|refine Wp ?_|refine Wq ?_|refine Wr ?_);(try simp only[go_sem,fN,seval,eT,iR,hlk,n3,n4,n8,d3,d4,d8,f3,f4,f8,e0,e1,e2,si,Option.getD_none,Option.isSome_none,BZ,dT,dF,nL]);(repeat refine Ai ?_);(try(refine hK _ ?_;clear hK K));try refine iC ?_)
   have hm:=Tm.mt_new (t:=t) hv hlk;refine hQ _ _ ?_ ?_ ?_ fun j hj hne=>?_
   ·rw[Vg hv,hm,List.length_append];simp only[go_sem,fN,seval,eT,iR]
   ·rw[hm];simp only[go_sem,fN,seval,eT,iR]
   ·rw[hm];simp only[go_sem,fN,seval,eT,iR,f3,f4,f8,si];rw[Jf,List.map_append];rfl
   ·have j3:¬j=3:=by omega
    have j4:¬j=4:=by omega
    have j8:¬j=8:=by omega
    simp only[go_sem,fN,seval,eT,iR,j3,j4,j8,hne]
 | false =>
  by_cases hn:p.name=t.name
  case neg =>
   have hc:¬(p.name=t.name∧p.args.length=t.args.length):=fun h=>hn h.1;have hm:=Tm.mt_clash (l:=l) hv hc;refine Gf (F15 hv n3 n4 n8 d3 d4 d8 f3 f4 f8 e0 e1 e2 si hn) ?_;refine hQ _ _ ?_ ?_ ?_ fun j hj hne=>?_
   ·rw[T5 hv (by rw[hm])];simp only[go_sem,fN,seval,eT,iR]
   ·rw[hm];simp only[go_sem,fN,seval,eT,iR]
   ·rw[hm];simp only[go_sem,fN,seval,eT,iR,f3,f4,si]
   ·have j3:¬j=3:=by omega
    have j4:¬j=4:=by omega
    simp only[go_sem,fN,seval,eT,iR,j3,j4]
  by_cases hlen:p.args.length=t.args.length
  case neg =>
   have hc:¬(p.name=t.name∧p.args.length=t.args.length):=fun h=>hlen h.2;have hlen':¬(p.args.length:Int)=t.args.length:=by omega
   have hm:=Tm.mt_clash (l:=l) hv hc;refine Gf (F16 hv n3 n4 n8 d3 d4 d8 f3 f4 f8 e0 e1 e2 si hn hlen') ?_;refine hQ _ _ ?_ ?_ ?_ fun j hj hne=>?_
   ·rw[T5 hv (by rw[hm])];simp only[go_sem,fN,seval,eT,iR]
   ·rw[hm];simp only[go_sem,fN,seval,eT,iR]
   ·rw[hm];simp only[go_sem,fN,seval,eT,iR,f3,f4,si]
   ·have j3:¬j=3:=by omega
    have j4:¬j=4:=by omega
    simp only[go_sem,fN,seval,eT,iR,j3,j4]
  have hlen':(p.args.length:Int)=t.args.length:=by omega
  have hknot:p.mt t l=Tm.mtL p.args t.args l:=Tm.mt_knot hv hn hlen;refine Gf (F16 hv n3 n4 n8 d3 d4 d8 f3 f4 f8 e0 e1 e2 si hn hlen') ?_;refine IWP.loop (fun m x=>∃k,k≤p.args.length∧m=p.args.length-k∧(Tm.mtL (p.args.take k) (t.args.take k) l).2=true∧x.env 2=.one (.row i (Tm.mtL (p.args.take k) (t.args.take k) l).1.length)∧x.env 3=.one (.ptr 3 1 0 0)∧x.env 4=.one (.ptr 4 1 0 0)∧x.env 10=AO k ∧
    x.S 3=some (.box 37 [.st (.str t.name),.st (.list (p.args.map Al))])∧x.S 4=some (.box 37 [.st (.str t.name),.st (.list (t.args.map Al))])∧x.S i=some (Jf (Tm.mtL (p.args.take k) (t.args.take k) l).1)∧∀j,100≤j→j≠i→x.S j=S j)
   p.args.length ⟨0,Nat.zero_le _,rfl,by simp[Tm.mtL],by(simp only[go_sem,fN,seval,eT,iR,e2]);simp[Tm.mtL],rfl,rfl,rfl,by simp only[go_sem,fN,seval,eT,iR,hn],rfl,by(simp only[go_sem,fN,seval,eT,iR,f3,f4,si]);simp[Tm.mtL],fun j hj hne=>?_⟩ ?_
  ·have j3:¬j=3:=by omega
   have j4:¬j=4:=by omega
   simp only[go_sem,fN,seval,eT,iR,j3,j4]
  rintro m ⟨env,S1⟩ ⟨k,hk,rfl,hok,e2,e3',e4',e10,s3,s4,si,hrest⟩;simp only at e2 e3' e4' e10 s3 s4 si hrest;by_cases hlt:(k:Int)<p.args.length
  ·obtain⟨a,ha⟩:=Aa (show k<p.args.length by omega);obtain⟨c,hc⟩:=Aa (show k<t.args.length by omega);have hstep:=Tm.mtL_take hlen ha hc hok;have hb1:=(Tm.mtL_ok (p.args.take k) (t.args.take k) l).len;have z1:=Tm.sizes_take ha;have z2:=Tm.sizes_take_le p.args (k+1);repeat' first|refine Gf (F10 e2 e3' e4' e10 s3 s4 si hlt ha hc) ?_|refine Mm fun K hK=>?_
   have hcall:=ih a (AN ha) c (up1 i) (Tm.mtL (p.args.take k) (t.args.take k) l).1 (upS S1) (Ap i) (by omega) (by rw[Ax,si];rfl);rw[←hstep]at hcall;cases hb:(Tm.mtL (p.args.take (k+1)) (t.args.take (k+1)) l).2 with
   | true =>
    rw[Q7 (by rw[←hstep];exact hb),←hstep,hb]at hcall;refine⟨_,_,hcall,?_⟩;repeat' first|refine Gf (F8 e2 e3' e4' e10 s3 s4 d3 d4) ?_|refine Mm fun K hK=>?_
    refine AE ⟨p.args.length-(k+1),by omega,k+1,by omega,rfl,hb,?_⟩;simp only[go_sem,fN,seval,eT,iR,e2,e3',e4',e10,s3,s4,d3,d4];refine⟨by congr 3,fun j hj hne=>?_⟩;simp only[go_sem,fN,seval,eT,iR,hne];exact hrest j hj hne
   | false =>
    have hno:=Tm.mtL_no hlen hb;rw[hb]at hcall;refine⟨_,_,hcall,?_⟩;repeat' first|refine Gf (F7 hb e2 e3' e4' e10 s3 s4) ?_|refine Mm fun K hK=>?_
    refine hQ _ _ ?_ ?_ ?_ fun j hj hne=>?_
    ·rw[T5 hv (by rw[hknot,hno])];simp only[go_sem,fN,seval,eT,iR]
    ·rw[hknot,hno];simp only[go_sem,fN,seval,eT,iR]
    ·rw[hknot,hno];simp only[go_sem,fN,seval,eT,iR]
    ·simp only[go_sem,fN,seval,eT,iR,hne];exact hrest j hj hne
  ·rw[List.take_of_length_le (by omega),List.take_of_length_le (by omega)]at hok si e2;rw[←hlen']at *;refine Gf (F5 e2 e3' e10 s3 hlt) ?_;refine hQ _ _ ?_ ?_ ?_ hrest
   ·rw[Q7 (by rw[hknot];exact hok),hknot];simp only[go_sem,fN,seval,eT,iR,e2]
   ·rw[hknot,hok];simp only[go_sem,fN,seval,eT,iR]
   ·rw[hknot];exact si
theorem YY{S S1:AA}{a0:Nat}{b:AJ}(hS:Ay S)(ha:1000≤a0)(h1:S1 a0=some b)(h2:∀i,100≤i→i≠a0→S1 i=S i):CP S1=AI S a0 (some b):=Qd hS ha h1 fun i hi hne=>h2 i (by omega) hne
theorem SN(p:Tm)(hz:p.size≤1000000):∀(t:Tm) (i:Nat) (l:List Bd) (S:AA),1000≤i→l.length+p.size≤2000000→S i=some (Jf l) →
   Ah Tryz.prog 118 [aTm p,aTm t,.one (.row i l.length)] S (.tup [mtV i p t l,AZ (p.mt t l).2]) (AI S i (some (Jf (p.mt t l).1))):=by
 induction h:SizeOf.sizeOf p using Nat.strongRecOn generalizing p with
 | _ N ih =>
 subst h;have hs:=Tm.size_eq p;intro t i l S hi hl hSi;refine I_.acS fun hS C hC=>?_;refine KB p hz (fun a ha=>ih _ (Tm.lt_of_arg ha) a (by have:=Tm.size_mem ha;omega) rfl) C hC t i (by omega) l hl S (fun j hj=>AK hS (by omega)) hSi _ rfl rfl rfl _ ?_;intro env' S' h6 h7 si hrest;refine Ka trivial (by simp only[AB,AD,AM,h6,h7,Option.map_some]) ?_ (Ni hS rfl si fun k hk hne=>hrest k (by omega) hne) (YY hS hi si hrest) (Bb hS hi rfl);unfold mtV;split
 ·exact Bool.and_eq_true_iff.2 ⟨EN (n:=(p.mt t l).1.length) hi,rfl⟩
 ·rfl
theorem Sy(p t:Tm)(hz:p.size≤1000000)(a0:Nat)(S:AA)(ha:1000≤a0)(hSa:S a0=none) :
   Ah Tryz.prog 118 [aTm p,aTm t,.one (.full [])] S (.tup [mtV a0 p t [],AZ (p.mt t []).2]) (AI S a0 (some (Jf (p.mt t []).1))):=by
 refine I_.acS fun hS C hC=>?_;refine IWP.ghost (AY.own 2 900 82 3 (xs:=([]:List Bd).map BZ) rfl (AK hS (by omega)) Hw (by omega)) ?_;refine KB p hz (fun a ha=>SN a (by have:=Tm.size_mem ha;have:=Tm.size_eq p;omega)) C hC t 900 (by omega) [] (by simp;omega) _ (fun j hj=>by
  show AI S 900 _ j=none
  rw[AH _ (by omega)];exact AK hS (by omega)) (AG _ _ _) _ rfl rfl rfl _ ?_
 intro env' S' h6 h7 si hrest;have hrest':∀j,1000≤j→S' j=S j:=fun j hj=>by
  rw[hrest j (by omega) (by omega)];exact AH _ (by omega) _
 have e:(AV.tup [mtV a0 p t [],AZ (p.mt t []).2])=(AV.tup [mtV 900 p t [],AZ (p.mt t []).2]).ren (Bm 900 a0):=by
  unfold mtV;split
  ·simp only[AV.ren,AV.rens,AC.ren,Ua]
  ·simp only[AV.ren,AV.rens,AC.ren]
 rw[e];refine KL trivial 900 a0 _ (by omega) ha (by show S' a0=none;rw[hrest' a0 ha,hSa]) si rfl (fun j b hj hb=>(hS j b (by rw[←hrest' j hj];exact hb)).2) (by simp only[AB,AD,AM,h6,h7,Option.map_some]) ?_ ?_ (Bb hS ha rfl)
 ·rw[←e];unfold mtV;split
  ·exact Bool.and_eq_true_iff.2 ⟨EN (n:=(p.mt t []).1.length) ha,rfl⟩
  ·rfl
 ·congr 1;funext j;show(if j<1000 then none else S' j)=S j
  by_cases hj:j<1000
  ·rw[if_pos hj,AK hS hj]
  ·rw[if_neg hj,hrest' j (by omega)]
theorem D7(p t:Tm)(hp:p.size≤100000)(ht:t.size≤1000000):AW Tryz.prog 91 [aTm p,aTm t] (.tup [ER (BH p t),AZ (BJ p t)]):=by
 have hnm:=MI p t;have hml:=UJ p t;refine RF.ac fun C hC=>?_;unfold JF;repeat' first|refine Gg ?_|refine Mm fun K hK=>?_
 refine⟨_,_,Sy p t (by omega) (up1 900) _ (Ap 900) (by rw[Ax];rfl),?_⟩;cases hc:(p.mt t []).2 with
 | false =>
  refine Gf hc ?_;simp only[go_sem,fN,seval,AQ,AS.result,AB,AD,AM];unfold BH BJ;rw[hc];rfl
 | true =>
  have hca:BH p t=BE (p.mt t []).1:=by unfold BH;rw[if_pos hc]
  have his:BJ p t=true:=hc;rw[Q7 hc];repeat' first|refine Gf hc ?_|refine Mm fun K hK=>?_|refine Cg _ (O5 _ hnm (by omega)) ?_
  simp only[go_sem,fN,seval,AQ,AS.result,AB,AD,AM,hca,his]
mutual
theorem Tm.knots_size:∀(t c:Tm),c∈t.knots→c.size≤t.size
 | .mk n xs,c,h=>by
  rw[Tm.knots,List.mem_cons]at h;rcases h with rfl|h
  ·exact Nat.le_refl _
  ·have:=Tm.knotsL_size xs c h;rw[Tm.size];omega
theorem Tm.knotsL_size:∀(xs:List Tm) (c:Tm),c∈Tm.knotsL xs→c.size≤Tm.sizes xs
 | [],c,h=>by simp[Tm.knotsL]at h
 | t::ts,c,h=>by
  rw[Tm.knotsL,List.mem_append]at h;rw[Tm.sizes];rcases h with h|h
  ·have:=Tm.knots_size t c h;omega
  ·have:=Tm.knotsL_size ts c h;omega
end
theorem Xj(t p:Tm)(hp:p.size≤100000)(ht:t.size≤100000):AW Tryz.prog 63 [aTm t,aTm p] (AZ (p.hasCase t)):=by
 have hk:=Tm.knots_length t;have he:p.hasCase t=t.knots.any (BJ p):=Tm.hasCase_knots p t;refine RH.ac fun C hC=>?_;unfold Jl;repeat' first|refine Gg ?_|refine Mm fun K hK=>?_|refine Cg _ (Ei t (by omega)) ?_
 refine IWP.loop (fun m x=>∃k,k≤t.knots.length∧m=t.knots.length-k∧(∀c∈t.knots.take k,BJ p c=false)∧x.env 3=.one (.ptr 3 1 0 0)∧x.env 5=CJ t.knots∧x.env 6=AO k∧x.S 3=some (.box 37 [.st (.str p.name),.st (.list (p.args.map Al))])) t.knots.length ⟨0,Nat.zero_le _,rfl,by simp,rfl,rfl,rfl,rfl⟩ ?_;rintro m ⟨env,S⟩ ⟨k,hk',rfl,h0,e3,e5,e6,s3⟩;simp only at e3 e5 e6 s3;by_cases hlt:(k:Int)<t.knots.length
 ·obtain⟨c,hc⟩:=Aa (show k<t.knots.length by omega);have hcz:c.size≤t.size:=Tm.knots_size t c (AN hc);repeat' first|refine Gf (F6 e3 e5 e6 s3 hlt hc) ?_|refine Mm fun K hK=>?_
  refine⟨_,D7 p c hp (by omega),?_⟩;cases hb:BJ p c with
  | true =>
   refine Gf hb ?_;simp only[go_sem,fN,seval,AQ,AS.result,AB,AD,AM];rw[he,List.any_eq_true.2 ⟨c,AN hc,hb⟩]
  | false =>
   refine Gf (F5 hb e3 e5 e6 s3) ?_;refine AE ⟨t.knots.length-(k+1),by omega,k+1,by omega,rfl,fun x hx=>?_,?_⟩
   ·rw[Ab hc]at hx;rcases List.mem_append.1 hx with hx|hx
    ·exact h0 x hx
    ·rw[List.mem_singleton.1 hx];exact hb
   ·simp only[go_sem,fN,seval,eT,iR,e3,e5,e6,s3];congr 3
 ·rw[List.take_of_length_le (by omega)]at h0;refine Gf (F3 e5 e6 hlt) ?_;simp only[go_sem,fN,seval,AQ,AS.result,AB,AD,AM];rw[he];cases hany:t.knots.any (BJ p) with
  | false=>rfl
  | true =>
   obtain⟨c,hc,hb⟩:=List.any_eq_true.1 hany;rw[h0 c hc]at hb;cases hb

def VI(r:Pr)(t:Tm):AV:=if BJ r.1 t=true then .tup [aTm (Au (BH r.1 t) r.2).1,AZ true,AZ (!(Au (BH r.1 t) r.2).2)] else .tup [aTm Tm.nil,AZ false,AZ false]
theorem ZR(r:Pr)(t:Tm)(hp:r.1.size≤100000)(hq:r.2.size≤100000)(ht:t.size≤1000000):AW Tryz.prog 55 [aPr r,aTm t] (VI r t):=by
 unfold VI;refine Xl.ac fun C hC=>?_;unfold Oj;by_cases h:BJ r.1 t=true
 ·rw[if_pos h];repeat' first|refine Gf h ?_|refine Mm fun K hK=>?_|refine Cg _ (D7 r.1 t hp ht) ?_|refine Cg _ (Ee (BH r.1 t) r.2 (by omega)) ?_
  simp only[go_sem,fN,seval,AQ,AS.result,AB,AD,AM]
 ·rw[if_neg h];repeat' first|refine Gf h ?_|refine Mm fun K hK=>?_|refine Cg _ (D7 r.1 t hp ht) ?_
  simp only[go_sem,fN,seval,AQ,AS.result,AB,AD,AM];rfl
theorem YH{R:List Pr}(hR:A7 R)(t:Tm)(ht:t.size≤1000000):AW Tryz.prog 90 [Be R,aTm t] (AZ (Dc R t)):=by
 have h40:=hR.len;refine Su.ac fun C hC=>?_;unfold Nf;refine Gg ?_;refine IWP.loop (fun m s=>∃k,k≤R.length∧m=R.length-k∧(R.take k).any (fun r=>BJ r.1 t)=false∧s.env 0=Be R∧s.env 3=.one (.ptr 3 1 0 0)∧s.S 3=some (FA t)∧s.env 5=AO k) R.length ⟨0,Nat.zero_le _,rfl,rfl,rfl,rfl,rfl,rfl⟩ ?_;rintro m ⟨env,S⟩ ⟨k,hk,rfl,hno,e0,e3,s3,e5⟩;simp only at e0 e3 s3 e5;by_cases hlt:(k:Int)<R.length
 ·obtain⟨r,hr⟩:=Aa (show k<R.length by omega);have z1:=(Tm.may_chk (hR.left r (AN hr))).2;by_cases hcase:BJ r.1 t=true
  ·have hf:Dc R t=true:=List.any_eq_true.2 ⟨r,AN hr,hcase⟩;repeat' first|refine Gf (F8 e0 e3 s3 e5 hlt hr @Ag.eq_1 hcase) ?_|refine Mm fun K hK=>?_|refine Cg _ (D7 r.1 t (by omega) ht) ?_
   simp only[go_sem,fN,seval,AQ,AS.result,AB,AD,AM,hf]
  ·repeat' first|refine Gf (F8 e0 e3 s3 e5 hlt hr @Ag.eq_1 hcase) ?_|refine Mm fun K hK=>?_|refine Cg _ (D7 r.1 t (by omega) ht) ?_
   refine AE ⟨R.length-(k+1),by omega,k+1,by omega,rfl,?_,?_⟩
   ·rw[Ab hr,List.any_append,hno];simpa using hcase
   ·simp only[go_sem,fN,seval,eT,iR,e0,e3,s3,e5];congr 3
 ·rw[List.take_of_length_le (by omega)]at hno;refine Gf (F5 e0 e3 s3 e5 hlt) ?_;simp only[go_sem,fN,seval,AQ,AS.result,AB,AD,AM];unfold Dc;rw[hno]
theorem PS{α:Type}{p:α→Bool}{l:List α}{k:Nat}{a:α}(h:l[k]?=some a)(hno:(l.take k).find? p=none):(p a=true→l.find? p=some a)∧(p a=false→(l.take (k+1)).find? p=none):=by
 refine⟨fun ha=>?_,fun ha=>?_⟩
 ·have e:l=l.take k++a::l.drop (k+1):=by rw[←A5 h,List.take_append_drop]
  rw[e,List.find?_append,hno];simp[ha]
 ·rw[Ab h,List.find?_append,hno];simp[ha]
def O8(p:Option (List Int)):AV:=match p with
 | none=>.tup [Gx [],AZ false]
 | some q=>.tup [Gx q,AZ true]
def AAD(R:List Pr)(inner:Bool)(x:Tm)(i:Nat)(b:Bool):Prop:=(inner=false∧b=true∧i=1)∨(inner=true∧((x.knots.take i).drop 1).any (Dc R)=!b)
theorem ABS{R:List Pr}(hR:A7 R)(inner:Bool)(t:Tm)(ht:t.size≤900000):AW Tryz.prog 53 [Be R,aTm t,AZ inner] (O8 (t.findP (C1 inner R))):=by
 rw[←Tm.places_find];have hpl:=Tm.places_length t;refine V9.ac fun C hC=>?_;unfold Pl;repeat' first|refine Gg ?_|refine Mm fun K hK=>?_|refine Cg _ (Kp t (by omega)) ?_
 refine IWP.loopD [10] (fun m s=>∃k,k≤t.places.length∧m=t.places.length-k∧(t.places.take k).find? (atT (C1 inner R) t)=none∧s.env 0=Be R∧s.env 2=AZ inner∧s.env 4=.one (.ptr 4 1 0 0)∧s.S 4=some (FA t)∧s.S 10=none∧s.env 8=OU t.places∧s.env 9=AO k) t.places.length ⟨0,Nat.zero_le _,rfl,rfl,rfl,rfl,rfl,rfl,rfl,rfl,rfl⟩ ?_;rintro m ⟨env,S⟩ ⟨k,hk,rfl,hno,e0,e2,e4,s4,s10,e8,e9⟩;simp only at e0 e2 e4 s4 s10 e8 e9;by_cases hlt:(k:Int)<t.places.length
 ·obtain⟨p,hp⟩:=Aa (show k<t.places.length by omega);obtain⟨x,hx,hxk⟩:=EA t p (AN hp);have hxz:=CF t x hxk;obtain⟨g1,g2⟩:=PS hp hno;have hat:atT (C1 inner R) t p=C1 inner R x:=by unfold atT;rw[hx]
  rw[hat]at g1 g2;have hcon:=MV p t;rw[hx]at hcon;by_cases hf:Dc R x=true
  case neg =>
   have hT:C1 inner R x=false:=by
    rw[←Bool.not_eq_true];exact fun h=>hf (Hi h)
   repeat' first|refine Gf (F10 e0 e2 e4 s4 s10 e8 e9 hlt hp hf) ?_|refine Mm fun K hK=>?_|refine Cg _ (hcon) ?_|refine Cg _ (YH hR x (by omega)) ?_
   refine AE ⟨t.places.length-(k+1),by omega,k+1,by omega,rfl,g2 hT,?_⟩;simp only[go_sem,fN,seval,AS.drop,AT,AC.clears,AC.clear,AC.highs,AC.high,zD,AV.purge,AV.purges,AC.purge,AJ.purge,Nat.reduceBEq,eT,iR,e0,e2,e4,s4,s10,e8,e9];congr 3
  case pos =>
  have hkn:=Tm.knots_length x;have hke:=Tm.knots_eq x;repeat' first|refine Gf (F10 e0 e2 e4 s4 s10 e8 e9 hlt hp hf) ?_|refine Mm fun K hK=>?_|refine Cg _ (hcon) ?_|refine Cg _ (YH hR x (by omega)) ?_|refine Cg _ (Ei x (by omega)) ?_
  refine IWP.loop (fun m s=>∃(i:Nat) (b:Bool),1≤i∧i≤x.knots.length∧m=x.knots.length-i∧AAD R inner x i b∧s.env 0=Be R∧s.env 2=AZ inner∧s.env 4=.one (.ptr 4 1 0 0)∧s.S 4=some (FA t)∧s.env 8=OU t.places∧s.env 9=AO k∧s.env 12=CJ x.knots∧s.env 13=AZ b∧s.env 14=AO i) (x.knots.length-1) ⟨1,true,by omega,by rw[hke];simp,rfl,?_,?_⟩ ?_
  ·cases inner with
   | false=>exact .inl ⟨rfl,rfl,rfl⟩
   | true=>exact .inr ⟨rfl,by rw[hke];rfl⟩
  ·simp only[go_sem,fN,seval,eT,iR,e0,e2,e4,s4,e8,e9]
  rintro m ⟨env,S⟩ ⟨i,b,hi1,hi,rfl,hb,e0,e2,e4,s4,e8,e9,e12,e13,e14⟩;simp only at e0 e2 e4 s4 e8 e9 e12 e13 e14;have hdrop:x.knots.drop 1=Tm.knotsL x.args:=by rw[hke];rfl
  by_cases hil:(i:Int)<x.knots.length
  ·obtain⟨y,hy⟩:=Aa (show i<x.knots.length by omega);rcases hb with⟨rfl,rfl,rfl⟩|⟨rfl,hb⟩
   ·have hT:C1 false R x=true:=hf;have hfin:=g1 hT;have hil':(1:Int)<x.knots.length:=by omega
    rw[hfin];refine Gf (F11 e0 e2 e4 s4 e8 e9 e12 e13 e14 hil' hp) ?_;simp only[go_sem,fN,seval,AQ,AS.result,AB,AD,AM];rfl
   ·cases b with
    | true =>
     have hyz:y.size≤x.size:=CF x y (AN hy);repeat' first|refine Gf (F11 e0 e2 e4 s4 e8 e9 e12 e13 e14 hil hy) ?_|refine Mm fun K hK=>?_|refine Cg _ (YH hR y (by omega)) ?_
     refine AE ⟨x.knots.length-(i+1),by omega,i+1,!Dc R y,by omega,by omega,rfl,.inr ⟨rfl,?_⟩,?_⟩
     ·have e:(x.knots.take (i+1)).drop 1=(x.knots.take i).drop 1++[y]:=by
       rw[Ab hy,List.drop_append_of_le_length (by rw[List.length_take];omega)]
      rw[e,List.any_append,hb];simp
     ·simp only[go_sem,fN,seval,eT,iR,e0,e2,e4,s4,e8,e9,e12,e13,e14];congr 3
    | false =>
     have hT:C1 true R x=false:=by
      have h1:OD R x.args=true:=by
       unfold OD;rw[←hdrop];simp only[Bool.not_false]at hb;rw[List.any_eq_true]at hb ⊢;obtain⟨z,hz1,hz2⟩:=hb;refine⟨z,?_,hz2⟩;rw[List.drop_take]at hz1;exact List.mem_of_mem_take hz1
      show FV R x=false
      unfold FV;rw[h1];simp
     refine Gf (F10 e0 e2 e4 s4 e8 e9 e12 e13 e14 hil) ?_;refine AE ⟨t.places.length-(k+1),by omega,k+1,by omega,rfl,g2 hT,?_⟩;simp only[go_sem,fN,seval,AS.drop,AT,AC.clears,AC.clear,AC.highs,AC.high,zD,AV.purge,AV.purges,AC.purge,AJ.purge,Nat.reduceBEq,eT,iR,e0,e2,e4,s4,e8,e9];congr 3
  ·rcases hb with⟨rfl,rfl,rfl⟩|⟨rfl,hb⟩
   ·have hT:C1 false R x=true:=hf;have hfin:=g1 hT;have hil':¬(1:Int)<x.knots.length:=by omega
    rw[hfin];refine Gf (F11 e0 e2 e4 s4 e8 e9 e12 e13 e14 hil' hp) ?_;simp only[go_sem,fN,seval,AQ,AS.result,AB,AD,AM];rfl
   ·rw[List.take_of_length_le (by omega),hdrop]at hb;cases b with
    | true =>
     have hT:C1 true R x=true:=by
      show FV R x=true
      unfold FV OD;rw[hf,hb];rfl
     have hfin:=g1 hT;rw[hfin];refine Gf (F11 e0 e2 e4 s4 e8 e9 e12 e13 e14 hil hp) ?_;simp only[go_sem,fN,seval,AQ,AS.result,AB,AD,AM];rfl
    | false =>
     have hT:C1 true R x=false:=by
      show FV R x=false
      unfold FV OD;rw[hb];simp
     refine Gf (F10 e0 e2 e4 s4 e8 e9 e12 e13 e14 hil) ?_;refine AE ⟨t.places.length-(k+1),by omega,k+1,by omega,rfl,g2 hT,?_⟩;simp only[go_sem,fN,seval,AS.drop,AT,AC.clears,AC.clear,AC.highs,AC.high,zD,AV.purge,AV.purges,AC.purge,AJ.purge,Nat.reduceBEq,eT,iR,e0,e2,e4,s4,e8,e9];congr 3
 ·rw[List.take_of_length_le (by omega)]at hno;rw[hno];refine Gf (F7 e0 e2 e4 s4 e8 e9 hlt) ?_;simp only[go_sem,fN,seval,AQ,AS.result,AB,AD,AM];rfl
theorem Ic{R:List Pr}{t:Tm}{r:Pr}{l:List Pr}:CI R t (r::l)=if BJ r.1 t=true then(if(Au (BH r.1 t) r.2).2=true then some ((Au (BH r.1 t) r.2).1,0) else some (Tm.nil,8)) else CI R t l:=rfl
theorem VM{R:List Pr}(hR:A7 R)(inner:Bool)(t0:Tm)(hc0:t0.chk=0)(hz0:t0.size≤800000)(most:Nat)(hm:most≤1000000):AW Tryz.prog 26 [Be R,aTm t0,AO most,AZ inner] (L0 (CM (Lb inner R) most 0 t0)):=by
 have h40:=hR.len;unfold L0;refine Uo.ac fun C hC=>?_;unfold Ml;refine Gg ?_;refine IWP.loopD [14,17] (fun m s=>∃(n:Nat) (t:Tm),n≤most∧m=most-n∧CM (Lb inner R) most 0 t0=CM (Lb inner R) (most-n) n t∧t.chk=0∧t.size≤800000∧s.env 0=Be R∧s.env 2=AO most∧s.env 3=AZ inner∧s.env 5=.one (.ptr 5 1 0 0)∧s.env 8=.one (.ptr 8 1 0 0)∧s.env 11=AO n∧s.S 5=some (FA t)∧s.S 8=some P1∧s.S 14=none∧s.S 17=none)
  most ⟨0,t0,by omega,by omega,rfl,hc0,hz0,rfl,rfl,rfl,rfl,rfl,rfl,rfl,rfl,rfl,rfl⟩ ?_
 rintro m ⟨env,S⟩ ⟨n,t,hn,rfl,hend,hc,hz,e0,e2,e3,e5,e8,e11,s5,s8,s14,s17⟩;simp only at e0 e2 e3 e5 e8 e11 s5 s8 s14 s17;rw[hend];have hcon:=ABS hR inner t (by omega);have hfind:=MX inner R t;cases hp:t.findP (C1 inner R) with
 | none =>
  rw[hp]at hcon hfind;unfold O8 at hcon;rw[Hv hfind];repeat' first|refine Gf (F10 e0 e2 e3 e5 e8 e11 s5 s8 s14 s17) ?_|refine Mm fun K hK=>?_|refine Cg _ (hcon) ?_
  simp only[go_sem,fN,seval,AQ,AS.result,AB,AD,AM,e8,s8]
 | some p =>
  obtain⟨x,hx,hTx,hxk⟩:=Tm.findP_at _ t p hp;have hxz:=CF t x hxk;have hat:=MV p t;rw[hx]at hat;rw[hp]at hcon hfind;unfold O8 at hcon;simp only[Dk,hx]at hfind;cases hr:DV R x with
  | none =>
   exfalso;have h1:=Hi hTx;rw[C_.1 hr]at h1;cases h1
  | some r =>
   obtain⟨y,e⟩:=r;rw[hr]at hfind;simp only[Option.map_some]at hfind;obtain⟨g1,g2,g3⟩:=Im hR hc hfind;have hput:=QB p t (by omega) y (by rw[hx];rfl);by_cases hmost:n=most
   ·have hmi:(n:Int)=most:=by omega
    rw[show most-n=0 by omega,H4 hfind];repeat' first|refine Gf (F11 e0 e2 e3 e5 e8 e11 s5 s8 s14 s17 hmi) ?_|refine Mm fun K hK=>?_|refine Cg _ (hcon) ?_
    simp only[go_sem,fN,seval,AQ,AS.result,AB,AD,AM,e8,s8];rfl
   have hmi:¬(n:Int)=most:=by omega
   obtain⟨k0,hk0⟩:∃k,most-n=k+1:=⟨most-n-1,by omega⟩
   rw[hk0];repeat' first|refine Gf (F11 e0 e2 e3 e5 e8 e11 s5 s8 s14 s17 hmi) ?_|refine Mm fun K hK=>?_|refine Cg _ (hcon) ?_|refine Cg _ (hat) ?_
   refine IWP.loopD [17] (fun m s=>∃k,k≤R.length∧m=R.length-k∧CI R x (R.drop k)=some (y,e)∧s.env 0=Be R∧s.env 2=AO most∧s.env 3=AZ inner∧s.env 5=.one (.ptr 5 1 0 0)∧s.env 8=.one (.ptr 8 1 0 0)∧s.env 11=AO (n+1)∧s.env 12=Gx p∧s.env 14=.one (.ptr 14 1 0 0)∧s.env 16=AO k∧s.S 5=some (FA t)∧s.S 8=some P1∧s.S 14=some (FA x)∧s.S 17=none) R.length ⟨0,Nat.zero_le _,rfl,hr,?_⟩ ?_
   ·simp only[go_sem,fN,seval,eT,iR,e0,e2,e3,e5,e8,e11,s5,s8,s14,s17]
   rintro m ⟨env,S⟩ ⟨k,hk,rfl,hrk,e0,e2,e3,e5,e8,e11,e12,e14,e16,s5,s8,s14,s17⟩;simp only at e0 e2 e3 e5 e8 e11 e12 e14 e16 s5 s8 s14 s17;by_cases hkl:k<R.length
   case neg =>
    rw[List.drop_of_length_le (by omega)]at hrk;cases hrk
   case pos =>
   have hlt:(k:Int)<R.length:=by omega
   obtain⟨q,hq⟩:=Aa hkl;have hmem:=AN hq;have z1:=(Tm.may_chk (hR.left q hmem)).2;have z2:=(Tm.may_chk (hR.right q hmem)).2;rw[A5 hq,Ic]at hrk;have hfits:=ZR q x (by omega) (by omega) (by omega);unfold VI at hfits;by_cases hcase:BJ q.1 x=true
   case neg =>
    rw[if_neg hcase]at hrk hfits;repeat' first|refine Gf (F16 e0 e2 e3 e5 e8 e11 e12 e14 e16 s5 s8 s14 s17 hlt hq @Ag.eq_1) ?_|refine Mm fun K hK=>?_|refine Cg _ (hfits) ?_
    refine AE ⟨R.length-(k+1),by omega,k+1,by omega,rfl,hrk,?_⟩;simp only[go_sem,fN,seval,AS.drop,AT,AC.clears,AC.clear,AC.highs,AC.high,zD,AV.purge,AV.purges,AC.purge,AJ.purge,Nat.reduceBEq,eT,iR,e0,e2,e3,e5,e8,e11,e12,e14,e16,s5,s8,s14,s17];congr 3
   case pos =>
   rw[if_pos hcase]at hrk hfits;by_cases hon:(Au (BH q.1 x) q.2).2=true
   case neg =>
    rw[if_neg hon]at hrk;simp only[Bool.not_eq_true]at hon;rw[hon]at hfits;cases hrk;rw[JH hfind (by decide)];repeat' first|refine Gf (F16 e0 e2 e3 e5 e8 e11 e12 e14 e16 s5 s8 s14 s17 hlt hq @Ag.eq_1) ?_|refine Mm fun K hK=>?_|refine Cg _ (hfits) ?_
    simp only[go_sem,fN,seval,AQ,AS.result,AB,AD,AM,e8,s8];rfl
   case pos =>
   rw[if_pos hon]at hrk;rw[hon]at hfits;simp only[Option.some.injEq,Prod.mk.injEq]at hrk;obtain⟨hy,he⟩:=hrk;subst he;rw[hy]at hfits;have hsz:=GC (t.putP p y) 2000 (by omega) (by omega);by_cases hgr:2000<(t.putP p y).size
   ·rw[GV hfind hgr];have hg:(2000:Int)<BB (t.putP p y).size 2000:=by unfold BB;split <;> omega
    repeat' first|refine Gf (F17 e0 e2 e3 e5 e8 e11 e12 e14 e16 s5 s8 s14 s17 hlt hq @Ag.eq_1 hg) ?_|refine Mm fun K hK=>?_|refine Cg _ (hfits) ?_|refine Cg _ (hput) ?_|refine Cg _ (hsz) ?_
    simp only[go_sem,fN,seval,AQ,AS.result,AB,AD,AM,e8,s8];rfl
   ·have hg:¬(2000:Int)<BB (t.putP p y).size 2000:=by unfold BB;split <;> omega
    repeat' first|refine Gf (F17 e0 e2 e3 e5 e8 e11 e12 e14 e16 s5 s8 s14 s17 hlt hq @Ag.eq_1 hg) ?_|refine Mm fun K hK=>?_|refine Cg _ (hfits) ?_|refine Cg _ (hput) ?_|refine Cg _ (hsz) ?_
    refine AE ⟨most-(n+1),by omega,n+1,t.putP p y,by omega,rfl,?_,g2 rfl,by omega,?_⟩
    ·rw[show most-(n+1)=k0 by omega];exact L5 hfind hgr k0 n
    ·simp only[go_sem,fN,seval,AS.drop,AT,AC.clears,AC.clear,AC.highs,AC.high,zD,AV.purge,AV.purges,AC.purge,AJ.purge,Nat.reduceBEq,eT,iR,e0,e2,e3,e5,e8,e11,e12,e14,e16,s5,s8,s14,s17];congr 3

set_option maxHeartbeats 1600000
def crV(o:Option (List Pr)):AV:=match o with
 | none=>.tup [Be [],AO 8]
 | some l=>.tup [Be l,AO 0]
abbrev Et(p:Pr):AJ:=.box 40 [.st (.str p.1.name),.st (.list (p.1.args.map Al)),.st (.str p.2.name),.st (.list (p.2.args.map Al))]
structure Tp(p:Pr):Prop where
 c1:p.1.chk=0
 c2:p.2.chk=0
 z1:p.1.size≤200
 z2:p.2.size≤200
theorem FN{c:UInt8}(h65:65≤c.toNat)(h90:c.toNat≤90){k:Nat}(hk:k≤1){r:Pr}(h1:r.1.may=0)(h2:r.2.may=0):Tp (DI c k r):=by
 obtain⟨c1,z1⟩:=Tm.may_chk h1;obtain⟨c2,z2⟩:=Tm.may_chk h2;have hvl:=DY r.1;have f1:=ED h65 h90 hk (show r.1.varsOf.length≤1000 by omega) c1;have f2:=ED h65 h90 hk (show r.1.varsOf.length≤1000 by omega) c2;exact⟨f1.1,f2.1,by rw[DI];show(Tm.on _ r.1).size≤200;rw[f1.2];exact z1,by rw[DI];show(Tm.on _ r.2).size≤200;rw[f2.2];exact z2⟩
theorem II{A B:Pr}(hA:Tp A)(hB:Tp B)(same:Bool){p:List Int}{x:Tm}(hx:A.1.atP p=some x)(hk:x∈A.1.knots) :
  ((AP x.name=true∨(same=true∧p=[]))∧Cm A B same p=some [])∨(¬(AP x.name=true∨(same=true∧p=[]))∧∃n r,C6 n [] [(x,B.1)] r∧Bj [(x,B.1)]=0 ∧
   ((r.2=8∧Cm A B same p=none)∨(r.2≠8∧r.2≠0∧Cm A B same p=some [])∨(r.2=0∧Cb (H0 [(x,B.1)]) 100000000000 r.1 [] ∧
    Cm A B same p=if(Au r.1 A.2).2=true∧(Au r.1 (A.1.putP p B.2)).2=true then some [Bv (Au r.1 A.2).1 (Au r.1 (A.1.putP p B.2)).1] else none))):=by
 have hxc:=HH A.1 x hA.c1 hk;have hxz:=CF A.1 x hk;have hAz:=hA.z1;have hmay:=GL (Ks hxc (by omega)) (Ks hB.c1 hB.z1);obtain⟨n,r,hr⟩:=Rl hmay;have hs:=JK hr;unfold Cm;simp only[hx,hs];by_cases h1:AP x.name=true∨(same=true∧p=[])
 ·exact .inl ⟨h1,by rw[if_pos h1]⟩
 refine .inr ⟨h1,n,r,hr,hmay,?_⟩;rw[if_neg h1];by_cases h2:r.2=8
 ·exact .inl ⟨h2,by rw[if_pos h2]⟩
 rw[if_neg h2];by_cases h3:r.2=0
 ·refine .inr (.inr ⟨h3,?_,by rw[if_neg (fun h=>h h3)]⟩);have:=Oo hmay (by rw[hs];exact h3);rw[hs]at this;exact this
 ·exact .inr (.inl ⟨h2,h3,by rw[if_pos h3]⟩)
theorem NV{A B:Pr}{same:Bool}{ps:List (List Int)}{i:Nat}{p:List Int}(h:ps[i]?=some p){acc:List Pr}(hall:DE A B same ps=(DE A B same (ps.drop i)).map (acc++·)):(Cm A B same p=none→DE A B same ps=none)∧∀x,Cm A B same p=some x→DE A B same ps=(DE A B same (ps.drop (i+1))).map ((acc++x)++·):=by
 rw[A5 h,DE]at hall;refine⟨fun h1=>?_,fun x h1=>?_⟩
 ·rw[h1]at hall;exact hall
 ·rw[h1]at hall;simp only[Option.map_map]at hall;rw[hall];congr 1;funext l;simp
theorem PB{a b:Pr}(ha1:a.1.may=0)(ha2:a.2.may=0)(hb1:b.1.may=0)(hb2:b.2.may=0)(same:Bool):AW Tryz.prog 74 [aPr a,aPr b,AZ same] (crV (Nv (DI 88 1 a) (DI 89 1 b) same)):=by
 have pa:=Vt 88 (by decide) (by decide) ha1 ha2;have pb:=Vt 89 (by decide) (by decide) hb1 hb2;have hA:=FN (c:=88) (by decide) (by decide) (k:=1) (by omega) ha1 ha2;have hB:=FN (c:=89) (by decide) (by decide) (k:=1) (by omega) hb1 hb2;generalize DI 88 1 a=A at *;generalize DI 89 1 b=B at *;obtain⟨A1,A2,A3,A4⟩:=hA;obtain⟨B1,B1',B3,B4⟩:=hB;have hpl:=Tm.places_length A.1;have hall:=ABW A.1 (by omega);unfold Nv;refine H_.ac fun C hC=>?_;unfold Ea;repeat' first|refine Gg ?_|refine Mm fun K hK=>?_|refine Cg _ (pa) ?_|refine Cg _ (pb) ?_|refine Cg _ (hall) ?_
 refine IWP.ghost (AY.own 8 500 40 4 (xs:=([]:List Pr).map Ag) (by rfl) (by rfl) Fj (by rw[hC];decide)) ?_;refine IWP.loopD [13,17,19] (fun m s=>∃i acc,i≤A.1.places.length∧m=A.1.places.length-i∧acc.length≤i∧DE A B same A.1.places=(DE A B same (A.1.places.drop i)).map (acc++·)∧s.env 2=AZ same∧s.env 8=.one (.row 500 acc.length)∧s.env 9=.one (.ptr 9 1 0 0)∧s.env 10=.one (.ptr 10 1 0 0)∧s.env 28=OU A.1.places∧s.env 29=AO A.1.places.length∧s.env 30=AO i∧s.S 9=some (Et A)∧s.S 10=some (Et B)∧s.S 13=none∧s.S 17=none∧s.S 19=none∧s.S 500=some (.arow 40 4 (acc.map Ag))) A.1.places.length ⟨0,[],Nat.zero_le _,rfl,Nat.zero_le _,by simp,rfl,rfl,rfl,rfl,rfl,rfl,rfl,rfl,rfl,rfl,rfl,rfl,rfl⟩ ?_;rintro m ⟨env,S⟩ ⟨i,acc,hi,rfl,hal,hcr,e2,e8,e9,e10,e28,e29,e30,s9,s10,s13,s17,s19,s500⟩;simp only at e2 e8 e9 e10 e28 e29 e30 s9 s10 s13 s17 s19 s500;have hl:(acc.map Ag).length=acc.length:=by simp
 by_cases hlt:i<A.1.places.length
 case neg =>
  rw[List.drop_of_length_le (by omega)]at hcr;simp only[DE,Option.map_some,List.append_nil]at hcr;rw[hcr];have hlt':¬(i:Int)<A.1.places.length:=by omega
  unfold crV;refine Gf (F14 e2 e8 e9 e10 e28 e29 e30 s9 s10 s13 s17 s19 s500 hlt') ?_;simp only[go_sem,fN,seval,AQ,AS.result,AB,AD,AM,s500,hl]
 obtain⟨p,hp⟩:=Aa hlt;have hlt':(i:Int)<A.1.places.length:=by omega
 obtain⟨x,hx,hxk⟩:=EA A.1 p (AN hp);have hxz:=CF A.1 x hxk;have hpd:=Tm.places_deep A.1 p (AN hp);have hbel:=Yx A.1 p (by omega);rw[hx]at hbel;have hwith:=Vy B.2 (by omega) p A.1 (by omega) (by rw[hx];simp) (by omega);obtain⟨hno,hyes⟩:=NV hp hcr;have hpi:(p.map HM).length=p.length:=by simp
 have hadd:∀ys:List Pr,acc++ys=acc++ys:=fun _=>rfl;rcases II ⟨A1,A2,A3,A4⟩ ⟨B1,B1',B3,B4⟩ same hx hxk with⟨h1,h2⟩|⟨h1,n,r,hr,hmay,h2⟩
 ·have hn:=hyes _ h2;by_cases hv:AP x.name=true
  ·repeat' first|refine Gf (F16 e2 e8 e9 e10 e28 e29 e30 s9 s10 s13 s17 s19 s500 hlt' hp hv) ?_|refine Mm fun K hK=>?_|refine Cg _ (hbel) ?_|refine Cg _ (Az x.name) ?_
   refine AE ⟨A.1.places.length-(i+1),by omega,i+1,acc++[],by omega,rfl,by simp;omega,hn,?_⟩;rw[List.append_nil];simp only[go_sem,fN,seval,AS.drop,AT,AC.clears,AC.clear,AC.highs,AC.high,zD,AV.purge,AV.purges,AC.purge,AJ.purge,Nat.reduceBEq,eT,iR,e2,e8,e9,e10,e28,e29,e30,s9,s10,s13,s17,s19,s500];congr 3
  ·obtain⟨rfl,rfl⟩:same=true∧p=[]:=by
    rcases h1 with h1|h1
    ·exact absurd h1 hv
    ·exact h1
   repeat' first|refine Gf (F16 e2 e8 e9 e10 e28 e29 e30 s9 s10 s13 s17 s19 s500 hlt' hp hv) ?_|refine Mm fun K hK=>?_|refine Cg _ (hbel) ?_|refine Cg _ (Az x.name) ?_
   refine AE ⟨A.1.places.length-(i+1),by omega,i+1,acc++[],by omega,rfl,by simp;omega,hn,?_⟩;rw[List.append_nil];simp only[go_sem,fN,seval,AS.drop,AT,AC.clears,AC.clear,AC.highs,AC.high,zD,AV.purge,AV.purges,AC.purge,AJ.purge,Nat.reduceBEq,eT,iR,e2,e8,e9,e10,e28,e29,e30,s9,s10,s13,s17,s19,s500];congr 3
 ·have hv:¬AP x.name=true:=fun h=>h1 (.inl h);have hs:(same=false∧True)∨(same=true∧¬(p.length:Int)=0):=by
   cases same with
   | false=>exact .inl ⟨rfl,trivial⟩
   | true=>exact .inr ⟨rfl,fun h=>h1 (.inr ⟨rfl,List.length_eq_zero_iff.1 (by omega)⟩)⟩
  have hsv:=AAq _ (Ck hmay).1 _ (Nat.le_refl _) n _ r hr (Ck hmay).2;have hU:=(Ck hmay).1;unfold Be at hsv;simp only[List.map_cons,List.map_nil,Ag]at hsv;rcases hs with⟨rfl,hp0⟩|⟨rfl,hp0⟩
  all_goals
   rcases h2 with⟨r8,hc⟩|⟨r8,r0,hc⟩|⟨r0,hg,hc⟩
   ·rw[hno hc];unfold crV;repeat' first|refine Gf (F18 e2 e8 e9 e10 e28 e29 e30 s9 s10 s13 s17 s19 s500 hlt' hp hv hp0 r8) ?_|refine Mm fun K hK=>?_|refine Cg _ (hbel) ?_|refine Cg _ (Az x.name) ?_|refine Cg _ (hsv) ?_
    simp only[go_sem,fN,seval,AQ,AS.result,AB,AD,AM];rfl
   ·have hn:=hyes _ hc;repeat' first|refine Gf (F19 e2 e8 e9 e10 e28 e29 e30 s9 s10 s13 s17 s19 s500 hlt' hp hv hp0 r8 r0) ?_|refine Mm fun K hK=>?_|refine Cg _ (hbel) ?_|refine Cg _ (Az x.name) ?_|refine Cg _ (hsv) ?_
    refine AE ⟨A.1.places.length-(i+1),by omega,i+1,acc++[],by omega,rfl,by simp;omega,hn,?_⟩;rw[List.append_nil];simp only[go_sem,fN,seval,AS.drop,AT,AC.clears,AC.clear,AC.highs,AC.high,zD,AV.purge,AV.purges,AC.purge,AJ.purge,Nat.reduceBEq,eT,iR,e2,e8,e9,e10,e28,e29,e30,s9,s10,s13,s17,s19,s500];congr 3
   ·have hgl:=hg.len;have on1:=NX r.1 (by omega) hg.ord A.2 hg.var A2;have on2:=NX r.1 (by omega) hg.ord (A.1.putP p B.2) hg.var (Ja p A.1 B.2 A1 B1');have y1:(Au r.1 A.2).1.size≤2000:=D1;have y2:(Au r.1 (A.1.putP p B.2)).1.size≤2000:=D1;generalize Au r.1 A.2=y at *;generalize Au r.1 (A.1.putP p B.2)=z at *;obtain⟨y,yb⟩:=y;obtain⟨z,zb⟩:=z;simp only at on1 on2 y1 y2 hc;by_cases hb:yb=true∧zb=true
    ·obtain⟨rfl,rfl⟩:=hb;rw[if_pos ⟨rfl,rfl⟩]at hc;have hn:=hyes _ hc;have hnm:=TV [y,z] (by simp only[Tm.sizes];omega);rw[show(Tm.cnL [y,z] []).1=[(Bv y z).1,(Bv y z).2] from rfl]at hnm;unfold CJ at hnm;simp only[List.map_cons,List.map_nil,Ao]at hnm;generalize Bv y z=q at *;repeat' first|refine Gf (F19 e2 e8 e9 e10 e28 e29 e30 s9 s10 s13 s17 s19 s500 hlt' hp hv hp0 r0 hl) ?_|refine Mm fun K hK=>?_|refine Cg _ (hbel) ?_|refine Cg _ (Az x.name) ?_|refine Cg _ (hsv) ?_|refine Cg _ (on1) ?_|refine Cg _ (hwith) ?_|refine Cg _ (on2) ?_|refine Cg _ (hnm) ?_
     refine AE ⟨A.1.places.length-(i+1),by omega,i+1,acc++[q],by omega,rfl,by simp;omega,hn,?_⟩;simp only[go_sem,fN,seval,AS.drop,AT,AC.clears,AC.clear,AC.highs,AC.high,zD,AV.purge,AV.purges,AC.purge,AJ.purge,Nat.reduceBEq,eT,iR,e2,e8,e9,e10,e28,e29,e30,s9,s10,s13,s17,s19,s500];refine⟨by congr 3,?_⟩;rw[List.map_append];rfl
    ·rw[if_neg hb]at hc;rw[hno hc];unfold crV;cases yb
     ·repeat' first|refine Gf (F19 e2 e8 e9 e10 e28 e29 e30 s9 s10 s13 s17 s19 s500 hlt' hp hv hp0 r0 hl) ?_|refine Mm fun K hK=>?_|refine Cg _ (hbel) ?_|refine Cg _ (Az x.name) ?_|refine Cg _ (hsv) ?_|refine Cg _ (on1) ?_|refine Cg _ (hwith) ?_|refine Cg _ (on2) ?_
      simp only[go_sem,fN,seval,AQ,AS.result,AB,AD,AM];rfl
     ·cases zb
      ·repeat' first|refine Gf (F19 e2 e8 e9 e10 e28 e29 e30 s9 s10 s13 s17 s19 s500 hlt' hp hv hp0 r0 hl) ?_|refine Mm fun K hK=>?_|refine Cg _ (hbel) ?_|refine Cg _ (Az x.name) ?_|refine Cg _ (hsv) ?_|refine Cg _ (on1) ?_|refine Cg _ (hwith) ?_|refine Cg _ (on2) ?_
       simp only[go_sem,fN,seval,AQ,AS.result,AB,AD,AM];rfl
      ·exact absurd ⟨rfl,rfl⟩ hb
theorem IG:∀(k:Nat) (xs:List Tm) (p:List Int),p∈Tm.placesFrom k xs→p≠[]
 | _,[],p,h=>by simp[Tm.placesFrom]at h
 | k,x::xs,p,h=>by
  rw[Tm.placesFrom]at h;rcases List.mem_append.1 h with h|h
  ·obtain⟨q,_,rfl⟩:=List.mem_map.1 h;simp
  ·exact IG (k+1) xs p h
theorem Uz{t:Tm}{i:Nat}{p:List Int}(h:t.places[i]?=some p):p=[]↔i=0:=by
 cases t with
 | mk n xs =>
  rw[Tm.places]at h;cases i with
  | zero =>
   have h:some []=some p:=h;cases h;exact⟨fun _=>rfl,fun _=>rfl⟩
  | succ i =>
   simp only[List.getElem?_cons_succ]at h;have:=IG 0 xs p (List.mem_of_getElem? h);exact⟨fun e=>absurd e this,fun e=>by omega⟩
theorem NH{a b:Pr}(ha1:a.1.may=0)(ha2:a.2.may=0)(hb1:b.1.may=0)(hb2:b.2.may=0)(same:Bool):AW Tryz.prog 64 [aPr a,aPr b,AZ same] (crV (Nv (DI 80 0 a) (DI 81 0 b) same)):=by
 have pa:=AA5 80 (by decide) (by decide) ha1 ha2;have pb:=AA5 81 (by decide) (by decide) hb1 hb2;have hA:=FN (c:=80) (by decide) (by decide) (k:=0) (by omega) ha1 ha2;have hB:=FN (c:=81) (by decide) (by decide) (k:=0) (by omega) hb1 hb2;generalize DI 80 0 a=A at *;generalize DI 81 0 b=B at *;obtain⟨A1,A2,A3,A4⟩:=hA;obtain⟨B1,B1',B3,B4⟩:=hB;have hpl:=Tm.places_length A.1;have hall:=Kp A.1 (by omega);unfold Nv;refine JG.ac fun C hC=>?_;unfold E9;repeat' first|refine Gg ?_|refine Mm fun K hK=>?_|refine Cg _ (pa) ?_|refine Cg _ (pb) ?_|refine Cg _ (hall) ?_
 refine IWP.ghost (AY.own 11 500 40 4 (xs:=([]:List Pr).map Ag) (by rfl) (by rfl) Fj (by rw[hC];decide)) ?_;refine IWP.loopD [13,17,19] (fun m s=>∃i acc,i≤A.1.places.length∧m=A.1.places.length-i∧acc.length≤i∧DE A B same A.1.places=(DE A B same (A.1.places.drop i)).map (acc++·)∧s.env 2=AZ same∧s.env 8=.one (.ptr 8 1 0 0)∧s.env 9=.one (.ptr 9 1 0 0)∧s.env 10=OU A.1.places∧s.env 11=.one (.row 500 acc.length)∧s.env 12=AO i∧s.S 8=some (Et A)∧s.S 9=some (Et B)∧s.S 13=none∧s.S 17=none∧s.S 19=none∧s.S 500=some (.arow 40 4 (acc.map Ag))) A.1.places.length ⟨0,[],Nat.zero_le _,rfl,Nat.zero_le _,by simp,rfl,rfl,rfl,rfl,rfl,rfl,rfl,rfl,rfl,rfl,rfl,rfl⟩ ?_;rintro m ⟨env,S⟩ ⟨i,acc,hi,rfl,hal,hcr,e2,e8,e9,e10,e11,e12,s8,s9,s13,s17,s19,s500⟩;simp only at e2 e8 e9 e10 e11 e12 s8 s9 s13 s17 s19 s500;have hl:(acc.map Ag).length=acc.length:=by simp
 by_cases hlt:i<A.1.places.length
 case neg =>
  rw[List.drop_of_length_le (by omega)]at hcr;simp only[DE,Option.map_some,List.append_nil]at hcr;rw[hcr];have hlt':¬(i:Int)<A.1.places.length:=by omega
  unfold crV;refine Gf (F13 e2 e8 e9 e10 e11 e12 s8 s9 s13 s17 s19 s500 hlt') ?_;simp only[go_sem,fN,seval,AQ,AS.result,AB,AD,AM,s500,hl]
 obtain⟨p,hp⟩:=Aa hlt;have hlt':(i:Int)<A.1.places.length:=by omega
 obtain⟨x,hx,hxk⟩:=EA A.1 p (AN hp);have hxz:=CF A.1 x hxk;have hbel:=MV p A.1;rw[hx]at hbel;have hwith:=QB p A.1 (by omega) B.2 (by rw[hx];rfl);have hpz:=Kk p A.1 B.2;have hpn:=Uz hp;obtain⟨hno,hyes⟩:=NV hp hcr;have hpi:(p.map HM).length=p.length:=by simp
 have hadd:∀ys:List Pr,acc++ys=acc++ys:=fun _=>rfl;rcases II ⟨A1,A2,A3,A4⟩ ⟨B1,B1',B3,B4⟩ same hx hxk with⟨h1,h2⟩|⟨h1,n,r,hr,hmay,h2⟩
 ·have hn:=hyes _ h2;by_cases hv:AP x.name=true
  ·repeat' first|refine Gf (F15 e2 e8 e9 e10 e11 e12 s8 s9 s13 s17 s19 s500 hlt' hp hv) ?_|refine Mm fun K hK=>?_|refine Cg _ (hbel) ?_|refine Cg _ (BN x.name) ?_
   refine AE ⟨A.1.places.length-(i+1),by omega,i+1,acc++[],by omega,rfl,by simp;omega,hn,?_⟩;rw[List.append_nil];simp only[go_sem,fN,seval,AS.drop,AT,AC.clears,AC.clear,AC.highs,AC.high,zD,AV.purge,AV.purges,AC.purge,AJ.purge,Nat.reduceBEq,eT,iR,e2,e8,e9,e10,e11,e12,s8,s9,s13,s17,s19,s500];congr 3
  ·obtain⟨rfl,hp0⟩:same=true∧p=[]:=by
    rcases h1 with h1|h1
    ·exact absurd h1 hv
    ·exact h1
   have hi0:i=0:=hpn.1 hp0;subst hi0;have hz0:((0:Nat):Int)=0:=rfl;have hlt0:(0:Int)<A.1.places.length:=by omega
   repeat' first|refine Gf (F17 e2 e8 e9 e10 e11 e12 s8 s9 s13 s17 s19 s500 hlt' hlt0 hz0 hp hv) ?_|refine Mm fun K hK=>?_|refine Cg _ (hbel) ?_|refine Cg _ (BN x.name) ?_
   refine AE ⟨A.1.places.length-(0+1),by omega,0+1,acc++[],by omega,rfl,by simp;omega,hn,?_⟩;rw[List.append_nil];simp only[go_sem,fN,seval,AS.drop,AT,AC.clears,AC.clear,AC.highs,AC.high,zD,AV.purge,AV.purges,AC.purge,AJ.purge,Nat.reduceBEq,eT,iR,e2,e8,e9,e10,e11,e12,s8,s9,s13,s17,s19,s500]
 ·have hv:¬AP x.name=true:=fun h=>h1 (.inl h);have hs:(same=false∧True)∨(same=true∧¬(i:Int)=0):=by
   cases same with
   | false=>exact .inl ⟨rfl,trivial⟩
   | true=>exact .inr ⟨rfl,fun h=>h1 (.inr ⟨rfl,hpn.2 (by omega)⟩)⟩
  have hsv:=WE _ (Ck hmay).1 _ (Nat.le_refl _) n _ r hr (Ck hmay).2;have hU:=(Ck hmay).1;unfold Be at hsv;simp only[List.map_cons,List.map_nil,Ag]at hsv;rcases hs with⟨rfl,hp0⟩|⟨rfl,hp0⟩
  all_goals
   rcases h2 with⟨r8,hc⟩|⟨r8,r0,hc⟩|⟨r0,hg,hc⟩
   ·rw[hno hc];unfold crV;repeat' first|refine Gf (F17 e2 e8 e9 e10 e11 e12 s8 s9 s13 s17 s19 s500 hlt' hp hv hp0 r8) ?_|refine Mm fun K hK=>?_|refine Cg _ (hbel) ?_|refine Cg _ (BN x.name) ?_|refine Cg _ (hsv) ?_
    simp only[go_sem,fN,seval,AQ,AS.result,AB,AD,AM];rfl
   ·have hn:=hyes _ hc;repeat' first|refine Gf (F18 e2 e8 e9 e10 e11 e12 s8 s9 s13 s17 s19 s500 hlt' hp hv hp0 r8 r0) ?_|refine Mm fun K hK=>?_|refine Cg _ (hbel) ?_|refine Cg _ (BN x.name) ?_|refine Cg _ (hsv) ?_
    refine AE ⟨A.1.places.length-(i+1),by omega,i+1,acc++[],by omega,rfl,by simp;omega,hn,?_⟩;rw[List.append_nil];simp only[go_sem,fN,seval,AS.drop,AT,AC.clears,AC.clear,AC.highs,AC.high,zD,AV.purge,AV.purges,AC.purge,AJ.purge,Nat.reduceBEq,eT,iR,e2,e8,e9,e10,e11,e12,s8,s9,s13,s17,s19,s500];congr 3
   ·have hgl:=hg.len;have on1:=Ee r.1 A.2 (by omega);have on2:=Ee r.1 (A.1.putP p B.2) (by omega);have k1:=fun h=>Jo hg.chk A2 h;have k2:=fun h=>Jo hg.chk (Ja p A.1 B.2 A1 B1') h;have y1:(Au r.1 A.2).1.size≤2000:=D1;have y2:(Au r.1 (A.1.putP p B.2)).1.size≤2000:=D1;generalize Au r.1 A.2=y at *;generalize Au r.1 (A.1.putP p B.2)=z at *;obtain⟨y,yb⟩:=y;obtain⟨z,zb⟩:=z;simp only at on1 on2 y1 y2 hc k1 k2;by_cases hb:yb=true∧zb=true
    ·obtain⟨rfl,rfl⟩:=hb;rw[if_pos ⟨rfl,rfl⟩]at hc;have hn:=hyes _ hc;have hnm:=Pe [y,z] (fun t ht=>by rcases List.mem_cons.1 ht with rfl|ht;exact k1 rfl;rw[List.mem_singleton.1 ht];exact k2 rfl) (by simp only[Tm.sizes];omega);rw[show(Tm.cnL [y,z] []).1=[(Bv y z).1,(Bv y z).2] from rfl]at hnm;unfold CJ at hnm;simp only[List.map_cons,List.map_nil,Ao]at hnm;generalize Bv y z=q at *;repeat' first|refine Gf (F18 e2 e8 e9 e10 e11 e12 s8 s9 s13 s17 s19 s500 hlt' hp hv hp0 r0 hl) ?_|refine Mm fun K hK=>?_|refine Cg _ (hbel) ?_|refine Cg _ (BN x.name) ?_|refine Cg _ (hsv) ?_|refine Cg _ (on1) ?_|refine Cg _ (hwith) ?_|refine Cg _ (on2) ?_|refine Cg _ (hnm) ?_
     refine AE ⟨A.1.places.length-(i+1),by omega,i+1,acc++[q],by omega,rfl,by simp;omega,hn,?_⟩;simp only[go_sem,fN,seval,AS.drop,AT,AC.clears,AC.clear,AC.highs,AC.high,zD,AV.purge,AV.purges,AC.purge,AJ.purge,Nat.reduceBEq,eT,iR,e2,e8,e9,e10,e11,e12,s8,s9,s13,s17,s19,s500];refine⟨by congr 3,?_⟩;rw[List.map_append];rfl
    ·rw[if_neg hb]at hc;rw[hno hc];unfold crV;cases yb
     ·repeat' first|refine Gf (F18 e2 e8 e9 e10 e11 e12 s8 s9 s13 s17 s19 s500 hlt' hp hv hp0 r0 hl) ?_|refine Mm fun K hK=>?_|refine Cg _ (hbel) ?_|refine Cg _ (BN x.name) ?_|refine Cg _ (hsv) ?_|refine Cg _ (on1) ?_|refine Cg _ (hwith) ?_|refine Cg _ (on2) ?_
      simp only[go_sem,fN,seval,AQ,AS.result,AB,AD,AM];rfl
     ·cases zb
      ·repeat' first|refine Gf (F18 e2 e8 e9 e10 e11 e12 s8 s9 s13 s17 s19 s500 hlt' hp hv hp0 r0 hl) ?_|refine Mm fun K hK=>?_|refine Cg _ (hbel) ?_|refine Cg _ (BN x.name) ?_|refine Cg _ (hsv) ?_|refine Cg _ (on1) ?_|refine Cg _ (hwith) ?_|refine Cg _ (on2) ?_
       simp only[go_sem,fN,seval,AQ,AS.result,AB,AD,AM];rfl
      ·exact absurd ⟨rfl,rfl⟩ hb

theorem Vh{t:Tm}(hc:t.chk=0){l:List ByteArray}(hl:∀n∈(t.cn l).2,AP n=true):(t.cn l).1.size=t.size:=by
 rw[Yb t hc l _ hl ⟨[],by simp⟩];refine VW (fun b hb=>?_) t;obtain⟨j,h1,h2⟩:=Il _ _ hb;rw[h2];rfl
structure UD(q:Pr):Prop where
 c1:q.1.chk=0
 c2:q.2.chk=0
 z1:q.1.size≤2000
 z2:q.2.size≤2000
theorem Vi{t:Tm}(hc:t.chk=0){l:List ByteArray}(hl:∀n∈l,AP n=true):∀n∈(t.cn l).2,AP n=true:=by
 rw[Nd t hc];exact GH _ l hl
theorem Ku{l r:Tm}(h1:l.chk=0)(h2:r.chk=0)(z1:l.size≤2000)(z2:r.size≤2000):UD (Bv l r):=by
 have v1:=Vi h1 (l:=[]) (by simp);have v2:=Vi h2 v1;have n1:=Gb l [];have n2:=Gb r (l.cn []).2;rw[List.length_nil]at n1;exact⟨ZV h1 v1 (by omega),ZV h2 v2 (by omega),by show(l.cn []).1.size≤_;rw[Vh h1 v1];exact z1,by show(r.cn _).1.size≤_;rw[Vh h2 v2];exact z2⟩
theorem Tl{A B:Pr}(a1:A.1.chk=0)(a2:A.2.chk=0)(z1:A.1.size≤200)(b1:B.1.chk=0)(b2:B.2.chk=0)(bz:B.1.size≤200){same:Bool}{p:List Int}(hp:p∈A.1.places){x:List Pr}(h:Cm A B same p=some x):x.length≤1∧∀q∈x,UD q:=by
 obtain⟨t,ht,hk⟩:=EA A.1 p hp;have hxc:=HH A.1 t a1 hk;have hxz:=CF A.1 t hk;have hmay:=GL (Ks hxc (by omega)) (Ks b1 bz);unfold Cm at h;simp only[ht]at h;split at h
 ·cases h;exact⟨by simp,by simp⟩
 split at h
 ·cases h
 split at h
 ·cases h;exact⟨by simp,by simp⟩
 rename_i h8 h0;have h0:(H9 [(t,B.1)]).2=0:=by
  rcases Decidable.em ((H9 [(t,B.1)]).2=0) with h|h
  ·exact h
  ·exact absurd h h0
 have hg:=Oo hmay h0;split at h
 ·rename_i hb;cases h;refine⟨by simp,fun q hq=>?_⟩;rw[List.mem_singleton.1 hq];exact Ku (Jo hg.chk a2 hb.1) (Jo hg.chk (Ja p A.1 B.2 a1 b2) hb.2) D1 D1
 ·cases h
theorem SQ{A B:Pr}(a1:A.1.chk=0)(a2:A.2.chk=0)(z1:A.1.size≤200)(b1:B.1.chk=0)(b2:B.2.chk=0)(bz:B.1.size≤200){same:Bool}:∀{ps:List (List Int)},(∀p∈ps,p∈A.1.places)→∀{x:List Pr},DE A B same ps=some x→x.length≤ps.length∧∀q∈x,UD q
 | [],_,x,h=>by
  cases h;exact⟨by simp,by simp⟩
 | p::ps,hps,x,h=>by
  rw[DE]at h;split at h
  ·cases h
  ·rename_i y hy;rw[Option.map_eq_some_iff]at h;obtain⟨z,h1,rfl⟩:=h;obtain⟨k1,k2⟩:=Tl a1 a2 z1 b1 b2 bz (hps p (by simp)) hy;obtain⟨k3,k4⟩:=SQ a1 a2 z1 b1 b2 bz (fun q hq=>hps q (List.mem_cons_of_mem _ hq)) h1;refine⟨by simp only[List.length_append,List.length_cons];omega,fun q hq=>?_⟩;rcases List.mem_append.1 hq with hq|hq
   ·exact k2 q hq
   ·exact k4 q hq

theorem KI{R:List Pr}{c d:UInt8}{k i j:Nat}{a b:Pr}(hi:R[i]?=some a)(hj:R[j]?=some b):crR R c d k i j=Nv (DI c k a) (DI d k b) (decide (i=j)):=by
 unfold crR;rw[hi,hj]
theorem R8{R:List Pr}(hR:A7 R){i j:Nat}(hi:i<R.length)(hj:j<R.length):crR R 80 81 0 i j=crR R 88 89 1 i j:=by
 obtain⟨a,ha⟩:=Aa hi;obtain⟨b,hb⟩:=Aa hj;rw[KI ha hb,KI ha hb];have ma:=AN ha;have mb:=AN hb;have ca:=Tm.may_chk (hR.left a ma);have ca':=Tm.may_chk (hR.right a ma);have cb:=Tm.may_chk (hR.left b mb);have cb':=Tm.may_chk (hR.right b mb);have va:=DY a.1;have vb:=DY b.1;have e1:=Se (c:=88) (d:=80) (fun i hi=>ABY hi) ca.1 ca'.1 (by omega) (hR.vars a ma);have e2:=Se (c:=89) (d:=81) (fun i hi=>ABH hi) cb.1 cb'.1 (by omega) (hR.vars b mb);have oA:=FN (c:=88) (by decide) (by decide) (k:=1) (by omega) (hR.left a ma) (hR.right a ma);have oB:=FN (c:=89) (by decide) (by decide) (k:=1) (by omega) (hR.left b mb) (hR.right b mb);rw[←e1,←e2];exact ZB Na oA.c1 oA.z1 oB.c1 oB.z1 _
def AA_(R:List Pr)(m:Nat):List Pr→Bool×Int
 | []=>(true,0)
 | p::l=>if(VU R m p.1 p.2).2=0 then(if(VU R m p.1 p.2).1=true then AA_ R m l else(false,0)) else(false,(VU R m p.1 p.2).2)
theorem Yv(l:List Pr)(e:Int)(h:e≠0→l=[])(hl:l.length≤400):AW Tryz.prog 11 [Be l,AO e,Be l,AO e] (AZ true):=by
 refine RU.ac fun C hC=>?_;unfold LV;by_cases he:e=0
 case neg =>
  have hl0:=h he;subst hl0;refine Gf he ?_;simp only[go_sem,fN,seval,AQ,AS.result,AB,AD,AM]
 subst he;refine Gg ?_;refine IWP.loop (fun m s=>∃k,k≤l.length∧m=l.length-k∧s.env 0=Be l∧s.env 2=Be l∧s.env 9=AO k) l.length ⟨0,Nat.zero_le _,rfl,rfl,rfl,rfl⟩ ?_;rintro m ⟨env,S⟩ ⟨k,hk,rfl,e0,e2,e9⟩;simp only at e0 e2 e9;by_cases hkl:(k:Int)<l.length
 ·obtain⟨q,hq⟩:=Aa (show k<l.length by omega);have s1:=H5 q.1 q.1;have s2:=H5 q.2 q.2;rw[Tm.beq_refl]at s1 s2;repeat' first|refine Gf (F6 e0 e2 e9 hkl hq @Ag.eq_1) ?_|refine Mm fun K hK=>?_|refine Cg _ (s1) ?_|refine Cg _ (s2) ?_
  refine AE ⟨l.length-(k+1),by omega,k+1,by omega,rfl,?_⟩;simp only[go_sem,fN,seval,eT,iR,e0,e2,e9];congr 3
 ·refine Gf (F4 e0 e2 e9 hkl) ?_;simp only[go_sem,fN,seval,AQ,AS.result,AB,AD,AM]

def Pq:IR :=
 (.seq (.ops [.i 6 (.alloc 37 [.st (.str (ByteArray.mk (#[]))),.full []]),.i 7 (.mov (.n 0)),.i 8 (.mov (.n 0)),.i 9 (.mov (.n 0))]) (.seq (.ops [.m 16 1,.m 10 16]) (.seq (.block 0 (.loop (.seq (.seq (.ops [.m 17 1,.m 18 0,.i 19 (.len true (.t 18)),.i 20 (.bin .lss (.t 17) (.t 19)),.m 21 20,.mk (some 22) (some (21,true)) (.mov (.t 0)) .no,.mk (some 23) (some (21,true)) (.mov (.t 1)) .no,.mk (some 24) (some (21,true)) (.indexStr (.t 22) (.t 23)) .no,.mk (some 25) (some (21,true)) (.call 87 [.t 24]) .no,.i 26 (.pick (.t 21) (.t 25) (.c (.one (.st (.bool false)))))]) (.cond (.t 26) .skip (.exit 0))) (.block 1 (.ops [.m 27 1,.i 28 (.bin .add (.t 27) (.n 1)),.m 1 28]))))) (.seq (.seq (.ops [.m 29 1,.m 30 10,.i 31 (.bin .eql (.t 29) (.t 30))]) (.cond (.t 31) (.seq (.seq (.ops [.m 32 1,.m 33 0,.i 34 (.len true (.t 33)),.i 35 (.bin .eql (.t 32) (.t 34))]) (.cond (.t 35) (.seq (.ops [.i 36 (.build [.st (.str (ByteArray.mk (#[]))),.full []] []),.m 37 1,.m 38 2,.s 2 6 36,.m 7 37,.m 8 38,.i 9 (.mov (.n 13))]) .ret) .skip)) (.seq (.ops [.i 39 (.build [.st (.str (ByteArray.mk (#[]))),.full []] []),.m 40 1,.m 41 2,.s 2 6 39,.m 7 40,.m 8 41,.i 9 (.mov (.n 12))]) .ret)) .skip)) (.seq (.ops [.m 42 0,.m 43 10,.m 44 1,.i 45 (.sliceS (.t 42) (some (.t 43)) (some (.t 44))),.i 46 (.build [.st (.str (ByteArray.mk (#[]))),.full []] [(0,1,.t 45)]),.i 11 (.alloc 37 [.st (.str (ByteArray.mk (#[]))),.full []]),.s 2 11 46]) (.seq (.seq (.ops [.f 47 0 11,.l 48 47,.i 49 (.call 49 [.t 48]),.i 50 (.un .not (.t 49))]) (.cond (.t 50) (.seq (.ops [.L 51 2 11,.m 52 1,.m 53 2,.s 2 6 51,.m 7 52,.m 8 53,.i 9 (.mov (.n 1))]) .ret) .skip)) (.seq (.ops [.m 54 2,.i 55 (.bin .add (.t 54) (.n 1)),.m 2 55]) (.seq (.seq (.ops [.m 56 2,.i 57 (.bin .gtr (.t 56) (.n 200))]) (.cond (.t 57) (.seq (.ops [.L 58 2 11,.m 59 1,.m 60 2,.s 2 6 58,.m 7 59,.m 8 60,.i 9 (.mov (.n 3))]) .ret) .skip)) (.seq (.seq (.ops [.m 61 1,.m 62 0,.i 63 (.len true (.t 62)),.i 64 (.bin .eql (.t 61) (.t 63)),.m 65 64,.mk (some 66) (some (65,false)) (.mov (.t 0)) .no,.mk (some 67) (some (65,false)) (.mov (.t 1)) .no,.mk (some 68) (some (65,false)) (.indexStr (.t 66) (.t 67)) .no,.mk (some 69) (some (65,false)) (.bin .neq (.t 68) (.c (.one (.st (.int .u8 40))))) .no,.i 70 (.pick (.t 65) (.c (.one (.st (.bool true)))) (.t 69))]) (.cond (.t 70) (.seq (.ops [.L 71 2 11,.m 72 1,.m 73 2,.s 2 6 71,.m 7 72,.m 8 73,.i 9 (.mov (.n 0))]) .ret) .skip)) (.seq (.seq (.ops [.f 74 0 11,.l 75 74,.i 76 (.call 50 [.t 75])]) (.cond (.t 76) (.seq (.ops [.L 77 2 11,.m 78 1,.m 79 2,.s 2 6 77,.m 7 78,.m 8 79,.i 9 (.mov (.n 2))]) .ret) .skip)) (.block 2 (.loop (.block 3 (.seq (.ops [.m 81 0,.m 82 1,.i 83 (.bin .add (.t 82) (.n 1)),.m 84 2,.i 85 (.call 65 [.t 81,.t 83,.t 84]),.m 80 85,.i 86 (.extract 0 (.t 80)),.i 87 (.extract 1 (.t 80)),.i 88 (.extract 2 (.t 80)),.i 89 (.extract 3 (.t 80)),.i 12 (.alloc 37 [.st (.str (ByteArray.mk (#[]))),.full []]),.s 2 12 86,.m 13 87,.m 14 88,.m 15 89]) (.seq (.seq (.ops [.m 90 15,.i 91 (.bin .neq (.t 90) (.n 0))]) (.cond (.t 91) (.seq (.ops [.L 92 2 11,.m 93 13,.m 94 14,.m 95 15,.s 2 6 92,.m 7 93,.m 8 94,.m 9 95]) .ret) .skip)) (.seq (.ops [.f 96 1 11,.l 97 96,.L 98 2 12,.i 99 (.buildSlice false 37 2 [.t 98]),.i 100 (.append false 37 2 40 (.t 97) (.t 99)),.f 101 1 11,.s 1 101 100]) (.seq (.ops [.m 102 13,.m 1 102]) (.seq (.ops [.m 103 14,.m 2 103]) (.seq (.seq (.ops [.m 104 1,.m 105 0,.i 106 (.len true (.t 105)),.i 107 (.bin .eql (.t 104) (.t 106))]) (.cond (.t 107) (.seq (.ops [.L 108 2 11,.m 109 1,.m 110 2,.s 2 6 108,.m 7 109,.m 8 110,.i 9 (.mov (.n 13))]) .ret) .skip)) (.seq (.seq (.ops [.m 111 0,.m 112 1,.i 113 (.indexStr (.t 111) (.t 112)),.i 114 (.bin .eql (.t 113) (.c (.one (.st (.int .u8 41)))))]) (.cond (.t 114) (.seq (.ops [.L 115 2 11,.m 116 1,.i 117 (.bin .add (.t 116) (.n 1)),.m 118 2,.s 2 6 115,.m 7 117,.m 8 118,.i 9 (.mov (.n 0))]) .ret) .skip)) (.seq (.ops [.m 119 0,.m 120 1,.i 121 (.indexStr (.t 119) (.t 120)),.i 122 (.bin .neq (.t 121) (.c (.one (.st (.int .u8 44)))))]) (.cond (.t 122) (.seq (.ops [.L 123 2 11,.m 124 1,.m 125 2,.s 2 6 123,.m 7 124,.m 8 125,.i 9 (.mov (.n 12))]) .ret) .skip))))))))))))))))))))))
theorem XL:OkF Tryz.prog 65 126 [] Pq [.cell 6 true 2,.t 7,.t 8,.t 9]:=.of Tryz.func65 rfl rfl (by kernel_rfl) rfl
def Oc:IR :=
 (.seq (.ops [.i 2 (.alloc 37 [.st (.str (ByteArray.mk (#[]))),.full []]),.i 3 (.mov (.n 0))]) (.seq (.seq (.ops [.m 8 0,.i 9 (.len true (.t 8)),.i 10 (.bin .gtr (.t 9) (.n 4000))]) (.cond (.t 10) (.seq (.ops [.i 11 (.build [.st (.str (ByteArray.mk (#[]))),.full []] []),.s 2 2 11,.i 3 (.mov (.n 3))]) .ret) .skip)) (.seq (.ops [.m 13 0,.i 14 (.call 65 [.t 13,.n 0,.n 0]),.m 12 14,.i 15 (.extract 0 (.t 12)),.i 16 (.extract 1 (.t 12)),.i 17 (.extract 2 (.t 12)),.i 18 (.extract 3 (.t 12)),.i 4 (.alloc 37 [.st (.str (ByteArray.mk (#[]))),.full []]),.s 2 4 15,.m 5 16,.m 6 17,.m 7 18]) (.seq (.seq (.ops [.m 19 7,.i 20 (.bin .eql (.t 19) (.n 0)),.m 21 20,.mk (some 22) (some (21,true)) (.mov (.t 5)) .no,.mk (some 23) (some (21,true)) (.mov (.t 0)) .no,.mk (some 24) (some (21,true)) (.len true (.t 23)) .no,.mk (some 25) (some (21,true)) (.bin .lss (.t 22) (.t 24)) .no,.i 26 (.pick (.t 21) (.t 25) (.c (.one (.st (.bool false)))))]) (.cond (.t 26) (.ops [.i 7 (.mov (.n 12))]) .skip)) (.seq (.seq (.ops [.m 27 7,.i 28 (.bin .neq (.t 27) (.n 0))]) (.cond (.t 28) (.seq (.ops [.i 29 (.build [.st (.str (ByteArray.mk (#[]))),.full []] []),.m 30 7,.s 2 2 29,.m 3 30]) .ret) .skip)) (.seq (.ops [.L 31 2 4,.s 2 2 31,.i 3 (.mov (.n 0))]) .ret))))))
theorem WQ:OkF Tryz.prog 30 32 [] Oc [.cell 2 true 2,.t 3]:=.of Tryz.func30 rfl rfl (by kernel_rfl) rfl

def T8(s:ByteArray):Nat→Nat→Nat
 | 0,i=>i
 | k+1,i=>if BS (Ar s i)=true then T8 s k (i+1) else i
def Am(s:ByteArray)(i:Nat):Nat:=T8 s (s.size-i) i
theorem Ya{s:ByteArray}{i:Nat}(h:i<s.size)(hl:BS (Ar s i)=true):Am s i=Am s (i+1):=by
 unfold Am;obtain⟨k,hk⟩:∃k,s.size-i=k+1:=⟨s.size-i-1,by omega⟩
 rw[hk,show s.size-(i+1)=k by omega,T8,if_pos hl]
theorem T3{s:ByteArray}{i:Nat}(h:i<s.size)(hl:¬BS (Ar s i)=true):Am s i=i:=by
 unfold Am;obtain⟨k,hk⟩:∃k,s.size-i=k+1:=⟨s.size-i-1,by omega⟩
 rw[hk,T8,if_neg hl]
theorem V7{s:ByteArray}{i:Nat}(h:s.size≤i):Am s i=i:=by
 unfold Am;rw[show s.size-i=0 by omega];rfl
theorem VK(s:ByteArray):∀k i:Nat,i≤T8 s k i∧T8 s k i≤i+k
 | 0,i=>⟨Nat.le_refl _,Nat.le_refl _⟩
 | k+1,i=>by
  rw[T8];split
  ·have:=VK s k (i+1);omega
  ·omega
theorem Rg{s:ByteArray}{i:Nat}(h:i≤s.size):i≤Am s i∧Am s i≤s.size:=by
 have:=VK s (s.size-i) i;unfold Am;omega
structure Rd where
 t:Tm
 i:Nat
 k:Nat
 e:Int
mutual
def rd(s:ByteArray):Nat→Nat→Nat→Rd
 | 0,i,k=>⟨.mk ⟨#[]⟩ [],i,k,99⟩
 | f+1,i,k =>
  if Am s i=i then⟨.mk ⟨#[]⟩ [],i,k,if i=s.size then 13 else 12⟩
  else if BA (s.extract i (Am s i))=true then
   if 200<k+1 then⟨.mk (s.extract i (Am s i)) [],Am s i,k+1,3⟩
   else if Am s i=s.size∨Ar s (Am s i)≠40 then⟨.mk (s.extract i (Am s i)) [],Am s i,k+1,0⟩
   else if AP (s.extract i (Am s i))=true then⟨.mk (s.extract i (Am s i)) [],Am s i,k+1,2⟩
   else rdA s f (s.extract i (Am s i)) [] (Am s i) (k+1)
  else⟨.mk (s.extract i (Am s i)) [],Am s i,k,1⟩
def rdA(s:ByteArray):Nat→ByteArray→List Tm→Nat→Nat→Rd
 | 0,n,acc,i,k=>⟨.mk ⟨#[]⟩ [],i,k,99⟩
 | f+1,n,acc,i,k =>
  if(rd s f (i+1) k).e=0 then
   if(rd s f (i+1) k).i=s.size then⟨.mk n (acc++[(rd s f (i+1) k).t]),(rd s f (i+1) k).i,(rd s f (i+1) k).k,13⟩
   else if Ar s (rd s f (i+1) k).i=41 then⟨.mk n (acc++[(rd s f (i+1) k).t]),(rd s f (i+1) k).i+1,(rd s f (i+1) k).k,0⟩
   else if Ar s (rd s f (i+1) k).i=44 then rdA s f n (acc++[(rd s f (i+1) k).t]) (rd s f (i+1) k).i (rd s f (i+1) k).k
   else⟨.mk n (acc++[(rd s f (i+1) k).t]),(rd s f (i+1) k).i,(rd s f (i+1) k).k,12⟩
  else⟨.mk n acc,(rd s f (i+1) k).i,(rd s f (i+1) k).k,(rd s f (i+1) k).e⟩
end
structure AB5(s:ByteArray)(i k:Nat)(r:Rd):Prop where
 le:i≤r.i
 in_:r.i≤s.size
 knots:k≤r.k
 most:r.k≤201
 ok:r.e=0→i<r.i∧r.k≤200∧k<r.k∧r.t.size≤r.k-k
 err:0≤r.e∧r.e≤13
structure ABy(s:ByteArray)(acc:List Tm)(i k:Nat)(r:Rd):Prop where
 le:i≤r.i
 in_:r.i≤s.size
 knots:k≤r.k
 most:r.k≤201
 ok:r.e=0→i<r.i∧r.k≤200∧k<r.k∧r.t.size≤(r.k-k)+(1+Tm.sizes acc)
 err:0≤r.e∧r.e≤13
theorem No(xs:List Tm)(a:Tm):Tm.sizes (xs++[a])=Tm.sizes xs+a.size:=by
 rw[Tm.sizes_append];simp[Tm.sizes]
mutual
theorem ABC(s:ByteArray):∀f i k:Nat,i≤s.size→k≤200→2*(s.size-i)<f→AB5 s i k (rd s f i k)
 | 0,i,k,_,_,h=>absurd h (Nat.not_lt_zero _)
 | f+1,i,k,hi,hk,hf=>by
  obtain⟨l1,l2⟩:=Rg hi;rw[rd];by_cases h0:Am s i=i
  ·rw[if_pos h0];by_cases h1:i=s.size
   ·rw[if_pos h1];exact⟨Nat.le_refl _,hi,Nat.le_refl _,by show k≤201;omega,fun h=>absurd h (by show ¬(13:Int)=0;decide),by show(0:Int)≤13∧(13:Int)≤13;decide⟩
   ·rw[if_neg h1];exact⟨Nat.le_refl _,hi,Nat.le_refl _,by show k≤201;omega,fun h=>absurd h (by show ¬(12:Int)=0;decide),by show(0:Int)≤12∧(12:Int)≤13;decide⟩
  ·rw[if_neg h0];by_cases h1:BA (s.extract i (Am s i))=true
   ·rw[if_pos h1];by_cases h2:200<k+1
    ·rw[if_pos h2];exact⟨l1,l2,Nat.le_succ _,by show k+1≤201;omega,fun h=>absurd h (by show ¬(3:Int)=0;decide),by show(0:Int)≤3∧(3:Int)≤13;decide⟩
    ·rw[if_neg h2];by_cases h3:Am s i=s.size∨Ar s (Am s i)≠40
     ·rw[if_pos h3];exact⟨l1,l2,Nat.le_succ _,by show k+1≤201;omega,fun _=>⟨by show i<Am s i;omega,by show k+1≤200;omega,Nat.lt_succ_self _,by show(Tm.mk _ []).size≤k+1-k;simp[Tm.size,Tm.sizes]⟩,by show(0:Int)≤0∧(0:Int)≤13;decide⟩
     ·rw[if_neg h3];by_cases h4:AP (s.extract i (Am s i))=true
      ·rw[if_pos h4];exact⟨l1,l2,Nat.le_succ _,by show k+1≤201;omega,fun h=>absurd h (by show ¬(2:Int)=0;decide),by show(0:Int)≤2∧(2:Int)≤13;decide⟩
      ·rw[if_neg h4];have hlt:Am s i<s.size:=by
        have:Am s i≠s.size:=fun h=>h3 (.inl h)
        omega
       have:=Zd s f (s.extract i (Am s i)) [] (Am s i) (k+1) hlt (by omega) (by omega);refine⟨Nat.le_trans l1 this.le,this.in_,by have:=this.knots;omega,this.most,fun h=>?_,this.err⟩;obtain⟨q1,q2,q3,q4⟩:=this.ok h;simp only[Tm.sizes]at q4;exact⟨by omega,q2,by omega,by omega⟩
   ·rw[if_neg h1];exact⟨l1,l2,Nat.le_refl _,by show k≤201;omega,fun h=>absurd h (by show ¬(1:Int)=0;decide),by show(0:Int)≤1∧(1:Int)≤13;decide⟩
theorem Zd(s:ByteArray):∀(f:Nat) (n:ByteArray) (acc:List Tm) (i k:Nat),i<s.size→k≤200→2*(s.size-i)≤f→ABy s acc i k (rdA s f n acc i k)
 | 0,n,acc,i,k,hi,_,h=>by omega
 | f+1,n,acc,i,k,hi,hk,hf=>by
  have h:=ABC s f (i+1) k (by omega) hk (by omega);have hle:=h.le;have hin:=h.in_;have hkn:=h.knots;have hmo:=h.most;rw[rdA];generalize rd s f (i+1) k=r at *;by_cases h0:r.e=0
  ·obtain⟨o1,o2,o3,o4⟩:=h.ok h0;rw[if_pos h0];by_cases h1:r.i=s.size
   ·rw[if_pos h1];exact⟨by show i≤r.i;omega,hin,hkn,hmo,fun h=>absurd h (by show ¬(13:Int)=0;decide),by show(0:Int)≤13∧(13:Int)≤13;decide⟩
   ·rw[if_neg h1];by_cases h2:Ar s r.i=41
    ·rw[if_pos h2];refine⟨by show i≤r.i+1;omega,by show r.i+1≤s.size;omega,hkn,hmo,fun _=>⟨by show i<r.i+1;omega,o2,o3,?_⟩,by show(0:Int)≤0∧(0:Int)≤13;decide⟩;show 1+Tm.sizes (acc++[r.t])≤_
     rw[No];show _≤r.k-k+_
     omega
    ·rw[if_neg h2];by_cases h3:Ar s r.i=44
     ·rw[if_pos h3];have:=Zd s f n (acc++[r.t]) r.i r.k (by omega) o2 (by omega);refine⟨by have:=this.le;omega,this.in_,by have:=this.knots;omega,this.most,fun h=>?_,this.err⟩;obtain⟨q1,q2,q3,q4⟩:=this.ok h;rw[No]at q4;exact⟨by omega,q2,by omega,by omega⟩
     ·rw[if_neg h3];exact⟨by show i≤r.i;omega,hin,hkn,hmo,fun h=>absurd h (by show ¬(12:Int)=0;decide),by show(0:Int)≤12∧(12:Int)≤13;decide⟩
  ·rw[if_neg h0];exact⟨by show i≤r.i;omega,hin,hkn,hmo,fun h=>absurd h h0,h.err⟩
end
def rdS(s:ByteArray):Rd:=rd s (2*s.size+1) 0 0
def He(s:ByteArray):Tm×Int:=if 4000<s.size then(.mk ⟨#[]⟩ [],3) else if(rdS s).e=0 then(if(rdS s).i<s.size then(.mk ⟨#[]⟩ [],12) else((rdS s).t,0)) else(.mk ⟨#[]⟩ [],(rdS s).e)

theorem IWP.cut{P:Program}{C:Ctx}{mu:List Nat}{Q:AX→AS→Prop}{s:AS}{x:IR}(id:Nat)(M:AS→Prop)(h1:IWP P C mu x (fun e s=>e=.exit id∧M s) s)(h2:∀s,M s→Q (.exit id) s):IWP P C mu x Q s :=
 h1.mono fun e s h=>by
  obtain⟨rfl,hm⟩:=h;exact h2 s hm
abbrev Uf:AJ:=.box 37 [.st (.str ⟨#[]⟩),.full []]
def rdV(r:Rd):AV:=.tup [aTm r.t,AO r.i,AO r.k,AO r.e]
theorem AAH{s:ByteArray}{f i k:Nat}(h0:Am s i=i):rd s (f+1) i k=⟨.mk ⟨#[]⟩ [],i,k,if i=s.size then 13 else 12⟩:=by rw[rd,if_pos h0]
theorem AAf{s:ByteArray}{f i k:Nat}(h0:¬Am s i=i)(h1:¬BA (s.extract i (Am s i))=true):rd s (f+1) i k=⟨.mk (s.extract i (Am s i)) [],Am s i,k,1⟩:=by rw[rd,if_neg h0,if_neg h1]
theorem Y5{s:ByteArray}{f i k:Nat}(h0:¬Am s i=i)(h1:BA (s.extract i (Am s i))=true)(h2:200<k+1):rd s (f+1) i k=⟨.mk (s.extract i (Am s i)) [],Am s i,k+1,3⟩:=by rw[rd,if_neg h0,if_pos h1,if_pos h2]
theorem U3{s:ByteArray}{f i k:Nat}(h0:¬Am s i=i)(h1:BA (s.extract i (Am s i))=true)(h2:¬200<k+1)(h3:Am s i=s.size∨Ar s (Am s i)≠40):rd s (f+1) i k=⟨.mk (s.extract i (Am s i)) [],Am s i,k+1,0⟩:=by rw[rd,if_neg h0,if_pos h1,if_neg h2,if_pos h3]
theorem AAJ{s:ByteArray}{f i k:Nat}(h0:¬Am s i=i)(h1:BA (s.extract i (Am s i))=true)(h2:¬200<k+1)(h3:¬(Am s i=s.size∨Ar s (Am s i)≠40))(h4:AP (s.extract i (Am s i))=true):rd s (f+1) i k=⟨.mk (s.extract i (Am s i)) [],Am s i,k+1,2⟩:=by rw[rd,if_neg h0,if_pos h1,if_neg h2,if_neg h3,if_pos h4]
theorem Z9{s:ByteArray}{f i k:Nat}(h0:¬Am s i=i)(h1:BA (s.extract i (Am s i))=true)(h2:¬200<k+1)(h3:¬(Am s i=s.size∨Ar s (Am s i)≠40))(h4:¬AP (s.extract i (Am s i))=true):rd s (f+1) i k=rdA s f (s.extract i (Am s i)) [] (Am s i) (k+1):=by rw[rd,if_neg h0,if_pos h1,if_neg h2,if_neg h3,if_neg h4]
theorem AAB{s:ByteArray}{f:Nat}{n:ByteArray}{acc:List Tm}{i k:Nat}(h:¬(rd s f (i+1) k).e=0):rdA s (f+1) n acc i k=⟨.mk n acc,(rd s f (i+1) k).i,(rd s f (i+1) k).k,(rd s f (i+1) k).e⟩:=by rw[rdA,if_neg h]
theorem WP{s:ByteArray}{f:Nat}{n:ByteArray}{acc:List Tm}{i k:Nat}(h:(rd s f (i+1) k).e=0)(h1:(rd s f (i+1) k).i=s.size):rdA s (f+1) n acc i k=⟨.mk n (acc++[(rd s f (i+1) k).t]),(rd s f (i+1) k).i,(rd s f (i+1) k).k,13⟩:=by rw[rdA,if_pos h,if_pos h1]
theorem WU{s:ByteArray}{f:Nat}{n:ByteArray}{acc:List Tm}{i k:Nat}(h:(rd s f (i+1) k).e=0)(h1:¬(rd s f (i+1) k).i=s.size)(h2:Ar s (rd s f (i+1) k).i=41):rdA s (f+1) n acc i k=⟨.mk n (acc++[(rd s f (i+1) k).t]),(rd s f (i+1) k).i+1,(rd s f (i+1) k).k,0⟩:=by rw[rdA,if_pos h,if_neg h1,if_pos h2]
theorem ABb{s:ByteArray}{f:Nat}{n:ByteArray}{acc:List Tm}{i k:Nat}(h:(rd s f (i+1) k).e=0)(h1:¬(rd s f (i+1) k).i=s.size)(h2:¬Ar s (rd s f (i+1) k).i=41)(h3:Ar s (rd s f (i+1) k).i=44):rdA s (f+1) n acc i k=rdA s f n (acc++[(rd s f (i+1) k).t]) (rd s f (i+1) k).i (rd s f (i+1) k).k:=by rw[rdA,if_pos h,if_neg h1,if_neg h2,if_pos h3]
theorem Zi{s:ByteArray}{f:Nat}{n:ByteArray}{acc:List Tm}{i k:Nat}(h:(rd s f (i+1) k).e=0)(h1:¬(rd s f (i+1) k).i=s.size)(h2:¬Ar s (rd s f (i+1) k).i=41)(h3:¬Ar s (rd s f (i+1) k).i=44):rdA s (f+1) n acc i k=⟨.mk n (acc++[(rd s f (i+1) k).t]),(rd s f (i+1) k).i,(rd s f (i+1) k).k,12⟩:=by rw[rdA,if_pos h,if_neg h1,if_neg h2,if_neg h3]
theorem H3(acc:List Tm)(a:Tm):(acc++[a]).map Al=acc.map Al++[[.str a.name,.list (a.args.map Al)]]:=by
 rw[List.map_append,List.map_cons,List.map_nil,Ao a]
theorem ABi(s:ByteArray)(hs:s.size≤100000):∀f i k:Nat,i≤s.size→k≤200→2*(s.size-i)<f→AW Tryz.prog 65 [Bs s,AO i,AO k] (rdV (rd s f i k)):=by
 intro f;induction f using Nat.strongRecOn with
 | _ f ih =>
 intro i k hi hk hf;obtain⟨f,rfl⟩:∃g,f=g+1:=⟨f-1,by omega⟩
 obtain⟨l1,l2⟩:=Rg hi;refine XL.ac fun C hC=>?_;unfold Pq;refine Gg ?_;refine IWP.cut 0 (fun x=>x.env 0=Bs s∧x.env 1=AO (Am s i)∧x.env 2=AO k∧x.env 10=AO i∧x.env 6=.one (.ptr 6 1 0 0)∧x.S 6=some Uf∧x.S 11=none∧x.S 12=none∧x.S 900=none) ?_ ?_
 ·refine IWP.loop (fun m x=>∃j,i≤j∧j≤s.size∧m=s.size-j∧Am s i=Am s j∧x.env 0=Bs s∧x.env 1=AO j∧x.env 2=AO k∧x.env 10=AO i∧x.env 6=.one (.ptr 6 1 0 0)∧x.S 6=some Uf∧x.S 11=none∧x.S 12=none∧x.S 900=none) (s.size-i) ⟨i,Nat.le_refl _,hi,rfl,rfl,rfl,rfl,rfl,rfl,rfl,rfl,rfl,rfl,rfl⟩ ?_;rintro m ⟨env,S⟩ ⟨j,hij,hj,rfl,hl,e0,e1,e2,e10,e6,s6,s11,s12,s900⟩;simp only at e0 e1 e2 e10 e6 s6 s11 s12 s900;by_cases hlt:(j:Int)<s.size
  ·have hb:=GJ s j;by_cases hlet:BS (Gy s j)=true
   ·repeat' first|refine Gf (F8 e0 e1 e2 e10 e6 s6 hlt hlet) ?_|refine Mm fun K hK=>?_|refine Cg _ (Iw (Gy s j) hb.1) ?_
    refine AE ⟨s.size-(j+1),by omega,j+1,by omega,by omega,rfl,?_,?_⟩
    ·rw[hl];exact Ya (by omega) hlet
    ·simp only[go_sem,fN,seval,eT,iR,e0,e1,e2,e10,e6,s6,s11,s12,s900];congr 3
   ·have hst:Am s j=j:=T3 (by omega) hlet;repeat' first|refine Gf (F8 e0 e1 e2 e10 e6 s6 hlt hlet) ?_|refine Mm fun K hK=>?_|refine Cg _ (Iw (Gy s j) hb.1) ?_
    refine⟨rfl,?_⟩;simp only[go_sem,fN,seval,eT,iR,e0,e1,e2,e10,e6,s6,s11,s12,s900];rw[hl,hst]
  ·have hst:Am s j=j:=V7 (by omega);refine Gf (F7 e0 e1 e2 e10 e6 s6 hlt) ?_;refine⟨rfl,?_⟩;simp only[go_sem,fN,seval,eT,iR,e0,e1,e2,e10,e6,s6,s11,s12,s900];rw[hl,hst]
 rintro⟨env,S⟩ ⟨e0,e1,e2,e10,e6,s6,s11,s12,s900⟩;simp only at e0 e1 e2 e10 e6 s6 s11 s12 s900;by_cases h0:Am s i=i
 ·rw[AAH h0];rw[h0]at e1;unfold rdV;by_cases hsz:i=s.size
  ·have hszi:(i:Int)=s.size:=by omega
   rw[if_pos hsz];refine Gf (F7 e0 e1 e2 e10 e6 s6 hszi) ?_;simp only[go_sem,fN,seval,AQ,AS.result,AB,AD,AM,e6,s6];rfl
  ·have hszi:¬(i:Int)=s.size:=by omega
   rw[if_neg hsz];refine Gf (F7 e0 e1 e2 e10 e6 s6 hszi) ?_;simp only[go_sem,fN,seval,AQ,AS.result,AB,AD,AM,e6,s6];rfl
 have h0i:¬((Am s i:Nat):Int)=i:=by omega
 by_cases h1:BA (s.extract i (Am s i))=true
 case neg =>
  rw[AAf h0 h1];unfold rdV;repeat' first|refine Gf (F9 e0 e1 e2 e10 e6 s6 s11 h0i h1) ?_|refine Mm fun K hK=>?_|refine Cg _ (C4 (s.extract i (Am s i))) ?_
  simp only[go_sem,fN,seval,AQ,AS.result,AB,AD,AM,e6,s6];rfl
 case pos =>
 by_cases h2:200<k+1
 ·have h2i:(200:Int)<k+1:=by omega
  rw[Y5 h0 h1 h2];unfold rdV;repeat' first|refine Gf (F10 e0 e1 e2 e10 e6 s6 s11 h0i h1 h2i) ?_|refine Mm fun K hK=>?_|refine Cg _ (C4 (s.extract i (Am s i))) ?_
  simp only[go_sem,fN,seval,AQ,AS.result,AB,AD,AM,e6,s6];rfl
 have h2i:¬(200:Int)<k+1:=by omega
 by_cases h3:Am s i=s.size
 ·have h3i:((Am s i:Nat):Int)=s.size:=by omega
  have h0s:¬(s.size:Int)=i:=by omega
  rw[U3 h0 h1 h2 (.inl h3)];unfold rdV;rw[h3]at h1 e1;rw[h3];repeat' first|refine Gf (F10 e0 e1 e2 e10 e6 s6 s11 h0s h1 h2i) ?_|refine Mm fun K hK=>?_|refine Cg _ (C4 (s.extract i s.size)) ?_
  simp only[go_sem,fN,seval,AQ,AS.result,AB,AD,AM,e6,s6];rfl
 have h3i:¬((Am s i:Nat):Int)=s.size:=by omega
 by_cases h3':Gy s (Am s i)=40
 case neg =>
  rw[U3 h0 h1 h2 (.inr h3')];unfold rdV;repeat' first|refine Gf (F12 e0 e1 e2 e10 e6 s6 s11 h0i h1 h2i h3i h3') ?_|refine Mm fun K hK=>?_|refine Cg _ (C4 (s.extract i (Am s i))) ?_
  simp only[go_sem,fN,seval,AQ,AS.result,AB,AD,AM,e6,s6];rfl
 case pos =>
 have h3n:¬(Am s i=s.size∨Ar s (Am s i)≠40):=fun h=>h.elim h3 (fun h=>h h3');by_cases h4:AP (s.extract i (Am s i))=true
 ·rw[AAJ h0 h1 h2 h3n h4];unfold rdV;repeat' first|refine Gf (F13 e0 e1 e2 e10 e6 s6 s11 h0i h1 h2i h3i h3' h4) ?_|refine Mm fun K hK=>?_|refine Cg _ (C4 (s.extract i (Am s i))) ?_|refine Cg _ (BN (s.extract i (Am s i))) ?_
  simp only[go_sem,fN,seval,AQ,AS.result,AB,AD,AM,e6,s6];rfl
 rw[Z9 h0 h1 h2 h3n h4];have hlt0:Am s i<s.size:=by omega
 have hf0:2*(s.size-Am s i)≤f:=by omega
 clear h0;obtain⟨n,hn⟩:∃n,s.extract i (Am s i)=n:=⟨_,rfl⟩
 rw[hn]at h1 h4 ⊢;generalize Am s i=to at *;repeat' first|refine Gf (F14 e0 e1 e2 e10 e6 s6 s11 h0i h1 h2i h3i h3' h4 hn) ?_|refine Mm fun K hK=>?_|refine Cg _ (C4 n) ?_|refine Cg _ (BN n) ?_
 refine IWP.ghost (AY.ownC 11 1 900 37 2 (xs:=([]:List Tm).map Al) rfl rfl (by simp only[go_sem,fN,seval,eT,iR,s900,s11]) Cv) ?_;refine IWP.loopD [12] (fun m x=>∃(g:Nat) (acc:List Tm) (j c:Nat),rdA s f n [] to (k+1)=rdA s g n acc j c∧m=s.size-j∧2*(s.size-j)≤g∧g≤f∧j<s.size∧c≤200∧acc.length≤c∧x.env 0=Bs s∧x.env 1=AO j∧x.env 2=AO c∧x.env 6=.one (.ptr 6 1 0 0)∧x.env 11=.one (.ptr 11 1 0 0)∧x.S 6=some Uf∧x.S 11=some (.box 37 [.st (.str n),.row 900 acc.length])∧x.S 900=some (.arow 37 2 (acc.map Al))∧x.S 12=none)
  (s.size-to) ⟨f,[],to,k+1,rfl,rfl,hf0,Nat.le_refl _,hlt0,by omega,by simp,?_⟩ ?_
 ·simp only[go_sem,fN,seval,eT,iR,e0,e1,e2,e10,e6,s6,s11,s12,s900];exact⟨by congr 3,rfl⟩
 rintro m ⟨env,S⟩ ⟨g,acc,j,c,hrd,rfl,hg,hgf,hj,hc,hac,e0,e1,e2,e6,e11,s6,s11,s900,s12⟩;simp only at e0 e1 e2 e6 e11 s6 s11 s900 s12;rw[hrd];obtain⟨g,rfl⟩:∃g',g=g'+1:=⟨g-1,by omega⟩
 have hcall:=ih g (by omega) (j+1) c (by omega) hc (by omega);have hok:=ABC s g (j+1) c (by omega) hc (by omega);rw[show((j+1:Nat):Int)=(j:Int)+1 by omega]at hcall;have hle:=hok.le;have hin:=hok.in_;have hal:(acc.map Al).length=acc.length:=List.length_map _;by_cases q0:(rd s g (j+1) c).e=0
 case neg =>
  rw[AAB q0];unfold rdV at hcall ⊢;repeat' first|refine Gf (F10 e0 e1 e2 e6 e11 s6 s11 s900 s12 q0) ?_|refine Mm fun K hK=>?_|refine Cg _ (hcall) ?_
  simp only[go_sem,fN,seval,AQ,AS.result,AB,AD,AM,e6,s6,s11,s900];rfl
 case pos =>
 obtain⟨o1,o2,o3,o4⟩:=hok.ok q0;by_cases q1:(rd s g (j+1) c).i=s.size
 ·have q1i:(((rd s g (j+1) c).i:Nat):Int)=s.size:=by omega
  rw[WP q0 q1];unfold rdV at hcall ⊢;repeat' first|refine Gf (F11 e0 e1 e2 e6 e11 s6 s11 s900 s12 q0 q1i) ?_|refine Mm fun K hK=>?_|refine Cg _ (hcall) ?_
  simp only[go_sem,fN,seval,AQ,AS.result,AB,AD,AM,e6,s6,s11,s900];rw[←H3];rfl
 have q1i:¬(((rd s g (j+1) c).i:Nat):Int)=s.size:=by omega
 by_cases q2:Gy s (rd s g (j+1) c).i=41
 ·rw[WU q0 q1 q2];unfold rdV at hcall ⊢;repeat' first|refine Gf (F12 e0 e1 e2 e6 e11 s6 s11 s900 s12 q0 q1i q2) ?_|refine Mm fun K hK=>?_|refine Cg _ (hcall) ?_
  simp only[go_sem,fN,seval,AQ,AS.result,AB,AD,AM,e6,s6,s11,s900];rw[←H3];rfl
 by_cases q3:Gy s (rd s g (j+1) c).i=44
 ·rw[ABb q0 q1 q2 q3];unfold rdV at hcall;repeat' first|refine Gf (F13 e0 e1 e2 e6 e11 s6 s11 s900 s12 q0 q1i q2 q3) ?_|refine Mm fun K hK=>?_|refine Cg _ (hcall) ?_
  refine AE ⟨s.size-(rd s g (j+1) c).i,by omega,g,acc++[(rd s g (j+1) c).t],(rd s g (j+1) c).i,(rd s g (j+1) c).k,rfl,rfl,by omega,by omega,by omega,o2,by simp;omega,?_⟩;simp only[go_sem,fN,seval,AS.drop,AT,AC.clears,AC.clear,AC.highs,AC.high,zD,AV.purge,AV.purges,AC.purge,AJ.purge,Nat.reduceBEq,eT,iR,e0,e1,e2,e6,e11,s6,s11,s900,s12];rw[H3]
 ·rw[Zi q0 q1 q2 q3];unfold rdV at hcall ⊢;repeat' first|refine Gf (F13 e0 e1 e2 e6 e11 s6 s11 s900 s12 q0 q1i q2 q3) ?_|refine Mm fun K hK=>?_|refine Cg _ (hcall) ?_
  simp only[go_sem,fN,seval,AQ,AS.result,AB,AD,AM,e6,s6,s11,s900];rw[←H3];rfl
def Pn(r:Tm×Int):AV:=.tup [aTm r.1,AO r.2]
theorem Vd(s:ByteArray):AW Tryz.prog 30 [Bs s] (Pn (He s)):=by
 have hro:He s=if 4000<s.size then(.mk ⟨#[]⟩ [],3) else if(rdS s).e=0 then(if(rdS s).i<s.size then(.mk ⟨#[]⟩ [],12) else((rdS s).t,0)) else(.mk ⟨#[]⟩ [],(rdS s).e):=rfl;refine WQ.ac fun C hC=>?_;unfold Oc;by_cases h0:(4000:Int)<s.size
 ·rw[hro,if_pos (by omega)];unfold Pn;refine Gf h0 ?_;simp only[go_sem,fN,seval,AQ,AS.result,AB,AD,AM];rfl
 rw[hro,if_neg (by omega)];have hcall:=ABi s (by omega) (2*s.size+1) 0 0 (by omega) (by omega) (by omega);have hr:rd s (2*s.size+1) 0 0=rdS s:=rfl;rw[hr]at hcall;unfold rdV at hcall;by_cases h1:(rdS s).e=0
 ·rw[if_pos h1];by_cases h2:(rdS s).i<s.size
  ·have h2i:((rdS s).i:Int)<s.size:=by omega
   rw[if_pos h2];unfold Pn;repeat' first|refine Gf (F3 h0 h1 h2i) ?_|refine Mm fun K hK=>?_|refine Cg _ (hcall) ?_
   simp only[go_sem,fN,seval,AQ,AS.result,AB,AD,AM];rfl
  ·have h2i:¬((rdS s).i:Int)<s.size:=by omega
   rw[if_neg h2];unfold Pn;repeat' first|refine Gf (F3 h0 h1 h2i) ?_|refine Mm fun K hK=>?_|refine Cg _ (hcall) ?_
   simp only[go_sem,fN,seval,AQ,AS.result,AB,AD,AM]
 ·rw[if_neg h1];unfold Pn;repeat' first|refine Gf (F2 h0 h1) ?_|refine Mm fun K hK=>?_|refine Cg _ (hcall) ?_
  simp only[go_sem,fN,seval,AQ,AS.result,AB,AD,AM];rfl


def Pg:IR :=
 (.seq (.ops [.i 4 (.mov (.n 0))]) (.seq (.seq (.ops [.m 5 0,.i 6 (.bin .lss (.t 5) (.n 0))]) (.cond (.t 6) (.ops [.m 7 0,.i 8 (.bin .add (.t 7) (.n 1)),.i 9 (.un .neg (.t 8)),.m 0 9]) .skip)) (.seq (.ops [.m 10 0,.m 11 1,.i 12 (.bin .rem (.t 10) (.t 11)),.m 4 12]) .ret)))
theorem WV:OkF Tryz.prog 9 13 [] Pg [.t 4]:=.of Tryz.func9 rfl rfl (by kernel_rfl) rfl

def Gr(c n:Int):Int:=(if c<0 then -(c+1) else c) % n
theorem HY(c n:Int)(hn:1≤n):0≤Gr c n∧Gr c n<n:=⟨Int.emod_nonneg _ (by omega),Int.emod_lt_of_pos _ (by omega)⟩
theorem N1{x n:Int}(hx:0≤x)(hn:1≤n):x.tmod n=x % n∧0≤x % n∧x % n<n∧x % n≤x:=by
 rw[Int.tmod_eq_emod_of_nonneg hx];refine⟨rfl,Int.emod_nonneg _ (by omega),Int.emod_lt_of_pos _ (by omega),?_⟩;by_cases h:x<n
 ·rw[Int.emod_eq_of_lt hx h];exact Int.le_refl _
 ·have:=Int.emod_lt_of_pos x (show 0<n by omega);omega
theorem Tz(c n:Int)(hc:inR .i64 c)(hn:1≤n):AW Tryz.prog 9 [AO c,AO n] (AO (Gr c n)):=by
 rw[Qa]at hc;refine WV.ac fun C hC=>?_;unfold Pg;refine Hg ?_;with_reducible refine Wp ?_
 simp only[go_sem,fN,seval,true_implies,false_implies,implies_true,dT,dF,nL];(try with_reducible refine iC ?_);refine⟨fun h0=>?_,fun h0=>?_⟩
 ·have h1:=N1 (x:=0-(c+1)) (n:=n) (by omega) hn;refine Hf h1.1 ?_;simp only[go_sem,fN,seval,AQ,AS.result,AB,AD,AM];unfold Gr;rw[if_pos h0];congr 5;omega
 ·have h1:=N1 (x:=c) (n:=n) (by omega) hn;refine Hf h1.1 ?_;simp only[go_sem,fN,seval,AQ,AS.result,AB,AD,AM];unfold Gr;rw[if_neg h0]

noncomputable def Jg:List ByteArray→List Pr
 | a::b::l=>((He a).1,(He b).1)::Jg l
 | _=>[]
theorem W5{L:List ByteArray}{i:Nat}{a b:ByteArray}(ha:L[i]?=some a)(hb:L[i+1]?=some b):Jg (L.drop i)=((He a).1,(He b).1)::Jg (L.drop (i+2)):=by
 rw[A5 ha,A5 hb,Jg]
theorem WR{L:List ByteArray}{i:Nat}(h:L.length≤i+1):Jg (L.drop i)=[]:=by
 have hl:(L.drop i).length≤1:=by rw[List.length_drop];omega
 match hd:L.drop i,hl with
 | [],_=>rfl
 | [x],_=>rfl
 | x::y::l,hl=>exact absurd hl (by simp)

def Jv:IR :=
 (.seq (.ops [.i 2 (.mov (.c (.one (.full []))))]) (.seq (.ops [.i 11 (.buildFlat [.c (.one (.st (.str (ByteArray.mk (#[102,40,101,44,88,41]))))),.c (.one (.st (.str (ByteArray.mk (#[88]))))),.c (.one (.st (.str (ByteArray.mk (#[102,40,105,40,88,41,44,88,41]))))),.c (.one (.st (.str (ByteArray.mk (#[101]))))),.c (.one (.st (.str (ByteArray.mk (#[102,40,102,40,88,44,89,41,44,90,41]))))),.c (.one (.st (.str (ByteArray.mk (#[102,40,88,44,102,40,89,44,90,41,41])))))]),.i 12 (.buildFlat [.c (.one (.st (.str (ByteArray.mk (#[102,40,97,44,88,41]))))),.c (.one (.st (.str (ByteArray.mk (#[88]))))),.c (.one (.st (.str (ByteArray.mk (#[102,40,104,40,88,41,44,89,41]))))),.c (.one (.st (.str (ByteArray.mk (#[104,40,102,40,88,44,89,41,41])))))]),.i 13 (.buildFlat [.c (.one (.st (.str (ByteArray.mk (#[104,40,104,40,88,41,41]))))),.c (.one (.st (.str (ByteArray.mk (#[88]))))),.c (.one (.st (.str (ByteArray.mk (#[104,40,107,40,88,41,41]))))),.c (.one (.st (.str (ByteArray.mk (#[107,40,104,40,88,41,41])))))]),.i 14 (.buildFlat [.c (.one (.st (.str (ByteArray.mk (#[102,40,88,44,89,41]))))),.c (.one (.st (.str (ByteArray.mk (#[102,40,89,44,88,41])))))]),.i 15 (.buildFlat [.c (.one (.st (.str (ByteArray.mk (#[102,40,102,40,88,44,89,41,44,90,41]))))),.c (.one (.st (.str (ByteArray.mk (#[102,40,88,44,102,40,89,44,90,41,41]))))),.c (.one (.st (.str (ByteArray.mk (#[102,40,97,44,88,41]))))),.c (.one (.st (.str (ByteArray.mk (#[88]))))),.c (.one (.st (.str (ByteArray.mk (#[102,40,88,44,97,41]))))),.c (.one (.st (.str (ByteArray.mk (#[88])))))]),.i 16 (.buildFlat [.c (.one (.st (.str (ByteArray.mk (#[104,40,104,40,104,40,88,41,41,41]))))),.c (.one (.st (.str (ByteArray.mk (#[88]))))),.c (.one (.st (.str (ByteArray.mk (#[104,40,104,40,104,40,104,40,104,40,88,41,41,41,41,41]))))),.c (.one (.st (.str (ByteArray.mk (#[88])))))]),.i 17 (.buildFlat [.c (.one (.st (.str (ByteArray.mk (#[97]))))),.c (.one (.st (.str (ByteArray.mk (#[98]))))),.c (.one (.st (.str (ByteArray.mk (#[104,40,97,41]))))),.c (.one (.st (.str (ByteArray.mk (#[99]))))),.c (.one (.st (.str (ByteArray.mk (#[104,40,98,41]))))),.c (.one (.st (.str (ByteArray.mk (#[107,40,99,41])))))]),.i 18 (.buildFlat [.c (.one (.st (.str (ByteArray.mk (#[107,40,104,40,88,41,41]))))),.c (.one (.st (.str (ByteArray.mk (#[88]))))),.c (.one (.st (.str (ByteArray.mk (#[104,40,107,40,88,41,41]))))),.c (.one (.st (.str (ByteArray.mk (#[88])))))]),.i 19 (.buildFlat [.c (.one (.st (.str (ByteArray.mk (#[102,40,88,44,88,41]))))),.c (.one (.st (.str (ByteArray.mk (#[97]))))),.c (.one (.st (.str (ByteArray.mk (#[102,40,97,44,88,41]))))),.c (.one (.st (.str (ByteArray.mk (#[88])))))]),.i 20 (.buildSlice false 26 1 [.t 11,.t 12,.t 13,.t 14,.t 15,.t 16,.t 17,.t 18,.t 19]),.m 3 20]) (.seq (.ops [.m 21 3,.m 22 0,.m 23 3,.i 24 (.len false (.t 23)),.i 25 (.call 9 [.t 22,.t 24]),.i 26 (.indexAddr 1 (.t 21) (.t 25)),.l 27 26,.m 4 27]) (.seq (.ops [.i 5 (.mov (.c (.one (.full []))))]) (.seq (.seq (.ops [.i 6 (.mov (.n 0))]) (.block 0 (.loop (.seq (.seq (.ops [.m 28 6,.i 29 (.bin .add (.t 28) (.n 1)),.m 30 4,.i 31 (.len false (.t 30)),.i 32 (.bin .lss (.t 29) (.t 31))]) (.cond (.t 32) .skip (.exit 0))) (.seq (.block 1 (.seq (.ops [.m 36 4,.m 37 6,.i 38 (.indexAddr 1 (.t 36) (.t 37)),.l 39 38,.i 40 (.call 30 [.t 39]),.m 35 40,.i 41 (.extract 0 (.t 35)),.i 42 (.extract 1 (.t 35)),.i 7 (.alloc 37 [.st (.str (ByteArray.mk (#[]))),.full []]),.s 2 7 41,.m 8 42]) (.seq (.ops [.m 44 4,.m 45 6,.i 46 (.bin .add (.t 45) (.n 1)),.i 47 (.indexAddr 1 (.t 44) (.t 46)),.l 48 47,.i 49 (.call 30 [.t 48]),.m 43 49,.i 50 (.extract 0 (.t 43)),.i 51 (.extract 1 (.t 43)),.i 9 (.alloc 37 [.st (.str (ByteArray.mk (#[]))),.full []]),.s 2 9 50,.m 10 51]) (.ops [.m 52 5,.L 53 2 7,.L 54 2 9,.i 55 (.build [.st (.str (ByteArray.mk (#[]))),.full [],.st (.str (ByteArray.mk (#[]))),.full []] [(0,2,.t 53),(2,2,.t 54)]),.i 56 (.buildSlice false 40 4 [.t 55]),.i 57 (.append false 40 4 80 (.t 52) (.t 56)),.m 5 57])))) (.ops [.m 33 6,.i 34 (.bin .add (.t 33) (.n 2)),.m 6 34])))))) (.seq (.ops [.m 58 5,.m 2 58]) .ret))))))
theorem Qw:OkF Tryz.prog 8 59 [] Jv [.t 2]:=.of Tryz.func8 rfl rfl (by kernel_rfl) rfl

def FU:List (List ByteArray):=[[⟨#[102,40,101,44,88,41]⟩,⟨#[88]⟩,⟨#[102,40,105,40,88,41,44,88,41]⟩,⟨#[101]⟩,⟨#[102,40,102,40,88,44,89,41,44,90,41]⟩,⟨#[102,40,88,44,102,40,89,44,90,41,41]⟩],
 [⟨#[102,40,97,44,88,41]⟩,⟨#[88]⟩,⟨#[102,40,104,40,88,41,44,89,41]⟩,⟨#[104,40,102,40,88,44,89,41,41]⟩],
 [⟨#[104,40,104,40,88,41,41]⟩,⟨#[88]⟩,⟨#[104,40,107,40,88,41,41]⟩,⟨#[107,40,104,40,88,41,41]⟩],
 [⟨#[102,40,88,44,89,41]⟩,⟨#[102,40,89,44,88,41]⟩],
 [⟨#[102,40,102,40,88,44,89,41,44,90,41]⟩,⟨#[102,40,88,44,102,40,89,44,90,41,41]⟩,⟨#[102,40,97,44,88,41]⟩,⟨#[88]⟩,⟨#[102,40,88,44,97,41]⟩,⟨#[88]⟩],
 [⟨#[104,40,104,40,104,40,88,41,41,41]⟩,⟨#[88]⟩,⟨#[104,40,104,40,104,40,104,40,104,40,88,41,41,41,41,41]⟩,⟨#[88]⟩],
 [⟨#[97]⟩,⟨#[98]⟩,⟨#[104,40,97,41]⟩,⟨#[99]⟩,⟨#[104,40,98,41]⟩,⟨#[107,40,99,41]⟩],
 [⟨#[107,40,104,40,88,41,41]⟩,⟨#[88]⟩,⟨#[104,40,107,40,88,41,41]⟩,⟨#[88]⟩],
 [⟨#[102,40,88,44,88,41]⟩,⟨#[97]⟩,⟨#[102,40,97,44,88,41]⟩,⟨#[88]⟩]]
noncomputable def W9(k:Nat):List Pr:=Jg (FU.getD k [])
def ZE:List (List Pr):=[[(.mk ⟨#[102]⟩ [.mk ⟨#[101]⟩ [],.mk ⟨#[88]⟩ []],.mk ⟨#[88]⟩ []),(.mk ⟨#[102]⟩ [.mk ⟨#[105]⟩ [.mk ⟨#[88]⟩ []],.mk ⟨#[88]⟩ []],.mk ⟨#[101]⟩ []),(.mk ⟨#[102]⟩ [.mk ⟨#[102]⟩ [.mk ⟨#[88]⟩ [],.mk ⟨#[89]⟩ []],.mk ⟨#[90]⟩ []],.mk ⟨#[102]⟩ [.mk ⟨#[88]⟩ [],.mk ⟨#[102]⟩ [.mk ⟨#[89]⟩ [],.mk ⟨#[90]⟩ []]])],
 [(.mk ⟨#[102]⟩ [.mk ⟨#[97]⟩ [],.mk ⟨#[88]⟩ []],.mk ⟨#[88]⟩ []),(.mk ⟨#[102]⟩ [.mk ⟨#[104]⟩ [.mk ⟨#[88]⟩ []],.mk ⟨#[89]⟩ []],.mk ⟨#[104]⟩ [.mk ⟨#[102]⟩ [.mk ⟨#[88]⟩ [],.mk ⟨#[89]⟩ []]])],
 [(.mk ⟨#[104]⟩ [.mk ⟨#[104]⟩ [.mk ⟨#[88]⟩ []]],.mk ⟨#[88]⟩ []),(.mk ⟨#[104]⟩ [.mk ⟨#[107]⟩ [.mk ⟨#[88]⟩ []]],.mk ⟨#[107]⟩ [.mk ⟨#[104]⟩ [.mk ⟨#[88]⟩ []]])],
 [(.mk ⟨#[102]⟩ [.mk ⟨#[88]⟩ [],.mk ⟨#[89]⟩ []],.mk ⟨#[102]⟩ [.mk ⟨#[89]⟩ [],.mk ⟨#[88]⟩ []])],
 [(.mk ⟨#[102]⟩ [.mk ⟨#[102]⟩ [.mk ⟨#[88]⟩ [],.mk ⟨#[89]⟩ []],.mk ⟨#[90]⟩ []],.mk ⟨#[102]⟩ [.mk ⟨#[88]⟩ [],.mk ⟨#[102]⟩ [.mk ⟨#[89]⟩ [],.mk ⟨#[90]⟩ []]]),(.mk ⟨#[102]⟩ [.mk ⟨#[97]⟩ [],.mk ⟨#[88]⟩ []],.mk ⟨#[88]⟩ []),(.mk ⟨#[102]⟩ [.mk ⟨#[88]⟩ [],.mk ⟨#[97]⟩ []],.mk ⟨#[88]⟩ [])],
 [(.mk ⟨#[104]⟩ [.mk ⟨#[104]⟩ [.mk ⟨#[104]⟩ [.mk ⟨#[88]⟩ []]]],.mk ⟨#[88]⟩ []),(.mk ⟨#[104]⟩ [.mk ⟨#[104]⟩ [.mk ⟨#[104]⟩ [.mk ⟨#[104]⟩ [.mk ⟨#[104]⟩ [.mk ⟨#[88]⟩ []]]]]],.mk ⟨#[88]⟩ [])],
 [(.mk ⟨#[97]⟩ [],.mk ⟨#[98]⟩ []),(.mk ⟨#[104]⟩ [.mk ⟨#[97]⟩ []],.mk ⟨#[99]⟩ []),(.mk ⟨#[104]⟩ [.mk ⟨#[98]⟩ []],.mk ⟨#[107]⟩ [.mk ⟨#[99]⟩ []])],
 [(.mk ⟨#[107]⟩ [.mk ⟨#[104]⟩ [.mk ⟨#[88]⟩ []]],.mk ⟨#[88]⟩ []),(.mk ⟨#[104]⟩ [.mk ⟨#[107]⟩ [.mk ⟨#[88]⟩ []]],.mk ⟨#[88]⟩ [])],
 [(.mk ⟨#[102]⟩ [.mk ⟨#[88]⟩ [],.mk ⟨#[88]⟩ []],.mk ⟨#[97]⟩ []),(.mk ⟨#[102]⟩ [.mk ⟨#[97]⟩ [],.mk ⟨#[88]⟩ []],.mk ⟨#[88]⟩ [])]]
set_option maxRecDepth 100000 in
theorem QR:∀k,k<9→W9 k=ZE.getD k []
 | 0,_=>by kernel_rfl
 | 1,_=>by kernel_rfl
 | 2,_=>by kernel_rfl
 | 3,_=>by kernel_rfl
 | 4,_=>by kernel_rfl
 | 5,_=>by kernel_rfl
 | 6,_=>by kernel_rfl
 | 7,_=>by kernel_rfl
 | 8,_=>by kernel_rfl
 | k+9,h=>by omega
theorem XQ(m:Int)(hm:inR .i64 m):∃k:Nat,k<9∧Gr m 9=(k:Int)∧AW Tryz.prog 8 [AO m] (Be (W9 k)):=by
 have r1:=HY m 9 (by omega);have p1:=Tz m 9 hm (by omega);obtain⟨k,e1⟩:∃k:Nat,Gr m 9=k:=⟨(Gr m 9).toNat,by omega⟩
 rw[e1]at p1 r1;refine⟨k,by omega,e1,?_⟩;have key:∀L:List ByteArray,L.length≤6→([[.list [[.str ⟨#[102,40,101,44,88,41]⟩],[.str ⟨#[88]⟩],[.str ⟨#[102,40,105,40,88,41,44,88,41]⟩],[.str ⟨#[101]⟩],[.str ⟨#[102,40,102,40,88,44,89,41,44,90,41]⟩],[.str ⟨#[102,40,88,44,102,40,89,44,90,41,41]⟩]]],[.list [[.str ⟨#[102,40,97,44,88,41]⟩],[.str ⟨#[88]⟩],[.str ⟨#[102,40,104,40,88,41,44,89,41]⟩],[.str ⟨#[104,40,102,40,88,44,89,41,41]⟩]]],[.list [[.str ⟨#[104,40,104,40,88,41,41]⟩],[.str ⟨#[88]⟩],[.str ⟨#[104,40,107,40,88,41,41]⟩],[.str ⟨#[107,40,104,40,88,41,41]⟩]]],[.list [[.str ⟨#[102,40,88,44,89,41]⟩],[.str ⟨#[102,40,89,44,88,41]⟩]]],[.list [[.str ⟨#[102,40,102,40,88,44,89,41,44,90,41]⟩],[.str ⟨#[102,40,88,44,102,40,89,44,90,41,41]⟩],[.str ⟨#[102,40,97,44,88,41]⟩],[.str ⟨#[88]⟩],[.str ⟨#[102,40,88,44,97,41]⟩],[.str ⟨#[88]⟩]]],[.list [[.str ⟨#[104,40,104,40,104,40,88,41,41,41]⟩],[.str ⟨#[88]⟩],[.str ⟨#[104,40,104,40,104,40,104,40,104,40,88,41,41,41,41,41]⟩],[.str ⟨#[88]⟩]]],[.list [[.str ⟨#[97]⟩],[.str ⟨#[98]⟩],[.str ⟨#[104,40,97,41]⟩],[.str ⟨#[99]⟩],[.str ⟨#[104,40,98,41]⟩],[.str ⟨#[107,40,99,41]⟩]]],[.list [[.str ⟨#[107,40,104,40,88,41,41]⟩],[.str ⟨#[88]⟩],[.str ⟨#[104,40,107,40,88,41,41]⟩],[.str ⟨#[88]⟩]]],[.list [[.str ⟨#[102,40,88,44,88,41]⟩],[.str ⟨#[97]⟩],[.str ⟨#[102,40,97,44,88,41]⟩],[.str ⟨#[88]⟩]]]]:List (List SV))[k]?=some [.list (L.map CV)]→AW Tryz.prog 8 [AO m] (Be (Jg L)):=fun L hL hrow=>by
  refine Qw.ac fun C hC=>?_;unfold Jv;repeat' first|refine Gf hrow ?_|refine Mm fun K hK=>?_|refine Cg _ (p1) ?_
  refine IWP.ghost (AY.own 5 500 40 4 (xs:=([]:List Pr).map Ag) (by rfl) (by rfl) Fj (by rw[hC];decide)) ?_;refine IWP.loopD [7,9] (fun z s=>∃i acc,i≤L.length+1∧z=L.length+1-i∧acc.length≤i∧Jg L=acc++Jg (L.drop i)∧s.env 4=Bn L∧s.env 5=.one (.row 500 acc.length)∧s.env 6=AO i∧s.S 7=none∧s.S 9=none∧s.S 500=some (.arow 40 4 (acc.map Ag))∧∀j,1000≤j→s.S j=none) (L.length+1) ⟨0,[],Nat.zero_le _,rfl,Nat.le_refl _,rfl,rfl,rfl,rfl,rfl,rfl,rfl,?_⟩ ?_
  ·intro j hj;show AI _ _ _ _=_
   rw[AH _ (by omega)];rfl
  rintro z ⟨env,S⟩ ⟨i,acc,hi,rfl,hal,htot,e4,e5,e6,s7,s9,s500,sh⟩;simp only at e4 e5 e6 s7 s9 s500 sh;have hl:(acc.map Ag).length=acc.length:=by simp
  by_cases hlt:i+1<L.length
  ·have hlt':((i:Int)+1<L.length):=by omega
   obtain⟨a,ha⟩:=Aa (show i<L.length by omega);obtain⟨b,hb⟩:=Aa hlt;have hi0:((i:Int)+1).toNat=i+1:=by omega
   have hra:=Vd a;have hrb:=Vd b;unfold Pn at hra hrb;repeat' first|refine Gf (F12 e4 e5 e6 s7 s9 s500 hlt' ha hb hi0 @Ag.eq_1 hl) ?_|refine Mm fun K hK=>?_|refine Cg _ (hra) ?_|refine Cg _ (hrb) ?_
   refine AE ⟨L.length+1-(i+2),by omega,i+2,acc++[((He a).1,(He b).1)],by omega,rfl,by simp;omega,?_,?_⟩
   ·rw[htot,W5 ha hb,List.append_assoc];rfl
   ·simp only[go_sem,fN,seval,AS.drop,AT,AC.clears,AC.clear,AC.highs,AC.high,zD,AV.purge,AV.purges,AC.purge,AJ.purge,Nat.reduceBEq,eT,iR,e4,e5,e6,s7,s9,s500];refine⟨by congr 3,?_,fun j hj=>?_⟩
    ·rw[List.map_append];rfl
    ·have n7:(j=7)=False:=eq_false (by omega);have n9:(j=9)=False:=eq_false (by omega);have n500:(j=500)=False:=eq_false (by omega);simp[n7,n9,n500,sh j hj]
  ·have hlt':¬((i:Int)+1<L.length):=by omega
   rw[WR (by omega),List.append_nil]at htot;rw[htot];refine Gf (F6 e4 e5 e6 s500 hlt' hl) ?_;simp only[go_sem,fN,seval,AQ,AS.result,AB,AD,AM,s500,hl]
 match k,(show k<9 by omega) with
 | 0,_=>exact key (FU.getD 0 []) (by decide) rfl
 | 1,_=>exact key (FU.getD 1 []) (by decide) rfl
 | 2,_=>exact key (FU.getD 2 []) (by decide) rfl
 | 3,_=>exact key (FU.getD 3 []) (by decide) rfl
 | 4,_=>exact key (FU.getD 4 []) (by decide) rfl
 | 5,_=>exact key (FU.getD 5 []) (by decide) rfl
 | 6,_=>exact key (FU.getD 6 []) (by decide) rfl
 | 7,_=>exact key (FU.getD 7 []) (by decide) rfl
 | 8,_=>exact key (FU.getD 8 []) (by decide) rfl

def JT:IR :=
 (.seq (.ops [.i 2 (.mov (.c (.one (.full []))))]) (.seq (.ops [.i 4 (.buildFlat [.c (.one (.st (.str (ByteArray.mk (#[97]))))),.c (.one (.st (.str (ByteArray.mk (#[98]))))),.c (.one (.st (.str (ByteArray.mk (#[99]))))),.c (.one (.st (.str (ByteArray.mk (#[104]))))),.c (.one (.st (.str (ByteArray.mk (#[107]))))),.c (.one (.st (.str (ByteArray.mk (#[102]))))),.c (.one (.st (.str (ByteArray.mk (#[103])))))]),.i 5 (.buildFlat [.c (.one (.st (.str (ByteArray.mk (#[103]))))),.c (.one (.st (.str (ByteArray.mk (#[102]))))),.c (.one (.st (.str (ByteArray.mk (#[107]))))),.c (.one (.st (.str (ByteArray.mk (#[104]))))),.c (.one (.st (.str (ByteArray.mk (#[99]))))),.c (.one (.st (.str (ByteArray.mk (#[98]))))),.c (.one (.st (.str (ByteArray.mk (#[97])))))]),.i 6 (.buildFlat [.c (.one (.st (.str (ByteArray.mk (#[102]))))),.c (.one (.st (.str (ByteArray.mk (#[104])))))]),.i 7 (.buildFlat [.c (.one (.st (.str (ByteArray.mk (#[101]))))),.c (.one (.st (.str (ByteArray.mk (#[102]))))),.c (.one (.st (.str (ByteArray.mk (#[105])))))]),.i 8 (.buildFlat [.c (.one (.st (.str (ByteArray.mk (#[99]))))),.c (.one (.st (.str (ByteArray.mk (#[97]))))),.c (.one (.st (.str (ByteArray.mk (#[107]))))),.c (.one (.st (.str (ByteArray.mk (#[104]))))),.c (.one (.st (.str (ByteArray.mk (#[103]))))),.c (.one (.st (.str (ByteArray.mk (#[102])))))]),.i 9 (.buildSlice false 26 1 [.t 4,.t 5,.t 6,.c (.one (.full [])),.t 7,.t 8]),.m 3 9]) (.seq (.ops [.m 10 3,.m 11 0,.m 12 3,.i 13 (.len false (.t 12)),.i 14 (.call 9 [.t 11,.t 13]),.i 15 (.indexAddr 1 (.t 10) (.t 14)),.l 16 15,.m 2 16]) .ret)))
theorem Qv:OkF Tryz.prog 7 17 [] JT [.t 2]:=.of Tryz.func7 rfl rfl (by kernel_rfl) rfl

def O9:List (List ByteArray):=[[⟨#[97]⟩,⟨#[98]⟩,⟨#[99]⟩,⟨#[104]⟩,⟨#[107]⟩,⟨#[102]⟩,⟨#[103]⟩],[⟨#[103]⟩,⟨#[102]⟩,⟨#[107]⟩,⟨#[104]⟩,⟨#[99]⟩,⟨#[98]⟩,⟨#[97]⟩],[⟨#[102]⟩,⟨#[104]⟩],[],[⟨#[101]⟩,⟨#[102]⟩,⟨#[105]⟩],[⟨#[99]⟩,⟨#[97]⟩,⟨#[107]⟩,⟨#[104]⟩,⟨#[103]⟩,⟨#[102]⟩]]
theorem XB(m:Int)(hm:inR .i64 m):∃k:Nat,k<6∧AW Tryz.prog 7 [AO m] (Bn (O9.getD k [])):=by
 have r1:=HY m 6 (by omega);have p1:=Tz m 6 hm (by omega);obtain⟨k,e1⟩:∃k:Nat,Gr m 6=k:=⟨(Gr m 6).toNat,by omega⟩
 rw[e1]at p1 r1;have key:∀row:List ByteArray,[([.list [[.str ⟨#[97]⟩],[.str ⟨#[98]⟩],[.str ⟨#[99]⟩],[.str ⟨#[104]⟩],[.str ⟨#[107]⟩],[.str ⟨#[102]⟩],[.str ⟨#[103]⟩]]]:List SV),[.list [[.str ⟨#[103]⟩],[.str ⟨#[102]⟩],[.str ⟨#[107]⟩],[.str ⟨#[104]⟩],[.str ⟨#[99]⟩],[.str ⟨#[98]⟩],[.str ⟨#[97]⟩]]],[.list [[.str ⟨#[102]⟩],[.str ⟨#[104]⟩]]],[.list []],[.list [[.str ⟨#[101]⟩],[.str ⟨#[102]⟩],[.str ⟨#[105]⟩]]],[.list [[.str ⟨#[99]⟩],[.str ⟨#[97]⟩],[.str ⟨#[107]⟩],[.str ⟨#[104]⟩],[.str ⟨#[103]⟩],[.str ⟨#[102]⟩]]]][k]?=some [.list (row.map CV)]→AW Tryz.prog 7 [AO m] (Bn row):=fun row hrow=>by
  refine Qv.ac fun C hC=>?_;unfold JT;repeat' first|refine Gf hrow ?_|refine Mm fun K hK=>?_|refine Cg _ (p1) ?_
  simp only[go_sem,fN,seval,AQ,AS.result,AB,AD,AM]
 refine⟨k,by omega,?_⟩;match k,(show k<6 by omega) with
 | 0,_=>exact key _ rfl
 | 1,_=>exact key _ rfl
 | 2,_=>exact key _ rfl
 | 3,_=>exact key _ rfl
 | 4,_=>exact key _ rfl
 | 5,_=>exact key _ rfl
theorem Ou:∀k,k<6→EB (O9.getD k [])=0:=by decide +kernel

def ABv(cr:Nat→Nat→Option (Option (List Pr))):List (Nat×Nat)→List Pr→Option (List Pr×Int)
 | [],acc=>some (acc,0)
 | q::l,acc=>match cr q.1 q.2 with
  | none=>none
  | some none=>some ([],8)
  | some (some x)=>if 400<(acc++x).length then some ([],3) else ABv cr l (acc++x)
def AB0(f:Nat)(R:List Pr)(i j:Nat):Option (Option (List Pr)):=match R[i]?,R[j]? with
 | some a,some b=>TX f (DI 88 1 a) (DI 89 1 b) (decide (i=j))
 | _,_=>some none
def ABU(f:Nat)(R:List Pr):Option (List Pr×Int):=if R.length=0 then some ([],0) else ABv (AB0 f R) (ABz R.length 0 0) []
def ABp(f:Nat)(R:List Pr):Bool:=match ABU f R with
 | none=>false
 | some (l,e)=>decide (e=0)&&(let q:=AA_ R 200 l;q.1&&decide (q.2=0))
def YB(f:Nat)(row:List ByteArray)(eqs R:List Pr)(e:Int):Bool :=
 if e≠0 then R.isEmpty&&(decide (e=14)||decide (e=9)||decide (e=8)||decide (e=3))
 else decide (Bc R=0)&&ABp f R&&R.all (fun r=>paF row (r.1.size+r.2.size+1) r.1 r.2)&&!R.isEmpty&&eqs.all fun q=>(Y2 R q.1 q.2 200).1&&decide ((Y2 R q.1 q.2 200).2=0)
def NG(f:Nat)(row:List ByteArray)(eqs:List Pr):Bool:=match EZ f row 60 [] eqs with
 | none=>false
 | some (R,e)=>YB f row eqs R e
theorem WZ{f:Nat}{row:List ByteArray}{eqs:List Pr}(h:NG f row eqs=true){n:Nat}(hn:n≤60):∃R e,EZ f row n [] eqs=some (R,e)∧YB f row eqs R e=true:=by
 unfold NG at h;split at h
 ·cases h
 ·rename_i R e hc;rw[show 60=n+(60-n) by omega]at hc;rcases N2 n (60-n) [] eqs _ hc with h1|h1
  ·exact⟨R,e,h1,h⟩
  ·exact⟨[],9,h1,by rfl⟩

set_option maxRecDepth 1000000 in
theorem TT:∀k,k<8→∀j,j<6→NG 4000 (O9.getD j []) (ZE.getD (k+1) [])=true:=by decide +kernel

set_option maxRecDepth 1000000 in
theorem QA:∀j,j<6→NG 4000 (O9.getD j []) (ZE.getD 0 [])=true:=by decide +kernel

theorem UY{k:Nat}(hk:k<9){j:Nat}(hj:j<6):NG 4000 (O9.getD j []) (W9 k)=true:=by
 rw[QR k hk];cases k with
 | zero=>exact QA j hj
 | succ k=>exact TT k (by omega) j hj
theorem SO{k:Nat}(hk:k<9):Bj (W9 k)=0:=by
 have h:∀k,k<9→Bj (ZE.getD k [])=0:=by decide +kernel
 rw[QR k hk];exact h k hk

end Go.Proofs.YtbhnmjkmieiadaaGreatDoor
