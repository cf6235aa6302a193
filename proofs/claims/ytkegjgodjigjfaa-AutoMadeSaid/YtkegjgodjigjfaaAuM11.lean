/-
  Part 11 of the texts. Conditions: none.
-/
import Derived.Test.YtkegjgodjigjfaaAuM10
namespace Go.Proofs.Ytkegjgodjigjfaa
open Go Go.RowKit
set_option linter.unusedVariables false
set_option linter.unusedSimpArgs false
set_option maxHeartbeats 2000000
def auZ:Au:=⟨0,[],[]⟩
theorem QG:auZ.Good:=⟨Int.le_refl _,by simp [auZ],by simp [auZ],by simp [auZ]⟩
def J_:Nat→List J→List (KV × AV)
 | _,[]=>[]
 | k,j :: l=>(.i (bN j.1:Int),AK k) :: J_ (k + 1) l
abbrev OK (l:List J):AL:=.map (some (.int .u64)) (J_ 0 l)
theorem NY:∀ (l:List J) (k:Nat) (j:J),J_ k (l ++ [j])=J_ k l ++ [(.i (bN j.1:Int),AK ((k + l.length:Nat):Int))]
 | [],k,j=>by simp [J_]
 | x :: l,k,j=>by
  rw [List.cons_append,J_,NY l (k + 1) j,J_,List.cons_append,List.length_cons,show k + 1 + l.length=k + (l.length + 1) by omega]
theorem I0 {c:Nat}:∀ (l:List J) (k:Nat) (x:List Bool),(∀ j ∈ l,j.1.length=c)→x.length=c→Cf (J_ k l) (.i (bN x:Int))=if x ∈ l.map Prod.fst then some (AK ((k + (l.map Prod.fst).idxOf x:Nat):Int)) else none
 | [],k,x,_,_=>by simp [J_,Cf]
 | j :: l,k,x,hl,hx=>by
  have hj:=hl j (by simp)
  rw [J_,Cf]
  by_cases e:j.1=x
  ·rw [if_pos (by rw [e]),if_pos (by simp [e])]
   simp [e]
  ·have e2:¬ KV.i (bN j.1:Int)=KV.i (bN x:Int):=fun h=>e (LD (by omega) (by have:=KV.i.inj h;omega))
   have e3:¬ x=j.1:=fun h=>e h.symm
   rw [if_neg e2,I0 l (k + 1) x (fun j hj=>hl j (by simp [hj])) hx]
   simp only [List.map_cons,List.mem_cons,e3,false_or]
   split
   ·have h4:(j.1 :: l.map Prod.fst).idxOf x=(l.map Prod.fst).idxOf x + 1:=by
     rw [List.idxOf_cons,show (j.1 == x)=false from beq_eq_false_iff_ne.2 e]
     rfl
    rw [h4,show k + 1 + (l.map Prod.fst).idxOf x=k + ((l.map Prod.fst).idxOf x + 1) by omega]
   ·rfl
def prog (l:List Nat) (n k:Nat):List Nat:=l.take k ++ List.replicate (n - k) 0
theorem NF (l:List Nat) (n:Nat):prog l n 0=List.replicate n 0:=by simp [prog]
theorem O8 {l:List Nat} {n:Nat} (h:l.length=n):prog l n n=l:=by simp [prog,← h]
theorem IL {l:List Nat} {n k:Nat} (h:l.length=n) (hk:k≤n):(prog l n k).length=n:=by
 simp only [prog,List.length_append,List.length_take,List.length_replicate];omega
theorem JJ {l:List Nat} {n k v:Nat} (h:l.length=n) (hk:l[k]?=some v):(prog l n k).set k v=prog l n (k + 1):=by
 have hlt:=Cw hk
 unfold prog
 rw [show n - k=(n - (k + 1)) + 1 by omega,List.replicate_succ,List.set_append_right _ _ (by simp;omega),AQ hk]
 simp [Nat.min_eq_left (Nat.le_of_lt hlt)]
theorem TG {l:List Nat} {n k:Nat} (h:l.length=n) (hk:l[k]?=some 0):prog l n (k + 1)=prog l n k:=by
 rw [← JJ h hk]
 have hlt:=Cw hk
 unfold prog
 rw [show n - k=(n - (k + 1)) + 1 by omega,List.replicate_succ,List.set_append_right _ _ (by simp;omega)]
 simp [Nat.min_eq_left (Nat.le_of_lt hlt)]
theorem K9 (n:Nat):Ak (List.replicate n 0)=List.replicate n [.int .i64 0]:=by simp [Ak]
def HJ:Nat→List ByteArray→List (KV × AV)
 | _,[]=>[]
 | k,n :: l=>(.s n,AK k) :: HJ (k + 1) l
abbrev Rh (l:List ByteArray):AL:=.map none (HJ 0 l)
theorem Ka:∀ (l:List ByteArray) (k:Nat),(HJ k l).length=l.length
 | [],_=>rfl
 | n :: l,k=>by rw [HJ,List.length_cons,List.length_cons,Ka l]
theorem FA:∀ (l:List ByteArray) (k:Nat) (n:ByteArray),Cf (HJ k l) (.s n)=if Cm l n < l.length then some (AK ((k + Cm l n:Nat):Int)) else none
 | [],k,n=>by simp [HJ,Cf,Cm]
 | x :: l,k,n=>by
  rw [HJ,Cf,Cm]
  by_cases e:x=n
  ·rw [if_pos (congrArg KV.s e),if_pos e]
   simp
  ·rw [if_neg (fun h=>e (KV.s.inj h)),if_neg e,FA l (k + 1) n,List.length_cons]
   by_cases h:Cm l n < l.length
   ·rw [if_pos h,if_pos (by omega),show k + 1 + Cm l n=k + (Cm l n + 1) by omega]
   ·rw [if_neg h,if_neg (by omega)]
theorem Mm:∀ (l:List ByteArray) (k:Nat) (n:ByteArray),HJ k (l ++ [n])=HJ k l ++ [(.s n,AK ((k + l.length:Nat):Int))]
 | [],k,n=>by simp [HJ]
 | x :: l,k,n=>by
  rw [List.cons_append,HJ,Mm l (k + 1) n,HJ,List.cons_append,List.length_cons,show k + 1 + l.length=k + (l.length + 1) by omega]
theorem MV {l:List ByteArray} {n:ByteArray} (h:¬ Cm l n < l.length):Hi (HJ 0 l) (.s n) (AK l.length)=HJ 0 (Ie l n):=by
 rw [Ga (by rw [FA,if_neg h]),show Ie l n=l ++ [n] from if_neg h,Mm,Nat.zero_add]
theorem Ps (l m:List Nat):Bo l ++ Bo m=Bo (l ++ m):=by
 apply ByteArray.ext
 simp [Bo]
theorem Mq (l:List Nat):(Bo l).size=l.length:=by
 show (l.map _).toArray.size=_
 simp
theorem Lt {p:Nat} (h:p < 100):Utf8.encode ((p:Int) + 1)=Bo [p]:=by
 have hc:(if Utf8.valid ((p:Int) + 1)=true then ((p:Int) + 1).toNat else Utf8.runeError)=p + 1:=by
  rw [if_pos (by unfold Utf8.valid;simp;omega)]
  omega
 unfold Utf8.encode
 simp only [hc]
 rw [if_pos (by omega)]
 rfl
theorem Mj {α:Type} {f:List Nat→α→List Nat} {c:Nat} (hf:∀ key x,(f key x).length≤key.length + c):∀ (l:List α) (key:List Nat),(l.foldl f key).length≤key.length + l.length * c
 | [],key=>by simp
 | x :: l,key=>by
  have h1:=Mj hf l (f key x)
  have h2:=hf key x
  simp only [List.foldl_cons,List.length_cons,Nat.add_mul,Nat.one_mul]
  omega
theorem HL {α:Type} {f:List Nat→α→List Nat} {c:Nat}:∀ (l:List α) (key:List Nat),(∀ key,∀ x ∈ l,(f key x).length≤key.length + c)→(l.foldl f key).length≤key.length + l.length * c
 | [],key,_=>by simp
 | x :: l,key,hf=>by
  have h1:=HL l (f key x) fun key y hy=>hf key y (by simp [hy])
  have h2:=hf key x (by simp)
  simp only [List.foldl_cons,List.length_cons,Nat.add_mul,Nat.one_mul]
  omega
theorem LS {n m:Nat} {l:List Nat} (h:l ∈ Cx n m):l.length≤2:=by
 unfold Cx at h
 obtain ⟨k,_,rfl⟩:=List.mem_map.1 h
 unfold Bf
 split <;> simp
theorem OX {a:Au} {R:List J} {part:List Nat} {n:ByteArray} {i:Nat} (key l:List Nat):(HV a R part n i key l).length=key.length + l.length:=by simp [HV]
theorem Pp {n m:Nat} (hn:n≤64):(Cx n m).length≤4096:=by
 rw [Cx,List.length_map,List.length_range]
 unfold Dq
 split
 ·omega
 ·omega
 ·have:=Nat.mul_le_mul hn hn
  omega
theorem RU {s:AS} {ds:List Nat} (hds:∀ d ∈ ds,d < 1000) {T:AB} (hT:Am T) (h:∀ i,1000≤i→s.S i=T i):∀ i,1000≤i→(s.drop ds).S i=T i:=fun i hi=>by
 show AY ds s.S i=T i
 unfold AY
 rw [Cp hds hi,h i hi]
 cases hb:T i with
 | none=>rfl
 | some b=>simp [AL.purge_high hds (hT i b hb).2]
theorem W8 {l:List Nat} {c x:Nat} (h:l[c]?=some x):l.set c x=l:=by
 refine List.ext_getElem? fun j=>?_
 by_cases e:c=j
 ·subst e
  rw [List.getElem?_set_self (Cw h),h]
 ·rw [List.getElem?_set_ne e]
def Fj (S:AB) (key:List Nat):AB:=AD (upS S) 1017 (some (.box 9 [.st (.str (Bo key))]))
theorem D2 {S:AB} {key:List Nat} {i:Nat} (h:i ≠ 1017):Fj S key i=upS S i:=AF _ h _
theorem Hn {S:AB} {key:List Nat}:Am (Fj S key):=Aq (E_ S) (by decide) rfl
theorem Q_ {S:AB} {key:List Nat}:dnS (Fj S key)=AD S 17 (some (.box 9 [.st (.str (Bo key))])):=by
 unfold Fj
 rw [show (1017:Nat)=up1 17 from rfl,GV,Kn]
 rfl
theorem W4 (a:Au) (ha:a.may 8 40=0) (hsm:Ar a=true) (hl:a.last.length≤100000) (T:Nat) (hT:nK a (Ao [a]) (BI a auZ (Ao [a])) T=Ct a (Ao [a]) (BI a auZ (Ao [a])) T) (hmin:∀ t,t < T→¬ nK a (Ao [a]) (BI a auZ (Ao [a])) t=Ct a (Ao [a]) (BI a auZ (Ao [a])) t) :
  AU Try.prog 13 [aAu a] (.tup [AK (nK a (Ao [a]) (BI a auZ (Ao [a])) T:Nat),AK 0]):=by
 have ga:=Au.may_good ha
 obtain ⟨a1,a2⟩:=DM ha
 have h3:=Al hsm
 have cC:=BV a
 rw [ha] at cC
 have cS:=N7 [a] (by simp) (fun c hc=>by rw [List.mem_singleton.1 hc];omega) (fun c hc m hm=>by rw [List.mem_singleton.1 hc] at hm;have:=a2 m hm;omega)
 rw [show DI [a]=0 from if_pos (by simp [hsm])] at cS
 have cY:=My [a] (by simp) (fun c hc=>by rw [List.mem_singleton.1 hc];omega) (fun c hc m hm=>by rw [List.mem_singleton.1 hc] at hm;have:=a2 m hm;omega)
 have hs2:∀ s ∈ Ao [a],s.2≤2:=fun s hs=>by
  obtain ⟨c,hc,m,hm,rfl⟩:=DF.1 hs
  rw [List.mem_singleton.1 hc] at hm
  unfold Ar at hsm
  simp only [Bool.and_eq_true,List.all_eq_true,decide_eq_true_eq] at hsm
  exact hsm.2 m hm
 have hsl:(Ao [a]).length≤40:=by
  have:=EN (N_ (JL ([a].flatMap fun a=>a.moves.map Mv.sym))) (m:=[a].flatMap fun a=>a.moves.map Mv.sym) (fun x hx=>FI.1 hx)
  have e:([a].flatMap fun a=>a.moves.map Mv.sym).length=a.moves.length:=by simp
  rw [e] at this
  exact Nat.le_trans this a1
 have cR:=Sc a auZ ga QG h3 (by decide) (by omega) (by decide) (Ao [a]) hs2 (by omega)
 have hok:=Gn (a:=a) (b:=auZ) hs2
 have hlen:=hok.len h3 (by decide)
 have hclosed:=fun {s}=>Eo (a:=a) (b:=auZ) hs2 h3 (by decide) (s:=s)
 have cL:=IE a ga (by omega) hl
 have hfin:=fun x=>KT ga x
 generalize Ao [a]=syms at *
 generalize BI a auZ syms=R at *
 have hx:=fun j (hj:j ∈ R)=>(hok.gen j hj).len
 have hfst:(R.map Prod.fst).Nodup:=by
  have:=hok.nod
  rw [List.nodup_iff_pairwise_ne] at this ⊢
  rw [List.pairwise_map]
  rw [List.pairwise_iff_getElem] at this ⊢
  intro i j hi hj hij e
  refine this i j hi hj hij (Prod.ext e ?_)
  have p:=(hx _ (List.getElem_mem hi)).2
  have q:=(hx _ (List.getElem_mem hj)).2
  have p0:R[i].2=[]:=List.eq_nil_of_length_eq_zero p
  have q0:R[j].2=[]:=List.eq_nil_of_length_eq_zero q
  rw [p0,q0]
 have hRl:(R.map EC).length=R.length:=by simp
 refine Es.acT fun C hC htop=>?_
 unfold DX
 repeat' (first | (with_reducible first | refine W ?_ | refine Z0 ?_ | ((first | refine Wo fun K hK=>?_ | refine Wp ?_ | refine Wq ?_ | refine Wr ?_);(try simp only [go_sem,fN,seval,eT,iR,dT,dF,nL]);(repeat refine Ai ?_);(try (refine hK _ ?_;clear hK K));try refine iC ?_)) | refine Cg _ (cC) ?_ | refine Cg _ (cS) ?_ | refine Cg _ (cY) ?_ | refine Cg _ (cR) ?_)
 refine IWP.loopD [9] (fun q s=>∃ k,k≤R.length∧q=R.length - k∧s.env 1=.one (.ptr 1 1 0 0)∧s.env 5=DY syms∧s.env 6=.one (.ptr 6 1 0 0)∧s.env 7=.one (.ptr 7 1 0 0)∧s.env 46=aJs R∧s.env 47=AK R.length∧s.env 48=AK k∧s.S 1=some (AE a)∧s.S 6=some (.box 61 [.st (.list (R.map EC))])∧s.S 7=some (.box 70 [.mptr 45])∧s.S 45=some (OK (R.take k)) ∧
  ∀ i ∈ [9,10,12,14,15,16,17,19,60,78,81,501,502],s.S i=none) R.length ⟨0,Nat.zero_le _,rfl,rfl,rfl,rfl,rfl,by simp only [go_sem,fN,seval,eT,iR],by simp only [go_sem,fN,seval,eT,iR,hRl],rfl,by simp only [go_sem,fN,seval,eT,iR];rfl,by simp only [go_sem,fN,seval,eT,iR],by simp only [go_sem,fN,seval,eT,iR],by simp only [go_sem,fN,seval,eT,iR];rfl,by simp only [go_sem,fN,seval,eT,iR]⟩ ?_
 rintro q ⟨env,S⟩ ⟨k,hk,rfl,e1,e5,e6,e7,e46,e47,e48,s1,s6,s7,s45,sn⟩
 simp only [List.forall_mem_cons,List.not_mem_nil,false_implies,implies_true,and_true] at sn
 obtain ⟨s9,s10,s12,s14,s15,s16,s17,s19,s60,s78,s81,s501,s502⟩:=sn
 simp only at e1 e5 e6 e7 e46 e47 e48 s1 s6 s7 s45 s9 s10 s12 s14 s15 s16 s17 s19 s60 s78 s81 s501 s502
 by_cases hlt:(k:Int) < R.length
 ·obtain ⟨j,hj⟩:=Ab (show k < R.length by omega)
  have hjm:=AM hj
  have hnew:¬ j.1 ∈ (R.take k).map Prod.fst:=fun h=>by
   obtain ⟨i,hi⟩:=List.getElem?_of_mem h
   have hik:i < k:=by have:=(List.getElem?_eq_some_iff.1 hi).1;simp at this;omega
   have e1:(R.map Prod.fst)[i]?=some j.1:=by
    rw [List.map_take,List.getElem?_take_of_lt hik] at hi
    exact hi
   have e2:(R.map Prod.fst)[k]?=some j.1:=by rw [List.getElem?_map,hj];rfl
   rw [List.nodup_iff_pairwise_ne,List.pairwise_iff_getElem] at hfst
   have p1:=(List.getElem?_eq_some_iff.1 e1)
   have p2:=(List.getElem?_eq_some_iff.1 e2)
   exact hfst i k p1.1 p2.1 hik (by rw [p1.2,p2.2])
  have hput:Hi (J_ 0 (R.take k)) (.i (bN j.1:Int)) (AK k)=J_ 0 (R.take (k + 1)):=by
   rw [Ga (by rw [I0 (c:=a.states.toNat) _ _ _ (fun i hi=>(hx i (List.mem_of_mem_take hi)).1) (hx j hjm).1,if_neg hnew]),AQ hj,NY]
   simp [Nat.min_eq_left hk]
  repeat' with_reducible first | refine W ?_ | refine Z0 ?_ | ((first | refine Wo fun K hK=>?_ | refine Wp ?_ | refine Wq ?_ | refine Wr ?_);(try simp only [go_sem,fN,seval,eT,iR,e1,e5,e6,e7,e46,e47,e48,s1,s6,s7,s45,s9,s10,s12,s14,s15,s16,s17,s19,s60,s78,s81,s501,s502,hlt,hj,EC,Bu,EF,KV.of,hput,dT,dF,nL]);(repeat refine Ai ?_);(try (refine hK _ ?_;clear hK K));try refine iC ?_)
  refine AA ⟨R.length - (k + 1),by omega,k + 1,by omega,rfl,?_⟩
  simp only [go_sem,fN,seval,AS.drop,AY,AC.clears,AC.clear,AC.highs,AC.high,Bool.not_false,Bool.true_and,Bool.and_self,AV.purge,AV.purges,AC.purge,AL.purge,List.contains_cons,List.contains_nil,Nat.reduceBEq,Bool.or_self,Bool.or_false,Bool.false_or,Bool.or_true,eT,iR,e1,e5,e6,e7,e46,e47,e48,s1,s6,s7,s45,s9,s10,s12,s14,s15,s16,s17,s19,s60,s78,s81,s501,s502,AE]
  rfl
 have hke:k=R.length:=by omega
 rw [hke,List.take_length] at s45
 repeat' with_reducible first | refine W ?_ | refine Z0 ?_ | ((first | refine Wo fun K hK=>?_ | refine Wp ?_ | refine Wq ?_ | refine Wr ?_);(try simp only [go_sem,fN,seval,eT,iR,e1,e5,e6,e7,e46,e47,e48,s6,hlt,hRl,s60,s10,dT,dF,nL]);(repeat refine Ai ?_);(try (refine hK _ ?_;clear hK K));try refine iC ?_)
 have hp0:=NU (a:=a) (R:=R)
 refine IWP.loopD [12] (fun q s=>∃ k,k≤R.length∧q=R.length - k∧s.env 1=.one (.ptr 1 1 0 0)∧s.env 5=DY syms∧s.env 6=.one (.ptr 6 1 0 0)∧s.env 7=.one (.ptr 7 1 0 0)∧s.env 10=.one (.ptr 10 1 0 0)∧s.env 61=aJs R∧s.env 62=AK R.length∧s.env 63=AK k∧s.S 1=some (AE a)∧s.S 6=some (.box 61 [.st (.list (R.map EC))])∧s.S 7=some (.box 70 [.mptr 45])∧s.S 45=some (OK R)∧s.S 10=some (.box 23 [.row 60 R.length])∧s.S 60=some (.mrow 3 1 (Ak (prog (Ek a R) R.length k))) ∧
  ∀ i ∈ [12,14,15,16,17,19,78,81,501,502],s.S i=none) R.length ⟨0,Nat.zero_le _,rfl,e1,e5,e6,e7,rfl,by simp only [go_sem,fN,seval,eT,iR],by simp only [go_sem,fN,seval,eT,iR,hRl],rfl,by simp only [go_sem,fN,seval,eT,iR,s1],by simp only [go_sem,fN,seval,eT,iR,s6],by simp only [go_sem,fN,seval,eT,iR,s7],by simp only [go_sem,fN,seval,eT,iR,s45],by simp only [go_sem,fN,seval,eT,iR,hRl],by simp only [go_sem,fN,seval,eT,iR,hRl];rw [NF,K9],by simp only [go_sem,fN,seval,eT,iR,s12,s14,s15,s16,s17,s19,s78,s81,s501,s502]⟩ ?_
 clear e1 e5 e6 e7 e46 e47 e48 s1 s6 s7 s45 s9 s10 s12 s14 s15 s16 s17 s19 s60 s78 s81 s501 s502 hlt
 rintro q ⟨env,S⟩ ⟨k,hk,rfl,e1,e5,e6,e7,e10,e61,e62,e63,s1,s6,s7,s45,s10,s60,sn⟩
 simp only [List.forall_mem_cons,List.not_mem_nil,false_implies,implies_true,and_true] at sn
 obtain ⟨s12,s14,s15,s16,s17,s19,s78,s81,s501,s502⟩:=sn
 simp only at e1 e5 e6 e7 e10 e61 e62 e63 s1 s6 s7 s45 s10 s60 s12 s14 s15 s16 s17 s19 s78 s81 s501 s502
 have hpl:(Ak (prog (Ek a R) R.length k)).length=R.length:=by rw [Bp,IL hp0 hk]
 by_cases hlt:(k:Int) < R.length
 ·obtain ⟨j,hj⟩:=Ab (show k < R.length by omega)
  have hpk:(Ek a R)[k]?=some (if a.fin j.1=true then 1 else 0):=by rw [Ek,List.getElem?_map,hj];rfl
  have hkl:k < (Ak (prog (Ek a R) R.length k)).length:=by omega
  have hkR:k < R.length:=by omega
  have fj:=hfin j.1
  by_cases hA:((bN j.1 &&& bN a.lastB:Nat):Int)=0
  ·have hA':¬ a.fin j.1=true:=fun hx=>by have:=fj.2 hx;omega
   rw [if_neg hA'] at hpk
   repeat' (first | (with_reducible first | refine W ?_ | refine Z0 ?_ | ((first | refine Wo fun K hK=>?_ | refine Wp ?_ | refine Wq ?_ | refine Wr ?_);(try simp only [go_sem,fN,seval,eT,iR,e1,e5,e6,e7,e10,e61,e62,e63,s1,s6,s7,s45,s10,s60,s12,s14,s15,s16,s17,s19,s78,s81,s501,s502,AE,hlt,hj,EC,HG,IntKind.bits,hA,Int.toNat_natCast,dT,dF,nL]);(repeat refine Ai ?_);(try (refine hK _ ?_;clear hK K));try refine iC ?_)) | refine Cg _ (cL) ?_)
   refine AA ⟨R.length - (k + 1),by omega,k + 1,by omega,rfl,?_⟩
   rw [TG hp0 hpk]
   simp only [go_sem,fN,seval,AS.drop,AY,AC.clears,AC.clear,AC.highs,AC.high,Bool.not_false,Bool.true_and,Bool.and_self,AV.purge,AV.purges,AC.purge,AL.purge,List.contains_cons,List.contains_nil,Nat.reduceBEq,Bool.or_self,Bool.or_false,Bool.false_or,Bool.or_true,eT,iR,e1,e5,e6,e7,e10,e61,e62,e63,s1,s6,s7,s45,s10,s60,s12,s14,s15,s16,s17,s19,s78,s81,s501,s502,AE]
   rfl
  ·have hA':a.fin j.1=true:=fj.1 (by omega)
   rw [if_pos hA'] at hpk
   have hset:(Ak (prog (Ek a R) R.length k)).set k [.int .i64 1]=Ak (prog (Ek a R) R.length (k + 1)):=by
    rw [← JJ hp0 hpk]
    exact D5 _ k 1
   obtain ⟨z,hz⟩:=Ab (show k < (prog (Ek a R) R.length k).length by rw [IL hp0 hk];omega)
   have hz':=CK hz
   repeat' (first | (with_reducible first | refine W ?_ | refine Z0 ?_ | ((first | refine Wo fun K hK=>?_ | refine Wp ?_ | refine Wq ?_ | refine Wr ?_);(try simp only [go_sem,fN,seval,eT,iR,e1,e5,e6,e7,e10,e61,e62,e63,s1,s6,s7,s45,s10,s60,s12,s14,s15,s16,s17,s19,s78,s81,s501,s502,AE,hlt,hj,EC,HG,IntKind.bits,hA,Int.toNat_natCast,hpl,hkl,hkR,hz',hset,dT,dF,nL]);(repeat refine Ai ?_);(try (refine hK _ ?_;clear hK K));try refine iC ?_)) | refine Cg _ (cL) ?_)
   refine AA ⟨R.length - (k + 1),by omega,k + 1,by omega,rfl,?_⟩
   simp only [go_sem,fN,seval,AS.drop,AY,AC.clears,AC.clear,AC.highs,AC.high,Bool.not_false,Bool.true_and,Bool.and_self,AV.purge,AV.purges,AC.purge,AL.purge,List.contains_cons,List.contains_nil,Nat.reduceBEq,Bool.or_self,Bool.or_false,Bool.false_or,Bool.or_true,eT,iR,e1,e5,e6,e7,e10,e61,e62,e63,s1,s6,s7,s45,s10,s60,s12,s14,s15,s16,s17,s19,s78,s81,s501,s502,AE]
   rfl
 have hke:k=R.length:=by omega
 rw [hke,O8 hp0] at s60
 repeat' with_reducible first | refine W ?_ | refine Z0 ?_ | ((first | refine Wo fun K hK=>?_ | refine Wp ?_ | refine Wq ?_ | refine Wr ?_);(try simp only [go_sem,fN,seval,eT,iR,e1,e5,e6,e7,e10,e61,e62,e63,hlt,dT,dF,nL]);(repeat refine Ai ?_);(try (refine hK _ ?_;clear hK K));try refine iC ?_)
 refine IWP.loopD [78,81] (fun q s=>∃ t,t≤T∧q=T + 1 - t∧s.env 1=.one (.ptr 1 1 0 0)∧s.env 5=DY syms∧s.env 6=.one (.ptr 6 1 0 0)∧s.env 7=.one (.ptr 7 1 0 0)∧s.env 10=.one (.ptr 10 1 0 0)∧s.env 13=AK (Ct a syms R t:Nat)∧s.S 1=some (AE a)∧s.S 6=some (.box 61 [.st (.list (R.map EC))])∧s.S 7=some (.box 70 [.mptr 45])∧s.S 45=some (OK R)∧s.S 10=some (.box 23 [.row 60 R.length])∧s.S 60=some (.mrow 3 1 (Ak (A0 a syms R t))) ∧
  ∀ i ∈ [16,17,19,78,81,501,502],s.S i=none) (T + 1) ⟨0,Nat.zero_le _,rfl,e1,e5,e6,e7,e10,rfl,s1,s6,s7,s45,s10,s60,by simp only [go_sem,fN,seval,eT,iR,s16,s17,s19,s78,s81,s501,s502]⟩ ?_
 clear e1 e5 e6 e7 e10 e61 e62 e63 s1 s6 s7 s45 s10 s12 s14 s15 s16 s17 s19 s60 s78 s81 s501 s502 hlt hke
 rintro q ⟨env,S⟩ ⟨t,ht,rfl,e1,e5,e6,e7,e10,e13,s1,s6,s7,s45,s10,s60,sn⟩
 simp only [List.forall_mem_cons,List.not_mem_nil,false_implies,implies_true,and_true] at sn
 obtain ⟨s16,s17,s19,s78,s81,s501,s502⟩:=sn
 simp only at e1 e5 e6 e7 e10 e13 s1 s6 s7 s45 s10 s60 s16 s17 s19 s78 s81 s501 s502
 have hnK:nK a syms R t=(Bi a syms R (A0 a syms R t) R.length).length:=rfl
 have hnl:nK a syms R t≤R.length:=D4
 have hpe:∀ i,(A0 a syms R t).getD i 0≤R.length:=fun i=>Fy i t
 have hplen:(A0 a syms R t).length=R.length:=Su t
 have hnext:A0 a syms R (t + 1)=fresh a syms R (A0 a syms R t):=rfl
 have hprev:Ct a syms R (t + 1)=nK a syms R t:=rfl
 obtain ⟨part,hpart⟩:∃ part,A0 a syms R t=part:=⟨_,rfl⟩
 rw [hpart] at s60 hnK hpe hplen hnext
 have hfl:=JF (a:=a) (syms:=syms) (R:=R) (part:=part)
 have hpel:(Ak part).length=R.length:=by rw [Bp,hplen]
 repeat' with_reducible first | refine W ?_ | refine Z0 ?_ | ((first | refine Wo fun K hK=>?_ | refine Wp ?_ | refine Wq ?_ | refine Wr ?_);(try simp only [go_sem,fN,seval,eT,iR,e1,e5,e6,e7,e10,e13,s1,s6,s7,s45,s10,s60,s16,s17,s19,s78,s81,s501,s502,hRl,dT,dF,nL]);(repeat refine Ai ?_);(try (refine hK _ ?_;clear hK K));try refine iC ?_)
 refine IWP.loopD [16,17] (fun q s=>∃ i,i≤R.length∧q=R.length - i∧s.env 1=.one (.ptr 1 1 0 0)∧s.env 5=DY syms∧s.env 6=.one (.ptr 6 1 0 0)∧s.env 7=.one (.ptr 7 1 0 0)∧s.env 10=.one (.ptr 10 1 0 0)∧s.env 13=AK (Ct a syms R t:Nat)∧s.env 14=.one (.mptr 78)∧s.env 15=.one (.row 81 R.length)∧s.env 83=AK R.length∧s.env 84=AK i∧s.S 1=some (AE a)∧s.S 6=some (.box 61 [.st (.list (R.map EC))])∧s.S 7=some (.box 70 [.mptr 45])∧s.S 45=some (OK R)∧s.S 10=some (.box 23 [.row 60 R.length])∧s.S 60=some (.mrow 3 1 (Ak part)) ∧
  s.S 78=some (Rh (Bi a syms R part i))∧s.S 81=some (.mrow 3 1 (Ak (prog (fresh a syms R part) R.length i)))∧∀ i ∈ [16,17,19,501,502],s.S i=none) R.length
  ⟨0,Nat.zero_le _,rfl,e1,e5,e6,e7,e10,e13,rfl,rfl,by simp only [go_sem,fN,seval,eT,iR,hRl],rfl,by simp only [go_sem,fN,seval,eT,iR,s1],by simp only [go_sem,fN,seval,eT,iR,s6],by simp only [go_sem,fN,seval,eT,iR,s7],by simp only [go_sem,fN,seval,eT,iR,s45],by simp only [go_sem,fN,seval,eT,iR,s10],by simp only [go_sem,fN,seval,eT,iR,s60],by simp only [go_sem,fN,seval,eT,iR];rfl,by simp only [go_sem,fN,seval,eT,iR,hRl];rw [NF,K9],by simp only [go_sem,fN,seval,eT,iR,s16,s17,s19,s501,s502]⟩ ?_
 ·clear e1 e5 e6 e7 e10 e13 s1 s6 s7 s45 s10 s16 s17 s19 s60 s78 s81 s501 s502
  rintro q ⟨env,S⟩ ⟨i,hi,rfl,e1,e5,e6,e7,e10,e13,e14,e15,e83,e84,s1,s6,s7,s45,s10,s60,s78,s81,sn⟩
  simp only [List.forall_mem_cons,List.not_mem_nil,false_implies,implies_true,and_true] at sn
  obtain ⟨s16,s17,s19,s501,s502⟩:=sn
  simp only at e1 e5 e6 e7 e10 e13 e14 e15 e83 e84 s1 s6 s7 s45 s10 s60 s78 s81 s16 s17 s19 s501 s502
  have hprl:(Ak (prog (fresh a syms R part) R.length i)).length=R.length:=by rw [Bp,IL hfl hi]
  by_cases hlt:(i:Int) < R.length
  ·have hiR:i < R.length:=by omega
   obtain ⟨p,hp⟩:=Ab (show i < part.length by omega)
   have hp':=CK hp
   have hpd:part.getD i 0=p:=by rw [List.getD_eq_getElem?_getD,hp];rfl
   have hple:p≤64:=by have:=hpe i;omega
   have henc:=Lt (p:=p) (by omega)
   have hi32:inR .i32 ((p:Int) + 1):=⟨by show (-2147483648:Int)≤_;omega,by show _≤(2147483647:Int);omega⟩
   repeat' with_reducible first | refine W ?_ | refine Z0 ?_ | ((first | refine Wo fun K hK=>?_ | refine Wp ?_ | refine Wq ?_ | refine Wr ?_);(try simp only [go_sem,fN,seval,eT,iR,e1,e5,e6,e7,e10,e13,e14,e15,e83,e84,s1,s6,s7,s45,s10,s60,s78,s81,s16,s17,s19,s501,s502,hlt,hiR,hp',hpel,hi32,henc,dT,dF,nL]);(repeat refine Ai ?_);(try (refine hK _ ?_;clear hK K));try refine iC ?_)
   have hsig0:[p]=[part.getD i 0]:=by rw [hpd]
   have hbound:∀ (key:List Nat) (sy:Sym),(L2 a R part i key sy).length≤key.length + 8192:=fun key sy=>by
    have h1:=HL (f:=HV a R part sy.1 i) (c:=2) (Cx R.length sy.2) key fun key l hl=>by
     rw [OX]
     have:=LS hl
     omega
    have h2:=Pp (n:=R.length) (m:=sy.2) hlen
    have h3:(Cx R.length sy.2).length * 2≤4096 * 2:=Nat.mul_le_mul_right _ h2
    exact Nat.le_trans h1 (by omega)
   refine IWP.loopD [19,501,502] (fun q s=>∃ k,k≤syms.length∧q=syms.length - k∧s.env 1=.one (.ptr 1 1 0 0)∧s.env 5=DY syms∧s.env 6=.one (.ptr 6 1 0 0)∧s.env 7=.one (.ptr 7 1 0 0)∧s.env 10=.one (.ptr 10 1 0 0)∧s.env 13=AK (Ct a syms R t:Nat)∧s.env 14=.one (.mptr 78)∧s.env 15=.one (.row 81 R.length)∧s.env 16=.one (.ptr 16 1 0 0)∧s.env 17=.one (.ptr 17 1 0 0)∧s.env 83=AK R.length∧s.env 84=AK i∧s.env 94=DY syms∧s.env 95=AK syms.length∧s.env 96=AK k ∧
    s.S 1=some (AE a)∧s.S 6=some (.box 61 [.st (.list (R.map EC))])∧s.S 7=some (.box 70 [.mptr 45])∧s.S 45=some (OK R)∧s.S 10=some (.box 23 [.row 60 R.length])∧s.S 60=some (.mrow 3 1 (Ak part))∧s.S 78=some (Rh (Bi a syms R part i))∧s.S 81=some (.mrow 3 1 (Ak (prog (fresh a syms R part) R.length i)))∧s.S 16=some (.box 3 [.st (.int .i64 i)])∧s.S 17=some (.box 9 [.st (.str (Bo ((syms.take k).foldl (L2 a R part i) [p])))])∧∀ i ∈ [19,501,502],s.S i=none) syms.length
    ⟨0,Nat.zero_le _,rfl,e1,e5,e6,e7,e10,e13,e14,e15,rfl,rfl,e83,e84,by simp only [go_sem,fN,seval,eT,iR,e5],by simp only [go_sem,fN,seval,eT,iR],rfl,by simp only [go_sem,fN,seval,eT,iR,s1],by simp only [go_sem,fN,seval,eT,iR,s6],by simp only [go_sem,fN,seval,eT,iR,s7],by simp only [go_sem,fN,seval,eT,iR,s45],by simp only [go_sem,fN,seval,eT,iR,s10],by simp only [go_sem,fN,seval,eT,iR,s60],by simp only [go_sem,fN,seval,eT,iR,s78],by simp only [go_sem,fN,seval,eT,iR,s81],by simp only [go_sem,fN,seval,eT,iR],by (simp only [go_sem,fN,seval,eT,iR];rfl),by simp only [go_sem,fN,seval,eT,iR,s19,s501,s502]⟩ ?_
   clear e1 e5 e6 e7 e10 e13 e14 e15 e83 e84 s1 s6 s7 s45 s10 s60 s78 s81 s16 s17 s19 s501 s502
   rintro q ⟨env,S⟩ ⟨k,hk,rfl,e1,e5,e6,e7,e10,e13,e14,e15,e16,e17,e83,e84,e94,e95,e96,s1,s6,s7,s45,s10,s60,s78,s81,s16,s17,sn⟩
   simp only [List.forall_mem_cons,List.not_mem_nil,false_implies,implies_true,and_true] at sn
   obtain ⟨s19,s501,s502⟩:=sn
   simp only at e1 e5 e6 e7 e10 e13 e14 e15 e16 e17 e83 e84 e94 e95 e96 s1 s6 s7 s45 s10 s60 s78 s81 s16 s17 s19 s501 s502
   by_cases hks:(k:Int) < syms.length
   ·obtain ⟨sy,hsk⟩:=Ab (show k < syms.length by omega)
    have hsm:=AM hsk
    have hs2':=hs2 sy hsm
    have hfold:(syms.take (k + 1)).foldl (L2 a R part i) [p]=L2 a R part i ((syms.take k).foldl (L2 a R part i) [p]) sy:=by
     rw [AQ hsk,List.foldl_append]
     rfl
    have hkey0:=Mj hbound (syms.take k) [p]
    rw [List.length_take,Nat.min_eq_left hk] at hkey0
    obtain ⟨key,hkey⟩:∃ key,(syms.take k).foldl (L2 a R part i) [p]=key:=⟨_,rfl⟩
    rw [hkey] at s17 hfold hkey0
    have hkey1:key.length≤400000:=by
     have:k * 8192≤40 * 8192:=Nat.mul_le_mul_right _ (by omega)
     simp only [List.length_singleton] at hkey0
     omega
    repeat' (first | (with_reducible first | refine W ?_ | refine Z0 ?_ | ((first | refine Wo fun K hK=>?_ | refine Wp ?_ | refine Wq ?_ | refine Wr ?_);(try simp only [go_sem,fN,seval,eT,iR,e1,e5,e6,e7,e10,e13,e14,e15,e16,e17,e83,e84,e94,e95,e96,s1,s6,s7,s45,s10,s60,s78,s81,s16,s17,s19,s501,s502,hks,hsk,JI,hRl,dT,dF,nL]);(repeat refine Ai ?_);(try (refine hK _ ?_;clear hK K));try refine iC ?_)) | refine Cg _ (P8 R.length sy.2) ?_)
    refine IWP.at_ (fun env S=>env 1=.one (.ptr 1 1 0 0)∧env 5=DY syms∧env 6=.one (.ptr 6 1 0 0)∧env 7=.one (.ptr 7 1 0 0)∧env 10=.one (.ptr 10 1 0 0)∧env 13=AK (Ct a syms R t:Nat)∧env 14=.one (.mptr 78)∧env 15=.one (.row 81 R.length)∧env 16=.one (.ptr 16 1 0 0)∧env 17=.one (.ptr 17 1 0 0)∧env 19=.one (.ptr 19 1 0 0)∧env 83=AK R.length∧env 84=AK i∧env 94=DY syms∧env 95=AK syms.length∧env 96=AK k∧env 104=.one (.fn 57 [.eptr [.int .i64 sy.2],.eptr [.int .i64 R.length]]) ∧
     S 1=some (AE a)∧S 6=some (.box 61 [.st (.list (R.map EC))])∧S 7=some (.box 70 [.mptr 45])∧S 45=some (OK R)∧S 10=some (.box 23 [.row 60 R.length])∧S 60=some (.mrow 3 1 (Ak part))∧S 78=some (Rh (Bi a syms R part i))∧S 81=some (.mrow 3 1 (Ak (prog (fresh a syms R part) R.length i)))∧S 16=some (.box 3 [.st (.int .i64 i)])∧S 17=some (.box 9 [.st (.str (Bo key))])∧S 19=some (.box 72 [.st (.str sy.1),.st (.int .i64 (sy.2:Int))])∧S 501=none∧S 502=none)
     ⟨e1,e5,e6,e7,e10,e13,e14,e15,e16,e17,rfl,e83,e84,e94,e95,e96,rfl,by simp only [go_sem,fN,seval,eT,iR,s1],by simp only [go_sem,fN,seval,eT,iR,s6],by simp only [go_sem,fN,seval,eT,iR,s7],by simp only [go_sem,fN,seval,eT,iR,s45],by simp only [go_sem,fN,seval,eT,iR,s10],by simp only [go_sem,fN,seval,eT,iR,s60],by simp only [go_sem,fN,seval,eT,iR,s78],by simp only [go_sem,fN,seval,eT,iR,s81],by simp only [go_sem,fN,seval,eT,iR,s16],by simp only [go_sem,fN,seval,eT,iR,s17],by simp only [go_sem,fN,seval,eT,iR],by simp only [go_sem,fN,seval,eT,iR,s501],by simp only [go_sem,fN,seval,eT,iR,s502]⟩ ?_
    clear e1 e5 e6 e7 e10 e13 e14 e15 e16 e17 e83 e84 e94 e95 e96 s1 s6 s7 s45 s10 s60 s78 s81 s16 s17 s19 s501 s502
    rintro env S ⟨e1,e5,e6,e7,e10,e13,e14,e15,e16,e17,e19,e83,e84,e94,e95,e96,e104,s1,s6,s7,s45,s10,s60,s78,s81,s16,s17,s19,s501,s502⟩
    refine IWP.rangeW htop 501 (by decide) s501 (show AS.ev _ (.t 104)=_ from e104) (by kernel_rfl) 502 (by decide) (Ij R.length sy.2 hs2' (by omega)) rfl (fun pre U=>U=Fj S (pre.foldl (HV a R part sy.1 i) key)) (fun _ _=>False) ?_ ?_ (fun _ _ _ _ _=>trivial) ?_ ?_ (fun _ _ _ h=>h.elim)
    ·have k17:upS S 1017=some (.box 9 [.st (.str (Bo key))]):=Bk s17
     exact (FB k17).symm
    ·rintro pre U rfl
     rw [D2 (by decide),Bl,s502]
     rfl
    ·rintro C' b0 b1 pre v U hC' hpre rfl hU hcl hb1
     obtain ⟨tl,htl⟩:=hpre
     have hvm:v ∈ Cx R.length sy.2:=by rw [← htl];simp
     obtain ⟨hvl,hvi⟩:=(EI hs2').1 hvm
     have hv2:=LS hvm
     have hpl:pre.length≤4096:=by
      have:=Pp (n:=R.length) (m:=sy.2) hlen
      rw [← htl,List.length_append,List.length_append] at this
      omega
     have hkl2:=HL (f:=HV a R part sy.1 i) (c:=2) pre key fun key l hl=>by
      rw [OX]
      have:=LS (n:=R.length) (m:=sy.2) (l:=l) (by rw [← htl];simp [hl])
      omega
     have hsnoc:(pre ++ [v]).foldl (HV a R part sy.1 i) key=HV a R part sy.1 i (pre.foldl (HV a R part sy.1 i) key) v:=by rw [List.foldl_append];rfl
     obtain ⟨ky,hky⟩:∃ ky,pre.foldl (HV a R part sy.1 i) key=ky:=⟨_,rfl⟩
     rw [hky] at hcl hU hkl2 hsnoc ⊢
     have hkyl:ky.length≤500000:=by omega
     have low:∀ {i:Nat},i < 1000→Fj S ky i=none:=fun hi=>A7 hcl hi
     have n132:=low (i:=132) (by decide)
     have u:∀ {t:Nat} {id:Nat},t < 182→env t=.one (.ptr id 1 0 0)→CI C.n env t=.one (.ptr (up1 id) 1 0 0):=fun ht he=>by rw [CI,if_pos (by rw [hC];exact ht),he];rfl
     have w1:CI C.n env 1=.one (.ptr 1001 1 0 0):=u (by decide) e1
     have w6:CI C.n env 6=.one (.ptr 1006 1 0 0):=u (by decide) e6
     have w7:CI C.n env 7=.one (.ptr 1007 1 0 0):=u (by decide) e7
     have w10:CI C.n env 10=.one (.ptr 1010 1 0 0):=u (by decide) e10
     have w16:CI C.n env 16=.one (.ptr 1016 1 0 0):=u (by decide) e16
     have w17:CI C.n env 17=.one (.ptr 1017 1 0 0):=u (by decide) e17
     have w19:CI C.n env 19=.one (.ptr 1019 1 0 0):=u (by decide) e19
     have u501:up1 501=1501:=rfl
     have u502:up1 502=1502:=rfl
     have hel:=Bp v
     obtain ⟨W,hW⟩:∃ W,AD (AD (Fj S ky) 1502 (some (.mrow 3 1 (Ak v)))) 1501 (some b1)=W:=⟨_,rfl⟩
     rw [u501,u502,hel,hvl]
     repeat' with_reducible first | refine W ?_ | refine Z0 ?_ | ((first | refine Wo fun K hK=>?_ | refine Wp ?_ | refine Wq ?_ | refine Wr ?_);(try simp only [go_sem,fN,seval,eT,iR,Jl,u501,u502,dT,dF,nL]);(repeat refine Ai ?_);(try (refine hK _ ?_;clear hK K));try refine iC ?_)
     refine AA ⟨by simp only [go_sem,fN,seval,eT,iR,u501,u502],?_⟩
     refine IWP.at_ (fun env1 S1=>env1 1=.one (.ptr 1001 1 0 0)∧env1 6=.one (.ptr 1006 1 0 0)∧env1 7=.one (.ptr 1007 1 0 0)∧env1 10=.one (.ptr 1010 1 0 0)∧env1 16=.one (.ptr 1016 1 0 0)∧env1 17=.one (.ptr 1017 1 0 0)∧env1 19=.one (.ptr 1019 1 0 0)∧env1 20=.one (.row 1502 sy.2)∧S1=W) ⟨w1,w6,w7,w10,w16,w17,w19,rfl,by rw [← hW];exact Iw⟩ ?_
     rintro env1 S1 ⟨x1,x6,x7,x10,x16,x17,x19,x20,rfl⟩
     have hWat:∀ i,i ≠ 1501→i ≠ 1502→S1 i=Fj S ky i:=fun i p q=>by rw [← hW,AF _ p,AF _ q]
     have hWu:∀ {i:Nat} {b:AL},up1 i ≠ 1501→up1 i ≠ 1502→up1 i ≠ 1017→S i=some b→S1 (up1 i)=some (b.ren up1):=fun p q r h=>by rw [hWat _ p q,D2 r];exact Bk h
     have q1:S1 1001=some (AE a):=hWu (i:=1) (by decide) (by decide) (by decide) s1
     have q6:S1 1006=some (.box 61 [.st (.list (R.map EC))]):=hWu (i:=6) (by decide) (by decide) (by decide) s6
     have q7:S1 1007=some (.box 70 [.mptr 1045]):=hWu (i:=7) (by decide) (by decide) (by decide) s7
     have q45:S1 1045=some (OK R):=hWu (i:=45) (by decide) (by decide) (by decide) s45
     have q10:S1 1010=some (.box 23 [.row 1060 R.length]):=hWu (i:=10) (by decide) (by decide) (by decide) s10
     have q60:S1 1060=some (.mrow 3 1 (Ak part)):=hWu (i:=60) (by decide) (by decide) (by decide) s60
     have q16:S1 1016=some (.box 3 [.st (.int .i64 i)]):=hWu (i:=16) (by decide) (by decide) (by decide) s16
     have q19:S1 1019=some (.box 72 [.st (.str sy.1),.st (.int .i64 (sy.2:Int))]):=hWu (i:=19) (by decide) (by decide) (by decide) s19
     have q17:S1 1017=some (.box 9 [.st (.str (Bo ky))]):=by rw [hWat 1017 (by decide) (by decide)];exact AG _ _ _
     have q502:S1 1502=some (.mrow 3 1 (Ak v)):=by rw [← hW,AF _ (by decide),AG]
     have q132:S1 132=none:=by rw [hWat 132 (by decide) (by decide)];exact n132
     have hWc:Am S1:=by rw [← hW];exact Aq (Aq Hn (by decide) rfl) (by decide) hb1
     repeat' with_reducible first | refine W ?_ | refine Z0 ?_ | ((first | refine Wo fun K hK=>?_ | refine Wp ?_ | refine Wq ?_ | refine Wr ?_);(try simp only [go_sem,fN,seval,eT,iR,x20,q502,hel,hvl,dT,dF,nL]);(repeat refine Ai ?_);(try (refine hK _ ?_;clear hK K));try refine iC ?_)
     refine IWP.loopD [132] (fun q s=>∃ k,k≤sy.2∧q=sy.2 - k∧s.env 1=.one (.ptr 1001 1 0 0)∧s.env 6=.one (.ptr 1006 1 0 0)∧s.env 7=.one (.ptr 1007 1 0 0)∧s.env 10=.one (.ptr 1010 1 0 0)∧s.env 16=.one (.ptr 1016 1 0 0)∧s.env 17=.one (.ptr 1017 1 0 0)∧s.env 19=.one (.ptr 1019 1 0 0)∧s.env 20=.one (.row 1502 sy.2)∧s.env 107=AK sy.2∧s.env 108=AK k ∧
      s.S 132=none∧∀ z,1000≤z→s.S z=AD S1 1017 (some (.box 9 [.st (.str (Bo (ky ++ (List.range k).map fun k=>part.getD (stp a R sy.1 (v.set k i)) 0)))])) z) sy.2
      ⟨0,Nat.zero_le _,rfl,x1,x6,x7,x10,x16,x17,x19,by simp only [go_sem,fN,seval,eT,iR,x20],by simp only [go_sem,fN,seval,eT,iR],rfl,by simp only [go_sem,fN,seval,eT,iR,q132],fun i hi=>?_⟩ ?_
     ·show S1 i=_
      rw [List.range_zero,List.map_nil,List.append_nil,FB q17]
     clear x1 x6 x7 x10 x16 x17 x19 x20
     rintro q2 ⟨env2,S2⟩ ⟨c,hc,rfl,y1,y6,y7,y10,y16,y17,y19,y20,y107,y108,z132,hS2⟩
     simp only at y1 y6 y7 y10 y16 y17 y19 y20 y107 y108 z132 hS2
     have r1:S2 1001=some (AE a):=by rw [hS2 1001 (by decide),AF _ (by decide)];exact q1
     have r6:S2 1006=some (.box 61 [.st (.list (R.map EC))]):=by rw [hS2 1006 (by decide),AF _ (by decide)];exact q6
     have r7:S2 1007=some (.box 70 [.mptr 1045]):=by rw [hS2 1007 (by decide),AF _ (by decide)];exact q7
     have r45:S2 1045=some (OK R):=by rw [hS2 1045 (by decide),AF _ (by decide)];exact q45
     have r10:S2 1010=some (.box 23 [.row 1060 R.length]):=by rw [hS2 1010 (by decide),AF _ (by decide)];exact q10
     have r60:S2 1060=some (.mrow 3 1 (Ak part)):=by rw [hS2 1060 (by decide),AF _ (by decide)];exact q60
     have r16:S2 1016=some (.box 3 [.st (.int .i64 i)]):=by rw [hS2 1016 (by decide),AF _ (by decide)];exact q16
     have r19:S2 1019=some (.box 72 [.st (.str sy.1),.st (.int .i64 (sy.2:Int))]):=by rw [hS2 1019 (by decide),AF _ (by decide)];exact q19
     have r502:S2 1502=some (.mrow 3 1 (Ak v)):=by rw [hS2 1502 (by decide),AF _ (by decide)];exact q502
     have r17:=hS2 1017 (by decide)
     rw [AG] at r17
     obtain ⟨kk,hkk⟩:∃ kk,(ky ++ (List.range c).map fun k=>part.getD (stp a R sy.1 (v.set k i)) 0)=kk:=⟨_,rfl⟩
     have hkk1:ky ++ ((List.range (c + 1)).map fun k=>part.getD (stp a R sy.1 (v.set k i)) 0)=kk ++ [part.getD (stp a R sy.1 (v.set c i)) 0]:=by rw [← hkk,List.range_succ,List.map_append,List.append_assoc];rfl
     have hkkl:kk.length≤500002:=by rw [← hkk,List.length_append,List.length_map,List.length_range];omega
     rw [hkk] at r17 hS2
     by_cases hcl2:c < sy.2
     ·obtain ⟨vc,hvc⟩:=Ab (show c < v.length by omega)
      have hvc':=CK hvc
      have hcl3:c < (Ak v).length:=by omega
      have hvsl:(v.set c i).length=sy.2:=by rw [List.length_set,hvl]
      have hvsi:∀ x ∈ v.set c i,x < R.length:=fun x hx=>by
       rcases List.mem_or_eq_of_mem_set hx with h | h
       ·exact hvi x h
       ·omega
      have hset1:(Ak v).set c [.int .i64 (i:Int)]=Ak (v.set c i):=D5 v c i
      have hset2:(Ak (v.set c i)).set c [.int .i64 (vc:Int)]=Ak v:=by
       rw [D5,List.set_set,W8 hvc]
      obtain ⟨vs,hvs⟩:∃ vs,v.set c i=vs:=⟨_,rfl⟩
      rw [hvs] at hset1 hset2 hvsl hvsi hkk1
      have hel3:(Ak vs).length=sy.2:=by rw [Bp,hvsl]
      repeat' with_reducible first | refine W ?_ | refine Z0 ?_ | ((first | refine Wo fun K hK=>?_ | refine Wp ?_ | refine Wq ?_ | refine Wr ?_);(try simp only [go_sem,fN,seval,eT,iR,y1,y6,y7,y10,y16,y17,y19,y20,y107,y108,z132,r502,r16,hcl2,hel,hvl,hvc',hcl3,hset1,hel3,dT,dF,nL]);(repeat refine Ai ?_);(try (refine hK _ ?_;clear hK K));try refine iC ?_)
      refine IWP.ghost (Ad.own 23 132 65 1 rfl (by simp only [go_sem,fN,seval,eT,iR,z132]) (by simp) (by rw [hC',hC];decide)) ?_
      refine IWP.loop (fun q s=>∃ m,m≤sy.2∧q=sy.2 - m∧s.env 1=.one (.ptr 1001 1 0 0)∧s.env 6=.one (.ptr 1006 1 0 0)∧s.env 7=.one (.ptr 1007 1 0 0)∧s.env 10=.one (.ptr 1010 1 0 0)∧s.env 16=.one (.ptr 1016 1 0 0)∧s.env 17=.one (.ptr 1017 1 0 0)∧s.env 19=.one (.ptr 1019 1 0 0)∧s.env 20=.one (.row 1502 sy.2)∧s.env 21=AK c∧s.env 22=AK vc∧s.env 23=.one (.row 132 m)∧s.env 107=AK sy.2∧s.env 108=AK c∧s.env 119=.one (.row 1502 sy.2)∧s.env 120=AK sy.2∧s.env 121=AK m ∧
       s.S 132=some (.arow 65 1 (((Ax R (vs.take m)).map Prod.fst).map HX))∧∀ z,1000≤z→s.S z=AD S2 1502 (some (.mrow 3 1 (Ak vs))) z) sy.2
       ⟨0,Nat.zero_le _,rfl,y1,y6,y7,y10,y16,y17,y19,y20,by simp only [go_sem,fN,seval,eT,iR,y108],by simp only [go_sem,fN,seval,eT,iR],rfl,by simp only [go_sem,fN,seval,eT,iR,y107],by simp only [go_sem,fN,seval,eT,iR,y108],by simp only [go_sem,fN,seval,eT,iR,y20],by simp only [go_sem,fN,seval,eT,iR],rfl,by (simp only [go_sem,fN,seval,eT,iR];rfl),fun z hz=>?_⟩ ?_
      ·show AD (AD S2 1502 _) 132 _ z=_
       rw [AF _ (by omega)]
      clear y1 y6 y7 y10 y16 y17 y19 y20 y107 y108
      rintro q3 ⟨env3,S3⟩ ⟨m,hm,rfl,y1,y6,y7,y10,y16,y17,y19,y20,y21,y22,y23,y107,y108,y119,y120,y121,z132,hS3⟩
      simp only at y1 y6 y7 y10 y16 y17 y19 y20 y21 y22 y23 y107 y108 y119 y120 y121 z132 hS3
      have t1:=(hS3 1001 (by decide)).trans ((AF _ (by decide) _).trans r1)
      have t6:=(hS3 1006 (by decide)).trans ((AF _ (by decide) _).trans r6)
      have t7:=(hS3 1007 (by decide)).trans ((AF _ (by decide) _).trans r7)
      have t45:=(hS3 1045 (by decide)).trans ((AF _ (by decide) _).trans r45)
      have t10:=(hS3 1010 (by decide)).trans ((AF _ (by decide) _).trans r10)
      have t60:=(hS3 1060 (by decide)).trans ((AF _ (by decide) _).trans r60)
      have t17:=(hS3 1017 (by decide)).trans ((AF _ (by decide) _).trans r17)
      have t19:=(hS3 1019 (by decide)).trans ((AF _ (by decide) _).trans r19)
      have t502:=(hS3 1502 (by decide)).trans (AG _ _ _)
      have hl132:(((Ax R (vs.take m)).map Prod.fst).map HX).length=m:=by rw [List.length_map,List.length_map,Cr,List.length_take];omega
      by_cases hms:m < sy.2
      ·obtain ⟨x,hxm⟩:=Ab (show m < vs.length by omega)
       have hxo:=hvsi x (AM hxm)
       have hxm':=CK hxm
       obtain ⟨jx,hjx⟩:=Ab hxo
       have hpt:Ax R (vs.take (m + 1))=Ax R (vs.take m) ++ [jx]:=by
        rw [AQ hxm]
        unfold Ax
        rw [List.map_append,List.map_cons,List.map_nil,List.getD_eq_getElem?_getD,hjx]
        rfl
       repeat' with_reducible first | refine W ?_ | refine Z0 ?_ | ((first | refine Wo fun K hK=>?_ | refine Wp ?_ | refine Wq ?_ | refine Wr ?_);(try simp only [go_sem,fN,seval,eT,iR,y1,y6,y7,y10,y16,y17,y19,y20,y21,y22,y23,y107,y108,y119,y120,y121,z132,t6,t502,hms,hxm',hjx,hl132,hel3,hvsl,EC,G_,dT,dF,nL]);(repeat refine Ai ?_);(try (refine hK _ ?_;clear hK K));try refine iC ?_)
       refine AA ⟨sy.2 - (m + 1),by omega,m + 1,by omega,rfl,y1,y6,y7,y10,y16,y17,y19,y20,y21,y22,by simp only [go_sem,fN,seval,eT,iR],y107,y108,y119,y120,rfl,?_,fun z hz=>?_⟩
       ·rw [hpt]
        simp only [go_sem,fN,seval,eT,iR]
        simp [HX]
       ·show AD S3 132 _ z=_
        rw [AF _ (by omega)]
        exact hS3 z hz
      ·have hme:m=sy.2:=by omega
       have hmt:vs.take m=vs:=by rw [hme,← hvsl];exact List.take_length
       rw [hmt] at z132 hl132
       have hbelow:∀ x ∈ Ax R vs,x.1.length=a.states.toNat:=fun x hx'=>(hx x (E6 hvsi x hx')).1
       have hfa:=KM a ga (by omega) (by omega) sy.1 ((Ax R vs).map Prod.fst) (fun l hl=>by
        obtain ⟨x,hx',rfl⟩:=List.mem_map.1 hl
        exact hbelow x hx') (by rw [List.length_map,Cr];omega)
       have hmem:=hclosed hsm (l:=Ax R vs) (by rw [Cr,hvsl]) (E6 hvsi)
       have hxR:a.ending sy.1 ((Ax R vs).map Prod.fst) ∈ R.map Prod.fst:=List.mem_map.2 ⟨_,hmem,rfl⟩
       have hg:=I0 (c:=a.states.toNat) R 0 (a.ending sy.1 ((Ax R vs).map Prod.fst)) (fun j hj=>(hx j hj).1) (Au.ending_length _ _ _)
       rw [if_pos hxR,Nat.zero_add] at hg
       have hst:stp a R sy.1 vs=(R.map Prod.fst).idxOf (a.ending sy.1 ((Ax R vs).map Prod.fst)):=rfl
       have hstl:stp a R sy.1 vs < R.length:=by
        rw [hst]
        have:=List.idxOf_lt_length_of_mem hxR
        rwa [List.length_map] at this
       rw [← hst] at hg
       obtain ⟨ps,hps⟩:=Ab (show stp a R sy.1 vs < part.length by omega)
       have hps':=CK hps
       have hpsd:part.getD (stp a R sy.1 vs) 0=ps:=by rw [List.getD_eq_getElem?_getD,hps];rfl
       have hpsl:ps≤64:=by have:=hpe (stp a R sy.1 vs);omega
       have henc2:=Lt (p:=ps) (by omega)
       have hi322:inR .i32 ((ps:Int) + 1):=⟨by show (-2147483648:Int)≤_;omega,by show _≤(2147483647:Int);omega⟩
       have hcat:=Ps kk [ps]
       have hsz:(Bo kk).size + (Bo [ps]).size≤maxLen:=by rw [Mq,Mq,BM,List.length_singleton];omega
       rw [hpsd] at hkk1
       have hcl4:c < (Ak vs).length:=by omega
       obtain ⟨vz,hvz⟩:=Ab (show c < vs.length by omega)
       have hvz':=CK hvz
       generalize stp a R sy.1 vs=st at *
       repeat' (first | (with_reducible first | refine W ?_ | refine Z0 ?_ | ((first | refine Wo fun K hK=>?_ | refine Wp ?_ | refine Wq ?_ | refine Wr ?_);(try simp only [go_sem,fN,seval,eT,iR,y1,y6,y7,y10,y16,y17,y19,y20,y21,y22,y23,y107,y108,y119,y120,y121,z132,t1,t6,t7,t10,t17,t19,t45,t60,t502,AE,hms,hl132,hel3,hvsl,Bu,EF,KV.of,hg,G7,hps',hpel,hstl,hi322,henc2,hcat,hsz,hcl2,hcl3,hcl4,hvz',hset2,dT,dF,nL]);(repeat refine Ai ?_);(try (refine hK _ ?_;clear hK K));try refine iC ?_)) | refine Cg _ (hfa) ?_)
       refine AA ⟨sy.2 - (c + 1),by omega,c + 1,by omega,rfl,by simp only [go_sem,fN,seval,AS.drop,AY,AC.clears,AC.clear,AC.highs,AC.high,Bool.not_false,Bool.true_and,Bool.and_self,AV.purge,AV.purges,AC.purge,AL.purge,List.contains_cons,List.contains_nil,Nat.reduceBEq,Bool.or_self,Bool.or_false,Bool.false_or,Bool.or_true,eT,iR,y1],by simp only [go_sem,fN,seval,AS.drop,AY,AC.clears,AC.clear,AC.highs,AC.high,Bool.not_false,Bool.true_and,Bool.and_self,AV.purge,AV.purges,AC.purge,AL.purge,List.contains_cons,List.contains_nil,Nat.reduceBEq,Bool.or_self,Bool.or_false,Bool.false_or,Bool.or_true,eT,iR,y6],by simp only [go_sem,fN,seval,AS.drop,AY,AC.clears,AC.clear,AC.highs,AC.high,Bool.not_false,Bool.true_and,Bool.and_self,AV.purge,AV.purges,AC.purge,AL.purge,List.contains_cons,List.contains_nil,Nat.reduceBEq,Bool.or_self,Bool.or_false,Bool.false_or,Bool.or_true,eT,iR,y7],by simp only [go_sem,fN,seval,AS.drop,AY,AC.clears,AC.clear,AC.highs,AC.high,Bool.not_false,Bool.true_and,Bool.and_self,AV.purge,AV.purges,AC.purge,AL.purge,List.contains_cons,List.contains_nil,Nat.reduceBEq,Bool.or_self,Bool.or_false,Bool.false_or,Bool.or_true,eT,iR,y10],by simp only [go_sem,fN,seval,AS.drop,AY,AC.clears,AC.clear,AC.highs,AC.high,Bool.not_false,Bool.true_and,Bool.and_self,AV.purge,AV.purges,AC.purge,AL.purge,List.contains_cons,List.contains_nil,Nat.reduceBEq,Bool.or_self,Bool.or_false,Bool.false_or,Bool.or_true,eT,iR,y16],by simp only [go_sem,fN,seval,AS.drop,AY,AC.clears,AC.clear,AC.highs,AC.high,Bool.not_false,Bool.true_and,Bool.and_self,AV.purge,AV.purges,AC.purge,AL.purge,List.contains_cons,List.contains_nil,Nat.reduceBEq,Bool.or_self,Bool.or_false,Bool.false_or,Bool.or_true,eT,iR,y17],by simp only [go_sem,fN,seval,AS.drop,AY,AC.clears,AC.clear,AC.highs,AC.high,Bool.not_false,Bool.true_and,Bool.and_self,AV.purge,AV.purges,AC.purge,AL.purge,List.contains_cons,List.contains_nil,Nat.reduceBEq,Bool.or_self,Bool.or_false,Bool.false_or,Bool.or_true,eT,iR,y19],by simp only [go_sem,fN,seval,AS.drop,AY,AC.clears,AC.clear,AC.highs,AC.high,Bool.not_false,Bool.true_and,Bool.and_self,AV.purge,AV.purges,AC.purge,AL.purge,List.contains_cons,List.contains_nil,Nat.reduceBEq,Bool.or_self,Bool.or_false,Bool.false_or,Bool.or_true,eT,iR,y20],by simp only [go_sem,fN,seval,AS.drop,AY,AC.clears,AC.clear,AC.highs,AC.high,Bool.not_false,Bool.true_and,Bool.and_self,AV.purge,AV.purges,AC.purge,AL.purge,List.contains_cons,List.contains_nil,Nat.reduceBEq,Bool.or_self,Bool.or_false,Bool.false_or,Bool.or_true,eT,iR,y107],by (simp only [go_sem,fN,seval,AS.drop,AY,AC.clears,AC.clear,AC.highs,AC.high,Bool.not_false,Bool.true_and,Bool.and_self,AV.purge,AV.purges,AC.purge,AL.purge,List.contains_cons,List.contains_nil,Nat.reduceBEq,Bool.or_self,Bool.or_false,Bool.false_or,Bool.or_true,eT,iR,y108];rfl),by simp only [go_sem,fN,seval,AS.drop,AY,AC.clears,AC.clear,AC.highs,AC.high,Bool.not_false,Bool.true_and,Bool.and_self,AV.purge,AV.purges,AC.purge,AL.purge,List.contains_cons,List.contains_nil,Nat.reduceBEq,Bool.or_self,Bool.or_false,Bool.false_or,Bool.or_true,eT,iR],RU (T:=AD S1 1017 (some (.box 9 [.st (.str (Bo (ky ++ (List.range (c + 1)).map fun k=>part.getD (stp a R sy.1 (v.set k i)) 0)))]))) (by decide) (Aq hWc (by decide) rfl) fun z hz=>?_⟩
       show AD (AD S3 1017 _) 1502 _ z=_
       rw [hkk1]
       by_cases c1:z=1502
       ·subst c1
        rw [AG,AF _ (by decide)]
        exact q502.symm
       by_cases c2:z=1017
       ·subst c2
        rw [AF _ c1,AG,AG]
       rw [AF _ c1,AF _ c2,hS3 z hz,AF _ c1,hS2 z hz,AF _ c2,AF _ c2]
     ·have hce:c=sy.2:=by omega
      have hkkf:kk=(pre ++ [v]).foldl (HV a R part sy.1 i) key:=by
       rw [hsnoc,← hkk,hce]
       unfold HV
       rw [hvl]
      repeat' with_reducible first | refine W ?_ | refine Z0 ?_ | ((first | refine Wo fun K hK=>?_ | refine Wp ?_ | refine Wq ?_ | refine Wr ?_);(try simp only [go_sem,fN,seval,eT,iR,y107,y108,hcl2,dT,dF,nL]);(repeat refine Ai ?_);(try (refine hK _ ?_;clear hK K));try refine iC ?_)
      refine Iq (AD (Fj S kk) 1502 (some (.mrow 3 1 (Ak v)))) (Aq (Aq Hn (by decide) rfl) (by decide) hb1) (by rw [AF _ (by decide),D2 (by decide)];show upS S (up1 501)=none;rw [Bl,s501];rfl) (fun z hz=>?_) ⟨_,rfl,?_,by rw [hkkf]⟩
      ·show S2 z=_
       rw [hS2 z hz,← hW]
       by_cases c1:z=1501
       ·subst c1
        rw [AF _ (by decide),AG,AG]
       by_cases c2:z=1502
       ·subst c2
        rw [AF _ (by decide),AF _ c1,AG,AF _ c1,AG]
       by_cases c3:z=1017
       ·subst c3
        rw [AG,AF _ c1,AF _ c2]
        exact (AG _ _ _).symm
       rw [AF _ c3,AF _ c1,AF _ c2,AF _ c1,AF _ c2,D2 c3,D2 c3]
      ·rw [D2 (by decide)]
       show upS S (up1 502)=none
       rw [Bl,s502]
       rfl
    ·rintro U bb rfl
     rw [Q_]
     have hsy:(Cx R.length sy.2).foldl (HV a R part sy.1 i) key=L2 a R part i key sy:=rfl
     rw [hsy,← hfold]
     repeat' with_reducible first | refine W ?_ | refine Z0 ?_ | ((first | refine Wo fun K hK=>?_ | refine Wp ?_ | refine Wq ?_ | refine Wr ?_);(try simp only [go_sem,fN,seval,eT,iR,e96,dT,dF,nL]);(repeat refine Ai ?_);(try (refine hK _ ?_;clear hK K));try refine iC ?_)
     refine AA ⟨syms.length - (k + 1),by omega,k + 1,by omega,rfl,?_⟩
     simp only [go_sem,fN,seval,AS.drop,AY,AC.clears,AC.clear,AC.highs,AC.high,Bool.not_false,Bool.true_and,Bool.and_self,AV.purge,AV.purges,AC.purge,AL.purge,List.contains_cons,List.contains_nil,Nat.reduceBEq,Bool.or_self,Bool.or_false,Bool.false_or,Bool.or_true,eT,iR,e1,e5,e6,e7,e10,e13,e14,e15,e16,e17,e83,e84,e94,e95,e96,s1,s6,s7,s45,s10,s60,s78,s81,s16,AE]
     rfl
   ·have hke:k=syms.length:=by omega
    have hsg:syms.foldl (L2 a R part i) [p]=sig a syms R part i:=by unfold sig;rw [hpd]
    rw [hke,List.take_length,hsg] at s17
    have hks1:=D8 (a:=a) (syms:=syms) (R:=R) (part:=part) i
    have hfr:=VS (a:=a) (syms:=syms) (R:=R) (part:=part) (Nat.lt_succ_self i) hiR
    have hmg:=FA (Bi a syms R part i) 0 (Bo (sig a syms R part i))
    have hmp:=MV (l:=Bi a syms R part i) (n:=Bo (sig a syms R part i))
    have hkl:(Bi a syms R part i).length≤i:=D4
    have hen:=Ka (Bi a syms R part i) 0
    have hfk:(fresh a syms R part)[i]?=some (Cm (Bi a syms R part (i + 1)) (Bo (sig a syms R part i))):=by
     unfold fresh
     rw [List.getElem?_map,List.getElem?_range hiR,← hfr]
     rfl
    have hst:=JJ hfl hfk
    have hset:(Ak (prog (fresh a syms R part) R.length i)).set i [.int .i64 (Cm (Bi a syms R part (i + 1)) (Bo (sig a syms R part i)):Int)]=Ak (prog (fresh a syms R part) R.length (i + 1)):=by
     rw [← hst]
     exact D5 _ i _
    obtain ⟨z,hz⟩:=Ab (show i < (prog (fresh a syms R part) R.length i).length by rw [IL hfl hi];omega)
    have hz':=CK hz
    have hil:i < (Ak (prog (fresh a syms R part) R.length i)).length:=by omega
    rw [hks1] at hset
    by_cases hin:Cm (Bi a syms R part i) (Bo (sig a syms R part i)) < (Bi a syms R part i).length
    ·rw [if_pos hin,Nat.zero_add] at hmg
     have hadd:Ie (Bi a syms R part i) (Bo (sig a syms R part i))=Bi a syms R part i:=if_pos hin
     rw [hadd] at hset hks1
     repeat' with_reducible first | refine W ?_ | refine Z0 ?_ | ((first | refine Wo fun K hK=>?_ | refine Wp ?_ | refine Wq ?_ | refine Wr ?_);(try simp only [go_sem,fN,seval,eT,iR,e1,e5,e6,e7,e10,e13,e14,e15,e16,e17,e83,e84,e94,e95,e96,s1,s6,s7,s45,s10,s60,s78,s81,s16,s17,s19,s501,s502,hks,Bu,EF,KV.of,hmg,G7,hprl,hil,hz',hset,hiR,dT,dF,nL]);(repeat refine Ai ?_);(try (refine hK _ ?_;clear hK K));try refine iC ?_)
     refine AA ⟨R.length - (i + 1),by omega,i + 1,by omega,rfl,?_⟩
     rw [hks1]
     simp only [go_sem,fN,seval,AS.drop,AY,AC.clears,AC.clear,AC.highs,AC.high,Bool.not_false,Bool.true_and,Bool.and_self,AV.purge,AV.purges,AC.purge,AL.purge,List.contains_cons,List.contains_nil,Nat.reduceBEq,Bool.or_self,Bool.or_false,Bool.false_or,Bool.or_true,eT,iR,e1,e5,e6,e7,e10,e13,e14,e15,e16,e17,e83,e84,e94,e95,e96,s1,s6,s7,s45,s10,s60,s78,s81,s16,s17,s19,s501,s502,AE]
     rfl
    ·rw [if_neg hin] at hmg
     have hmp':=hmp hin
     have hnew:=FA (Ie (Bi a syms R part i) (Bo (sig a syms R part i))) 0 (Bo (sig a syms R part i))
     rw [if_pos (Eb.2 (QY.2 (.inr rfl))),Nat.zero_add] at hnew
     repeat' with_reducible first | refine W ?_ | refine Z0 ?_ | ((first | refine Wo fun K hK=>?_ | refine Wp ?_ | refine Wq ?_ | refine Wr ?_);(try simp only [go_sem,fN,seval,eT,iR,e1,e5,e6,e7,e10,e13,e14,e15,e16,e17,e83,e84,e94,e95,e96,s1,s6,s7,s45,s10,s60,s78,s81,s16,s17,s19,s501,s502,hks,Bu,EF,KV.of,hmg,hen,hmp',hnew,G7,hprl,hil,hz',hset,hiR,dT,dF,nL]);(repeat refine Ai ?_);(try (refine hK _ ?_;clear hK K));try refine iC ?_)
     refine AA ⟨R.length - (i + 1),by omega,i + 1,by omega,rfl,?_⟩
     rw [hks1]
     simp only [go_sem,fN,seval,AS.drop,AY,AC.clears,AC.clear,AC.highs,AC.high,Bool.not_false,Bool.true_and,Bool.and_self,AV.purge,AV.purges,AC.purge,AL.purge,List.contains_cons,List.contains_nil,Nat.reduceBEq,Bool.or_self,Bool.or_false,Bool.false_or,Bool.or_true,eT,iR,e1,e5,e6,e7,e10,e13,e14,e15,e16,e17,e83,e84,e94,e95,e96,s1,s6,s7,s45,s10,s60,s78,s81,s16,s17,s19,s501,s502,AE]
     rfl
  ·have hie:i=R.length:=by omega
   rw [hie] at s78 s81
   rw [O8 hfl] at s81
   have hen:=Ka (Bi a syms R part R.length) 0
   rw [← hnK] at hen
   by_cases hstop:nK a syms R t=Ct a syms R t
   ·have htT:t=T:=by
     rcases Nat.lt_or_ge t T with h | h
     ·exact absurd hstop (hmin t h)
     ·omega
    rw [htT] at hstop e13 hen hnl
    rw [← hstop] at e13
    repeat' with_reducible first | refine W ?_ | refine Z0 ?_ | ((first | refine Wo fun K hK=>?_ | refine Wp ?_ | refine Wq ?_ | refine Wr ?_);(try simp only [go_sem,fN,seval,eT,iR,e1,e5,e6,e7,e10,e13,e14,e15,e83,e84,s78,hlt,Bu,hen,dT,dF,nL]);(repeat refine Ai ?_);(try (refine hK _ ?_;clear hK K));try refine iC ?_)
    simp only [go_sem,fN,seval,AP,AS.result,AH,AI,AN,e13]
   ·have htT:t < T:=by
     rcases Nat.lt_or_ge t T with h | h
     ·exact h
     ·exact absurd (by rw [show t=T by omega];exact hT) hstop
    have hstop':¬ ((nK a syms R t:Nat):Int)=(Ct a syms R t:Nat):=by omega
    iterate 17 with_reducible first | refine W ?_ | refine Z0 ?_ | ((first | refine Wo fun K hK=>?_ | refine Wp ?_ | refine Wq ?_ | refine Wr ?_);(try simp only [go_sem,fN,seval,eT,iR,e1,e5,e6,e7,e10,e13,e14,e15,e83,e84,s78,hlt,Bu,hen,hstop,hstop',dT,dF,nL]);(repeat refine Ai ?_);(try (refine hK _ ?_;clear hK K));try refine iC ?_)
    refine IWP.ghost (Ad.drop [60] _ (by decide)) ?_
    refine IWP.at_ (fun env1 S1=>env1 1=.one (.ptr 1 1 0 0)∧env1 5=DY syms∧env1 6=.one (.ptr 6 1 0 0)∧env1 7=.one (.ptr 7 1 0 0)∧env1 10=.one (.ptr 10 1 0 0)∧env1 14=.one (.mptr 78)∧env1 15=.one (.row 81 R.length)∧S1 1=some (AE a)∧S1 6=some (.box 61 [.st (.list (R.map EC))])∧S1 7=some (.box 70 [.mptr 45])∧S1 45=some (OK R)∧S1 10=some (.box 23 [.any])∧S1 60=none∧S1 78=some (Rh (Bi a syms R part R.length))∧S1 81=some (.mrow 3 1 (Ak (fresh a syms R part)))∧S1 16=none∧S1 17=none∧S1 19=none∧S1 501=none∧S1 502=none)
     (by simp only [go_sem,fN,seval,AS.drop,AY,AC.clears,AC.clear,AC.highs,AC.high,Bool.not_false,Bool.true_and,Bool.and_self,AV.purge,AV.purges,AC.purge,AL.purge,List.contains_cons,List.contains_nil,Nat.reduceBEq,Bool.or_self,Bool.or_false,Bool.false_or,Bool.or_true,eT,iR,e1,e5,e6,e7,e10,e14,e15,s1,s6,s7,s45,s10,s78,s81,s16,s17,s19,s501,s502,AE]) ?_
    clear e1 e5 e6 e7 e10 e13 e14 e15 e83 e84 s1 s6 s7 s45 s10 s60 s78 s81 s16 s17 s19 s501 s502
    rintro env1 S1 ⟨e1,e5,e6,e7,e10,e14,e15,s1,s6,s7,s45,s10,s60,s78,s81,s16,s17,s19,s501,s502⟩
    refine IWP.ghost (Ad.renameM 15 81 60 1000 (e:=3) (wd:=1) (xs:=Ak (fresh a syms R part)) s81 (by rw [Bp,hfl];exact e15) s60 (by rw [Bp,hfl];omega) (by rw [hC];decide)) ?_
    rw [Bp,hfl]
    repeat' with_reducible first | refine W ?_ | refine Z0 ?_ | ((first | refine Wo fun K hK=>?_ | refine Wp ?_ | refine Wq ?_ | refine Wr ?_);(try simp only [go_sem,fN,seval,eT,iR,e1,e5,e6,e7,e10,e14,s10,s78,Bu,hen,dT,dF,nL]);(repeat refine Ai ?_);(try (refine hK _ ?_;clear hK K));try refine iC ?_)
    refine AA ⟨T + 1 - (t + 1),by omega,t + 1,by omega,rfl,?_⟩
    rw [hnext,hprev]
    simp only [go_sem,fN,seval,AS.drop,AY,AC.clears,AC.clear,AC.highs,AC.high,Bool.not_false,Bool.true_and,Bool.and_self,AV.purge,AV.purges,AC.purge,AL.purge,List.contains_cons,List.contains_nil,Nat.reduceBEq,Bool.or_self,Bool.or_false,Bool.false_or,Bool.or_true,eT,iR,e1,e5,e6,e7,e10,e14,s1,s6,s7,s45,s10,s78,s16,s17,s19,s501,s502,AE]

theorem I5 {α β:Type} {g:α→List β}:∀ (l:List α) (k:List β),l.foldl (fun k x=>k ++ g x) k=k ++ l.flatMap g
 | [],k=>by simp
 | x :: l,k=>by
  rw [List.foldl_cons,I5 l,List.flatMap_cons,List.append_assoc]
theorem Ki {α β:Type} {f g:α→List β}:∀ {l:List α},(∀ x ∈ l,(f x).length=(g x).length)→l.flatMap f=l.flatMap g→∀ x ∈ l,f x=g x
 | [],_,_,x,hx=>by cases hx
 | y :: l,hl,h,x,hx=>by
  rw [List.flatMap_cons,List.flatMap_cons] at h
  obtain ⟨h1,h2⟩:=List.append_inj h (hl y (by simp))
  rcases List.mem_cons.1 hx with rfl | hx
  ·exact h1
  ·exact Ki (fun z hz=>hl z (by simp [hz])) h2 x hx
section
variable {a:Au} {syms:List Sym} {R:List J}
def LP (a:Au) (R:List J) (part:List Nat) (i:Nat) (s:Sym) (l:List Nat):List Nat:=(List.range l.length).map fun k=>part.getD (stp a R s.1 (l.set k i)) 0
theorem V8 (part:List Nat) (i:Nat):sig a syms R part i=[part.getD i 0] ++ syms.flatMap fun s=>(Cx R.length s.2).flatMap (LP a R part i s):=by
 have h:L2 a R part i=fun key s=>key ++ (Cx R.length s.2).flatMap (LP a R part i s):=by
  funext key s
  exact I5 (g:=LP a R part i s) (Cx R.length s.2) key
 unfold sig
 rw [h,I5]
theorem R6 {part:List Nat} {i j:Nat}:sig a syms R part i=sig a syms R part j ↔ part.getD i 0=part.getD j 0∧∀ s ∈ syms,∀ l ∈ Cx R.length s.2,∀ p,p < l.length→part.getD (stp a R s.1 (l.set p i)) 0=part.getD (stp a R s.1 (l.set p j)) 0:=by
 rw [V8,V8]
 constructor
 ·intro h
  obtain ⟨h1,h2⟩:=List.append_inj h rfl
  have hlen:∀ s,((Cx R.length s.2).flatMap (LP a R part i s)).length=((Cx R.length s.2).flatMap (LP a R part j s)).length:=fun s=>by
   simp [List.length_flatMap,LP]
  refine ⟨(List.cons.inj h1).1,fun s hs l hl p hp=>?_⟩
  have h3:=Ki (fun s _=>hlen s) h2 s hs
  have h4:=Ki (fun l _=>by simp [LP]) h3 l hl
  have h5:=congrArg (fun x:List Nat=>x[p]?) h4
  simpa [LP,hp] using h5
 ·rintro ⟨h1,h2⟩
  rw [h1]
  congr 1
  have key:∀ {l:List Sym},(∀ s ∈ l,s ∈ syms)→(l.flatMap fun s=>(Cx R.length s.2).flatMap (LP a R part i s))=l.flatMap fun s=>(Cx R.length s.2).flatMap (LP a R part j s):=fun {l} hl=>by
   rw [List.flatMap_def,List.flatMap_def]
   congr 1
   refine List.map_congr_left fun s hs=>?_
   rw [List.flatMap_def,List.flatMap_def]
   congr 1
   refine List.map_congr_left fun t ht=>?_
   unfold LP
   refine List.map_congr_left fun p hp=>?_
   exact h2 s (hl s hs) t ht p (List.mem_range.1 hp)
  exact key fun s hs=>hs
theorem U7 {k:Nat} {f g:Nat→ByteArray} {F G:List ByteArray} (hF:F.Nodup) (hG:G.Nodup) (hFm:∀ x,x ∈ F ↔ ∃ i,i < k∧x=f i) (hg:∀ x ∈ G,∃ i,i < k∧x=g i) (h:∀ i j,i < k→j < k→f i=f j→g i=g j) (he:F.length≤G.length) {i j:Nat} (hi:i < k) (hj:j < k) (hij:g i=g j):f i=f j:=by
 classical
 by_cases hne:f i=f j
 ·exact hne
 ·exfalso
  have hjF:f j ∈ F:=(hFm _).2 ⟨j,hj,rfl⟩
  have h1:=Og (k:=k) (f:=fun x=>if f x=f j then f i else f x) (g:=g) (F:=F.filter fun x=>decide (x ≠ f j)) (G:=G) hG (fun x hx=>by
   show (if f x=f j then f i else f x) ∈ _
   by_cases e:f x=f j
   ·rw [if_pos e]
    exact List.mem_filter.2 ⟨(hFm _).2 ⟨i,hi,rfl⟩,decide_eq_true hne⟩
   ·rw [if_neg e]
    exact List.mem_filter.2 ⟨(hFm _).2 ⟨x,hx,rfl⟩,decide_eq_true e⟩) hg (fun x y hx hy e=>by
   have e:(if f x=f j then f i else f x)=(if f y=f j then f i else f y):=e
   by_cases e1:f x=f j <;> by_cases e2:f y=f j
   ·exact h x y hx hy (e1.trans e2.symm)
   ·rw [if_pos e1,if_neg e2] at e
    rw [h x j hx hj e1,← hij]
    exact h i y hi hy e
   ·rw [if_neg e1,if_pos e2] at e
    rw [h y j hy hj e2,← hij]
    exact h x i hx hi e
   ·rw [if_neg e1,if_neg e2] at e
    exact h x y hx hy e)
  have:=List.length_filter_lt_length_iff_exists (p:=fun x=>decide (x ≠ f j)) (l:=F) |>.2 ⟨f j,hjF,by simp⟩
  omega
theorem Na (h64:R.length≤64) {t i j:Nat} (hi:i < R.length) (hj:j < R.length) (h:(A0 a syms R (t + 1)).getD i 0=(A0 a syms R (t + 1)).getD j 0):sig a syms R (A0 a syms R t) i=sig a syms R (A0 a syms R t) j:=by
 rw [show A0 a syms R (t + 1)=fresh a syms R (A0 a syms R t) from rfl,DP hi,DP hj] at h
 have hb:∀ i,∀ x ∈ sig a syms R (A0 a syms R t) i,x < 100:=fun i x hx=>by
  have:=KA (fun k=>Fy k t) i x hx
  omega
 exact Ia (hb i) (hb j) (PM (Bh.2 ⟨i,hi,rfl⟩) (Bh.2 ⟨j,hj,rfl⟩) h)
theorem P_ (h64:R.length≤64) {i j:Nat} (hi:i < R.length) (hj:j < R.length):∀ t,(A0 a syms R t).getD i 0=(A0 a syms R t).getD j 0→a.fin (R[i]).1=a.fin (R[j]).1
 | 0,h=>by
  unfold A0 Ek at h
  rw [List.getD_eq_getElem?_getD,List.getD_eq_getElem?_getD,List.getElem?_map,List.getElem?_map,List.getElem?_eq_getElem hi,List.getElem?_eq_getElem hj] at h
  simp only [Option.map_some,Option.getD_some] at h
  cases h1:a.fin (R[i]).1 <;> cases h2:a.fin (R[j]).1 <;> rw [h1,h2] at h <;> simp at h ⊢
 | t + 1,h=>P_ h64 hi hj t (Lk (Na h64 hi hj h))
theorem Jt (h64:R.length≤64) {t i j:Nat} (hT:nK a syms R (t + 1)=nK a syms R t) (hi:i < R.length) (hj:j < R.length) (h:(A0 a syms R (t + 1)).getD i 0=(A0 a syms R (t + 1)).getD j 0):sig a syms R (A0 a syms R (t + 1)) i=sig a syms R (A0 a syms R (t + 1)) j:=by
 have hb:∀ i,∀ x ∈ sig a syms R (A0 a syms R (t + 1)) i,x < 100:=fun i x hx=>by
  have:=KA (fun k=>Fy k (t + 1)) i x hx
  omega
 refine Ia (hb i) (hb j) (U7 (k:=R.length) (f:=fun i=>Bo (sig a syms R (A0 a syms R (t + 1)) i)) (g:=fun i=>Bo (sig a syms R (A0 a syms R t) i)) Dg Dg (fun x=>Bh) (fun x hx=>Bh.1 hx) (fun i j hi hj h=>Jj h64 hi hj h) (Nat.le_of_eq hT) hi hj (congrArg Bo (Na h64 hi hj h)))
theorem Ww (h:nK a syms R 0=0):R.length=0:=by
 rcases Nat.eq_zero_or_pos R.length with h0 | h0
 ·exact h0
 ·have:=List.length_pos_of_mem ((Bh (a:=a) (syms:=syms) (R:=R) (part:=A0 a syms R 0) (k:=R.length)).2 ⟨0,h0,rfl⟩)
  unfold nK at h
  omega
end
section
variable (a:Au) (E:List (List Bool))
def Kz (n p:Nat) (x z:List Bool):List (List Bool):=(List.range n).map fun q=>if q=p then x else z
def Gq (m:Mv) (p i o:Nat):Nat:=E.idxOf (a.ending m.name (Kz m.frm.length p (E.getD i []) (E.getD o [])))
def SD (U:Nat→Nat→Bool) (i k:Nat) (m:Mv) (p:Nat):Bool:=(List.range E.length).any fun o=>U (Gq a E m p i o) (Gq a E m p k o)
def LT (U:Nat→Nat→Bool) (i k:Nat) (m:Mv):Bool:=(List.range m.frm.length).any (SD a E U i k m)
def Ck (U:Nat→Nat→Bool) (i k:Nat):Bool:=a.moves.any (LT a E U i k)
def U0 (i k:Nat):Bool:=a.fin (E.getD i []) != a.fin (E.getD k [])
def F7 (U:Nat→Nat→Bool) (i k:Nat):Nat→Nat→Bool:=fun x y=>(decide (x=i) && decide (y=k)) || (decide (x=k) && decide (y=i)) || U x y
def EG (i:Nat) (U:Nat→Nat→Bool) (k:Nat):Nat→Nat→Bool:=if U i k=false∧Ck a E U i k=true then F7 U i k else U
def Te (U:Nat→Nat→Bool) (i:Nat):Nat→Nat→Bool:=(List.range E.length).foldl (EG a E i) U
def NW (U:Nat→Nat→Bool):Nat→Nat→Bool:=(List.range E.length).foldl (Te a E) U
def JO (n:Nat) (U:Nat→Nat→Bool):Nat:=((List.range n).map fun i=>(List.range n).countP fun k=>!U i k).sum
def CR (U:Nat→Nat→Bool) (i:Nat):Bool:=(List.range i).all (U i)
def leU (U V:Nat→Nat→Bool):Prop:=∀ x y,U x y=true→V x y=true
end
section
variable {a:Au} {E:List (List Bool)} {U V W:Nat→Nat→Bool}
theorem leU.rfl':leU U U:=fun _ _ h=>h
theorem leU.trans (h:leU U V) (k:leU V W):leU U W:=fun x y e=>k x y (h x y e)
theorem leU.antisymm (h:leU U V) (k:leU V U):U=V:=by
 funext x y
 rw [Bool.eq_iff_iff]
 exact ⟨h x y,k x y⟩
theorem Nm (U:Nat→Nat→Bool) (i k:Nat):leU U (F7 U i k):=fun x y h=>by simp [F7,h]
theorem Pq (i:Nat) (U:Nat→Nat→Bool) (k:Nat):leU U (EG a E i U k):=by
 unfold EG
 split
 ·exact Nm _ _ _
 ·exact leU.rfl'
theorem LX {α:Type} {f:(Nat→Nat→Bool)→α→Nat→Nat→Bool} (h:∀ U x,leU U (f U x)):∀ (l:List α) (U:Nat→Nat→Bool),leU U (l.foldl f U)
 | [],U=>leU.rfl'
 | x :: l,U=>(h U x).trans (LX h l (f U x))
theorem WH (U:Nat→Nat→Bool) (i:Nat):leU U (Te a E U i):=LX (Pq i) _ _
theorem I4 {α:Type} {f:(Nat→Nat→Bool)→α→Nat→Nat→Bool} (hp:∀ U x,leU U (f U x)):∀ {l:List α} {U:Nat→Nat→Bool},l.foldl f U=U→∀ x ∈ l,f U x=U
 | [],U,h,x,hx=>by cases hx
 | y :: l,U,h,x,hx=>by
  have h1:f U y=U:=leU.antisymm (by have:=LX hp l (f U y);rw [show l.foldl f (f U y)=U from h] at this;exact this) (hp U y)
  rcases List.mem_cons.1 hx with rfl | hx
  ·exact h1
  ·refine I4 hp (l:=l) ?_ x hx
   have h:l.foldl f (f U y)=U:=h
   rw [h1] at h
   exact h
theorem U9 (h:NW a E U=U) {i k:Nat} (hi:i < E.length) (hk:k < E.length) (hU:U i k=false):Ck a E U i k=false:=by
 have h1:=I4 (fun U i=>WH U i) h i (List.mem_range.2 hi)
 have h2:=I4 (fun U k=>Pq i U k) h1 k (List.mem_range.2 hk)
 cases hp:Ck a E U i k with
 | false=>rfl
 | true =>
  unfold EG at h2
  rw [if_pos ⟨hU,hp⟩] at h2
  have:=congrFun (congrFun h2 i) k
  rw [hU] at this
  simp [F7] at this
theorem UT:∀ {l:List Nat} {f g:Nat→Nat},(∀ x ∈ l,f x≤g x)→(∃ x ∈ l,f x < g x)→(l.map f).sum < (l.map g).sum
 | [],f,g,_,h=>by obtain ⟨x,hx,_⟩:=h;cases hx
 | y :: l,f,g,h1,h2=>by
  have hle:∀ {l:List Nat},(∀ x ∈ l,f x≤g x)→(l.map f).sum≤(l.map g).sum:=fun {l}=>by
   induction l with
   | nil=>intro _;exact Nat.le_refl _
   | cons z l ih =>
    intro h
    have:=h z (by simp)
    have:=ih fun x hx=>h x (by simp [hx])
    simp only [List.map_cons,List.sum_cons]
    omega
  simp only [List.map_cons,List.sum_cons]
  have hy:=h1 y (by simp)
  obtain ⟨x,hx,hlt⟩:=h2
  rcases List.mem_cons.1 hx with rfl | hx
  ·have:=hle fun z hz=>h1 z (List.mem_cons_of_mem _ hz)
   omega
  ·have:=UT (fun z hz=>h1 z (List.mem_cons_of_mem _ hz)) ⟨x,hx,hlt⟩
   omega
theorem M5:∀ {l:List Nat} {p q:Nat→Bool},(∀ x ∈ l,p x=true→q x=true)→(∃ x ∈ l,p x=false∧q x=true)→l.countP p < l.countP q
 | [],p,q,_,h=>by obtain ⟨x,hx,_⟩:=h;cases hx
 | y :: l,p,q,h1,h2=>by
  have hle:=List.countP_mono_left (l:=l) (p:=p) (q:=q) fun x hx h=>h1 x (by simp [hx]) h
  obtain ⟨x,hx,hp,hq⟩:=h2
  rw [List.countP_cons,List.countP_cons]
  rcases List.mem_cons.1 hx with rfl | hx
  ·rw [hp,hq]
   simp
   omega
  ·have:=M5 (fun z hz=>h1 z (List.mem_cons_of_mem _ hz)) ⟨x,hx,hp,hq⟩
   have h3:=h1 y (by simp)
   cases e1:p y <;> cases e2:q y <;> rw [e1,e2] at h3 <;> simp at h3 ⊢ <;> omega
theorem Wf {n:Nat} (h:leU U V) {i k:Nat} (hi:i < n) (hk:k < n) (h1:U i k=false) (h2:V i k=true):JO n V < JO n U:=by
 refine UT (fun x hx=>List.countP_mono_left fun y hy e=>?_) ⟨i,List.mem_range.2 hi,M5 (fun y hy e=>?_) ⟨k,List.mem_range.2 hk,by simp [h2],by simp [h1]⟩⟩
 ·cases hu:U x y with
  | false=>rfl
  | true=>rw [h x y hu] at e;exact e
 ·cases hu:U i y with
  | false=>rfl
  | true=>rw [h i y hu] at e;exact e
theorem UU {n i k:Nat} (hi:i < n) (hk:k < n) (h1:U i k=false):JO n (F7 U i k) < JO n U:=Wf (Nm U i k) hi hk h1 (by simp [F7])
structure Hr (a:Au) (E:List (List Bool)) (cls:Nat→Nat):Prop where
 fin:∀ i k,i < E.length→k < E.length→cls i=cls k→a.fin (E.getD i [])=a.fin (E.getD k [])
 stp:∀ m ∈ a.moves,∀ p i k o,p < m.frm.length→i < E.length→k < E.length→o < E.length→cls i=cls k→cls (Gq a E m p i o)=cls (Gq a E m p k o)
def XE (a:Au) (E:List (List Bool)):Prop:=∀ m ∈ a.moves,∀ p i o,p < m.frm.length→i < E.length→o < E.length→Gq a E m p i o < E.length
def Snd (n:Nat) (cls:Nat→Nat) (U:Nat→Nat→Bool):Prop:=∀ x y,x < n→y < n→U x y=true→cls x ≠ cls y
variable {cls:Nat→Nat}
theorem Snd.zero (h:Hr a E cls):Snd E.length cls (U0 a E):=fun x y hx hy hu e=>by
 have:=h.fin x y hx hy e
 unfold U0 at hu
 rw [this] at hu
 simp at hu
theorem HW (h:Hr a E cls) (hs:XE a E) (hU:Snd E.length cls U) {i k:Nat} (hi:i < E.length) (hk:k < E.length) (hp:Ck a E U i k=true):cls i ≠ cls k:=fun e=>by
 unfold Ck at hp
 obtain ⟨m,hm,h1⟩:=List.any_eq_true.1 hp
 unfold LT at h1
 obtain ⟨p,hp,h2⟩:=List.any_eq_true.1 h1
 unfold SD at h2
 obtain ⟨o,ho,h3⟩:=List.any_eq_true.1 h2
 have hp:=List.mem_range.1 hp
 have ho:=List.mem_range.1 ho
 exact hU _ _ (hs m hm p i o hp hi ho) (hs m hm p k o hp hk ho) h3 (h.stp m hm p i k o hp hi hk ho e)
theorem Snd.set {n:Nat} (hU:Snd n cls U) {i k:Nat} (h:cls i ≠ cls k):Snd n cls (F7 U i k):=fun x y hx hy hu=>by
 unfold F7 at hu
 simp only [Bool.or_eq_true,Bool.and_eq_true,decide_eq_true_eq] at hu
 rcases hu with (⟨rfl,rfl⟩ | ⟨rfl,rfl⟩) | hu
 ·exact h
 ·exact fun e=>h e.symm
 ·exact hU x y hx hy hu
theorem Snd.cell (h:Hr a E cls) (hs:XE a E) (hU:Snd E.length cls U) {i k:Nat} (hi:i < E.length) (hk:k < E.length):Snd E.length cls (EG a E i U k):=by
 unfold EG
 split
 ·rename_i hc
  exact hU.set (HW h hs hU hi hk hc.2)
 ·exact hU
theorem QW {n:Nat} {h:Nat→ByteArray} {K:List ByteArray} (hK:K.Nodup) (hm:∀ x,x ∈ K ↔ ∃ i,i < n∧x=h i) (hU:∀ i k,i < n→k < n→(U i k=true ↔ h i ≠ h k)):(List.range n).countP (CR U)=K.length:=by
 rw [List.countP_eq_length_filter]
 have hf:∀ i,i < n→(CR U i=true ↔ ∀ k,k < i→h i ≠ h k):=fun i hi=>by
  unfold CR
  rw [List.all_eq_true]
  exact ⟨fun g k hk=>(hU i k hi (by omega)).1 (g k (List.mem_range.2 hk)),fun g k hk=>(hU i k hi (by have:=List.mem_range.1 hk;omega)).2 (g k (List.mem_range.1 hk))⟩
 have hnd:(((List.range n).filter (CR U)).map h).Nodup:=by
  rw [List.nodup_iff_pairwise_ne,List.pairwise_map]
  refine List.Pairwise.imp_of_mem ?_ (List.Pairwise.filter _ List.pairwise_lt_range)
  intro i j hi hj hij e
  obtain ⟨h1,h2⟩:=List.mem_filter.1 hj
  exact (hf j (List.mem_range.1 h1)).1 h2 i hij e.symm
 have hfirst:∀ i,i < n→∃ j,j < n∧CR U j=true∧h j=h i:=fun i=>by
  induction i using Nat.strongRecOn with
  | _ i ih =>
   intro hi
   by_cases e:CR U i=true
   ·exact ⟨i,hi,e,rfl⟩
   ·have:¬ ∀ k,k < i→h i ≠ h k:=fun g=>e ((hf i hi).2 g)
    obtain ⟨k,hk⟩:=Classical.not_forall.1 this
    obtain ⟨hk,hk2⟩:=Classical.not_imp.1 hk
    have hk2:=Classical.not_not.1 hk2
    obtain ⟨j,h1,h2,h3⟩:=ih k hk (by omega)
    exact ⟨j,h1,h2,h3.trans hk2.symm⟩
 have l1:=EN hnd (m:=K) fun x hx=>by
  obtain ⟨i,hi,rfl⟩:=List.mem_map.1 hx
  exact (hm _).2 ⟨i,List.mem_range.1 (List.mem_filter.1 hi).1,rfl⟩
 have l2:=EN hK (m:=((List.range n).filter (CR U)).map h) fun x hx=>by
  obtain ⟨i,hi,rfl⟩:=(hm x).1 hx
  obtain ⟨j,h1,h2,h3⟩:=hfirst i hi
  rw [← h3]
  exact List.mem_map.2 ⟨j,List.mem_filter.2 ⟨List.mem_range.2 h1,h2⟩,rfl⟩
 rw [List.length_map] at l1 l2
 omega
end
section
variable {a:Au} {syms:List Sym} {R:List J} {E:List (List Bool)}
structure DW (a:Au) (syms:List Sym) (R:List J) (E:List (List Bool)):Prop where
 ok:OkJ a auZ syms R
 two:∀ s ∈ syms,s.2≤2
 sym:∀ s,s ∈ syms ↔ ∃ m ∈ a.moves,s=m.sym
 shut:∀ s ∈ syms,∀ l:List J,l.length=s.2→(∀ x ∈ l,x ∈ R)→nxt a auZ s.1 l ∈ R
 nod:E.Nodup
 mem:∀ x,x ∈ E ↔ x ∈ R.map Prod.fst
 le:R.length≤64
def ixR (R:List J) (x:List Bool):Nat:=(R.map Prod.fst).idxOf x
theorem CM {x:List Bool} (h:x ∈ R.map Prod.fst):ixR R x < R.length:=by
 have:=List.idxOf_lt_length_iff.2 h
 rw [List.length_map] at this
 exact this
theorem IJ {x:List Bool} (h:x ∈ R.map Prod.fst):(R.getD (ixR R x) ([],[])).1=x:=by
 have hl:=CM h
 rw [List.getD_eq_getElem?_getD,List.getElem?_eq_getElem hl,Option.getD_some]
 have h2:(R.map Prod.fst)[(R.map Prod.fst).idxOf x]'(List.idxOf_lt_length_iff.2 h)=x:=List.getElem_idxOf _
 rw [List.getElem_map] at h2
 exact h2
theorem SR (H:DW a syms R E) {j:J} (hj:j ∈ R):j.2=[]:=List.eq_nil_of_length_eq_zero (H.ok.gen j hj).len.2
theorem U3 (H:DW a syms R E) {i:Nat} (hi:i < R.length):ixR R (R[i]).1=i:=by
 have hnd:(R.map Prod.fst).Nodup:=by
  have h:=H.ok.nod
  rw [List.nodup_iff_pairwise_ne,List.pairwise_iff_getElem] at h
  rw [List.nodup_iff_pairwise_ne,List.pairwise_map,List.pairwise_iff_getElem]
  intro i j hi hj hij e
  exact h i j hi hj hij (Prod.ext e (by rw [SR H (List.getElem_mem hi),SR H (List.getElem_mem hj)]))
 have h2:=hnd.idxOf_getElem i (by rw [List.length_map];exact hi)
 rw [List.getElem_map] at h2
 exact h2
theorem ET {i:Nat} (hi:i < E.length):E.getD i [] ∈ E:=by
 rw [List.getD_eq_getElem?_getD,List.getElem?_eq_getElem hi]
 exact List.getElem_mem hi
theorem Nl {x:List Bool} (h:x ∈ E):E.getD (E.idxOf x) []=x:=by
 have hl:=List.idxOf_lt_length_iff.2 h
 rw [List.getD_eq_getElem?_getD,List.getElem?_eq_getElem hl]
 exact List.getElem_idxOf _
theorem Qc {n p:Nat} {x z:List Bool} (hx:x ∈ R.map Prod.fst) (hz:z ∈ R.map Prod.fst):(Ax R ((List.replicate n (ixR R z)).set p (ixR R x))).map Prod.fst=Kz n p x z:=by
 refine List.ext_getElem (by simp [Ax,Kz]) fun q h1 h2=>?_
 have hq:q < n:=by simpa [Kz] using h2
 simp only [Ax,List.getElem_map,Kz,List.getElem_range,List.getElem_set,List.getElem_replicate]
 by_cases e:p=q
 ·subst e
  rw [if_pos rfl,if_pos rfl,IJ hx]
 ·rw [if_neg e,if_neg (fun h=>e h.symm),IJ hz]
theorem UQ {l:List Nat} {p:Nat} (h2:l.length≤2) (hp:p < l.length):∃ z ∈ l,∀ i,l.set p i=(List.replicate l.length z).set p i:=by
 match l,h2,hp with
 | [y],_,hp =>
  have:p=0:=by simpa using hp
  subst this
  exact ⟨y,by simp,fun i=>rfl⟩
 | [y,y'],_,hp =>
  have:p=0 ∨ p=1:=by have:p < 2:=hp;omega
  rcases this with rfl | rfl
  ·exact ⟨y',by simp,fun i=>rfl⟩
  ·exact ⟨y,by simp,fun i=>rfl⟩
theorem Of (H:DW a syms R E) {m:Mv} (hm:m ∈ a.moves) {p:Nat} {x z:List Bool} (hx:x ∈ E) (hz:z ∈ E):a.ending m.name (Kz m.frm.length p x z) ∈ E:=by
 have hx':=(H.mem x).1 hx
 have hz':=(H.mem z).1 hz
 have hs:=(H.sym m.sym).2 ⟨m,hm,rfl⟩
 have h:=H.shut m.sym hs (Ax R ((List.replicate m.frm.length (ixR R z)).set p (ixR R x))) (by simp [Ax,Mv.sym]) (E6 fun i hi=>by
  rcases List.mem_or_eq_of_mem_set hi with h | rfl
  ·rw [List.eq_of_mem_replicate h];exact CM hz'
  ·exact CM hx')
 have h2:(nxt a auZ m.sym.1 (Ax R ((List.replicate m.frm.length (ixR R z)).set p (ixR R x)))).1=a.ending m.name (Kz m.frm.length p x z):=by
  show a.ending m.sym.1 ((Ax R _).map Prod.fst)=_
  rw [Qc hx' hz']
  rfl
 rw [H.mem,← h2]
 exact List.mem_map.2 ⟨_,h,rfl⟩
theorem KP (H:DW a syms R E) {m:Mv} {p:Nat} {x z:List Bool} (hx:x ∈ E) (hz:z ∈ E):stp a R m.name ((List.replicate m.frm.length (ixR R z)).set p (ixR R x))=ixR R (a.ending m.name (Kz m.frm.length p x z)):=by
 unfold stp
 rw [Qc ((H.mem x).1 hx) ((H.mem z).1 hz)]
 rfl
theorem OL (H:DW a syms R E):XE a E:=fun m hm p i o hp hi ho=>List.idxOf_lt_length_iff.2 (Of H hm (ET hi) (ET ho))
theorem KQ (H:DW a syms R E) {m:Mv} (hm:m ∈ a.moves) {p i o:Nat} (hi:i < E.length) (ho:o < E.length):E.getD (Gq a E m p i o) []=a.ending m.name (Kz m.frm.length p (E.getD i []) (E.getD o [])):=Nl (Of H hm (ET hi) (ET ho))
def S_ (a:Au) (syms:List Sym) (R:List J) (E:List (List Bool)) (t:Nat) (i:Nat):Nat:=(A0 a syms R t).getD (ixR R (E.getD i [])) 0
theorem Xa (H:DW a syms R E) {t:Nat} (hT:nK a syms R (t + 1)=nK a syms R t):Hr a E (S_ a syms R E (t + 1)):=by
 refine ⟨fun i k hi hk h=>?_,fun m hm p i k o hp hi hk ho h=>?_⟩
 ·have xi:=(H.mem _).1 (ET hi)
  have xk:=(H.mem _).1 (ET hk)
  have:=P_ H.le (CM xi) (CM xk) (t + 1) h
  have e1:=IJ xi
  have e2:=IJ xk
  rw [List.getD_eq_getElem?_getD,List.getElem?_eq_getElem (CM xi),Option.getD_some] at e1
  rw [List.getD_eq_getElem?_getD,List.getElem?_eq_getElem (CM xk),Option.getD_some] at e2
  rw [e1,e2] at this
  exact this
 ·have xi:=(H.mem _).1 (ET hi)
  have xk:=(H.mem _).1 (ET hk)
  have xo:=(H.mem _).1 (ET ho)
  have hs:=(H.sym m.sym).2 ⟨m,hm,rfl⟩
  have h1:=(R6.1 (Jt H.le hT (CM xi) (CM xk) h)).2 m.sym hs (List.replicate m.frm.length (ixR R (E.getD o []))) ((EI (H.two _ hs)).2 ⟨by simp [Mv.sym],fun y hy=>by rw [List.eq_of_mem_replicate hy];exact CM xo⟩) p (by simpa using hp)
  unfold S_
  rw [KQ H hm hi ho,KQ H hm hk ho,← KP H (ET hi) (ET ho),← KP H (ET hk) (ET ho)]
  exact h1
theorem Ov (H:DW a syms R E) {U:Nat→Nat→Bool} (h0:leU (U0 a E) U) (hf:NW a E U=U):∀ t i k,i < E.length→k < E.length→U i k=false→S_ a syms R E t i=S_ a syms R E t k
 | 0,i,k,hi,hk,hu=>by
  have hfin:a.fin (E.getD i [])=a.fin (E.getD k []):=by
   cases h:U0 a E i k with
   | true=>rw [h0 i k h] at hu;cases hu
   | false=>unfold U0 at h;simpa using h
  have key:∀ i,i < E.length→S_ a syms R E 0 i=if a.fin (E.getD i [])=true then 1 else 0:=fun i hi=>by
   have xi:=(H.mem _).1 (ET hi)
   have e1:=IJ xi
   unfold S_ A0 Ek
   rw [List.getD_eq_getElem?_getD,List.getElem?_eq_getElem (CM xi),Option.getD_some] at e1
   rw [List.getD_eq_getElem?_getD (l:=R.map _),List.getElem?_map,List.getElem?_eq_getElem (CM xi),Option.map_some,Option.getD_some,e1]
  rw [key i hi,key k hk,hfin]
 | t + 1,i,k,hi,hk,hu=>by
  have xi:=(H.mem _).1 (ET hi)
  have xk:=(H.mem _).1 (ET hk)
  have ih:=Ov H h0 hf t
  have hp:=U9 hf hi hk hu
  have hsig:sig a syms R (A0 a syms R t) (ixR R (E.getD i []))=sig a syms R (A0 a syms R t) (ixR R (E.getD k [])):=by
   refine R6.2 ⟨ih i k hi hk hu,fun s hs l hl p hpl=>?_⟩
   obtain ⟨m,hm,rfl⟩:=(H.sym s).1 hs
   obtain ⟨q1,q2⟩:=(EI (H.two _ hs)).1 hl
   have q1:l.length=m.frm.length:=q1
   have h2:l.length≤2:=by have:=H.two _ hs;rw [q1];exact this
   obtain ⟨z,hz,hzs⟩:=UQ h2 hpl
   have hzl:=q2 z hz
   have hzx:(R[z]).1 ∈ E:=(H.mem _).2 (List.mem_map.2 ⟨_,List.getElem_mem hzl,rfl⟩)
   have hzi:=U3 H hzl
   have ho:E.idxOf (R[z]).1 < E.length:=List.idxOf_lt_length_iff.2 hzx
   have hoe:=Nl hzx
   rw [hzs,hzs,q1,show m.sym.1=m.name from rfl,← hzi,KP H (ET hi) hzx,KP H (ET hk) hzx,← hoe,← KQ H hm hi ho,← KQ H hm hk ho]
   have hpm:p < m.frm.length:=by omega
   refine ih _ _ (OL H m hm p i _ hpm hi ho) (OL H m hm p k _ hpm hk ho) ?_
   cases hv:U (Gq a E m p i (E.idxOf (R[z]).1)) (Gq a E m p k (E.idxOf (R[z]).1)) with
   | false=>rfl
   | true =>
    exfalso
    have:Ck a E U i k=true:=List.any_eq_true.2 ⟨m,hm,List.any_eq_true.2 ⟨p,List.mem_range.2 hpm,List.any_eq_true.2 ⟨_,List.mem_range.2 ho,hv⟩⟩⟩
    rw [hp] at this
    cases this
  show (fresh a syms R (A0 a syms R t)).getD _ 0=(fresh a syms R (A0 a syms R t)).getD _ 0
  rw [DP (CM xi),DP (CM xk),hsig]
theorem U6 (H:DW a syms R E) {T:Nat} (hT:nK a syms R T=Ct a syms R T) {U:Nat→Nat→Bool} (h0:leU (U0 a E) U) (hf:NW a E U=U) (hS:∀ cls,Hr a E cls→Snd E.length cls U):(List.range E.length).countP (CR U)=nK a syms R T:=by
 cases T with
 | zero =>
  have hR:=Ww hT
  have hE:E.length=0:=by
   rcases Nat.eq_zero_or_pos E.length with h | h
   ·exact h
   ·have:=(H.mem _).1 (ET h)
    have:=CM this
    omega
  rw [hT,hE]
  rfl
 | succ t =>
  have hT:nK a syms R (t + 1)=nK a syms R t:=hT
  have hc:=Xa H hT
  have hs:=hS _ hc
  have hb:∀ i,∀ x ∈ sig a syms R (A0 a syms R (t + 1)) i,x < 100:=fun i x hx=>by
   have:=KA (fun k=>Fy k (t + 1)) i x hx
   have:=H.le
   omega
  refine QW (h:=fun i=>Bo (sig a syms R (A0 a syms R (t + 1)) (ixR R (E.getD i [])))) Dg (fun x=>?_) fun i k hi hk=>?_
  ·rw [Bh]
   constructor
   ·rintro ⟨r,hr,rfl⟩
    have hx:(R[r]).1 ∈ E:=(H.mem _).2 (List.mem_map.2 ⟨_,List.getElem_mem hr,rfl⟩)
    exact ⟨E.idxOf (R[r]).1,List.idxOf_lt_length_iff.2 hx,by rw [Nl hx,U3 H hr]⟩
   ·rintro ⟨i,hi,rfl⟩
    exact ⟨_,CM ((H.mem _).1 (ET hi)),rfl⟩
  ·have xi:=CM ((H.mem _).1 (ET hi))
   have xk:=CM ((H.mem _).1 (ET hk))
   constructor
   ·intro hu e
    exact hs i k hi hk hu (Lk (Ia (hb _) (hb _) e))
   ·intro hne
    cases hu:U i k with
    | true=>rfl
    | false=>exact absurd (congrArg Bo (Jt H.le hT xi xk (Ov H h0 hf (t + 1) i k hi hk hu))) hne
theorem Hd {a:Au} (hsm:Ar a=true) {E:List (List Bool)} (hE:E=(Bw a auZ (C6 a auZ)).map a.ends):DW a (Ao [a]) (BI a auZ (Ao [a])) E:=by
 have hz:Ar auZ=true:=by decide
 have hsy:Ao [a,auZ]=Ao [a]:=by simp [Ao,auZ]
 obtain ⟨h1,h2⟩:=Dh hsm hz
 rw [hsy] at h1 h2
 have ha3:=Al hsm
 have two:∀ s ∈ Ao [a],s.2≤2:=fun s hs=>by
  obtain ⟨m,hm,rfl⟩:=h2 s hs
  exact (h1 m hm).2
 have hz3:auZ.states≤3:=by decide
 have hok:=Gn (a:=a) (b:=auZ) two
 have hgm:=fun j=>Si (a:=a) (b:=auZ) h1 h2 ha3 hz3 (j:=j)
 have hrm:=fun j=>Hk (a:=a) (b:=auZ) two ha3 hz3 (j:=j)
 have hEe:E=((Bw a auZ (C6 a auZ)).map (FU a auZ)).map Prod.fst:=by
  rw [hE,List.map_map]
  rfl
 refine ⟨hok,two,fun s=>?_,fun s hs l hl hx=>Eo two ha3 hz3 hs hl hx,?_,fun x=>?_,hok.len ha3 hz3⟩
 ·rw [DF]
  constructor
  ·rintro ⟨c,hc,m,hm,rfl⟩
   rw [List.mem_singleton.1 hc] at hm
   exact ⟨m,hm,rfl⟩
  ·rintro ⟨m,hm,rfl⟩
   exact ⟨a,by simp,m,hm,rfl⟩
 ·have hn:=(FW (a:=a) (b:=auZ) h1).nod
  rw [hEe,List.nodup_iff_pairwise_ne,List.pairwise_map]
  rw [List.nodup_iff_pairwise_ne] at hn
  refine hn.imp_of_mem ?_
  intro i j hi hj hne e
  have l1:=((hgm i).1 hi).len.2
  have l2:=((hgm j).1 hj).len.2
  exact hne (Prod.ext e (by rw [List.eq_nil_of_length_eq_zero l1,List.eq_nil_of_length_eq_zero l2]))
 ·rw [hEe,List.mem_map,List.mem_map]
  constructor
  ·rintro ⟨j,hj,rfl⟩
   exact ⟨j,(hrm j).2 ((hgm j).1 hj),rfl⟩
  ·rintro ⟨j,hj,rfl⟩
   exact ⟨j,(hgm j).2 ((hrm j).1 hj),rfl⟩
end

set_option maxRecDepth 100000
def ND:IR :=
 (.seq (.ops [.i 2 (.mov (.c (.one (.st (.str (ByteArray.mk (#[])))))))]) (.seq (.ops [.i 3 (.mov (.c (.one (.st (.str (ByteArray.mk (#[])))))))]) (.seq (.seq (.ops [.i 4 (.mov (.n 0))]) (.block 0 (.loop (.seq (.seq (.ops [.m 5 4,.m 6 0,.i 7 (.len false (.t 6)),.i 8 (.bin .lss (.t 5) (.t 7))]) (.cond (.t 8) .skip (.exit 0))) (.seq (.block 1 (.seq (.ops [.m 11 0,.m 12 4,.i 13 (.indexAddr 1 (.t 11) (.t 12)),.l 14 13]) (.cond (.t 14) (.ops [.m 15 3,.i 16 (.bin .add (.t 15) (.c (.one (.st (.str (ByteArray.mk (#[49]))))))),.m 3 16]) (.ops [.m 17 3,.i 18 (.bin .add (.t 17) (.c (.one (.st (.str (ByteArray.mk (#[48]))))))),.m 3 18])))) (.ops [.m 9 4,.i 10 (.bin .add (.t 9) (.n 1)),.m 4 10])))))) (.seq (.ops [.m 19 3,.m 2 19]) .ret))))
theorem Tx:OkF Try.prog 25 20 [] ND [.t 2]:=.of Try.func25 rfl rfl (by kernel_rfl) rfl
def IV:IR :=
 (.seq (.ops [.i 2 (.box 25 (.t 0)),.i 3 (.box 25 (.t 1)),.i 4 (.mov (.c (.one (.full []))))]) (.seq (.ops [.i 5 (.mov (.c (.one (.full []))))]) (.seq (.ops [.i 6 (.mov (.c (.one (.full []))))]) (.seq (.ops [.i 18 (.buildSlice false 46 3 []),.f 19 1 2,.l 20 19,.mk (some 21) none (.append false 46 3 48 (.t 18) (.t 20)) (.keeps [3,3]),.mk (some 22) none (.fieldAddr 1 (.t 3)) (.onb 3),.mk (some 23) none (.load false 1 (.t 22)) (.onb 3),.i 24 (.append false 46 3 48 (.t 21) (.t 23)),.m 7 24]) (.seq (.seq (.ops [.i 8 (.mov (.c (.one (.st (.bool true)))))]) (.block 0 (.loop (.seq (.seq (.ops [.m 25 8]) (.cond (.t 25) .skip (.exit 0))) (.block 1 (.seq (.ops [.i 8 (.mov (.c (.one (.st (.bool false)))))]) (.seq (.ops [.i 9 (.mov (.n 0))]) (.block 2 (.loop (.seq (.seq (.ops [.m 26 9,.m 27 7,.i 28 (.len false (.t 27)),.i 29 (.bin .lss (.t 26) (.t 28))]) (.cond (.t 29) .skip (.exit 2))) (.seq (.block 3 (.seq (.ops [.m 32 7,.m 33 9,.i 34 (.indexAddr 3 (.t 32) (.t 33)),.f 35 1 34,.l 36 35,.i 37 (.len false (.t 36)),.m 10 37]) (.seq (.ops [.m 38 5,.i 39 (.len false (.t 38)),.m 11 39]) (.seq (.seq (.ops [.m 40 10,.i 41 (.bin .gtr (.t 40) (.n 2)),.m 42 41,.mk (some 43) (some (42,false)) (.mov (.t 10)) .no,.mk (some 44) (some (42,false)) (.bin .gtr (.t 43) (.n 0)) .no,.mk (some 45) (some (42,false)) (.mov (.t 44)) .no,.mk (some 46) (some (45,true)) (.mov (.t 11)) .no,.mk (some 47) (some (45,true)) (.bin .eql (.t 46) (.n 0)) .no,.mk (some 48) (some (42,false)) (.pick (.t 45) (.t 47) (.c (.one (.st (.bool false))))) .no,.i 49 (.pick (.t 42) (.c (.one (.st (.bool true)))) (.t 48))]) (.cond (.t 49) (.exit 3) .skip)) (.seq (.ops [.i 12 (.mov (.n 1))]) (.seq (.seq (.ops [.i 13 (.mov (.n 0))]) (.block 4 (.loop (.seq (.seq (.ops [.m 50 13,.m 51 10,.i 52 (.bin .lss (.t 50) (.t 51))]) (.cond (.t 52) .skip (.exit 4))) (.seq (.block 5 (.ops [.m 55 12,.m 56 11,.i 57 (.bin .mul (.t 55) (.t 56)),.m 12 57])) (.ops [.m 53 13,.i 54 (.bin .add (.t 53) (.n 1)),.m 13 54])))))) (.seq (.ops [.i 14 (.mov (.n 0))]) (.block 6 (.loop (.seq (.seq (.ops [.m 58 14,.m 59 12,.i 60 (.bin .lss (.t 58) (.t 59))]) (.cond (.t 60) .skip (.exit 6))) (.seq (.block 7 (.seq (.ops [.m 63 7,.m 64 9,.i 65 (.indexAddr 3 (.t 63) (.t 64)),.f 66 0 65,.l 67 66,.i 68 (.build [.st (.str (ByteArray.mk (#[]))),.full []] [(0,1,.t 67)]),.i 15 (.alloc 39 [.st (.str (ByteArray.mk (#[]))),.full []]),.s 2 15 68]) (.seq (.seq (.ops [.i 16 (.mov (.n 0))]) (.block 8 (.loop (.seq (.seq (.ops [.m 69 16,.m 70 10,.i 71 (.bin .lss (.t 69) (.t 70))]) (.cond (.t 71) .skip (.exit 8))) (.seq (.block 9 (.seq (.ops [.m 74 16,.i 75 (.bin .eql (.t 74) (.n 0))]) (.cond (.t 75) (.ops [.f 76 1 15,.l 77 76,.m 78 5,.m 79 14,.m 80 11,.i 81 (.bin .rem (.t 79) (.t 80)),.i 82 (.indexAddr 2 (.t 78) (.t 81)),.L 83 2 82,.i 84 (.buildSlice false 39 2 [.t 83]),.i 85 (.append false 39 2 40 (.t 77) (.t 84)),.f 86 1 15,.s 1 86 85]) (.ops [.f 87 1 15,.l 88 87,.m 89 5,.m 90 14,.m 91 11,.i 92 (.bin .quo (.t 90) (.t 91)),.i 93 (.indexAddr 2 (.t 89) (.t 92)),.L 94 2 93,.i 95 (.buildSlice false 39 2 [.t 94]),.i 96 (.append false 39 2 40 (.t 88) (.t 95)),.f 97 1 15,.s 1 97 96])))) (.ops [.m 72 16,.i 73 (.bin .add (.t 72) (.n 1)),.m 16 73])))))) (.seq (.ops [.L 98 3 2,.L 99 2 15,.i 100 (.call 26 [.t 98,.t 99]),.i 101 (.call 25 [.t 100]),.i 102 (.bin .add (.t 101) (.c (.one (.st (.str (ByteArray.mk (#[124]))))))),.L 103 3 3,.L 104 2 15,.i 105 (.call 26 [.t 103,.t 104]),.i 106 (.call 25 [.t 105]),.i 107 (.bin .add (.t 102) (.t 106)),.m 17 107]) (.seq (.ops [.m 108 17,.m 109 6,.i 110 (.call 51 [.t 108,.t 109]),.i 111 (.un .not (.t 110))]) (.cond (.t 111) (.seq (.ops [.m 112 6,.m 113 17,.i 114 (.buildFlat [.t 113]),.i 115 (.append false 9 1 16 (.t 112) (.t 114)),.m 6 115]) (.seq (.ops [.m 116 5,.L 117 2 15,.i 118 (.buildSlice false 39 2 [.t 117]),.i 119 (.append false 39 2 40 (.t 116) (.t 118)),.m 5 119]) (.ops [.i 8 (.mov (.c (.one (.st (.bool true)))))]))) .skip)))))) (.ops [.m 61 14,.i 62 (.bin .add (.t 61) (.n 1)),.m 14 62])))))))))))) (.ops [.m 30 9,.i 31 (.bin .add (.t 30) (.n 1)),.m 9 31])))))))))))) (.seq (.ops [.m 120 5,.m 4 120]) .ret))))))
theorem Nu:OkF Try.prog 24 121 [] IV [.t 4]:=.of Try.func24 rfl rfl (by kernel_rfl) rfl
def G0:IR :=
 (.seq (.ops [.i 2 (.box 25 (.t 0)),.i 3 (.box 25 (.t 1)),.i 4 (.mov (.c (.one (.st (.bool false)))))]) (.seq (.ops [.L 7 3 2,.L 8 3 3,.i 9 (.call 24 [.t 7,.t 8]),.m 5 9]) (.seq (.seq (.ops [.i 6 (.mov (.n 0))]) (.block 0 (.loop (.seq (.seq (.ops [.m 10 6,.m 11 5,.i 12 (.len false (.t 11)),.i 13 (.bin .lss (.t 10) (.t 12))]) (.cond (.t 13) .skip (.exit 0))) (.seq (.block 1 (.seq (.ops [.L 16 3 2,.m 17 5,.m 18 6,.i 19 (.indexAddr 2 (.t 17) (.t 18)),.L 20 2 19,.i 21 (.call 27 [.t 16,.t 20]),.m 22 21,.mk (some 23) (some (22,true)) (.load true 3 (.t 3)) .no,.mk (some 24) (some (22,true)) (.mov (.t 5)) .no,.mk (some 25) (some (22,true)) (.mov (.t 6)) .no,.mk (some 26) (some (22,true)) (.indexAddr 2 (.t 24) (.t 25)) .no,.mk (some 27) (some (22,true)) (.load true 2 (.t 26)) .no,.mk (some 28) (some (22,true)) (.call 27 [.t 23,.t 27]) .no,.mk (some 29) (some (22,true)) (.un .not (.t 28)) .no,.i 30 (.pick (.t 22) (.t 29) (.c (.one (.st (.bool false)))))]) (.cond (.t 30) (.seq (.ops [.i 4 (.mov (.c (.one (.st (.bool false)))))]) .ret) .skip))) (.ops [.m 14 6,.i 15 (.bin .add (.t 14) (.n 1)),.m 6 15])))))) (.seq (.ops [.i 4 (.mov (.c (.one (.st (.bool true)))))]) .ret))))
theorem MJ:OkF Try.prog 11 31 [] G0 [.t 4]:=.of Try.func11 rfl rfl (by kernel_rfl) rfl

theorem DE.args {t:Tm} (h:DE t):t.args.length≤1000000∧∀ x ∈ t.args,DE x:=by
 cases h with
 | mk h1 h2=>exact ⟨h1,h2⟩
theorem E2 (a:Au) (ga:a.Good) (hs64:a.states≤64) (hm:a.moves.length≤100000) (t:Tm) (hz:DE t):AU Try.prog 26 [aAu a,aTm t] (He (a.ends t)):=by
 induction h:SizeOf.sizeOf t using Nat.strongRecOn generalizing t with
 | _ N ih =>
 subst h
 obtain ⟨hkn,hnar⟩:=hz.args
 refine Js.ac fun C hC=>?_
 unfold GS
 repeat' with_reducible first | refine W ?_ | refine Z0 ?_ | ((first | refine Wo fun K hK=>?_ | refine Wp ?_ | refine Wq ?_ | refine Wr ?_);(try simp only [go_sem,fN,seval,eT,iR,dT,dF,nL]);(repeat refine Ai ?_);(try (refine hK _ ?_;clear hK K));try refine iC ?_)
 refine IWP.ghost (Ad.own (C:=C) 5 50 55 1 (xs:=([]:List (List Bool)).map Ml) rfl rfl LC (by omega)) ?_
 refine IWP.loopD [] (fun q s=>∃ k,k≤t.args.length∧q=t.args.length - k∧s.env 2=.one (.ptr 2 1 0 0)∧s.S 2=some (AE a)∧s.env 3=.one (.ptr 3 1 0 0)∧s.S 3=some (.box 39 [.st (.str t.name),.st (.list (t.args.map A_))])∧s.env 5=.one (.row 50 k)∧s.S 50=some (.arow 55 1 (((t.args.take k).map a.ends).map Ml))∧s.env 6=AK k) t.args.length
  ⟨0,Nat.zero_le _,rfl,rfl,rfl,rfl,rfl,rfl,rfl,rfl⟩ ?_
 rintro q ⟨env,St⟩ ⟨k,hk,rfl,e2,s2,e3,s3,e5,s50,e6⟩
 simp only at e2 s2 e3 s3 e5 s50 e6
 unfold AE at s2
 by_cases hlt:(k:Int) < t.args.length
 ·obtain ⟨x,hx⟩:=Ab (show k < t.args.length by omega)
  have hxm:=AM hx
  have hkl:((t.args.take k).map a.ends).length=k:=by
   rw [List.length_map,List.length_take]
   omega
  repeat' (first | (with_reducible first | refine W ?_ | refine Z0 ?_ | ((first | refine Wo fun K hK=>?_ | refine Wp ?_ | refine Wq ?_ | refine Wr ?_);(try simp only [go_sem,fN,seval,eT,iR,e2,s2,e3,s3,e5,s50,e6,hlt,hx,hkl,dT,dF,nL]);(repeat refine Ai ?_);(try (refine hK _ ?_;clear hK K));try refine iC ?_)) | refine Cg _ (ih _ (Tm.lt_of_arg hxm) x (hnar x hxm) rfl) ?_)
  refine AA ⟨t.args.length - (k + 1),by omega,k + 1,by omega,rfl,?_⟩
  simp only [go_sem,fN,seval,AS.drop,AY,AC.clears,AC.clear,AC.highs,AC.high,Bool.not_false,Bool.true_and,Bool.and_self,AV.purge,AV.purges,AC.purge,AL.purge,List.contains_cons,List.contains_nil,Nat.reduceBEq,Bool.or_self,Bool.or_false,Bool.false_or,Bool.or_true,eT,iR,e2,s2,e3,s3,e5,s50,e6,AE]
  rw [AQ hx]
  simp
  try omega
 ·rw [List.take_of_length_le (l:=t.args) (i:=k) (by omega)] at s50
  have hkl:(t.args.map a.ends).length=t.args.length:=List.length_map _
  have hke:k=t.args.length:=by omega
  have hE:=Pb a ga hs64 hm t.name (t.args.map a.ends) (fun l hl=>by
   obtain ⟨y,_,rfl⟩:=List.mem_map.1 hl
   exact a.ends_length y) (by omega)
  repeat' (first | (with_reducible first | refine W ?_ | refine Z0 ?_ | ((first | refine Wo fun K hK=>?_ | refine Wp ?_ | refine Wq ?_ | refine Wr ?_);(try simp only [go_sem,fN,seval,eT,iR,e2,s2,e3,s3,e5,s50,e6,hlt,hke,hkl,Nat.lt_irrefl,dT,dF,nL]);(repeat refine Ai ?_);(try (refine hK _ ?_;clear hK K));try refine iC ?_)) | refine Cg _ (hE) ?_)
  simp only [go_sem,fN,seval,AP,AS.result,AH,AI,AN]
  rw [Au.ends_eq,Au.endsL_eq]
theorem Ei (a:Au) (ga:a.Good) (hs64:a.states≤64) (hm:a.moves.length≤100000) (t:Tm) (hz:DE t):AU Try.prog 27 [aAu a,aTm t] (Ag (a.acc t)):=by
 have hL:=Sj a (a.ends t) (fun s hs=>by
  have:=ga.last s hs
  rw [a.ends_length]
  omega)
 refine GL.ac fun C hC=>?_
 unfold ES
 repeat' (first | (with_reducible first | refine W ?_ | refine Z0 ?_ | ((first | refine Wo fun K hK=>?_ | refine Wp ?_ | refine Wq ?_ | refine Wr ?_);(try simp only [go_sem,fN,seval,eT,iR,dT,dF,nL]);(repeat refine Ai ?_);(try (refine hK _ ?_;clear hK K));try refine iC ?_)) | refine Cg _ (E2 a ga hs64 hm t hz) ?_ | refine Cg _ (hL) ?_)
 simp only [go_sem,fN,seval,AP,AS.result,AH,AI,AN]
 rfl
theorem RE (l:List Bool) (b:Bool):BF (l ++ [b])=BF l ++ ⟨#[if b then 49 else 48]⟩:=by
 rw [← N8]
 rfl
theorem Kg (l:List Bool) (hl:l.length≤1000000):AU Try.prog 25 [He l] (Da (BF l)):=by
 refine Tx.ac fun C hC=>?_
 unfold ND
 repeat' with_reducible first | refine W ?_ | refine Z0 ?_ | ((first | refine Wo fun K hK=>?_ | refine Wp ?_ | refine Wq ?_ | refine Wr ?_);(try simp only [go_sem,fN,seval,eT,iR,dT,dF,nL]);(repeat refine Ai ?_);(try (refine hK _ ?_;clear hK K));try refine iC ?_)
 refine IWP.loop (fun q s=>∃ k,k≤l.length∧q=l.length - k∧s.env 0=He l∧s.env 3=Da (BF (l.take k))∧s.env 4=AK k) l.length ⟨0,Nat.zero_le _,rfl,rfl,rfl,rfl⟩ ?_
 rintro q ⟨env,S⟩ ⟨k,hk,rfl,e0,e3,e4⟩
 simp only at e0 e3 e4
 have hll:(l.map Qd).length=l.length:=by simp
 by_cases hlt:(k:Int) < l.length
 ·obtain ⟨x,hx⟩:=Ab (show k < l.length by omega)
  have hsz:(BF (l.take k)).size + 1≤maxLen:=by rw [HH,List.length_take,BM];omega
  have hs1:(⟨#[49]⟩:ByteArray).size=1:=rfl
  have hs0:(⟨#[48]⟩:ByteArray).size=1:=rfl
  have hsn:=RE (l.take k) x
  rw [← AQ hx] at hsn
  cases x with
  | true =>
   have hsn:BF (l.take k) ++ ⟨#[49]⟩=BF (l.take (k + 1)):=hsn.symm
   repeat' with_reducible first | refine W ?_ | refine Z0 ?_ | ((first | refine Wo fun K hK=>?_ | refine Wp ?_ | refine Wq ?_ | refine Wr ?_);(try simp only [go_sem,fN,seval,eT,iR,e0,e3,e4,hlt,hx,hll,hs1,hs0,hsz,hsn,dT,dF,nL]);(repeat refine Ai ?_);(try (refine hK _ ?_;clear hK K));try refine iC ?_)
   refine AA ⟨l.length - (k + 1),by omega,k + 1,by omega,rfl,e0,rfl,rfl⟩
  | false =>
   have hsn:BF (l.take k) ++ ⟨#[48]⟩=BF (l.take (k + 1)):=hsn.symm
   repeat' with_reducible first | refine W ?_ | refine Z0 ?_ | ((first | refine Wo fun K hK=>?_ | refine Wp ?_ | refine Wq ?_ | refine Wr ?_);(try simp only [go_sem,fN,seval,eT,iR,e0,e3,e4,hlt,hx,hll,hs1,hs0,hsz,hsn,dT,dF,nL]);(repeat refine Ai ?_);(try (refine hK _ ?_;clear hK K));try refine iC ?_)
   refine AA ⟨l.length - (k + 1),by omega,k + 1,by omega,rfl,e0,rfl,rfl⟩
 ·have hke:k=l.length:=by omega
  rw [hke,List.take_length] at e3
  repeat' with_reducible first | refine W ?_ | refine Z0 ?_ | ((first | refine Wo fun K hK=>?_ | refine Wp ?_ | refine Wq ?_ | refine Wr ?_);(try simp only [go_sem,fN,seval,eT,iR,e0,e3,e4,hlt,hll,dT,dF,nL]);(repeat refine Ai ?_);(try (refine hK _ ?_;clear hK K));try refine iC ?_)
  simp only [go_sem,fN,seval,AP,AS.result,AH,AI,AN]
theorem Un (c n:Nat):(c:Int).tmod (n:Int)=((c % n:Nat):Int):=(Int.ofNat_tmod c n).symm
theorem VD (c n:Nat):(c:Int).tdiv (n:Int)=((c / n:Nat):Int):=(Int.ofNat_tdiv c n).symm
instance lensEncS:O2 DV 1:=⟨fun _=>rfl⟩
theorem NQ (a b:Au) (ga:a.Good) (gb:b.Good) (ha:Ar a=true) (hb:Ar b=true) (hma:a.moves.length≤100000) (hmb:b.moves.length≤100000) :
  AU Try.prog 24 [aAu a,aAu b] (JU (Bw a b (C6 a b))):=by
 obtain ⟨hms,_⟩:=Dh ha hb
 have ha3:=Al ha
 have hb3:=Al hb
 obtain ⟨k0,hk0,hst⟩:=HU (a:=a) (b:=b) hms ha3 hb3
 have hgr:=fun {k}=>K3 (a:=a) (b:=b) (k:=k) hms ha3 hb3
 have hokit:=Nq (a:=a) (b:=b) hms
 have hMl:(C6 a b).length=a.moves.length + b.moves.length:=List.length_append
 have hMe:a.moves.map Ae ++ b.moves.map Ae=(C6 a b).map Ae:=by rw [C6,List.map_append]
 generalize C6 a b=ms at *
 generalize Ao [a,b]=syms at *
 have hMll:(ms.map Ae).length=ms.length:=by simp
 refine Nu.ac fun C hC=>?_
 unfold IV
 repeat' with_reducible first | refine W ?_ | refine Z0 ?_ | ((first | refine Wo fun K hK=>?_ | refine Wp ?_ | refine Wq ?_ | refine Wr ?_);(try simp only [go_sem,fN,seval,eT,iR,hMe,dT,dF,nL]);(repeat refine Ai ?_);(try (refine hK _ ?_;clear hK K));try refine iC ?_)
 refine IWP.ghost (Ad.own 5 119 39 2 rfl rfl (by simp) (by rw [hC];decide)) ?_
 refine IWP.ghost (Ad.own 6 115 9 1 rfl rfl (by simp) (by rw [hC];decide)) ?_
 refine IWP.loop (fun q s=>∃ i,i≤k0 + 1∧q=k0 + 2 - i∧s.env 2=.one (.ptr 2 1 0 0)∧s.env 3=.one (.ptr 3 1 0 0)∧s.env 5=.one (.row 119 (itG a b ms i).length)∧s.env 6=.one (.row 115 (itG a b ms i).length)∧s.env 7=.one (.row 21 ms.length)∧s.S 2=some (AE a)∧s.S 3=some (AE b)∧s.S 21=some (.arow 46 3 (ms.map Ae))∧s.S 119=some (.arow 39 2 ((itG a b ms i).map A_))∧s.S 115=some (.arow 9 1 (((itG a b ms i).map (Et a b)).map DV)) ∧
  (∃ m,s.env 8=Ag m∧(m=false→∃ j,i=j + 1∧itG a b ms (j + 1)=itG a b ms j)∧(m=true→i≤k0))∧s.S 15=none∧s.S 85=none) (k0 + 2)
  ⟨0,Nat.zero_le _,rfl,rfl,rfl,rfl,rfl,by simp only [go_sem,fN,seval,eT,iR,hMl,hMll],rfl,rfl,by simp only [go_sem,fN,seval,eT,iR],by simp only [go_sem,fN,seval,eT,iR];rfl,by simp only [go_sem,fN,seval,eT,iR];rfl,⟨true,rfl,by simp,fun _=>Nat.zero_le _⟩,rfl,rfl⟩ ?_
 rintro q ⟨env,S⟩ ⟨i,hi,rfl,e2,e3,e5,e6,e7,s2,s3,s21,s119,s115,⟨mo,e8,hm1,hm2⟩,s15,s85⟩
 simp only at e2 e3 e5 e6 e7 s2 s3 s21 s119 s115 e8 s15 s85
 cases mo with
 | false =>
  obtain ⟨j,rfl,hj⟩:=hm1 rfl
  have hR:=hgr hj
  rw [← hj] at hR
  rw [hR] at e5 s119
  repeat' with_reducible first | refine W ?_ | refine Z0 ?_ | ((first | refine Wo fun K hK=>?_ | refine Wp ?_ | refine Wq ?_ | refine Wr ?_);(try simp only [go_sem,fN,seval,eT,iR,e2,e3,e5,e8,dT,dF,nL]);(repeat refine Ai ?_);(try (refine hK _ ?_;clear hK K));try refine iC ?_)
  simp only [go_sem,fN,seval,AP,AS.result,AH,AI,AN,s119,e5]
 | true =>
  have hik:=hm2 rfl
  obtain ⟨o0,ho0⟩:∃ o0,itG a b ms i=o0:=⟨_,rfl⟩
  have hok0:=hokit i
  have hit2:itG a b ms (i + 1)=Lm a b ms o0:=by rw [← ho0];rfl
  rw [ho0] at e5 e6 s119 s115 hok0
  repeat' with_reducible first | refine W ?_ | refine Z0 ?_ | ((first | refine Wo fun K hK=>?_ | refine Wp ?_ | refine Wq ?_ | refine Wr ?_);(try simp only [go_sem,fN,seval,eT,iR,e2,e3,e5,e8,dT,dF,nL]);(repeat refine Ai ?_);(try (refine hK _ ?_;clear hK K));try refine iC ?_)
  refine IWP.loop (fun q s=>∃ k,k≤ms.length∧q=ms.length - k∧s.env 2=.one (.ptr 2 1 0 0)∧s.env 3=.one (.ptr 3 1 0 0)∧s.env 5=.one (.row 119 ((ms.take k).foldl (CG a b) o0).length)∧s.env 6=.one (.row 115 ((ms.take k).foldl (CG a b) o0).length)∧s.env 7=.one (.row 21 ms.length)∧s.env 8=Ag (decide (o0.length < ((ms.take k).foldl (CG a b) o0).length))∧s.env 9=AK k∧s.S 2=some (AE a)∧s.S 3=some (AE b)∧s.S 21=some (.arow 46 3 (ms.map Ae))∧s.S 119=some (.arow 39 2 (((ms.take k).foldl (CG a b) o0).map A_))∧s.S 115=some (.arow 9 1 ((((ms.take k).foldl (CG a b) o0).map (Et a b)).map DV))∧s.S 15=none∧s.S 85=none) ms.length
   ⟨0,Nat.zero_le _,rfl,e2,e3,by simp only [go_sem,fN,seval,eT,iR,e5];rfl,by simp only [go_sem,fN,seval,eT,iR,e6];rfl,e7,by simp only [go_sem,fN,seval,eT,iR];simp,rfl,s2,s3,s21,by simp only [go_sem,fN,seval,eT,iR,s119];rfl,by simp only [go_sem,fN,seval,eT,iR,s115];rfl,s15,s85⟩ ?_
  clear e2 e3 e5 e6 e7 e8 s2 s3 s21 s119 s115 s15 s85
  rintro q ⟨env,S⟩ ⟨k,hk,rfl,e2,e3,e5,e6,e7,e8,e9,s2,s3,s21,s119,s115,s15,s85⟩
  simp only at e2 e3 e5 e6 e7 e8 e9 s2 s3 s21 s119 s115 s15 s85
  by_cases hlt:(k:Int) < ms.length
  ·obtain ⟨m,hmk⟩:=Ab (show k < ms.length by omega)
   have hmm:=AM hmk
   obtain ⟨hsy,hm2⟩:=hms m hmm
   have hfold:(ms.take (k + 1)).foldl (CG a b) o0=CG a b ((ms.take k).foldl (CG a b) o0) m:=by
    rw [AQ hmk,List.foldl_append]
    rfl
   have hoko:OkG a b syms ((ms.take k).foldl (CG a b) o0):=OkG.moves (fun m hm=>hms m (List.mem_of_mem_take hm)) hok0
   have hbase:=(D6 (f:=CG a b) (fun out m=>JV out m) (ms.take k) o0).length_le
   obtain ⟨o,ho⟩:∃ o,(ms.take k).foldl (CG a b) o0=o:=⟨_,rfl⟩
   rw [ho] at e5 e6 e8 s119 s115 hfold hoko hbase
   have holen:=hoko.len ha3 hb3
   have hol:(o.map A_).length=o.length:=by simp
   have hn2:¬ 2 < m.frm.length:=by omega
   have hn2':¬ (2:Int) < m.frm.length:=by omega
   by_cases hskip:0 < m.frm.length∧o.length=0
   ·have hsk:LM m o=true:=by unfold LM;simp [hskip]
    have hmv:CG a b o m=o:=by unfold CG;rw [if_pos hsk]
    have h0':(0:Int) < m.frm.length:=by omega
    have h1':((o.length:Nat):Int)=0:=by omega
    rw [hmv] at hfold
    repeat' with_reducible first | refine W ?_ | refine Z0 ?_ | ((first | refine Wo fun K hK=>?_ | refine Wp ?_ | refine Wq ?_ | refine Wr ?_);(try simp only [go_sem,fN,seval,eT,iR,e2,e3,e5,e6,e7,e8,e9,s21,s119,hlt,hmk,hMll,Ae,hol,hn2,hn2',h0',h1',hskip,dT,dF,nL]);(repeat refine Ai ?_);(try (refine hK _ ?_;clear hK K));try refine iC ?_)
    refine AA ⟨ms.length - (k + 1),by omega,k + 1,by omega,rfl,e2,e3,?_⟩
    rw [hfold]
    exact ⟨e5,e6,e7,e8,rfl,s2,s3,s21,s119,s115,s15,s85⟩
   ·have hsk:LM m o=false:=by
     unfold LM
     rw [decide_eq_false hn2,Bool.false_or]
     by_cases h0:0 < m.frm.length
     ·rw [decide_eq_false (p:=o.length=0) (fun h=>hskip ⟨h0,h⟩),Bool.and_false]
     ·rw [decide_eq_false h0,Bool.false_and]
    have hmv:CG a b o m=(List.range (o.length ^ m.frm.length)).foldl (Cu a b m o.length) o:=by unfold CG;rw [hsk];rfl
    rw [hmv] at hfold
    have hfl:m.frm.length≤2:=hm2
    have hcase:(0 < m.frm.length∧(0:Int) < m.frm.length∧¬ o.length=0∧¬ ((o.length:Nat):Int)=0) ∨ (¬ 0 < m.frm.length∧¬ (0:Int) < m.frm.length∧True∧True):=by
     by_cases h0:0 < m.frm.length
     ·have h1:¬ o.length=0:=fun h=>hskip ⟨h0,h⟩
      exact .inl ⟨h0,by omega,h1,by omega⟩
     ·exact .inr ⟨h0,by omega,trivial,trivial⟩
    rcases hcase with ⟨h0,h0',h1,h1'⟩ | ⟨h0,h0',h1,h1'⟩
    all_goals (
     repeat' with_reducible first | refine W ?_ | refine Z0 ?_ | ((first | refine Wo fun K hK=>?_ | refine Wp ?_ | refine Wq ?_ | refine Wr ?_);(try simp only [go_sem,fN,seval,eT,iR,e2,e3,e5,e6,e7,e8,e9,s21,s119,hlt,hmk,hMll,Ae,hol,hn2,hn2',h0,h0',h1,h1',dT,dF,nL]);(repeat refine Ai ?_);(try (refine hK _ ?_;clear hK K));try refine iC ?_)
     refine IWP.at_ (fun env S=>env 2=.one (.ptr 2 1 0 0)∧env 3=.one (.ptr 3 1 0 0)∧env 5=.one (.row 119 o.length)∧env 6=.one (.row 115 o.length)∧env 7=.one (.row 21 ms.length)∧env 8=Ag (decide (o0.length < o.length))∧env 9=AK k∧env 10=AK m.frm.length∧env 11=AK o.length∧env 12=AK 1∧env 13=AK 0∧S 2=some (AE a)∧S 3=some (AE b)∧S 21=some (.arow 46 3 (ms.map Ae))∧S 119=some (.arow 39 2 (o.map A_))∧S 115=some (.arow 9 1 ((o.map (Et a b)).map DV))∧S 15=none∧S 85=none)
      ⟨e2,e3,by simp only [go_sem,fN,seval,eT,iR,e5],e6,e7,e8,e9,by simp only [go_sem,fN,seval,eT,iR],by simp only [go_sem,fN,seval,eT,iR],rfl,rfl,s2,s3,s21,s119,s115,s15,s85⟩ ?_)
    all_goals (
     clear e2 e3 e5 e6 e7 e8 e9 s2 s3 s21 s119 s115 s15 s85
     rintro env S ⟨e2,e3,e5,e6,e7,e8,e9,e10,e11,e12,e13,s2,s3,s21,s119,s115,s15,s85⟩
     have hpw:∀ j,j≤2→o.length ^ j≤4096:=fun j hj=>by
      have h1:o.length ^ j≤64 ^ j:=Nat.pow_le_pow_left holen j
      have h2:64 ^ j≤64 ^ 2:=Nat.pow_le_pow_right (by omega) hj
      omega
     refine IWP.loop (fun q s=>∃ j,j≤m.frm.length∧q=m.frm.length - j∧s.env 2=.one (.ptr 2 1 0 0)∧s.env 3=.one (.ptr 3 1 0 0)∧s.env 5=.one (.row 119 o.length)∧s.env 6=.one (.row 115 o.length)∧s.env 7=.one (.row 21 ms.length)∧s.env 8=Ag (decide (o0.length < o.length))∧s.env 9=AK k∧s.env 10=AK m.frm.length∧s.env 11=AK o.length∧s.env 12=AK ((o.length ^ j:Nat):Int)∧s.env 13=AK j∧s.S 2=some (AE a)∧s.S 3=some (AE b)∧s.S 21=some (.arow 46 3 (ms.map Ae))∧s.S 119=some (.arow 39 2 (o.map A_))∧s.S 115=some (.arow 9 1 ((o.map (Et a b)).map DV))∧s.S 15=none∧s.S 85=none) m.frm.length
      ⟨0,Nat.zero_le _,rfl,e2,e3,e5,e6,e7,e8,e9,e10,e11,e12,e13,s2,s3,s21,s119,s115,s15,s85⟩ ?_
     clear e2 e3 e5 e6 e7 e8 e9 e10 e11 e12 e13 s2 s3 s21 s119 s115 s15 s85
     rintro q ⟨env,S⟩ ⟨j,hj,rfl,e2,e3,e5,e6,e7,e8,e9,e10,e11,e12,e13,s2,s3,s21,s119,s115,s15,s85⟩
     simp only at e2 e3 e5 e6 e7 e8 e9 e10 e11 e12 e13 s2 s3 s21 s119 s115 s15 s85
     by_cases hjl:(j:Int) < m.frm.length
     ·have hp1:=hpw (j + 1) (by omega)
      have hpe:((o.length ^ j:Nat):Int) * (o.length:Int)=((o.length ^ (j + 1):Nat):Int):=by rw [Nat.pow_succ];exact (Int.natCast_mul _ _).symm
      obtain ⟨P1,hP1⟩:∃ P1,o.length ^ (j + 1)=P1:=⟨_,rfl⟩
      obtain ⟨P0,hP0⟩:∃ P0,o.length ^ j=P0:=⟨_,rfl⟩
      rw [hP1,hP0] at hpe
      rw [hP1] at hp1
      rw [hP0] at e12
      repeat' with_reducible first | refine W ?_ | refine Z0 ?_ | ((first | refine Wo fun K hK=>?_ | refine Wp ?_ | refine Wq ?_ | refine Wr ?_);(try simp only [go_sem,fN,seval,eT,iR,e2,e3,e5,e6,e7,e8,e9,e10,e11,e12,e13,hjl,hpe,dT,dF,nL]);(repeat refine Ai ?_);(try (refine hK _ ?_;clear hK K));try refine iC ?_)
      exact AA ⟨m.frm.length - (j + 1),by omega,j + 1,by omega,rfl,e2,e3,e5,e6,e7,e8,e9,e10,e11,by rw [hP1];rfl,rfl,s2,s3,s21,s119,s115,s15,s85⟩
     ·have hje:j=m.frm.length:=by omega
      rw [hje] at e12 e13
      have hall:=hpw m.frm.length hfl
      obtain ⟨P,hP⟩:∃ P,o.length ^ m.frm.length=P:=⟨_,rfl⟩
      rw [hP] at e12 hall hfold
      have hirr:¬ (m.frm.length:Int) < m.frm.length:=by omega
      repeat' with_reducible first | refine W ?_ | refine Z0 ?_ | ((first | refine Wo fun K hK=>?_ | refine Wp ?_ | refine Wq ?_ | refine Wr ?_);(try simp only [go_sem,fN,seval,eT,iR,e2,e3,e5,e6,e7,e8,e9,e10,e11,e12,e13,hirr,Nat.lt_irrefl,dT,dF,nL]);(repeat refine Ai ?_);(try (refine hK _ ?_;clear hK K));try refine iC ?_)
      refine IWP.loopD [15,85] (fun q s=>∃ c,c≤P∧q=P - c∧s.env 2=.one (.ptr 2 1 0 0)∧s.env 3=.one (.ptr 3 1 0 0)∧s.env 5=.one (.row 119 ((List.range c).foldl (Cu a b m o.length) o).length)∧s.env 6=.one (.row 115 ((List.range c).foldl (Cu a b m o.length) o).length)∧s.env 7=.one (.row 21 ms.length)∧s.env 8=Ag (decide (o0.length < ((List.range c).foldl (Cu a b m o.length) o).length))∧s.env 9=AK k∧s.env 10=AK m.frm.length∧s.env 11=AK o.length∧s.env 12=AK P∧s.env 14=AK c∧s.S 2=some (AE a)∧s.S 3=some (AE b)∧s.S 21=some (.arow 46 3 (ms.map Ae))∧s.S 119=some (.arow 39 2 (((List.range c).foldl (Cu a b m o.length) o).map A_))∧s.S 115=some (.arow 9 1 ((((List.range c).foldl (Cu a b m o.length) o).map (Et a b)).map DV))∧s.S 15=none∧s.S 85=none) P
       ⟨0,Nat.zero_le _,rfl,e2,e3,e5,e6,e7,e8,e9,e10,e11,e12,rfl,s2,s3,s21,s119,s115,s15,s85⟩ ?_
      clear e2 e3 e5 e6 e7 e8 e9 e10 e11 e12 e13 s2 s3 s21 s119 s115 s15 s85
      rintro q ⟨env,S⟩ ⟨c,hc,rfl,e2,e3,e5,e6,e7,e8,e9,e10,e11,e12,e14,s2,s3,s21,s119,s115,s15,s85⟩
      simp only at e2 e3 e5 e6 e7 e8 e9 e10 e11 e12 e14 s2 s3 s21 s119 s115 s15 s85
      have hokc:OkG a b syms ((List.range c).foldl (Cu a b m o.length) o):=OkG.steps hsy hfl hoko (Nat.le_refl _) fun x hx=>by
       have:=List.mem_range.1 hx
       omega
      have hprc:=D6 (f:=Cu a b m o.length) (fun out c=>Gf out c) (List.range c) o
      have hsn:(List.range (c + 1)).foldl (Cu a b m o.length) o=Cu a b m o.length ((List.range c).foldl (Cu a b m o.length) o) c:=by rw [List.range_succ,List.foldl_append];rfl
      by_cases hcl:(c:Int) < P
      ·obtain ⟨o1,ho1⟩:∃ o1,(List.range c).foldl (Cu a b m o.length) o=o1:=⟨_,rfl⟩
       rw [ho1] at e5 e6 e8 s119 s115 hokc hprc hsn
       have ho1l:=hokc.len ha3 hb3
       have hprl:=hprc.length_le
       have hcP:c < o.length ^ m.frm.length:=by omega
       have htg:=XZ hprc (Nat.le_refl _) hfl hcP
       repeat' with_reducible first | refine W ?_ | refine Z0 ?_ | ((first | refine Wo fun K hK=>?_ | refine Wp ?_ | refine Wq ?_ | refine Wr ?_);(try simp only [go_sem,fN,seval,eT,iR,e2,e3,e5,e6,e7,e8,e9,e10,e11,e12,e14,s21,s15,s85,hcl,hmk,hMll,Ae,dT,dF,nL]);(repeat refine Ai ?_);(try (refine hK _ ?_;clear hK K));try refine iC ?_)
       refine IWP.ghost (Ad.ownCellA (e':=39) (id:=15) (r:=85) (cs:=[.st (.str m.name),.full []]) (e:=39) 1 2 (by simp only [go_sem,fN,seval,eT,iR]) rfl (by simp only [go_sem,fN,seval,eT,iR,s85]) (by decide)) ?_
       refine IWP.loop (fun q s=>∃ j,j≤m.frm.length∧q=m.frm.length - j∧s.env 2=.one (.ptr 2 1 0 0)∧s.env 3=.one (.ptr 3 1 0 0)∧s.env 5=.one (.row 119 o1.length)∧s.env 6=.one (.row 115 o1.length)∧s.env 7=.one (.row 21 ms.length)∧s.env 8=Ag (decide (o0.length < o1.length))∧s.env 9=AK k∧s.env 10=AK m.frm.length∧s.env 11=AK o.length∧s.env 12=AK P∧s.env 14=AK c∧s.env 15=.one (.ptr 15 1 0 0)∧s.env 16=AK j∧s.S 2=some (AE a)∧s.S 3=some (AE b)∧s.S 21=some (.arow 46 3 (ms.map Ae))∧s.S 119=some (.arow 39 2 (o1.map A_))∧s.S 115=some (.arow 9 1 ((o1.map (Et a b)).map DV))∧s.S 15=some (.box 39 [.st (.str m.name),.row 85 j])∧s.S 85=some (.arow 39 2 (((Df o1 o.length m.frm.length c).take j).map A_))) m.frm.length
        ⟨0,Nat.zero_le _,rfl,e2,e3,e5,e6,e7,e8,e9,e10,e11,e12,e14,rfl,rfl,by simp only [go_sem,fN,seval,eT,iR,s2],by simp only [go_sem,fN,seval,eT,iR,s3],by simp only [go_sem,fN,seval,eT,iR,s21],by simp only [go_sem,fN,seval,eT,iR,s119],by simp only [go_sem,fN,seval,eT,iR,s115],by (simp only [go_sem,fN,seval,eT,iR];rfl),by simp only [go_sem,fN,seval,eT,iR]⟩ ?_
       clear e2 e3 e5 e6 e7 e8 e9 e10 e11 e12 e14 s2 s3 s21 s119 s115 s15 s85
       rintro q ⟨env,S⟩ ⟨j,hj,rfl,e2,e3,e5,e6,e7,e8,e9,e10,e11,e12,e14,e15,e16,s2,s3,s21,s119,s115,s15,s85⟩
       simp only at e2 e3 e5 e6 e7 e8 e9 e10 e11 e12 e14 e15 e16 s2 s3 s21 s119 s115 s15 s85
       have hol1:(o1.map A_).length=o1.length:=by simp
       have hl85:(((Df o1 o.length m.frm.length c).take j).map A_).length=j:=by rw [List.length_map,List.length_take,FG];omega
       by_cases hjl:(j:Int) < m.frm.length
       ·have hn0:0 < o.length:=by
         rcases Nat.eq_zero_or_pos o.length with h | h
         ·exact absurd ⟨by omega,h⟩ hskip
         ·exact h
        have hn0':¬ ((o.length:Nat):Int)=0:=by omega
        have haj:(Df o1 o.length m.frm.length c)[j]?=some (if j=0 then o1.getD (c % o.length) tmZ else o1.getD (c / o.length) tmZ):=by
         unfold Df
         rw [List.getElem?_map,List.getElem?_range (by omega)]
         rfl
        by_cases hj0:j=0
        ·have hj0':((j:Nat):Int)=0:=by omega
         obtain ⟨r,hr⟩:∃ r,c % o.length=r:=⟨_,rfl⟩
         have hrl:r < o1.length:=by have:=Nat.mod_lt c hn0;omega
         have hmd:(c:Int).tmod ((o.length:Nat):Int)=(r:Int):=by rw [Un,hr]
         obtain ⟨t0,ht0⟩:=Ab hrl
         rw [if_pos hj0,hr,List.getD_eq_getElem?_getD,ht0,Option.getD_some] at haj
         have h0p:(0:Int) < m.frm.length:=by omega
         have h0q:0 < m.frm.length:=by omega
         repeat' with_reducible first | refine W ?_ | refine Z0 ?_ | ((first | refine Wo fun K hK=>?_ | refine Wp ?_ | refine Wq ?_ | refine Wr ?_);(try simp only [go_sem,fN,seval,eT,iR,e2,e3,e5,e6,e7,e8,e9,e10,e11,e12,e14,e15,e16,s119,s15,s85,hjl,hj0',h0p,h0q,hol1,hl85,hmd,hn0',ht0,dT,dF,nL]);(repeat refine Ai ?_);(try (refine hK _ ?_;clear hK K));try refine iC ?_)
         refine AA ⟨m.frm.length - (j + 1),by omega,j + 1,by omega,rfl,e2,e3,e5,e6,e7,e8,e9,e10,e11,e12,e14,e15,by rw [hj0];rfl,by simp only [go_sem,fN,seval,eT,iR,s2],by simp only [go_sem,fN,seval,eT,iR,s3],by simp only [go_sem,fN,seval,eT,iR,s21],by simp only [go_sem,fN,seval,eT,iR,s119],by simp only [go_sem,fN,seval,eT,iR,s115],by simp only [go_sem,fN,seval,eT,iR],?_⟩
         rw [AQ haj,List.map_append]
         simp only [go_sem,fN,seval,eT,iR]
        ·have hj0':¬ ((j:Nat):Int)=0:=by omega
         have hk2:m.frm.length=2:=by omega
         obtain ⟨r,hr⟩:∃ r,c / o.length=r:=⟨_,rfl⟩
         have hrl:r < o1.length:=by
          rw [hk2,Nat.pow_two] at hcP
          have:=Nat.div_lt_of_lt_mul hcP
          omega
         have hdv:(c:Int).tdiv ((o.length:Nat):Int)=(r:Int):=by rw [VD,hr]
         obtain ⟨t0,ht0⟩:=Ab hrl
         rw [if_neg hj0,hr,List.getD_eq_getElem?_getD,ht0,Option.getD_some] at haj
         repeat' with_reducible first | refine W ?_ | refine Z0 ?_ | ((first | refine Wo fun K hK=>?_ | refine Wp ?_ | refine Wq ?_ | refine Wr ?_);(try simp only [go_sem,fN,seval,eT,iR,e2,e3,e5,e6,e7,e8,e9,e10,e11,e12,e14,e15,e16,s119,s15,s85,hjl,hj0',hol1,hl85,hdv,hn0',ht0,dT,dF,nL]);(repeat refine Ai ?_);(try (refine hK _ ?_;clear hK K));try refine iC ?_)
         refine AA ⟨m.frm.length - (j + 1),by omega,j + 1,by omega,rfl,e2,e3,e5,e6,e7,e8,e9,e10,e11,e12,e14,e15,rfl,by simp only [go_sem,fN,seval,eT,iR,s2],by simp only [go_sem,fN,seval,eT,iR,s3],by simp only [go_sem,fN,seval,eT,iR,s21],by simp only [go_sem,fN,seval,eT,iR,s119],by simp only [go_sem,fN,seval,eT,iR,s115],by simp only [go_sem,fN,seval,eT,iR],?_⟩
         rw [AQ haj,List.map_append]
         simp only [go_sem,fN,seval,eT,iR]
       ·have hje2:j=m.frm.length:=by omega
        have hat:(Df o1 o.length m.frm.length c).take j=Df o1 o.length m.frm.length c:=List.take_of_length_le (by rw [FG];omega)
        rw [hat] at s85 hl85
        have htg1:tG m o1 o.length c=.mk m.name (Df o1 o.length m.frm.length c):=rfl
        have hao:=M8 (n:=o.length) (out:=o1) hprl hfl hcP
        have hnar:DE (tG m o1 o.length c):=.mk (by rw [FG];omega) fun x hx=>(hokc.ok x (hao x hx)).2
        have cE1:=E2 a ga (by omega) hma (tG m o1 o.length c) hnar
        have cE2:=E2 b gb (by omega) hmb (tG m o1 o.length c) hnar
        have el1:(a.ends (tG m o1 o.length c)).length≤3:=by rw [Au.ends_length];omega
        have el2:(b.ends (tG m o1 o.length c)).length≤3:=by rw [Au.ends_length];omega
        have cT1:=Kg (a.ends (tG m o1 o.length c)) (by omega)
        have cT2:=Kg (b.ends (tG m o1 o.length c)) (by omega)
        have hz1:=HH (a.ends (tG m o1 o.length c))
        have hz2:=HH (b.ends (tG m o1 o.length c))
        have hkey:BF (a.ends (tG m o1 o.length c)) ++ ⟨#[124]⟩ ++ BF (b.ends (tG m o1 o.length c))=Et a b (tG m o1 o.length c):=rfl
        have hin:=Xj (Et a b (tG m o1 o.length c)) (o1.map (Et a b))
        have hyes:FZ (Et a b (tG m o1 o.length c)) (o1.map (Et a b))=true ↔ FU a b (tG m o1 o.length c) ∈ o1.map (FU a b):=by
         rw [Hz,List.mem_map,List.mem_map]
         simp only [Vo]
        have hst1:Cu a b m o.length o1 c=Qe a b o1 (tG m o1 o.length c):=rfl
        rw [hst1] at hsn
        unfold Qe at hsn
        have hzk:(BF (a.ends (tG m o1 o.length c)) ++ (⟨#[124]⟩:ByteArray)).size≤maxLen:=by rw [ByteArray.size_append,hz1,BM,show (⟨#[124]⟩:ByteArray).size=1 from rfl];omega
        have hzk2:(Et a b (tG m o1 o.length c)).size≤maxLen:=by rw [← hkey,ByteArray.size_append,ByteArray.size_append,hz1,hz2,BM,show (⟨#[124]⟩:ByteArray).size=1 from rfl];omega
        rw [htg1] at hnar cE1 cE2 el1 el2 cT1 cT2 hz1 hz2 hkey hin hyes hsn hzk hzk2
        generalize Df o1 o.length m.frm.length c=as_ at *
        obtain ⟨kk,hkk⟩:∃ kk,Et a b (.mk m.name as_)=kk:=⟨_,rfl⟩
        rw [hkk] at hkey hin hyes hzk2
        have hfix:o1.length=(o1.map (Et a b)).length:=(List.length_map _).symm
        by_cases hi:FZ kk (o1.map (Et a b))=true
        ·rw [hi] at hin
         rw [if_pos (hyes.1 hi)] at hsn
         repeat' (first | (with_reducible first | refine W ?_ | refine Z0 ?_ | ((first | refine Wo fun K hK=>?_ | refine Wp ?_ | refine Wq ?_ | refine Wr ?_);(try simp only [go_sem,fN,seval,eT,iR,e2,e3,e5,e6,e7,e8,e9,e10,e11,e12,e14,e15,e16,s2,s3,s115,s15,s85,hjl,hl85,hkey,hzk,hzk2,AE,dT,dF,nL]);(repeat refine Ai ?_);(try (refine hK _ ?_;clear hK K));try refine iC ?_)) | refine Cg _ (cE1) ?_ | refine Cg _ (cT1) ?_ | refine Cg _ (cE2) ?_ | refine Cg _ (cT2) ?_ | refine Cg _ (hin) ?_)
         refine AA ⟨P - (c + 1),by omega,c + 1,by omega,rfl,?_⟩
         simp only [go_sem,fN,seval,AS.drop,AY,AC.clears,AC.clear,AC.highs,AC.high,Bool.not_false,Bool.true_and,Bool.and_self,AV.purge,AV.purges,AC.purge,AL.purge,List.contains_cons,List.contains_nil,Nat.reduceBEq,Bool.or_self,Bool.or_false,Bool.false_or,Bool.or_true,eT,iR,e2,e3,e5,e6,e7,e8,e9,e10,e11,e12,e14,s2,s3,s21,s115,s119,hsn,AE]
         rw [← List.range_succ,hsn]
         exact ⟨rfl,rfl,rfl,rfl,rfl,rfl⟩
        ·have hi':FZ kk (o1.map (Et a b))=false:=by simpa using hi
         rw [hi'] at hin
         rw [if_neg (fun h=>hi (hyes.2 h))] at hsn
         have hkl:((o1.map (Et a b)).map DV).length=o1.length:=by simp
         repeat' (first | (with_reducible first | refine W ?_ | refine Z0 ?_ | ((first | refine Wo fun K hK=>?_ | refine Wp ?_ | refine Wq ?_ | refine Wr ?_);(try simp only [go_sem,fN,seval,eT,iR,e2,e3,e5,e6,e7,e8,e9,e10,e11,e12,e14,e15,e16,s2,s3,s115,s119,s15,s85,hjl,hl85,hkey,hzk,hzk2,AE,hol1,hkl,dT,dF,nL]);(repeat refine Ai ?_);(try (refine hK _ ?_;clear hK K));try refine iC ?_)) | refine Cg _ (cE1) ?_ | refine Cg _ (cT1) ?_ | refine Cg _ (cE2) ?_ | refine Cg _ (cT2) ?_ | refine Cg _ (hin) ?_)
         refine AA ⟨P - (c + 1),by omega,c + 1,by omega,rfl,?_⟩
         simp only [go_sem,fN,seval,AS.drop,AY,AC.clears,AC.clear,AC.highs,AC.high,Bool.not_false,Bool.true_and,Bool.and_self,AV.purge,AV.purges,AC.purge,AL.purge,List.contains_cons,List.contains_nil,Nat.reduceBEq,Bool.or_self,Bool.or_false,Bool.false_or,Bool.or_true,eT,iR,e2,e3,e5,e6,e7,e8,e9,e10,e11,e12,e14,s2,s3,s21,s115,s119,hsn,AE]
         rw [← List.range_succ,hsn,decide_eq_true (p:=o0.length < (o1 ++ [Tm.mk m.name as_]).length) (by rw [List.length_append,List.length_singleton];omega),List.length_append,List.map_append,List.map_append,List.map_append]
         refine ⟨rfl,rfl,rfl,rfl,by simp [A_,Kp],?_⟩
         rw [List.map_singleton,hkk]
         rfl
      ·have hce:c=P:=by omega
       rw [hce] at e5 e6 e8 s119 s115
       repeat' with_reducible first | refine W ?_ | refine Z0 ?_ | ((first | refine Wo fun K hK=>?_ | refine Wp ?_ | refine Wq ?_ | refine Wr ?_);(try simp only [go_sem,fN,seval,eT,iR,e2,e3,e5,e6,e7,e8,e9,e10,e11,e12,e14,hcl,dT,dF,nL]);(repeat refine Ai ?_);(try (refine hK _ ?_;clear hK K));try refine iC ?_)
       exact AA ⟨ms.length - (k + 1),by omega,k + 1,by omega,rfl,e2,e3,by rw [hfold];exact e5,by rw [hfold];exact e6,e7,by rw [hfold];exact e8,rfl,s2,s3,s21,by rw [hfold];exact s119,by rw [hfold];exact s115,s15,s85⟩)
  ·have hke:k=ms.length:=by omega
   have hpp:=Mp (a:=a) (b:=b) (ms:=ms) o0
   rw [hke,List.take_length] at e5 e6 e8 s119 s115
   rw [show ms.foldl (CG a b) o0=itG a b ms (i + 1) from hit2.symm] at e5 e6 e8 s119 s115
   repeat' with_reducible first | refine W ?_ | refine Z0 ?_ | ((first | refine Wo fun K hK=>?_ | refine Wp ?_ | refine Wq ?_ | refine Wr ?_);(try simp only [go_sem,fN,seval,eT,iR,e2,e3,e9,e7,s21,hlt,hMll,dT,dF,nL]);(repeat refine Ai ?_);(try (refine hK _ ?_;clear hK K));try refine iC ?_)
   refine AA ⟨k0 + 2 - (i + 1),by omega,i + 1,by omega,rfl,e2,e3,e5,e6,e7,s2,s3,s21,s119,s115,⟨_,e8,fun h=>⟨i,rfl,?_⟩,fun h=>?_⟩,s15,s85⟩
   ·have h:¬ o0.length < (itG a b ms (i + 1)).length:=by simpa using h
    rw [hit2] at h ⊢
    have:=hpp.eq_of_length (by have:=hpp.length_le;omega)
    rw [ho0]
    exact this.symm
   ·have h:o0.length < (itG a b ms (i + 1)).length:=by simpa using h
    rcases Nat.lt_or_ge i k0 with hlt | hge
    ·exact hlt
    ·exfalso
     have hik2:i=k0:=by omega
     subst hik2
     rw [hst,ho0] at h
     omega
theorem Rk (a b:Au) (ga:a.Good) (gb:b.Good) (ha:Ar a=true) (hb:Ar b=true) (hma:a.moves.length≤100000) (hmb:b.moves.length≤100000) :
  AU Try.prog 11 [aAu a,aAu b] (Ag (IM a b)):=by
 have hg:=NQ a b ga gb ha hb hma hmb
 have hok:=FW (a:=a) (b:=b) (Dh ha hb).1
 have hw:=KS ha hb
 have ha3:=Al ha
 have hb3:=Al hb
 have hl64:=hok.len ha3 hb3
 rw [← hw]
 generalize Bw a b (C6 a b)=l at *
 refine MJ.ac fun C hC=>?_
 unfold G0
 repeat' (first | (with_reducible first | refine W ?_ | refine Z0 ?_ | ((first | refine Wo fun K hK=>?_ | refine Wp ?_ | refine Wq ?_ | refine Wr ?_);(try simp only [go_sem,fN,seval,eT,iR,dT,dF,nL]);(repeat refine Ai ?_);(try (refine hK _ ?_;clear hK K));try refine iC ?_)) | refine Cg _ (hg) ?_)
 refine IWP.loop (fun q s=>∃ k,k≤l.length∧q=l.length - k∧s.env 2=.one (.ptr 2 1 0 0)∧s.env 3=.one (.ptr 3 1 0 0)∧s.env 5=JU l∧s.env 6=AK k∧s.S 2=some (AE a)∧s.S 3=some (AE b)∧((l.take k).all fun t=>!(a.acc t && !b.acc t))=true) l.length
  ⟨0,Nat.zero_le _,rfl,rfl,rfl,by simp only [go_sem,fN,seval,eT,iR],by simp only [go_sem,fN,seval,eT,iR],rfl,rfl,rfl⟩ ?_
 rintro q ⟨env,S⟩ ⟨k,hk,rfl,e2,e3,e5,e6,s2,s3,hall⟩
 simp only at e2 e3 e5 e6 s2 s3
 unfold AE at s2 s3
 have hll:(l.map A_).length=l.length:=by simp
 by_cases hlt:(k:Int) < l.length
 ·obtain ⟨t,ht⟩:=Ab (show k < l.length by omega)
  have htm:=AM ht
  have c1:=Ei a ga (by omega) hma t (hok.ok t htm).2
  have c2:=Ei b gb (by omega) hmb t (hok.ok t htm).2
  have hsn:((l.take (k + 1)).all fun t=>!(a.acc t && !b.acc t))=!(a.acc t && !b.acc t):=by
   rw [AQ ht,List.all_append,hall]
   simp
  cases h1:a.acc t with
  | false =>
   rw [h1] at c1 hsn
   repeat' (first | (with_reducible first | refine W ?_ | refine Z0 ?_ | ((first | refine Wo fun K hK=>?_ | refine Wp ?_ | refine Wq ?_ | refine Wr ?_);(try simp only [go_sem,fN,seval,eT,iR,e2,e3,e5,e6,s2,s3,hlt,ht,hll,dT,dF,nL]);(repeat refine Ai ?_);(try (refine hK _ ?_;clear hK K));try refine iC ?_)) | refine Cg _ (c1) ?_ | refine Cg _ (c2) ?_)
   exact AA ⟨l.length - (k + 1),by omega,k + 1,by omega,rfl,e2,e3,e5,rfl,s2,s3,hsn⟩
  | true =>
   cases h2:b.acc t with
   | true =>
    rw [h1] at c1
    rw [h2] at c2
    rw [h1,h2] at hsn
    repeat' (first | (with_reducible first | refine W ?_ | refine Z0 ?_ | ((first | refine Wo fun K hK=>?_ | refine Wp ?_ | refine Wq ?_ | refine Wr ?_);(try simp only [go_sem,fN,seval,eT,iR,e2,e3,e5,e6,s2,s3,hlt,ht,hll,dT,dF,nL]);(repeat refine Ai ?_);(try (refine hK _ ?_;clear hK K));try refine iC ?_)) | refine Cg _ (c1) ?_ | refine Cg _ (c2) ?_)
    exact AA ⟨l.length - (k + 1),by omega,k + 1,by omega,rfl,e2,e3,e5,rfl,s2,s3,hsn⟩
   | false =>
    rw [h1] at c1
    rw [h2] at c2
    have hno:(l.all fun t=>!(a.acc t && !b.acc t))=false:=by
     rw [List.all_eq_false]
     exact ⟨t,htm,by rw [h1,h2];decide⟩
    repeat' (first | (with_reducible first | refine W ?_ | refine Z0 ?_ | ((first | refine Wo fun K hK=>?_ | refine Wp ?_ | refine Wq ?_ | refine Wr ?_);(try simp only [go_sem,fN,seval,eT,iR,e2,e3,e5,e6,s2,s3,hlt,ht,hll,dT,dF,nL]);(repeat refine Ai ?_);(try (refine hK _ ?_;clear hK K));try refine iC ?_)) | refine Cg _ (c1) ?_ | refine Cg _ (c2) ?_)
    simp only [go_sem,fN,seval,AP,AS.result,AH,AI,AN]
    rw [hno]
 ·have hke:k=l.length:=by omega
  rw [hke,List.take_length] at hall
  repeat' with_reducible first | refine W ?_ | refine Z0 ?_ | ((first | refine Wo fun K hK=>?_ | refine Wp ?_ | refine Wq ?_ | refine Wr ?_);(try simp only [go_sem,fN,seval,eT,iR,e2,e3,e5,e6,hlt,hll,dT,dF,nL]);(repeat refine Ai ?_);(try (refine hK _ ?_;clear hK K));try refine iC ?_)
  simp only [go_sem,fN,seval,AP,AS.result,AH,AI,AN]
  rw [hall]

section
variable {C:Ctx} {s:AS}
theorem Ad.crow {id:Nat} {e:TypeId} {xs:List SV} (hS:s.S id=some (.mrow e 1 (xs.map ([·])))) (hne:0 < xs.length):Ad C s (s.set id (.crow e (xs.map .st))):=fun a w ⟨σ,ι,R⟩=>by
 have hb:=R.blk _ _ hS
 generalize hys:xs.map ([·])=ys at hb hS
 cases hb with
 | mnil h1 h2 =>
  have h0:(xs.map fun x=>[x]).length=0:=congrArg List.length hys
  rw [List.length_map] at h0
  omega
 | @mrow _ _ _ g vs h1 h2 h3 h4 h5 h6 h7 h8 h9 =>
  subst hys
  rw [List.length_map] at h4
  obtain ⟨hu,R'⟩:=R.turn (w':=w) hS (.crow e (xs.map .st)) (ι id) (σ':=σ) (fun _ _ h=>h) (fun _ _ _=>rfl) R.fit (by simp [AL.len]) (fun _=>⟨rfl,rfl⟩) ⟨rfl,rfl,rfl⟩ (Nat.le_refl _) (fun _ _ _=>rfl) (fun g h=>.inl h) (fun hu=>by
   refine .crow h1 h2 h3 (by rw [List.length_map];omega) h5 (Af.of_get (by simp;omega) fun j v c hv hc=>?_) h9
   rw [List.getElem?_map,Option.map_eq_some_iff] at hc
   obtain ⟨x,hx,rfl⟩:=hc
   obtain ⟨v',k1,k2⟩:=h8 j [x] 0 x (by rw [List.getElem?_map,hx];rfl) rfl
   rw [List.getElem?_take] at hv
   split at hv
   ·have e1:vs[j]?=some v:=by simpa using hv
    rw [show j * 1 + 0=j by omega,e1] at k1
    cases k1
    exact .st k2
   ·cases hv)
  exact ⟨_,_,R'⟩
end

theorem Ad.renameC {C:Ctx} {s:AS} (A j id nid N:Nat) {e e':TypeId} {cs:List AC} {wd:Nat} {xs:List (List SV)} (hA:s.S A=some (.crow e' cs)) (hj:cs[j]?=some (.row id xs.length)) (hid:s.S id=some (.mrow e wd xs)) (hn:s.S nid=none) (hN:xs.length < N) :
  Ad C s ⟨s.env,AD (AD (AD s.S id (some (.dead N wd))) nid (some (.mrow e wd xs))) A (some (.crow e' (cs.set j (.row nid xs.length))))⟩:=fun a w ⟨σ,ι,R⟩=>by
 have hne:A ≠ id:=fun h=>by subst h;rw [hA] at hid;cases hid
 have hne2:A ≠ nid:=fun h=>by subst h;rw [hA] at hn;cases hn
 have hni:nid ≠ id:=fun h=>by subst h;rw [hn] at hid;cases hid
 have hb:=R.blk _ _ hid
 have hbb:∀ S' ι',Bn σ S' ι' w (ι id) (.mrow e wd xs):=fun S' ι'=>by
  cases hb with
  | mnil h1 h2=>exact .mnil h1 h2
  | mrow h1 h2 h3 h4 h5 h6 h7 h8 h9=>exact .mrow h1 h2 h3 h4 h5 h6 h7 h8 h9
 obtain ⟨hu,R'⟩:=R.move (N:=N) (wd:=wd) hid hn hN (fun g hg=>hg) hbb
 have hbA:=R.blk _ _ hA
 cases hbA with
 | @crow _ _ g vs h1 h2 h3 h4 h5 h6 h7 =>
  have hA2:(AD (AD s.S id (some (.dead N wd))) nid (some (.mrow e wd xs))) A=some (.crow e' cs):=by rw [AF _ hne2,AF _ hne,hA]
  have hιA:AD (AD ι id ⟨none,0,none⟩) nid (ι id) A=ι A:=by rw [AF _ hne2,AF _ hne]
  obtain ⟨hu2,R2⟩:=R'.turn (w':=w) hA2 (.crow e' (cs.set j (.row nid xs.length))) (ι A) (σ':=σ) (fun _ _ h=>h) (fun _ _ _=>rfl) R.fit (by simp [AL.len]) (fun _=>⟨rfl,hιA.symm⟩) ⟨rfl,rfl,rfl⟩ (Nat.le_refl _) (fun _ _ _=>rfl) (fun g h=>.inl (by rw [hιA];exact h)) (fun hu2=>by
   refine .crow h1 h2 h3 (by rw [List.length_set];exact h4) h5 (Af.of_get (by rw [List.length_set];exact h6.len) fun k v c hv hc=>?_) h7
   rw [List.length_set] at hv
   rw [List.getElem?_set] at hc
   by_cases hk:j=k
   ·subst hk
    have hl:=(List.getElem?_eq_some_iff.1 hj).1
    rw [if_pos rfl,if_pos hl] at hc
    cases hc
    obtain ⟨v',k1,k2⟩:=h6.get hj
    rw [hv] at k1
    cases k1
    obtain ⟨b0,q1,q2,q3,q4⟩:=MS k2
    rw [hid] at q1
    cases q1
    have hs1:(AD (AD (AD s.S id (some (.dead N wd))) nid (some (.mrow e wd xs))) A (some (.crow e' (cs.set j (.row nid xs.length))))) nid=some (.mrow e wd xs):=by rw [AF _ hne2.symm,AG]
    refine .row (b:=.mrow e wd xs) hs1 (Nat.le_refl _) q3 fun _=>?_
    rw [AF _ hne2.symm,AG]
    exact q4 rfl
   ·rw [if_neg hk] at hc
    obtain ⟨v',k1,k2⟩:=h6.get hc
    rw [hv] at k1
    cases k1
    exact k2.mono (fun _ _ h=>h) (hu.trans hu2))
  exact ⟨_,_,R2⟩

end Go.Proofs.Ytkegjgodjigjfaa
