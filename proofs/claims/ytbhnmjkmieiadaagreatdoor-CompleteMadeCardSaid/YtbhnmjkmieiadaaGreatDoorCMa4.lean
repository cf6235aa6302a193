/-
  Part 4 of the texts. Conditions: none.
-/
import Derived.Test.YtbhnmjkmieiadaaGreatDoorCMa3
import Derived.MapKept
import Derived.Maps.RangeRun
import Derived.WideKeyRuns
import Derived.DeepKeys3
import Derived.LaidEql
import Derived.Laws.MakeOwn
import Derived.Laws.CopyRow
import Derived.Laws.IdiomCopy
namespace Go.Proofs.YtbhnmjkmieiadaaGreatDoor
open Go Go.RowKit Go.MapKept
open Go.ChangeMaps (setBlock)
set_option linter.unusedVariables false
set_option maxHeartbeats 400000
set_option linter.unusedSimpArgs false
def KV.val1:Option IntKind→KV→Value
 | some k,.i n=>.int k n
 | none,.s b=>.string b
 | _,_=>.int .i64 0
def KV.val:Option KK→KV→Value
 | some (.int k),.i n=>.int k n
 | none,.s b=>.string b
 | some (.two a b),.p x y=>.agg #[x.val1 a,y.val1 b]
 | _,_=>.int .i64 0
def I9:Option IntKind→TypeDesc
 | none=>.string
 | some k=>.int k
def VQ:TypeDesc→Option (Option IntKind)
 | .string=>some none
 | .int k=>some (some k)
 | _=>none
theorem NM{t:TypeDesc}{kt:Option IntKind}(h:VQ t=some kt):t=I9 kt:=by
 cases t <;> simp only[VQ,Option.some.injEq,reduceCtorEq]at h <;> subst h <;> rfl
def QZ(P:Program)(k:TypeId):Option (Option KK):=match P.underlying k with
 | some .string=>some none
 | some (.int q)=>some (some (.int q))
 | some (.struct fs)=>match fs.toList with
  | [f, g] => if (f.name ≠ "_" ∧ g.name ≠ "_") ∧ (f.offset = 0 ∧ g.offset = 1) ∧ P.stoodInHeld k = false then match P.underlying f.type, P.underlying g.type with
  | some tf,some tg=>match VQ tf,VQ tg with
   | some a,some b=>some (some (.two a b))
   | _,_=>none
  | _,_=>none
  else none
  | _=>none
 | _=>none
structure Xr(P:Program)(k:TypeId)(a b:Option IntKind):Prop where
 two : ∃ f g : Field, P.underlying k = some (.struct #[f, g]) ∧ (f.name ≠ "_" ∧ g.name ≠ "_") ∧ (f.offset = 0 ∧ g.offset = 1) ∧ P.underlying f.type = some (I9 a) ∧ P.underlying g.type = some (I9 b)
 held:P.stoodInHeld k=false
def Nu(P:Program)(k:TypeId):Option KK→Prop
 | none=>P.underlying k=some .string
 | some (.int q)=>P.underlying k=some (.int q)
 | some (.two a b)=>Xr P k a b
theorem ZI{P:Program}{k:TypeId}{kt:Option KK}(h:QZ P k=some kt):Nu P k kt:=by
 unfold QZ at h;split at h
 ·rename_i e;cases h;exact e
 ·rename_i e;cases h;exact e
 ·rename_i fs e;split at h
  ·rename_i f g e';have e'':fs=#[f,g]:=Array.ext' e';subst e'';split at h
   ·rename_i hc;split at h
    ·rename_i tf tg e1 e2;split at h
     ·rename_i a b e3 e4;cases h;exact⟨⟨f,g,e,hc.1,hc.2.1,by rw[e1,NM e3],by rw[e2,NM e4]⟩,hc.2.2⟩
     ·cases h
    ·cases h
   ·cases h
  ·cases h
 ·cases h
section
variable {σ:Sto} {kt:Option KK}
theorem SD{o:Option IntKind}{kv:KV}{c:SV}{v:Value}(h:kv.sv1 o=some c)(hr:A8 σ v c):v=kv.val1 o:=by
 cases o <;> cases kv <;> simp only[KV.sv1,Option.some.injEq,reduceCtorEq]at h <;> subst h <;> cases hr <;> rfl
theorem Vc{o:Option IntKind}{kv:KV}{c:SV}(h:kv.sv1 o=some c):IsKey (I9 o) (kv.val1 o):=by
 cases o <;> cases kv <;> simp only[KV.sv1,reduceCtorEq]at h <;> simp[IsKey,I9,KV.val1]
theorem Sc{o:Option IntKind}{k k':KV}{c c':SV}(h:k.sv1 o=some c)(h':k'.sv1 o=some c')(e:k.val1 o=k'.val1 o):k=k':=by
 cases o <;> cases k <;> cases k' <;> simp only[KV.sv1,reduceCtorEq]at h h' <;> simp only[KV.val1,Value.int.injEq,Value.string.injEq,true_and]at e <;> rw[e]
theorem Ir{a b:Option IntKind}{kv:KV}{c:AV}(h:kv.sv (some (.two a b))=some c):∃x y cx cy,kv=.p x y∧x.sv1 a=some cx∧y.sv1 b=some cy∧c=.agg [.st cx,.st cy]:=by
 cases kv with
 | p x y =>
  simp only[KV.sv]at h;split at h
  ·rename_i c d e1 e2;cases h;exact⟨x,y,c,d,rfl,e1,e2,rfl⟩
  ·cases h
 | _=>cases h
theorem U_{S:AA}{ι:A6}{v:Value}{x y:SV}(h:Ae σ S ι v (.agg [.st x,.st y])):∃v1 v2,v=.agg #[v1,v2]∧A8 σ v1 x∧A8 σ v2 y:=by
 cases h with
 | @agg vs _ h =>
  generalize hl:vs.toList=l at h;cases h with
  | cons h1 h2 =>
   cases h2 with
   | cons h2 h3 =>
    cases h3;refine⟨_,_,?_,CU h1,CU h2⟩;congr 1;apply Array.ext';rw[hl]
theorem Qc{kv:KV}{c:AV}{v:Value}{S:AA}{ι:A6}(h:kv.sv kt=some c)(hr:Ae σ S ι v c):v=kv.val kt:=by
 match kt with
 | none =>
  cases kv <;> simp only[KV.sv,Option.some.injEq,reduceCtorEq]at h;subst h;have:=CU (Ad hr);cases this;rfl
 | some (.int k) =>
  cases kv <;> simp only[KV.sv,Option.some.injEq,reduceCtorEq]at h;subst h;have:=CU (Ad hr);cases this;rfl
 | some (.two a b) =>
  obtain⟨x,y,cx,cy,rfl,h1,h2,rfl⟩:=Ir h;obtain⟨v1,v2,rfl,r1,r2⟩:=U_ hr;rw[SD h1 r1,SD h2 r2];rfl
theorem Vw{k k':KV}{c c':AV}(h:k.sv kt=some c)(h':k'.sv kt=some c')(e:k.val kt=k'.val kt):k=k':=by
 match kt with
 | none=>cases k <;> cases k' <;> simp only[KV.sv,reduceCtorEq]at h h' <;> simp only[KV.val,Value.string.injEq]at e <;> rw[e]
 | some (.int q)=>cases k <;> cases k' <;> simp only[KV.sv,reduceCtorEq]at h h' <;> simp only[KV.val,Value.int.injEq,true_and]at e <;> rw[e]
 | some (.two a b) =>
  obtain⟨x,y,cx,cy,rfl,h1,h2,rfl⟩:=Ir h;obtain⟨x',y',cx',cy',rfl,h1',h2',rfl⟩:=Ir h';simp only[KV.val,Value.agg.injEq,Array.mk.injEq,List.cons.injEq,and_true]at e;rw[Sc h1 h1' e.1,Sc h2 h2' e.2]
theorem Zm{c:SV}{kv:KV}(h:KV.of kt c=some kv):kv.sv kt=some (.one (.st c)):=by
 match kt with
 | none=>cases c <;> simp only[KV.of,reduceCtorEq]at h;cases h;rfl
 | some (.int q) =>
  cases c <;> simp only[KV.of,reduceCtorEq]at h;split at h
  ·rename_i e;cases h;subst e;rfl
  ·cases h
 | some (.two a b)=>cases c <;> simp[KV.of]at h
theorem U0{o:Option IntKind}{c:SV}{kv:KV}(h:KV.of1 o c=some kv):kv.sv1 o=some c:=by
 cases o <;> cases c <;> simp only[KV.of1,reduceCtorEq]at h
 ·cases h;rfl
 ·split at h
  ·rename_i e;cases h;subst e;rfl
  ·cases h
theorem U6{c d:SV}{kv:KV}(h:KV.of2 kt c d=some kv):kv.sv kt=some (.agg [.st c,.st d]):=by
 match kt with
 | none=>simp[KV.of2]at h
 | some (.int q)=>simp[KV.of2]at h
 | some (.two a b) =>
  simp only[KV.of2]at h;split at h
  ·rename_i x y e1 e2;cases h;simp only[KV.sv,U0 e1,U0 e2]
  ·cases h
abbrev TZ(σ:Sto)(kt:Option KK):MapEntry→KV×AV→Prop:=fun e x=>(∃c,x.1.sv kt=some c∧Ae σ noS noH e.key c)∧Ae σ noS noH e.val x.2
theorem J2{e:MapEntry}{x:KV×AV}(h:TZ σ kt e x):e.key=x.1.val kt:=by
 obtain⟨⟨c,h1,h2⟩,_⟩:=h;exact Qc h1 h2
def DD(kt:Option KK)(kv:KV)(l:List MapEntry)(es:List (KV×AV))(i:Nat):Option (Nat×Value):=match Da es kv with
 | none=>none
 | some _=>match l[mAt es kv]? with
  | some e=>some (i+mAt es kv,e.val)
  | none=>none
theorem TP{kv:KV}{c:AV}(hk:kv.sv kt=some c):∀{l:List MapEntry} {es:List (KV×AV)},An (TZ σ kt) l es→∀v,Da es kv=some v→∃e,l[mAt es kv]?=some e∧e.key=kv.val kt∧Ae σ noS noH e.val v
 | _,_,.nil,v,h=>by cases h
 | _,_,@An.cons _ _ _ e x l es hx ht,v,h=>by
  simp only[Da,mAt]at h ⊢;by_cases he:x.1=kv
  ·rw[if_pos he]at h ⊢;cases h;exact⟨e,rfl,by rw[J2 hx,he],hx.2⟩
  ·rw[if_neg he]at h ⊢;obtain⟨e',q1,q2,q3⟩:=TP hk ht v h;exact⟨e',by simpa using q1,q2,q3⟩
variable {P:Program} {k:TypeId}
theorem QQ{a b:ByteArray}:a.data=b.data↔a=b:=by
 cases a;cases b;simp
theorem Vv{o:Option IntKind}{t:TypeId}(ht:P.underlying t=some (I9 o)){x y:KV}{c d:SV}(hx:x.sv1 o=some c)(hy:y.sv1 o=some d)(n:Nat)(w:World):(Op.equalIn (n+1) t (x.val1 o) (y.val1 o)).run P w=.ok (decide (x=y)) w:=by
 cases o with
 | none =>
  cases x <;> cases y <;> simp only[KV.sv1,reduceCtorEq]at hx hy;simp only[KV.val1,run_equalIn_string w n t _ _ ht,bytes_beq,KV.s.injEq];congr 1;rw[Bool.eq_iff_iff];simp[ByteArray.toList_eq,QQ]
 | some q =>
  cases x <;> cases y <;> simp only[KV.sv1,reduceCtorEq]at hx hy;simp only[KV.val1,run_equalIn_int w n t q q _ _ ht,KV.i.injEq];congr 1
theorem QN{o:Option IntKind}{t:TypeId}(ht:P.underlying t=some (I9 o)):P.plainKey t=true:=by
 unfold Program.plainKey;rw[ht];cases o <;> rfl
theorem Sl{a b:Option IntKind}(H:Xr P k a b){x y x' y':KV}{cx cy cx' cy':SV}(h1:x.sv1 a=some cx)(h2:y.sv1 b=some cy)(h3:x'.sv1 a=some cx')(h4:y'.sv1 b=some cy')(w:World) :
  (Op.equal k (.agg #[x.val1 a,y.val1 b]) (.agg #[x'.val1 a,y'.val1 b])).run P w=.ok (decide (KV.p x y=KV.p x' y')) w:=by
 obtain⟨⟨f,g,e0,⟨n1,n2⟩,⟨o1,o2⟩,e1,e2⟩,hh⟩:=H;have p0:∀(u v:Value),(part f.type #[u,v] f.offset).run P w=.ok u w:=fun u v=>by rw[o1];exact run_part_plain w (QN e1) rfl
 have p1:∀(u v:Value),(part g.type #[u,v] g.offset).run P w=.ok v w:=fun u v=>by rw[o2];exact run_part_plain w (QN e2) rfl
 have q1:=Vv (P:=P) e1 h1 h3 9998 w;have q2:=Vv (P:=P) e2 h2 h4 9998 w;unfold Op.equal;rw[show Op.maxDepth=9999+1 from rfl];rw[Op.equalIn];simp only[Sem.run_bind,run_underlying e0,Result.andThen_ok,run_program,hh,Bool.false_eq_true,if_false,List.forIn_toArray,List.forIn_cons,List.forIn_nil,n1,n2,ne_eq,not_false_eq_true,if_true,p0,p1,q1,Sem.run_pure];by_cases hx:x=x'
 ·subst hx;simp only[decide_true,Bool.not_true,Bool.false_eq_true,if_false,Sem.run_pure,Result.andThen_ok,Sem.run_bind,p1,q2,KV.p.injEq,true_and];by_cases hy:y=y'
  ·subst hy;simp
  ·simp[hy]
 ·simp[hx]
theorem Jd{kv:KV}{c:AV}(hk:kv.sv kt=some c)(w:World):(Instr.keyThatStays (kv.val kt) (kv.val kt)).run P w=.ok (kv.val kt) w:=by
 have h:Instr.sameBits 10000 (kv.val kt) (kv.val kt)=true:=by
  match kt with
  | none=>cases kv <;> simp only[KV.sv,reduceCtorEq]at hk;simp[KV.val,Instr.sameBits,bytes_beq]
  | some (.int q)=>cases kv <;> simp only[KV.sv,reduceCtorEq]at hk;simp[KV.val,Instr.sameBits]
  | some (.two a b) =>
   obtain⟨x,y,cx,cy,rfl,h1,h2,-⟩:=Ir hk;have s1:∀{o:Option IntKind} {x:KV} {c:SV},x.sv1 o=some c→Instr.sameBits 9999 (x.val1 o) (x.val1 o)=true:=fun {o x c} h=>by
    cases o <;> cases x <;> simp only[KV.sv1,reduceCtorEq]at h <;> simp[KV.val1,Instr.sameBits,bytes_beq]
   show Instr.sameBits (9999+1) (.agg _) (.agg _)=true
   rw[Instr.sameBits];simp[s1 h1,s1 h2]
 simp[Instr.keyThatStays,h]
theorem GE(H:Nu P k kt){kv:KV}{c:AV}(hk:kv.sv kt=some c)(em:Bool)(w:World):(Instr.checkKey em 10000 k (kv.val kt)).run P w=.ok () w:=by
 match kt with
 | none=>cases kv <;> simp only[KV.sv,reduceCtorEq]at hk;exact run_checkKey (d:=.string) H (by simp[IsKey,KV.val]) em 9999
 | some (.int q)=>cases kv <;> simp only[KV.sv,reduceCtorEq]at hk;exact run_checkKey (d:=.int q) H (by simp[IsKey,KV.val]) em 9999
 | some (.two a b) =>
  obtain⟨x,y,cx,cy,rfl,h1,h2,-⟩:=Ir hk;obtain⟨⟨f,g,e0,⟨n1,n2⟩,⟨o1,o2⟩,e1,e2⟩,hh⟩:=H;have p0:∀(u v:Value),(part f.type #[u,v] f.offset).run P w=.ok u w:=fun u v=>by rw[o1];exact run_part_plain w (QN e1) rfl
  have p1:∀(u v:Value),(part g.type #[u,v] g.offset).run P w=.ok v w:=fun u v=>by rw[o2];exact run_part_plain w (QN e2) rfl
  have q1:=run_checkKey (P:=P) (w:=w) e1 (Vc h1) em 9998;have q2:=run_checkKey (P:=P) (w:=w) e2 (Vc h2) em 9998;show(Instr.checkKey em (9999+1) k (.agg #[x.val1 a,y.val1 b])).run P w=_
  rw[Instr.checkKey];simp[run_underlying e0,n1,n2,p0,p1,q1,q2]
theorem G6(H:Nu P k kt){kv:KV}{c:AV}(hk:kv.sv kt=some c){l:List MapEntry}{es:List (KV×AV)}(ha:An (TZ σ kt) l es)(w:World) :
  match Da es kv with
  | none=>(Instr.findKey k (kv.val kt) l).run P w=.ok none w
  | some v=>∃e,l[mAt es kv]?=some e∧e.key=kv.val kt∧Ae σ noS noH e.val v∧(Instr.findKey k (kv.val kt) l).run P w=.ok (some (mAt es kv,e.val)) w:=by
 have key:(Instr.findKey k (kv.val kt) l).run P w=.ok (DD kt kv l es 0) w:=by
  match kt with
  | none =>
   refine run_findKey (d:=.string) H ?_;have:∀{l:List MapEntry} {es:List (KV×AV)} (i:Nat),An (TZ σ none) l es→Instr.findNow .string (kv.val none) l i=some (DD none kv l es i):=by
    intro l es i ha;induction ha generalizing i with
    | nil=>rfl
    | @cons e x l es hx ht ih =>
     have he:=J2 hx;obtain⟨⟨c',hc',_⟩,_⟩:=hx;obtain⟨r,hr,hiff⟩:=sameNow_of_keys (d:=.string) (a:=kv.val none) (b:=e.key) (by cases kv <;> simp[KV.sv]at hk;simp[IsKey,KV.val]) (by rw[he];cases hx1:x.1 <;> simp[hx1,KV.sv]at hc';simp[IsKey,KV.val]);simp only[Instr.findNow,hr,DD,Da,mAt];by_cases hxe:x.1=kv
     ·have hr1:r=true:=hiff.2 (by rw[he,hxe]);subst hr1;simp[hxe]
     ·have hr1:r=false:=by
       cases r with
       | false=>rfl
       | true=>exact absurd (Vw hk hc' (by rw[hiff.1 rfl,he])) fun q=>hxe q.symm
      subst hr1;simp only[ih,hxe,if_false,DD,List.getElem?_cons_succ];split <;> (try rfl);split <;> simp[Nat.add_assoc,Nat.add_comm 1]
   exact this 0 ha
  | some (.int q) =>
   refine run_findKey (d:=.int q) H ?_;have:∀{l:List MapEntry} {es:List (KV×AV)} (i:Nat),An (TZ σ (some (.int q))) l es→Instr.findNow (.int q) (kv.val (some (.int q))) l i=some (DD (some (.int q)) kv l es i):=by
    intro l es i ha;induction ha generalizing i with
    | nil=>rfl
    | @cons e x l es hx ht ih =>
     have he:=J2 hx;obtain⟨⟨c',hc',_⟩,_⟩:=hx;obtain⟨r,hr,hiff⟩:=sameNow_of_keys (d:=.int q) (a:=kv.val (some (.int q))) (b:=e.key) (by cases kv <;> simp[KV.sv]at hk;simp[IsKey,KV.val]) (by rw[he];cases hx1:x.1 <;> simp[hx1,KV.sv]at hc';simp[IsKey,KV.val]);simp only[Instr.findNow,hr,DD,Da,mAt];by_cases hxe:x.1=kv
     ·have hr1:r=true:=hiff.2 (by rw[he,hxe]);subst hr1;simp[hxe]
     ·have hr1:r=false:=by
       cases r with
       | false=>rfl
       | true=>exact absurd (Vw hk hc' (by rw[hiff.1 rfl,he])) fun q=>hxe q.symm
      subst hr1;simp only[ih,hxe,if_false,DD,List.getElem?_cons_succ];split <;> (try rfl);split <;> simp[Nat.add_assoc,Nat.add_comm 1]
   exact this 0 ha
  | some (.two a b) =>
   have hw:(match P.underlying k with|some (.array _ _)|some (.struct _)=>true|_=>false)=true:=by
    obtain⟨⟨f,g,e0,_⟩,_⟩:=H;rw[e0]
   rw[run_findKey_eq w hw];have:∀{l:List MapEntry} {es:List (KV×AV)} (i:Nat),An (TZ σ (some (.two a b))) l es→(Instr.findAsking k (kv.val (some (.two a b))) l i).run P w=.ok (DD (some (.two a b)) kv l es i) w:=by
    intro l es i ha;induction ha generalizing i with
    | nil=>simp[Instr.findAsking,DD,Da]
    | @cons e x l es hx ht ih =>
     have he:=J2 hx;obtain⟨⟨c',hc',_⟩,_⟩:=hx;obtain⟨x1,y1,cx,cy,rfl,h1,h2,-⟩:=Ir hk;obtain⟨x2,y2,cx2,cy2,hx2,h3,h4,-⟩:=Ir hc';have hq:(Op.equal k (KV.val (some (.two a b)) (.p x1 y1)) e.key).run P w=.ok (decide (KV.p x1 y1=x.1)) w:=by
      rw[he,hx2];exact Sl H h1 h2 h3 h4 w
     simp only[Instr.findAsking,Sem.run_bind,hq,Result.andThen_ok,DD,Da,mAt];by_cases hxe:x.1=KV.p x1 y1
     ·simp[hxe]
     ·have hxe':¬KV.p x1 y1=x.1:=fun q=>hxe q.symm;simp only[hxe,hxe',decide_false,Bool.false_eq_true,if_false,ih,DD,List.getElem?_cons_succ];split <;> (try rfl);split <;> simp[Nat.add_assoc,Nat.add_comm 1]
   exact this 0 ha
 split
 ·rename_i hm;rw[key];simp only[DD,hm]
 ·rename_i v hm;obtain⟨e,q1,q2,q3⟩:=TP hk ha v hm;refine⟨e,q1,q2,q3,?_⟩;rw[key];simp only[DD,hm,q1,Nat.zero_add]
theorem ABI{es:List (KV×AV)}{kv:KV}{v:AV}(h:Da es kv=some v):mAt es kv<es.length:=by
 induction es with
 | nil=>cases h
 | cons x es ih =>
  simp only[Da,mAt]at h ⊢;split at h
  ·rename_i e;simp[if_pos e]
  ·rename_i e;have:=ih h;simp[if_neg e];omega
theorem Yk{es:List (KV×AV)}{kv:KV}(h:Da es kv=none):mAt es kv=es.length:=by
 induction es with
 | nil=>rfl
 | cons x es ih =>
  simp only[Da,mAt]at h ⊢;split at h
  ·cases h
  ·rename_i e;rw[if_neg e,ih h];rfl
theorem Ph{es:List (KV×AV)}{kv:KV}(h:Da es kv=none)(v:AV):Lq es kv v=es++[(kv,v)]:=by
 induction es with
 | nil=>rfl
 | cons x es ih =>
  simp only[Da,Lq]at h ⊢;split at h
  ·cases h
  ·rename_i e;rw[if_neg e,ih h];rfl
theorem WL{es:List (KV×AV)}{kv:KV}{v0:AV}(h:Da es kv=some v0)(v:AV):Lq es kv v=es.modify (mAt es kv) fun x=>(kv,v):=by
 induction es with
 | nil=>cases h
 | cons x es ih =>
  simp only[Da,Lq,mAt]at h ⊢;split at h
  ·rename_i e;rw[if_pos e,if_pos e];rfl
  ·rename_i e;rw[if_neg e,if_neg e,ih h];rfl
theorem An.modify{α β:Type}{R:α→β→Prop}{f:α→α}{g:β→β}(hfg:∀a b,R a b→R (f a) (g b)):∀{l:List α} {m:List β},An R l m→∀i,An R (l.modify i f) (m.modify i g)
 | _,_,.nil,i=>by simpa using An.nil
 | _,_,.cons h t,0=>.cons (hfg _ _ h) t
 | _,_,.cons h t,i+1=>.cons h (An.modify hfg t i)
theorem EW.put{ents:Array MapEntry}{es:List (KV×AV)}(h:EW σ kt ents.toList es){kv:KV}{c:AV}{key val:Value}{v:AV}(hk:kv.sv kt=some c)(hkey:Ae σ noS noH key c)(hv:Ae σ noS noH val v):EW σ kt (ents.push { key:=key,val:=val,born:=ents.size }).toList (es++[(kv,v)]):=by
 refine⟨?_,?_⟩
 ·rw[Array.toList_push];exact h.all.append (.cons ⟨⟨c,hk,hkey⟩,hv⟩ .nil)
 ·rw[Array.toList_push,List.map_append,h.born,List.length_append,List.length_singleton,List.range_succ];simp
theorem Gp{α β:Type}(f:α→α)(g:α→β)(hg:∀a,g (f a)=g a):∀(l:List α) (i:Nat),(l.modify i f).map g=l.map g
 | [],i=>by simp
 | a::l,0=>by simp[hg]
 | a::l,i+1=>by simp[Gp f g hg l i]
theorem EW.mod{ents:Array MapEntry}{es:List (KV×AV)}(h:EW σ kt ents.toList es)(f:MapEntry→MapEntry)(g:KV×AV→KV×AV)(hb:∀e,(f e).born=e.born)(hr:∀e x,TZ σ kt e x→TZ σ kt (f e) (g x))(i:Nat):EW σ kt (ents.modify i f).toList (es.modify i g):=by
 rw[Array.toList_modify];exact⟨An.modify hr h.all i,by rw[Gp f _ hb,h.born,List.length_modify]⟩
end
section
variable {P:Program} {C:Ctx} {o:Oper} {a:Act} {w:World} {K:AV→AS→Prop} {σ:Sto} {ι:A6} {s:AS} {d:Nat}
theorem P3{S:AA}{v:AV}{id:Nat}{kt:Option KK}{es:List (KV×AV)}(h:Dp S v=some (id,kt,es)):v=.one (.mptr id)∧S id=some (.map kt es):=by
 unfold Dp at h;split at h
 ·split at h
  ·rename_i e1;cases h;exact⟨rfl,e1⟩
  ·cases h
 ·cases h
structure P9(R:Sto)(s:AS)(ι:A6)(w:World)(v:Value)(id g:Nat)(ents:Array MapEntry)(kt:Option KK)(es:List (KV×AV)):Prop where
 val:v=.map (some g)
 hnd:(ι id).g=some g
 heap:w.heap[g]?=some (.map ents ents.size)
 rep:EW R kt ents.toList es
 blk:s.S id=some (.map kt es)
 no:∀p:Addr,p.block=g→R p=none
theorem Ac.hasMap(R:Ac C σ ι s a w){v:Value}{av:AV}{id:Nat}{kt:Option KK}{es:List (KV×AV)}(hv:Ae σ s.S ι v av)(h:Dp s.S av=some (id,kt,es)):∃g ents,P9 σ s ι w v id g ents kt es:=by
 obtain⟨rfl,hS⟩:=P3 h;have hb:=R.blk _ _ hS;cases hb with
 | @map _ _ g ents h1 h2 h3 h4 =>
 cases Ad hv with
 | mptr k1 k2 k3 k4 =>
 rw[hS]at k1;cases k1;obtain⟨g',q1,q2⟩:=k4 rfl;rw[h1]at q1;cases q1;exact⟨g,ents,q2,h1,h2,h3,hS,h4⟩
theorem P9.len{v:Value}{id g:Nat}{ents:Array MapEntry}{kt:Option KK}{es:List (KV×AV)}(H:P9 σ s ι w v id g ents kt es):ents.size=es.length:=by
 have:=H.rep.all.len;simpa using this
theorem KY{kt:Option KK}{av:AV}{kv:KV}{v:Value}{S:AA}(hv:Ae σ S ι v av)(h:J5 kt av=some kv):∃c,kv.sv kt=some c∧Ae σ noS noH v c∧v=kv.val kt:=by
 unfold J5 at h;split at h
 ·rename_i c;have hr:A8 σ v c:=CU (Ad hv);have hq:Ae σ noS noH v (.one (.st c)):=.one (.st hr);exact⟨_,Zm h,hq,Qc (Zm h) hq⟩
 ·rename_i c d;obtain⟨v1,v2,rfl,r1,r2⟩:=U_ hv;have hq:Ae σ noS noH (.agg #[v1,v2]) (.agg [.st c,.st d]):=.agg (.cons (.st r1) (.cons (.st r2) .nil));exact⟨_,U6 h,hq,Qc (U6 h) hq⟩
 ·cases h
theorem Dd{g:Nat}{o' o'':Obj}(h:w.heap[g]?=some o''):(setBlock w g o').heap[g]?=some o'∧∀k,k≠g→(setBlock w g o').heap[k]?=w.heap[k]?:=heap_set h
theorem Ac.setBlk(R:Ac C σ ι s a w){id g:Nat}{b b':AJ}{o' o'':Obj}(hS:s.S id=some b)(hg:(ι id).g=some g)(hw:w.heap[g]?=some o'')(hno:∀p:Addr,p.block=g→σ p=none)(hlen:b'.len=b.len)(hwid:b'.wid=b.wid)
  (hr:∀S' ι',Upd s.S ι S' ι'→CA σ S' ι' (setBlock w g o') (ι id) b'):∃ι',Ac C σ ι' (s.set id b') a (setBlock w g o')∧Upd s.S ι (s.set id b').S ι':=by
 obtain⟨q1,q2⟩:=Dd (o':=o') hw;obtain⟨hu,R'⟩:=R.turn (w':=setBlock w g o') hS b' (ι id) (σ':=σ) (fun _ _ h=>h) (fun _ _ _=>rfl) (R.fit.row hno q2) (by rw[hlen];exact Nat.le_refl _) (fun _=>⟨hwid,rfl⟩) ⟨rfl,rfl,rfl⟩ (by simp[setBlock]) (fun k hk hne=>q2 k fun e=>hne (by rw[e];exact hg)) (fun g' h=>.inl h) (fun hu=>hr _ _ hu);exact⟨_,R',hu⟩
theorem GI{v:Value}{c:AV}(h:Ae σ noS noH v c)(S:AA)(ι:A6):Ae σ S ι v c:=h.mono (fun _ _ h=>h) (Ju S ι)
theorem SF{t:TypeId}{kt:Option KK}(ho:o.op=.makeMap t none)(R:Ac C σ ι s a w)(h:Kd.go P d s K (.makeMap kt)):BQ P C o a w K:=by
 simp only[Kd.go]at h;obtain⟨hid,hK⟩:=h;obtain⟨hu,R'⟩:=R.fresh (w':=w.alloc (.map #[] 0)) hid (.map kt []) ⟨none,0,some w.heap.size⟩ (Ext.refl _ _) (R.fit.alloc _) (E1.alloc _ _) (by simp) (fun S' ι' hu=>.map (ents:=#[]) rfl (heap_alloc_new w _) ⟨.nil,rfl⟩ (fun p hp=>R.fit.no (by omega)));refine⟨.map (some w.heap.size),_,_,σ,_,_,.inl (by simp[execOp,ho,Instr.makeMap,newObj,Sem.run]),hK,R',.one (.mptr (b:=.map kt []) (by simp[AS.set,AG]) (Nat.le_refl _) rfl fun _=>⟨w.heap.size,by simp[AG],rfl⟩)⟩
theorem UF{t key elem:TypeId}{i:TypeInfo}{z:Value}{zv:AV}{kt:Option KK}{x k:Operand}{x' k':Opd}{ok:Bool}(ho:o.op=.lookup t x k ok)(hx:AR C.n x=some x')(hk:AR C.n k=some k')(ht:P.underlying t=some (.map key elem))(hkey:Nu P key kt)(hi:P.info? elem=some i)(hz:i.zero=some z)(hzv:LF z=some zv)
  (R:Ac C σ ι s a w) (h:Kd.go P d s K (.lookup kt ok zv x' k')):BQ P C o a w K:=by
 have rx:=R.ev hx;have rk:=R.ev hk;simp only[Kd.go]at h;split at h
 ·rename_i id kt' es kv e1 e2;obtain⟨rfl,hK⟩:=h;obtain⟨g,ents,H⟩:=R.hasMap rx e1;obtain⟨c,c1,c2,c3⟩:=KY rk e2;have hf:=G6 (σ:=σ) hkey c1 H.rep.all w;have hck:=fun e=>GE hkey c1 e w;split at hf
  ·rename_i hm;rw[hm]at hK;refine Af R (if ok then .tuple #[z,.bool false] else z) _ ?_ hK ?_
   ·simp[execOp,ho,Instr.lookup,run_underlying ht,H.val,MapKept.run_getObj_map H.heap,c3,hck,hf,zeroValue,typeInfo,hi,hz,Result.andThen]
   ·cases ok with
    | false=>exact EE hzv
    | true=>exact .tup (fun j=>if j=0 then z else .bool false) rfl (fun j b hb=>by
      match j,hb with
      | 0,hb=>rfl
      | 1,hb=>rfl) (fun j b hb=>by
      match j,hb with
      | 0,hb=>cases hb;exact EE hzv
      | 1,hb=>cases hb;exact .one (.st .bool))
  ·rename_i v hm;rw[hm]at hK;obtain⟨e,q1,q2,q3,q4⟩:=hf;refine Af R (if ok then .tuple #[e.val,.bool true] else e.val) _ ?_ hK ?_
   ·simp[execOp,ho,Instr.lookup,run_underlying ht,H.val,MapKept.run_getObj_map H.heap,c3,hck,q4,Result.andThen]
   ·cases ok with
    | false=>exact GI q3 _ _
    | true=>exact .tup (fun j=>if j=0 then e.val else .bool true) rfl (fun j b hb=>by
      match j,hb with
      | 0,hb=>rfl
      | 1,hb=>rfl) (fun j b hb=>by
      match j,hb with
      | 0,hb=>cases hb;exact GI q3 _ _
      | 1,hb=>cases hb;exact .one (.st .bool))
 ·exact h.elim
theorem Nr{t key elem:TypeId}{kt:Option KK}{x k v:Operand}{x' k' v':Opd}(ho:o.op=.mapUpdate t x k v∨o.op=.insert t x k v)(hx:AR C.n x=some x')(hk:AR C.n k=some k')(hv:AR C.n v=some v')(ht:P.underlying t=some (.map key elem))(hkey:Nu P key kt)
  (R:Ac C σ ι s a w) (h:Kd.go P d s K (.mapSet kt x' k' v')):BQ P C o a w K:=by
 have rx:=R.ev hx;have rk:=R.ev hk;have rv:=R.ev hv;simp only[Kd.go]at h;split at h
 ·rename_i id kt' es kv vv e1 e2 e3;obtain⟨rfl,hK⟩:=h;obtain⟨g,ents,H⟩:=R.hasMap rx e1;obtain⟨c,c1,c2,c3⟩:=KY rk e2;have ro:=R.outV rv e3;have hf:=G6 (σ:=σ) hkey c1 H.rep.all w;have hck:=fun e=>GE hkey c1 e w;have hex:execOp a.eval o=(do Instr.mapUpdate t (a.eval x) (a.eval k) (a.eval v);pure .skip):=by
   rcases ho with ho|ho <;> simp[execOp,ho]
  have hrun:∃ents',(execOp a.eval o).run P w=.ok .skip (setBlock w g (.map ents' ents'.size))∧EW σ kt' ents'.toList (Lq es kv vv):=by
   split at hf
   ·rename_i hm;refine⟨ents.push { key:=a.eval k,val:=a.eval v,born:=ents.size },?_,?_⟩
    ·rw[hex];simp[Instr.mapUpdate,run_underlying ht,H.val,MapKept.run_getObj_map H.heap,c3,hck,hf,Result.andThen,run_setObj_map _ H.heap,setBlock]
    ·rw[Ph hm];exact H.rep.put c1 c2 ro
   ·rename_i v0 hm;obtain⟨e,q1,q2,q3,q4⟩:=hf;have hj:ents[mAt es kv]?=some e:=by simpa using q1
    refine⟨ents.modify (mAt es kv) fun e=>{ e with key:=a.eval k,val:=a.eval v },?_,?_⟩
    ·rw[hex];simp[Instr.mapUpdate,run_underlying ht,H.val,MapKept.run_getObj_map H.heap,c3,hck,q4,Result.andThen,hj,q2,Jd c1,run_setObj_map _ H.heap,setBlock]
    ·rw[WL hm];exact H.rep.mod (fun e=>{ e with key:=a.eval k,val:=a.eval v }) (fun _=>(kv,vv)) (fun _=>rfl) (fun e x _=>⟨⟨c,c1,c2⟩,ro⟩) _
  obtain⟨ents',r1,r2⟩:=hrun;obtain⟨ι',R',hu⟩:=R.setBlk (b':=.map kt' (Lq es kv vv)) (o':=.map ents' ents'.size) H.blk H.hnd H.heap H.no rfl rfl (fun S' ι' hu=>.map H.hnd (Dd H.heap).1 r2 H.no);exact⟨undef,.any,_,σ,ι',_,.inr ⟨rfl,r1⟩,hK,R',.any⟩
 ·exact h.elim
theorem QX{t key elem:TypeId}{i:TypeInfo}{z:Value}{zv:AV}{kt:Option KK}{x k:Operand}{x' k':Opd}(ho:o.op=.mapEntry t x k)(hx:AR C.n x=some x')(hk:AR C.n k=some k')(ht:P.underlying t=some (.map key elem))(hkey:Nu P key kt)(hi:P.info? elem=some i)(hz:i.zero=some z)(hzv:LF z=some zv)
  (R:Ac C σ ι s a w) (h:Kd.go P d s K (.mapEntry kt zv x' k')):BQ P C o a w K:=by
 have rx:=R.ev hx;have rk:=R.ev hk;simp only[Kd.go]at h;split at h
 ·rename_i id kt' es kv e1 e2;obtain⟨rfl,hlen,hK⟩:=h;obtain⟨g,ents,H⟩:=R.hasMap rx e1;obtain⟨c,c1,c2,c3⟩:=KY rk e2;have hsz:=H.len;have hf:=G6 (σ:=σ) hkey c1 H.rep.all w;have hck:=fun e=>GE hkey c1 e w;have tupR:∀{S':AA} {ι':A6} {v1:Value} {b1:AV} {n:Nat},n≤maxLen→Ae σ S' ι' v1 b1→Ae σ S' ι' (.tuple #[v1,.int .i64 n]) (.tup [b1,.one (.st (.int .i64 n))]):=fun {S' ι' v1 b1 n} hn hv=>.tup (fun j=>if j=0 then v1 else .int .i64 n) rfl (fun j b hb=>by
    match j,hb with
    | 0,hb=>rfl
    | 1,hb=>rfl) (fun j b hb=>by
    match j,hb with
    | 0,hb=>cases hb;exact hv
    | 1,hb=>cases hb;exact .one (.st (.int (L8 hn))))
  split at hf
  ·rename_i hm;have hat:=Yk hm;have hnew:Y0 es kv zv=es++[(kv,zv)]:=by unfold Y0;rw[hm]
   rw[hm,hnew,hat]at hK;have hrun:(execOp a.eval o).run P w=.ok (.value (.tuple #[z,.int .i64 ents.size])) (setBlock w g (.map (ents.push { key:=a.eval k,val:=z,born:=ents.size }) (ents.push { key:=a.eval k,val:=z,born:=ents.size }).size)):=by
    simp[execOp,ho,Instr.mapEntry,run_underlying ht,H.val,MapKept.run_getObj_map H.heap,c3,hck,hf,zeroValue,typeInfo,hi,hz,Result.andThen,run_setObj_map _ H.heap,setBlock,goInt]
   obtain⟨ι',R',hu⟩:=R.setBlk (b':=.map kt' (es++[(kv,zv)])) (o':=.map (ents.push { key:=a.eval k,val:=z,born:=ents.size }) (ents.push { key:=a.eval k,val:=z,born:=ents.size }).size) H.blk H.hnd H.heap H.no rfl rfl (fun S' ι' hu=>.map H.hnd (Dd H.heap).1 (H.rep.put c1 c2 (EE hzv)) H.no);rw[hsz]at hrun;exact⟨_,_,_,σ,ι',_,.inl hrun,hK,by rw[←hsz];exact R',tupR hlen (EE hzv)⟩
  ·rename_i v0 hm;obtain⟨e,q1,q2,q3,q4⟩:=hf;have hj:ents[mAt es kv]?=some e:=by simpa using q1
   have hnew:Y0 es kv zv=es:=by unfold Y0;rw[hm]
   rw[hm,hnew]at hK;have hborn:e.born=mAt es kv:=by
    have h0:(ents.toList.map (·.born))[mAt es kv]?=some e.born:=by rw[List.getElem?_map,q1];rfl
    rw[H.rep.born]at h0;obtain⟨h1,h2⟩:=List.getElem?_eq_some_iff.1 h0;simpa using h2.symm
   have hmod:es=es.modify (mAt es kv) fun x=>(kv,x.2):=by
    have key:∀es:List (KV×AV),∀v0,Da es kv=some v0→es=es.modify (mAt es kv) fun x=>(kv,x.2):=by
     intro es;induction es with
     | nil=>intro v0 h;cases h
     | cons x es ih =>
      intro v0 h;simp only[Da,mAt]at h ⊢;split at h
      ·rename_i ex;rw[if_pos ex];show _=(kv,x.2)::es
       rw[←ex]
      ·rename_i ex;rw[if_neg ex];show _=x::es.modify (mAt es kv) _
       rw[←ih v0 h]
    exact key es v0 hm
   have hrun:(execOp a.eval o).run P w=.ok (.value (.tuple #[e.val,.int .i64 (mAt es kv)])) (setBlock w g (.map (ents.modify (mAt es kv) fun e=>{ e with key:=a.eval k }) ents.size)):=by
    simp[execOp,ho,Instr.mapEntry,run_underlying ht,H.val,MapKept.run_getObj_map H.heap,c3,hck,q4,Result.andThen,hj,q2,Jd c1,run_setObj_map _ H.heap,setBlock,goInt,hborn]
   obtain⟨ι',R',hu⟩:=R.setBlk (b':=.map kt' es) (o':=.map (ents.modify (mAt es kv) fun e=>{ e with key:=a.eval k }) ents.size) H.blk H.hnd H.heap H.no rfl rfl (fun S' ι' hu=>.map (ents:=ents.modify (mAt es kv) fun e=>{ e with key:=a.eval k }) H.hnd (by rw[Array.size_modify];exact(Dd H.heap).1) (by
     have:=H.rep.mod (fun e=>{ e with key:=a.eval k }) (fun x=>(kv,x.2)) (fun _=>rfl) (fun e x hx=>⟨⟨c,c1,c2⟩,hx.2⟩) (mAt es kv);rw[←hmod]at this;exact this) H.no)
   exact⟨_,_,_,σ,ι',_,.inl hrun,hK,R',tupR (by have:=ABI hm;omega) (GI q3 _ _)⟩
 ·exact h.elim
theorem JW:∀{l:List MapEntry} (b n:Nat),l.map (·.born)=List.range' b l.length→n<l.length→l.findIdx? (fun e=>(e.born:Int)==((b+n:Nat):Int))=some n
 | [],b,n,_,h=>by simp at h
 | e::l,b,n,hl,h=>by
  simp only[List.map_cons,List.length_cons,List.range'_succ,List.cons.injEq]at hl;rw[List.findIdx?_cons];cases n with
  | zero=>rw[if_pos (by simp[hl.1])]
  | succ n =>
   rw[if_neg (by simp[hl.1];omega)];have:=JW (b+1) n hl.2 (by simpa using h);rw[show b+(n+1)=b+1+n by omega,this];rfl
theorem Qr{t:TypeId}{x k v:Operand}{x' k' v':Opd}(ho:o.op=.entryStore t x k v)(hx:AR C.n x=some x')(hk:AR C.n k=some k')(hv:AR C.n v=some v')
  (R:Ac C σ ι s a w) (h:Kd.go P d s K (.entrySet x' k' v')):BQ P C o a w K:=by
 have rx:=R.ev hx;have rk:=R.ev hk;have rv:=R.ev hv;simp only[Kd.go]at h;split at h
 ·rename_i id kt es kk n vv e1 e2 e3;obtain⟨⟨h0,hlt⟩,hK⟩:=h;obtain⟨q,rfl⟩:∃q:Nat,n=q:=⟨n.toNat,by omega⟩
  simp only[Int.toNat_natCast]at hlt hK;obtain⟨g,ents,H⟩:=R.hasMap rx e1;rw[e2]at rk;obtain⟨hek,-⟩:=BL rk;have ro:=R.outV rv e3;have hsz:=H.len;have hfi:ents.findIdx? (fun e=>(e.born:Int)==(q:Int))=some q:=by
   have:=JW (l:=ents.toList) 0 q (by rw[H.rep.born,List.range_eq_range']) (by simp;omega);rw[Nat.zero_add]at this;rw[←this];exact(fun(A:Array MapEntry) p=>(by cases A;exact List.findIdx?_toArray _ _:A.findIdx? p=A.toList.findIdx? p)) _ _
  have hrun:(execOp a.eval o).run P w=.ok .skip (setBlock w g (.map (ents.modify q fun e=>{ e with val:=a.eval v }) ents.size)):=by
   simp[execOp,ho,Instr.entryStore,H.val,MapKept.run_getObj_map H.heap,hek,asInt,asIntOf,Result.andThen,hfi,run_setObj_map _ H.heap,setBlock]
  obtain⟨ι',R',hu⟩:=R.setBlk (b':=.map kt (es.modify q fun x=>(x.1,vv))) (o':=.map (ents.modify q fun e=>{ e with val:=a.eval v }) ents.size) H.blk H.hnd H.heap H.no rfl rfl (fun S' ι' hu=>.map (ents:=ents.modify q fun e=>{ e with val:=a.eval v }) H.hnd (by rw[Array.size_modify];exact(Dd H.heap).1) (H.rep.mod (fun e=>{ e with val:=a.eval v }) (fun x=>(x.1,vv)) (fun _=>rfl) (fun e x hx=>⟨hx.1,ro⟩) _) H.no);exact⟨undef,.any,_,σ,ι',_,.inr ⟨rfl,hrun⟩,hK,R',.any⟩
 ·exact h.elim
theorem ZY{t key elem:TypeId}{x:Operand}{x':Opd}(ho:o.op=.call { callee:=.builtin .len,args:=#[x],argTypes:=#[t] })(hx:AR C.n x=some x')(ht:P.underlying t=some (.map key elem))(R:Ac C σ ι s a w)(h:Kd.go P d s K (.lenM x')):BQ P C o a w K:=by
 have rx:=R.ev hx;simp only[Kd.go]at h;split at h
 ·rename_i id kt es e1;obtain⟨g,ents,H⟩:=R.hasMap rx e1;refine Af R _ _ ?_ h.2 (.one (.st (.int (L8 h.1))));simp[execOp,ho,resolve,invoke,builtin,Builtin.len_,run_underlying ht,H.val,MapKept.run_getObj_map H.heap,Result.andThen,goInt,H.len]
 ·exact h.elim
theorem Ts{t key elem:TypeId}{x:Operand}{x':Opd}(ho:o.op=.range t x)(hx:AR C.n x=some x')(ht:P.underlying t=some (.map key elem))(R:Ac C σ ι s a w)(h:Kd.go P d s K (.rangeM x')):BQ P C o a w K:=by
 have rx:=R.ev hx;simp only[Kd.go]at h;split at h
 ·rename_i id kt es e1;obtain⟨hid,hK⟩:=h;obtain⟨g,ents,H⟩:=R.hasMap rx e1;obtain⟨q1,q2⟩:=P3 e1;rw[q1]at rx;have hrx:=Ad rx;rw[H.val]at hrx;have hsz:=H.len;obtain⟨hu,R'⟩:=R.fresh (w':=w.alloc (.mapIter (some g) es.length #[] es.length)) hid (.iter (.mptr id) es.length []) ⟨none,0,some w.heap.size⟩ (Ext.refl _ _) (R.fit.alloc _) (E1.alloc _ _) (by simp) (fun S' ι' hu=>.iter (m:=g) rfl (heap_alloc_new w _) (hrx.mono (fun _ _ h=>h) hu) (fun p hp=>R.fit.no (by omega)));refine⟨.pointer (some ⟨w.heap.size,0,none⟩),_,_,σ,_,_,.inl ?_,hK,R',.one (.ptr (b:=.iter (.mptr id) es.length []) (by simp[AS.set,AG]) (Nat.le_refl _) rfl fun _=>⟨w.heap.size,by simp[AG],by simp[AJ.wid]⟩)⟩;have hr:=run_range_map (P:=P) w t key elem g ents ents.size ht H.heap;simp[execOp,ho,H.val,hr,Result.andThen,hsz]
 ·exact h.elim
theorem Ng{S:AA}{v:AV}{id m:Nat}{seen:List Nat}{kt:Option KK}{es:List (KV×AV)}(h:FW S v=some ((id,m,seen),kt,es)):v=.one (.ptr id 1 0 0)∧S id=some (.iter (.mptr m) es.length seen)∧S m=some (.map kt es):=by
 unfold FW at h;split at h
 ·split at h
  ·rename_i e1;split at h
   ·rename_i e2;split at h
    ·rename_i hl;cases h;exact⟨rfl,by rw[hl];exact e1,e2⟩
    ·cases h
   ·cases h
  ·cases h
 ·cases h
theorem Ac.hasIter(R:Ac C σ ι s a w){v:Value}{av:AV}{id m:Nat}{seen:List Nat}{kt:Option KK}{es:List (KV×AV)}(hv:Ae σ s.S ι v av)(h:FW s.S av=some ((id,m,seen),kt,es)) :
  ∃r g ents,v=.pointer (some ⟨r,0,none⟩)∧(ι id).g=some r∧w.heap[r]?=some (.mapIter (some g) es.length seen.toArray es.length)∧At σ s.S ι (.map (some g)) (.mptr m)∧(∀p:Addr,p.block=r→σ p=none)∧P9 σ s ι w (.map (some g)) m g ents kt es:=by
 obtain⟨rfl,hS,hM⟩:=Ng h;obtain⟨b,hb1,hb2,hb3⟩:=Fu (Ad hv);rw[hS]at hb1;cases hb1;obtain⟨r,g1,g2⟩:=hb3 rfl;have hb:=R.blk _ _ hS;cases hb with
 | @iter _ _ _ g' m' k1 k2 k3 k4 =>
 rw[k1]at g1;cases g1;obtain⟨g,ents,H⟩:=R.hasMap (v:=.map (some m')) (av:=.one (.mptr m)) (.one k3) (show Dp s.S _=some (m,kt,es) by simp only[Dp,hM]);have:=H.val;cases this;exact⟨r,m',ents,by simpa[AJ.wid]using g2,k1,k2,k3,k4,H⟩
theorem Vm{ents:Array MapEntry}{n:Nat}(hb:ents.toList.map (·.born)=List.range n){e:MapEntry}(he:e∈ents.toList):ents.toList[e.born]?=some e:=by
 obtain⟨j,hj⟩:=List.getElem?_of_mem he;have h0:(ents.toList.map (·.born))[j]?=some e.born:=by rw[List.getElem?_map,hj];rfl
 rw[hb]at h0;obtain⟨h1,h2⟩:=List.getElem?_eq_some_iff.1 h0;have:e.born=j:=by simpa using h2.symm
 rw[this];exact hj
theorem Xp{x:Operand}{x':Opd}(ho:o.op=.next x false)(hx:AR C.n x=some x')(R:Ac C σ ι s a w)(h:Kd.go P d s K (.next x')):BQ P C o a w K:=by
 have rx:=R.ev hx;simp only[Kd.go]at h;split at h
 ·rename_i id m seen kt es e1;obtain⟨r,g,ents,v1,v2,v3,v4,v5,H⟩:=R.hasIter rx e1;obtain⟨-,hS,hM⟩:=Ng e1;have hsz:=H.len;have hbn:=H.rep.born;have hmem:∀e∈ents.toList,e.born<es.length:=fun e he=>by
   have:=Vm hbn he;have:=(List.getElem?_eq_some_iff.1 this).1;simp at this;omega
  rcases run_next_at (P:=P) w o.type r g es.length es.length seen.toArray ents ents.size v3 H.heap hmem (Nat.le_refl _) with⟨h0,hrun⟩|⟨e,he,w1,hw1,hrun⟩
  ·refine Af R (.tuple #[.bool false]) _ ?_ (h.1 fun j hj=>?_) (.tup (fun _=>.bool false) rfl (fun j b hb=>by
     match j,hb with
     | 0,hb=>rfl) (fun j b hb=>by
     match j,hb with
     | 0,hb=>cases hb;exact .one (.st .bool)))
   ·simp[execOp,ho,v1,hrun,Result.andThen]
   ·obtain⟨e,he⟩:∃e,ents.toList[j]?=some e:=⟨_,List.getElem?_eq_getElem (by simp;omega)⟩
    have hb:e.born=j:=by
     have h0:(ents.toList.map (·.born))[j]?=some e.born:=by rw[List.getElem?_map,he];rfl
     rw[hbn]at h0;obtain⟨h1,h2⟩:=List.getElem?_eq_some_iff.1 h0;simpa using h2.symm
    have hl:leftOf ents seen.toArray=#[]:=Array.eq_empty_of_size_eq_zero h0;unfold leftOf at hl;rw[Array.filter_eq_empty_iff]at hl;have:=hl e (by simpa using List.mem_of_getElem? he);rw[hb]at this;simpa using this
  ·have he0:e∈ents.toList∧e.born∉seen:=by
    unfold leftOf at he;simpa using he
   have hat:=Vm hbn he0.1;obtain⟨x1,hx1,hr1⟩:=H.rep.all.get' hat;obtain⟨⟨c,c1,c2⟩,c3⟩:=hr1;have hK:=h.2 _ _ c hx1 he0.2 c1;have R1:Ac C σ ι s a w1:=by rcases hw1 with rfl|rfl;exact R;exact R.drew
   have v3':w1.heap[r]?=some (.mapIter (some g) es.length seen.toArray es.length):=by rcases hw1 with rfl|rfl;exact v3;exact v3
   obtain⟨ι',R',hu⟩:=R1.setBlk (b':=.iter (.mptr m) es.length (seen++[e.born])) (o':=.mapIter (some g) es.length (seen.toArray.push e.born) ents.size) hS v2 v3' v5 rfl rfl (fun S' ι' hu=>.iter (m:=g) v2 (by rw[(Dd v3').1,hsz];simp) (v4.mono (fun _ _ h=>h) hu) v5);refine⟨.tuple #[.bool true,e.key,e.val],_,_,σ,ι',_,.inl ?_,hK,R',.tup (fun j=>if j=0 then .bool true else if j=1 then e.key else e.val) rfl (fun j b hb=>by
     match j,hb with
     | 0,hb=>rfl
     | 1,hb=>rfl
     | 2,hb=>rfl) (fun j b hb=>by
     match j,hb with
     | 0,hb=>cases hb;exact .one (.st .bool)
     | 1,hb=>cases hb;exact GI c2 _ _
     | 2,hb=>cases hb;exact GI c3 _ _)⟩
   simp[execOp,ho,v1,hrun,Result.andThen]
 ·exact h.elim
theorem XI{x:Operand}{x':Opd}(ho:o.op=.entry x)(hx:AR C.n x=some x')(R:Ac C σ ι s a w)(h:Kd.go P d s K (.entry x')):BQ P C o a w K:=by
 have rx:=R.ev hx;simp only[Kd.go]at h;split at h
 ·rename_i id m seen kt es e1;split at h
  ·rename_i j e2;split at h
   ·rename_i y e3;split at h
    ·rename_i c e4;obtain⟨r,g,ents,v1,v2,v3,v4,v5,H⟩:=R.hasIter rx e1;have hsz:=H.len;obtain⟨e,he,hr⟩:=H.rep.all.get e3;obtain⟨⟨c',c1,c2⟩,c3⟩:=hr;rw[e4]at c1;cases c1;have hb:e.born=j:=by
      have h0:(ents.toList.map (·.born))[j]?=some e.born:=by rw[List.getElem?_map,he];rfl
      rw[H.rep.born]at h0;obtain⟨h1,h2⟩:=List.getElem?_eq_some_iff.1 h0;simpa using h2.symm
     obtain⟨seen0,rfl⟩:∃l,seen=l++[j]:=by
      rw[List.getLast?_eq_some_iff]at e2;exact e2
     have hrun:=run_entry_at (P:=P) w r g es.length seen0.toArray ents ents.size e (by rw[v3,hsz,hb];simp) H.heap (List.mem_of_getElem? he) (by rw[H.rep.born];exact List.nodup_range);refine Af R (.tuple #[e.key,e.val]) _ ?_ h (.tup (fun j=>if j=0 then e.key else e.val) rfl (fun j b hb=>by
       match j,hb with
       | 0,hb=>rfl
       | 1,hb=>rfl) (fun j b hb=>by
       match j,hb with
       | 0,hb=>cases hb;exact GI c2 _ _
       | 1,hb=>cases hb;exact GI c3 _ _))
     simp[execOp,ho,v1,hrun,Result.andThen]
    ·exact h.elim
   ·exact h.elim
  ·exact h.elim
 ·exact h.elim
end

def C2(a b:Addr):Value:=.agg #[.pointer (some a),.pointer (some b)]
def EL(w:World)(a:Addr):Prop:=∃cs t,w.heap[a.block]?=some (.cells cs t (0,0))
structure DP(P:Program)(k e el:TypeId)(i j:TypeInfo):Prop where
 arr:P.underlying k=some (.array 2 e)
 ptr:P.underlying e=some (.pointer el)
 info:P.info? e=some i
 size:i.size=1
 elem:P.info? el=some j
 some:j.size≠0
section
variable {P:Program} {k e el:TypeId} {i j:TypeInfo} (w:World)
theorem Ln(A:DP P k e el i j){xs:Array Value}{off:Nat}{v:Value}(hx:xs[off]?=some v):(part e xs off).run P w=.ok v w:=by
 simp[part,isAgg,run_underlying A.ptr,hx]
theorem Po(A:DP P k e el i j)(x y:Value):(part e #[x,y] 0).run P w=.ok x w:=Ln w A rfl
theorem Hu(A:DP P k e el i j)(x y:Value):(part e #[x,y] 1).run P w=.ok y w:=Ln w A rfl
theorem Of(A:DP P k e el i j)(d:Nat){a b:Addr}(ha:EL w a)(hb:EL w b):(Op.equalIn (d+1) e (.pointer (some a)) (.pointer (some b))).run P w=.ok (decide (a=b)) w:=by
 have h0:(Op.equalIn (d+1) e (.pointer (some a)) (.pointer (some b))).run P w=(sameAddr a b).run P w:=by
  simp[Op.equalIn,run_underlying A.ptr,sizeOf,typeInfo,A.elem,A.some]
 rw[h0];by_cases hne:a=b
 ·subst hne;rw[run_sameAddr_same];simp
 ·obtain⟨ca,ta,ha⟩:=ha;obtain⟨cb,tb,hb⟩:=hb;rw[run_sameAddr_other w hne ha hb];simp[hne]
theorem Uk(A:DP P k e el i j){a b a' b':Addr}(ha:EL w a)(hb:EL w b)(ha':EL w a')(hb':EL w b') :
  (Op.equal k (C2 a b) (C2 a' b')).run P w=.ok (decide (a=a'∧b=b')) w:=by
 have hc:P.cellsOf e=1:=by simp[Program.cellsOf,A.info,A.size]
 have e1:(Op.equalIn 9999 e (.pointer (some a)) (.pointer (some a'))).run P w=.ok (decide (a=a')) w:=Of w A 9998 ha ha';have e2:(Op.equalIn 9999 e (.pointer (some b)) (.pointer (some b'))).run P w=.ok (decide (b=b')) w:=Of w A 9998 hb hb';unfold Op.equal C2;rw[show Op.maxDepth=9999+1 from rfl,run_equalIn_array w 9999 _ _ A.arr A.info,hc];rw[show List.range 2=[0,1] from rfl];simp only[Op.eqItems,Nat.zero_mul,Nat.one_mul,Sem.run_bind,Po w A,Hu w A,Result.andThen_ok,e1,e2];by_cases h1:a=a'
 ·have e3:decide (a=a')=true:=by simp[h1]
  rw[e3];simp only[h1,true_and];by_cases h2:b=b'
  ·subst h2;simp[Hu w A,e2,Result.andThen]
  ·simp[Hu w A,e2,h2,Result.andThen]
 ·simp[h1]
theorem IE(A:DP P k e el i j)(em:Bool)(a b:Addr):(Instr.checkKey em 10000 k (C2 a b)).run P w=.ok () w:=by
 have hc:P.cellsOf e=1:=by simp[Program.cellsOf,A.info,A.size]
 have e0:∀a:Addr,(Instr.checkKey em 9999 e (.pointer (some a))).run P w=.ok () w:=fun a=>by
  rw[show(9999:Nat)=9998+1 from rfl,Instr.checkKey];simp[run_underlying A.ptr]
 unfold C2;rw[show(10000:Nat)=9999+1 from rfl,Instr.checkKey];simp only[Sem.run_bind,run_underlying A.arr,Result.andThen_ok];simp only[Std.Legacy.Range.forIn_eq_forIn_range',Std.Legacy.Range.size,Nat.sub_zero,Nat.add_one_sub_one,Nat.div_one];rw[show List.range' 0 2=[0,1] from rfl];simp only[List.forIn_cons,List.forIn_nil,Sem.run_bind,run_sizeOf w A.info,hc,Nat.zero_mul,Nat.one_mul,Result.andThen_ok,Po w A,Hu w A,e0,Sem.run_pure]
theorem Jq(A:DP P k e el i j){a b:Addr}(ha:EL w a)(hb:EL w b):∀(es:List MapEntry) (n:Nat),(∀x∈es,∃a' b',x.key=C2 a' b'∧EL w a'∧EL w b') →
  (Instr.findAsking k (C2 a b) es n).run P w=.ok none w∨∃m x,(Instr.findAsking k (C2 a b) es n).run P w=.ok (some (n+m,x.val)) w∧es[m]?=some x∧x.key=C2 a b
 | [],n,_=>.inl (by simp[Instr.findAsking])
 | x::es,n,h=>by
  obtain⟨a',b',hk,pa,pb⟩:=h x (by simp);have he:=Uk w A ha hb pa pb;by_cases hab:a=a'∧b=b'
  ·obtain⟨rfl,rfl⟩:=hab;exact .inr ⟨0,x,by simp[Instr.findAsking,hk,he,Result.andThen],rfl,hk⟩
  ·rcases Jq A ha hb es (n+1) (fun y hy=>h y (by simp[hy])) with h1|⟨m,y,h1,h2,h3⟩
   ·exact .inl (by simp[Instr.findAsking,hk,he,hab,h1,Result.andThen])
   ·exact .inr ⟨m+1,y,by simp[Instr.findAsking,hk,he,hab,h1,Nat.add_assoc,Nat.add_comm 1 m,Result.andThen],by simpa using h2,h3⟩
theorem Gu(A:DP P k e el i j){a b:Addr}(ha:EL w a)(hb:EL w b)(es:List MapEntry)(h:∀x∈es,∃a' b',x.key=C2 a' b'∧EL w a'∧EL w b') :
  (Instr.findKey k (C2 a b) es).run P w=.ok none w∨∃m x,(Instr.findKey k (C2 a b) es).run P w=.ok (some (m,x.val)) w∧es[m]?=some x∧x.key=C2 a b:=by
 rw[run_findKey_eq w (by rw[A.arr]) (C2 a b) es];rcases Jq w A ha hb es 0 h with h1|⟨m,x,h1,h2,h3⟩
 ·exact .inl h1
 ·exact .inr ⟨m,x,by rw[h1,Nat.zero_add],h2,h3⟩
theorem N5(a b:Addr):(Instr.keyThatStays (C2 a b) (C2 a b)).run P w=.ok (C2 a b) w:=by
 have h:Instr.sameBits 10000 (C2 a b) (C2 a b)=true:=by
  unfold C2;rw[show(10000:Nat)=9999+1 from rfl,Instr.sameBits];simp[Instr.sameBits]
 simp[Instr.keyThatStays,h]
end

section
variable {P:Program} {C:Ctx} {o:Oper} {a:Act} {w:World} {K:AV→AS→Prop} {σ:Sto} {ι:A6} {s:AS} {d:Nat}
theorem UE{S:AA}{v:AV}{id:Nat}{f:List SV→List SV→SV→Prop}(h:FX S v=some (id,f)):v=.one (.mptr id)∧S id=some (.memo f):=by
 unfold FX at h;split at h
 ·split at h
  ·rename_i e1;cases h;exact⟨rfl,e1⟩
  ·cases h
 ·cases h
theorem Ns{v:Value}{S:AA}{av:AV}{cs ds:List SV}(hv:Ae σ S ι v av)(h:KS av=some (cs,ds)):∃v1 v2,v=.agg #[v1,v2]∧At σ noS noH v1 (.eptr cs)∧At σ noS noH v2 (.eptr ds)∧Cz cs=true∧Cz ds=true:=by
 unfold KS at h;split at h
 ·split at h
  ·rename_i hl;cases h;cases hv with
   | @agg xs _ h1 =>
    have hsz:=h1.len;obtain⟨v1,e1,r1⟩:=h1.get (j:=0) rfl;obtain⟨v2,e2,r2⟩:=h1.get (j:=1) rfl;refine⟨v1,v2,?_,?_,?_,hl.1,hl.2⟩
    ·congr 1;apply Array.ext';match hx:xs.toList,hsz,e1,e2 with
     | [a,b],_,e1,e2 =>
      simp at e1 e2;rw[e1,e2]
    ·cases r1 with|eptr c k1 k2 k3=>exact .eptr c k1 k2 k3
    ·cases r2 with|eptr c k1 k2 k3=>exact .eptr c k1 k2 k3
  ·cases h
 ·cases h
theorem Dx(hh:Cq=true)(hf:Fit σ w){v:Value}{cs:List SV}(h:At σ noS noH v (.eptr cs))(h2:Cz cs=true):∃p:Addr,v=.pointer (some p)∧EL w p:=by
 obtain⟨b,oo,hv,c,k1,k2,k3⟩:=GG h;obtain⟨cc,t,e,_⟩:=LT (hf _ _ (k3 hh h2));exact⟨_,hv,cc,t,e⟩
theorem PK{v:Value}{cs cs':List SV}(h:At σ noS noH v (.eptr cs))(h':At σ noS noH v (.eptr cs')):W2 cs cs':=by
 obtain⟨b,oo,hv,c,k1,k2⟩:=D0 h;obtain⟨b',oo',hv',c',q1,q2⟩:=D0 h';rw[hv]at hv';cases hv';refine⟨σ,fun j=>(σ ⟨b,oo+j,none⟩).getD undef,fun j x hx=>?_,fun j x hx=>?_⟩
 ·simp only[k1 j x hx,Option.getD_some];exact k2 j x hx
 ·simp only[q1 j x hx,Option.getD_some];exact q2 j x hx
structure QJ(σ:Sto)(s:AS)(ι:A6)(w:World)(v:Value)(id g:Nat)(ents:Array MapEntry)(f:List SV→List SV→SV→Prop):Prop where
 val:v=.map (some g)
 hnd:(ι id).g=some g
 heap:w.heap[g]?=some (.map ents ents.size)
 rep:DO σ f ents.toList
 blk:s.S id=some (.memo f)
 no:∀p:Addr,p.block=g→σ p=none
theorem Ac.hasMemo(R:Ac C σ ι s a w){v:Value}{av:AV}{id:Nat}{f:List SV→List SV→SV→Prop}(hv:Ae σ s.S ι v av)(h:FX s.S av=some (id,f)):∃g ents,QJ σ s ι w v id g ents f:=by
 obtain⟨rfl,hS⟩:=UE h;have hb:=R.blk _ _ hS;cases hb with
 | @memo _ g ents h1 h2 h3 h4 =>
 cases Ad hv with
 | mptr k1 k2 k3 k4 =>
 rw[hS]at k1;cases k1;obtain⟨g',q1,q2⟩:=k4 rfl;rw[h1]at q1;cases q1;exact⟨g,ents,q2,h1,h2,h3,hS,h4⟩
theorem QJ.keys{v:Value}{id g:Nat}{ents:Array MapEntry}{f:List SV→List SV→SV→Prop}(H:QJ σ s ι w v id g ents f)(hh:Cq=true)(hf:Fit σ w):∀x∈ents.toList,∃a' b',x.key=C2 a' b'∧EL w a'∧EL w b':=fun x hx=>by
 obtain⟨v1,v2,cs,ds,y,h1,h2,h3,h4,h5,h6,h7⟩:=H.rep x hx;obtain⟨p,rfl,hp⟩:=Dx hh hf h2 h4;obtain⟨q,rfl,hq⟩:=Dx hh hf h3 h5;exact⟨p,q,h1,hp,hq⟩
theorem QF{t:TypeId}(ho:o.op=.makeMap t none)(R:Ac C σ ι s a w)(h:Kd.go P d s K .makeMemo):BQ P C o a w K:=by
 simp only[Kd.go]at h;obtain⟨hid,hK⟩:=h;obtain⟨hu,R'⟩:=R.fresh (w':=w.alloc (.map #[] 0)) hid (.memo fun _ _ _=>False) ⟨none,0,some w.heap.size⟩ (Ext.refl _ _) (R.fit.alloc _) (E1.alloc _ _) (by simp) (fun S' ι' hu=>.memo (ents:=#[]) rfl (heap_alloc_new w _) (fun e he=>by simp at he) (fun p hp=>R.fit.no (by omega)));refine⟨.map (some w.heap.size),_,_,σ,_,_,.inl (by simp[execOp,ho,Instr.makeMap,newObj,Sem.run]),hK,R',.one (.mptr (b:=.memo fun _ _ _=>False) (by simp[AS.set,AG]) (Nat.le_refl _) rfl fun _=>⟨w.heap.size,by simp[AG],rfl⟩)⟩
theorem S5{t key elem e el:TypeId}{i j i1:TypeInfo}{z:Value}{zv:AV}{x k:Operand}{x' k':Opd}{ok:Bool}(ho:o.op=.lookup t x k ok)(hx:AR C.n x=some x')(hk:AR C.n k=some k')(ht:P.underlying t=some (.map key elem))(A:DP P key e el i1 j)(hi:P.info? elem=some i)(hz:i.zero=some z)(hzv:LF z=some zv)
  (R:Ac C σ ι s a w) (h:Kd.go P d s K (.memoGet ok zv x' k')):BQ P C o a w K:=by
 have rx:=R.ev hx;have rk:=R.ev hk;simp only[Kd.go]at h;split at h
 ·rename_i id f cs ds e1 e2;obtain⟨hh,hmiss,hhit⟩:=h;obtain⟨g,ents,H⟩:=R.hasMemo rx e1;obtain⟨v1,v2,hv,r1,r2,l1,l2⟩:=Ns rk e2;obtain⟨p,rfl,hp⟩:=Dx hh R.fit r1 l1;obtain⟨q,rfl,hq⟩:=Dx hh R.fit r2 l2;have hv':a.eval k=C2 p q:=hv;have hck:=fun em=>IE w A em p q;rcases Gu w A hp hq ents.toList (H.keys hh R.fit) with hf|⟨m,y,hf,hy,hyk⟩
  ·refine Af R (if ok then .tuple #[z,.bool false] else z) _ ?_ hmiss ?_
   ·simp[execOp,ho,Instr.lookup,run_underlying ht,H.val,MapKept.run_getObj_map H.heap,hv',hck,hf,zeroValue,typeInfo,hi,hz,Result.andThen]
   ·cases ok with
    | false=>exact EE hzv
    | true=>exact .tup (fun j=>if j=0 then z else .bool false) rfl (fun j b hb=>by
      match j,hb with
      | 0,hb=>rfl
      | 1,hb=>rfl) (fun j b hb=>by
      match j,hb with
      | 0,hb=>cases hb;exact EE hzv
      | 1,hb=>cases hb;exact .one (.st .bool))
  ·obtain⟨u1,u2,cs',ds',x1,q1,q2,q3,q4,q5,q6,q7⟩:=H.rep y (List.mem_of_getElem? hy);rw[hyk]at q1;obtain⟨rfl,rfl⟩:Value.pointer (some p)=u1∧Value.pointer (some q)=u2:=by
    unfold C2 at q1;simpa using q1
   have hK:=hhit cs' ds' x1 (PK r1 q2) (PK r2 q3) q7;refine Af R (if ok then .tuple #[y.val,.bool true] else y.val) _ ?_ hK ?_
   ·simp[execOp,ho,Instr.lookup,run_underlying ht,H.val,MapKept.run_getObj_map H.heap,hv',hck,hf,Result.andThen]
   ·cases ok with
    | false=>exact .one (.st q6)
    | true=>exact .tup (fun j=>if j=0 then y.val else .bool true) rfl (fun j b hb=>by
      match j,hb with
      | 0,hb=>rfl
      | 1,hb=>rfl) (fun j b hb=>by
      match j,hb with
      | 0,hb=>cases hb;exact .one (.st q6)
      | 1,hb=>cases hb;exact .one (.st .bool))
 ·exact h.elim
theorem DO.weak{f f':List SV→List SV→SV→Prop}{ents:List MapEntry}(h:DO σ f ents)(hf:∀cs ds x,f cs ds x→f' cs ds x):DO σ f' ents:=fun e he=>by
 obtain⟨v1,v2,cs,ds,x,h1,h2,h3,h4,h5,h6,h7⟩:=h e he;exact⟨v1,v2,cs,ds,x,h1,h2,h3,h4,h5,h6,hf _ _ _ h7⟩
theorem DO.put{f:List SV→List SV→SV→Prop}{ents:Array MapEntry}(h:DO σ f ents.toList){e:MapEntry}(he:∃v1 v2 cs ds x,e.key=.agg #[v1,v2]∧At σ noS noH v1 (.eptr cs)∧At σ noS noH v2 (.eptr ds)∧Cz cs=true∧Cz ds=true∧A8 σ e.val x∧f cs ds x):DO σ f (ents.push e).toList:=fun y hy=>by
 rw[Array.toList_push,List.mem_append,List.mem_singleton]at hy;rcases hy with hy|rfl
 ·exact h y hy
 ·exact he
theorem ND{α:Type}{g:α→α}{x:α}:∀{l:List α} {m:Nat},x∈l.modify m g→x∈l∨∃y,l[m]?=some y∧x=g y
 | [],m,h=>by simp at h
 | y::l,0,h=>by
  simp only[List.modify_zero_cons,List.mem_cons]at h;rcases h with rfl|h
  ·exact .inr ⟨y,rfl,rfl⟩
  ·exact .inl (by simp[h])
 | y::l,m+1,h=>by
  simp only[List.modify_succ_cons,List.mem_cons]at h;rcases h with rfl|h
  ·exact .inl (by simp)
  ·rcases ND h with h|⟨u,h1,h2⟩
   ·exact .inl (by simp[h])
   ·exact .inr ⟨u,by simpa using h1,h2⟩
theorem LS{t key elem e el:TypeId}{i1 j:TypeInfo}{x k v:Operand}{x' k' v':Opd}(ho:o.op=.mapUpdate t x k v∨o.op=.insert t x k v)(hx:AR C.n x=some x')(hk:AR C.n k=some k')(hv:AR C.n v=some v')(ht:P.underlying t=some (.map key elem))(A:DP P key e el i1 j)
  (R:Ac C σ ι s a w) (h:Kd.go P d s K (.memoSet x' k' v')):BQ P C o a w K:=by
 have rx:=R.ev hx;have rk:=R.ev hk;have rv:=R.ev hv;simp only[Kd.go]at h;split at h
 ·rename_i id f cs ds x1 e1 e2 e3;obtain⟨hh,hfx,hK⟩:=h;obtain⟨g,ents,H⟩:=R.hasMemo rx e1;obtain⟨v1,v2,hkv,r1,r2,l1,l2⟩:=Ns rk e2;obtain⟨p,rfl,hp⟩:=Dx hh R.fit r1 l1;obtain⟨q,rfl,hq⟩:=Dx hh R.fit r2 l2;have hv':a.eval k=C2 p q:=hkv;rw[e3]at rv;have hr:A8 σ (a.eval v) x1:=CU (Ad rv);have hck:=fun em=>IE w A em p q;have hex:execOp a.eval o=(do Instr.mapUpdate t (a.eval x) (a.eval k) (a.eval v);pure .skip):=by
   rcases ho with ho|ho <;> simp[execOp,ho]
  have hrun:∃ents',(execOp a.eval o).run P w=.ok .skip (setBlock w g (.map ents' ents'.size))∧DO σ f ents'.toList:=by
   rcases Gu w A hp hq ents.toList (H.keys hh R.fit) with hf|⟨m,y,hf,hy,hyk⟩
   ·refine⟨ents.push { key:=a.eval k,val:=a.eval v,born:=ents.size },?_,H.rep.put ⟨_,_,cs,ds,x1,hkv,r1,r2,l1,l2,hr,hfx⟩⟩;rw[hex];simp[Instr.mapUpdate,run_underlying ht,H.val,MapKept.run_getObj_map H.heap,hv',hck,hf,Result.andThen,run_setObj_map _ H.heap,setBlock]
   ·have hj:ents[m]?=some y:=by simpa using hy
    refine⟨ents.modify m fun e=>{ e with key:=a.eval k,val:=a.eval v },?_,fun u hu=>?_⟩
    ·rw[hex];simp[Instr.mapUpdate,run_underlying ht,H.val,MapKept.run_getObj_map H.heap,hv',hck,hf,Result.andThen,hj,hyk,N5 w p q,run_setObj_map _ H.heap,setBlock]
    ·rw[Array.toList_modify]at hu;rcases ND hu with hu|⟨y',h1,rfl⟩
     ·exact H.rep u hu
     ·exact⟨_,_,cs,ds,x1,hkv,r1,r2,l1,l2,hr,hfx⟩
  obtain⟨ents',q1,q2⟩:=hrun;obtain⟨ι',R',hu⟩:=R.setBlk (b':=.memo f) (o':=.map ents' ents'.size) H.blk H.hnd H.heap H.no rfl rfl (fun S' ι' hu=>.memo H.hnd (Dd H.heap).1 q2 H.no);have hs:s.set id (.memo f)=s:=by
   unfold AS.set;congr 1;funext i;unfold AI;split
   ·rename_i e4;rw[e4,H.blk]
   ·rfl
  rw[hs]at R';exact⟨undef,.any,_,σ,ι',_,.inr ⟨rfl,q1⟩,hK,R',.any⟩
 ·exact h.elim
end

theorem CW:∀{l:List AC},AC.highs l=true→∀a∈l,a.high=true
 | [],_,a,ha=>by simp at ha
 | x::xs,hx,a,ha=>by
  rw[AC.highs,Bool.and_eq_true]at hx;rcases List.mem_cons.1 ha with rfl|ha
  ·exact hx.1
  ·exact CW hx.2 a ha
section
variable {C:Ctx} {σ:Sto} {ι:A6} {s:AS} {a:Act} {w:World}
theorem At.low{σ:Sto}{S S2:AA}{ι:A6}(hS:∀i b,1000≤i→S i=some b→S2 i=some b){v:Value}{c:AC}(h:At σ S ι v c)(hc:c.high=true):At σ S2 ι v c:=by
 induction h with
 | st h=>exact .st h
 | full h=>exact .full h
 | row h1 h2 h3 h4=>exact .row (hS _ _ (by rw[AC.high]at hc;exact of_decide_eq_true hc) h1) h2 h3 h4
 | part h1 h2 h3 h4=>exact .part (hS _ _ (by rw[AC.high]at hc;exact of_decide_eq_true hc) h1) h2 h3 h4
 | rest h1 h2 h3 h4=>exact .rest (hS _ _ (by rw[AC.high]at hc;exact of_decide_eq_true hc) h1) h2 h3 h4
 | ptr h1 h2 h3 h4=>exact .ptr (hS _ _ (by rw[AC.high]at hc;exact of_decide_eq_true hc) h1) h2 h3 h4
 | mptr h1 h2 h3 h4=>exact .mptr (hS _ _ (by rw[AC.high]at hc;exact of_decide_eq_true hc) h1) h2 h3 h4
 | yld h1 h2 h3 h4=>exact .yld (hS _ _ (by rw[AC.high]at hc;exact of_decide_eq_true hc) h1) h2 h3 h4
 | ubool=>exact .ubool
 | eptr c h1 h2 hh=>exact .eptr c h1 h2 hh
 | @fn f vs caps c h1 h2 h3 ih =>
  have key:∀(l:List AC),AC.highs l=true→∀a∈l,a.high=true:=by
   intro l;induction l with
   | nil=>simp
   | cons x xs ih2 =>
    intro hx a ha;rw[AC.highs,Bool.and_eq_true]at hx;rcases List.mem_cons.1 ha with rfl|ha
    ·exact hx.1
    ·exact ih2 hx.2 a ha
  rw[AC.high]at hc;exact .fn c h1 h2 (fun j a ha=>ih j a ha (key _ hc a (List.mem_of_getElem? ha)))
 | any h=>exact .any h
theorem N0{S S2:AA}(hS:∀i b,1000≤i→S i=some b→S2 i=some b){vs:List Value}{cs:List AC}(h:An (At σ S ι) vs cs)(hc:AC.highs cs=true):An (At σ S2 ι) vs cs :=
 An.of_get h.len fun j v c hv hcj=>by
  obtain⟨v',h1,h2⟩:=h.get hcj;rw[hv]at h1;cases h1;exact h2.low hS (CW hc c (List.mem_of_getElem? hcj))
mutual
theorem Ae.low{S S2:AA}(hS:∀i b,1000≤i→S i=some b→S2 i=some b):∀{v:Value} {c:AV},Ae σ S ι v c→c.high=true→Ae σ S2 ι v c
 | v,.one c,h,hc=>by cases h with|one h=>exact .one (h.low hS (by rw[AV.high]at hc;exact hc))
 | v,.agg cs,h,hc=>by cases h with|agg h=>exact .agg (N0 hS h (by rw[AV.high]at hc;exact hc))
 | v,.tup vs,h,hc=>by
  cases h with
  | tup c h1 h2 h3=>exact .tup c h1 h2 (Ae.lows hS h3 (by rw[AV.high]at hc;exact hc))
 | v,.any,h,_=>.any
theorem Ae.lows{S S2:AA}(hS:∀i b,1000≤i→S i=some b→S2 i=some b):∀{vs:List AV} {c:Nat→Value},(∀j b,vs[j]?=some b→Ae σ S ι (c j) b)→AV.highs vs=true→∀j b,vs[j]?=some b→Ae σ S2 ι (c j) b
 | [],c,h,_,j,b,hb=>by simp at hb
 | x::xs,c,h,hc,j,b,hb=>by
  rw[AV.highs,Bool.and_eq_true]at hc;cases j with
  | zero =>
   simp at hb;subst hb;exact Ae.low hS (h 0 x rfl) hc.1
  | succ j=>exact Ae.lows hS (vs:=xs) (c:=fun j=>c (j+1)) (fun j b hb=>h (j+1) b (by simpa using hb)) hc.2 j b (by simpa using hb)
end
section
variable {S S2:AA} {ι2:A6}
mutual
theorem Ae.same(hc:∀v c,At σ S ι v c→c.high=true→At σ S2 ι2 v c):∀{v:Value} {a:AV},Ae σ S ι v a→a.high=true→Ae σ S2 ι2 v a
 | v,.one c,h,hh=>by cases h with|one h=>exact .one (hc _ _ h (by rw[AV.high]at hh;exact hh))
 | v,.agg cs,h,hh=>by
  rw[AV.high]at hh;cases h with
  | agg h =>
   refine .agg (An.of_get h.len fun j x c hx hcj=>?_);obtain⟨x',h1,h2⟩:=h.get hcj;rw[hx]at h1;cases h1;exact hc _ _ h2 (CW hh c (List.mem_of_getElem? hcj))
 | v,.tup vs,h,hh=>by
  rw[AV.high]at hh;cases h with
  | tup c h1 h2 h3=>exact .tup c h1 h2 (Ae.sames hc h3 hh)
 | v,.any,_,_=>.any
theorem Ae.sames(hc:∀v c,At σ S ι v c→c.high=true→At σ S2 ι2 v c):∀{vs:List AV} {c:Nat→Value},(∀(j:Nat) b,vs[j]?=some b→Ae σ S ι (c j) b)→AV.highs vs=true→∀(j:Nat) b,vs[j]?=some b→Ae σ S2 ι2 (c j) b
 | [],_,_,_,j,b,hb=>by simp at hb
 | x::xs,c,h,hh,j,b,hb=>by
  rw[AV.highs,Bool.and_eq_true]at hh;cases j with
  | zero =>
   simp at hb;subst hb;exact Ae.same hc (h 0 x rfl) hh.1
  | succ j=>exact Ae.sames hc (vs:=xs) (c:=fun j=>c (j+1)) (fun j b hb=>h (j+1) b (by simpa using hb)) hh.2 j b (by simpa using hb)
end
end
theorem CA.samecells{S S2:AA}{ι2:A6}{h:Hnd}{b:AJ}(hr:CA σ S ι w h b)(hc:∀v c,At σ S ι v c→c.high=true→At σ S2 ι2 v c)(hb:b.high=true):CA σ S2 ι2 w h b:=by
 cases hr with
 | box k1 k2 k3 k4 k5 =>
  refine .box k1 k2 k3 (An.of_get k4.len fun j v c hv hcj=>?_) k5;obtain⟨v',h1,h2⟩:=k4.get hcj;rw[hv]at h1;cases h1;exact hc _ _ h2 (CW hb c (List.mem_of_getElem? hcj))
 | crow k1 k2 k3 kc km k4 k5 =>
  refine .crow k1 k2 k3 kc km (An.of_get k4.len fun j v c hv hcj=>?_) k5;obtain⟨v',h1,h2⟩:=k4.get hcj;rw[hv]at h1;cases h1;exact hc _ _ h2 (CW hb c (List.mem_of_getElem? hcj))
 | afull k1 k2 k3 k4=>exact .afull k1 k2 k3 k4
 | arow k1 k2 k3 k4 k5 k6 k7 k8 k9 kh=>exact .arow k1 k2 k3 k4 k5 k6 k7 k8 k9 kh
 | mnil k1 k2=>exact .mnil k1 k2
 | mrow k1 k2 k3 k4 k5 k6 k7 k8 k9=>exact .mrow k1 k2 k3 k4 k5 k6 k7 k8 k9
 | map k1 k2 k3 k4=>exact .map k1 k2 k3 k4
 | memo k1 k2 k3 k4=>exact .memo k1 k2 k3 k4
 | iter k1 k2 k3 k4=>exact .iter k1 k2 (hc _ _ k3 hb) k4
 | @loop env r g k1 k2 k3 k4 k5=>exact .loop k1 k2 k3 (Ae.sames (c:=fun j=>r.tmps.getD j undef) hc k4 hb) k5
 | dead k1=>exact .dead k1
theorem D3{S S':AA}{i:Nat}(h:i<1000):Ec S S' i=S i:=if_pos h
theorem A9{S S':AA}{i:Nat}(h:1000≤i):Ec S S' i=S' i:=if_neg (by omega)
theorem Ac.ownT(R:Ac C σ ι s a w){T:AA}(hST:∀i,1000≤i→s.S i=T i)(hT:Ay T):Fi σ T ι w:=by
 have hS:∀i b,1000≤i→s.S i=some b→T i=some b:=fun i b hi hb=>by rw[←hST i hi];exact hb
 refine⟨fun id b hb=>?_,fun id id' b b' g h1 h2 g1 g2=>?_⟩
 ·obtain⟨hi,hh⟩:=hT id b hb;exact(R.blk id b (by rw[hST id hi];exact hb)).samecells (fun v c hv hc=>hv.low hS hc) hh
 ·exact R.inj _ _ _ _ g (by rw[hST id (hT id b h1).1];exact h1) (by rw[hST id' (hT id' b' h2).1];exact h2) g1 g2
theorem MJ:∀{l:List AV},AV.highs l=true→∀a∈l,a.high=true
 | [],_,a,ha=>by simp at ha
 | x::xs,hx,a,ha=>by
  rw[AV.highs,Bool.and_eq_true]at hx;rcases List.mem_cons.1 ha with rfl|ha
  ·exact hx.1
  ·exact MJ hx.2 a ha
theorem AAN(S:AA)(x:AV):Iz S x=x∨outV S x=some (Iz S x):=by
 unfold Iz;cases outV S x with
 | none=>exact .inl rfl
 | some y=>exact .inr rfl
theorem Ac.argsT(R:Ac C σ ι s a w){T:AA}(hST:∀i,1000≤i→s.S i=T i){vs:List Value}{xs:List AV}(hh:AV.highs (xs.map (Iz s.S))=true)(h:An (Ae σ s.S ι) vs xs):An (Ae σ T ι) vs (xs.map (Iz s.S)):=by
 have hS:∀i b,1000≤i→s.S i=some b→T i=some b:=fun i b hi hb=>by rw[←hST i hi];exact hb
 refine An.of_get (by rw[List.length_map];exact h.len) fun j v b hv hb=>?_;have hb':=MJ hh b (List.mem_of_getElem? hb);rw[List.getElem?_map,Option.map_eq_some_iff]at hb;obtain⟨x,hx,rfl⟩:=hb;obtain⟨v',h1,h2⟩:=h.get hx;rw[hv]at h1;cases h1;rcases AAN s.S x with e|e
 ·rw[e]at hb' ⊢;exact h2.low hS hb'
 ·exact(R.outV h2 e).mono (fun _ _ h=>h) (Ju _ _)
theorem Ac.join(R:Ac C σ ι s a w){T:AA}(hST:∀i,1000≤i→s.S i=T i)(hT:Ay T){Post:AV→AA→Prop}{e:Ending}{w':World}(he:UW σ T ι w Post e w') :
  ∃v r S' σ' ι2,e=.returned v∧Post r S'∧Ay S'∧Ac C σ' ι2 ⟨s.env,Ec s.S S'⟩ a w'∧Ae σ' (Ec s.S S') ι2 v r:=by
 obtain⟨v,r,S',σ',ι',rfl,hP,hS',hupd,hown',hv,hf',hkeep,hold,hos,hsz,hsame,hbase⟩:=he;have hown:=R.ownT hST hT;obtain⟨ι2,hι2⟩:∃ι2:A6,∀i,ι2 i=if i<1000 then ι i else ι' i:=⟨fun i=>if i<1000 then ι i else ι' i,fun _=>rfl⟩
 have hlo:∀i,i<1000→ι2 i=ι i:=fun i hi=>by rw[hι2,if_pos hi]
 have hhi:∀i,1000≤i→ι2 i=ι' i:=fun i hi=>by rw[hι2,if_neg (by omega)]
 have hlt:∀id b g,s.S id=some b→(ι id).g=some g→g<w.heap.size:=fun id b g h1 h2=>(R.blk id b h1).gsome h2;have hlow:∀id b g,id<1000→s.S id=some b→(ι id).g=some g→C3 T ι g:=fun id b g hi hb hg id2 b2 hb2 hg2=>by
  have h2:=(hT id2 b2 hb2).1;have:=R.inj _ _ _ _ g hb (by rw[hST id2 h2];exact hb2) hg hg2;omega
 have hnot:∀g,g<C.N→¬C.G g→C3 T ι g:=fun g h1 h2 id b hb hg=>by
  rcases R.base id b g (by rw[hST id (hT id b hb).1];exact hb) hg with h|h
  ·omega
  ·exact h2 h
 have hu:Upd s.S ι (Ec s.S S') ι2:=fun id b hb=>by
  rcases Nat.lt_or_ge id 1000 with hi|hi
  ·exact⟨b,by rw[D3 hi];exact hb,Nat.le_refl _,fun _=>⟨rfl,hlo id hi⟩⟩
  ·obtain⟨b',h1,h2,h3⟩:=hupd id b (by rw[←hST id hi];exact hb);exact⟨b',by rw[A9 hi];exact h1,h2,fun hl=>⟨(h3 hl).1,by rw[hhi id hi];exact(h3 hl).2⟩⟩
 have hu2:Upd S' ι' (Ec s.S S') ι2:=fun id b hb=>⟨b,by rw[A9 (hS' id b hb).1];exact hb,Nat.le_refl _,fun _=>⟨rfl,hhi id (hS' id b hb).1⟩⟩
 refine⟨v,r,S',σ',ι2,rfl,hP,hS',?_,hv.mono (fun _ _ h=>h) hu2⟩;refine⟨R.size,fun i hi=>(R.env i hi).mono hkeep hu,R.nod.mono (fun D h=>(hsame D (Array.getElem?_eq_some_iff.1 h).1 (GN hown.1 h)).trans h),hf',fun id b hb=>?_,fun id id' b b' g h1 h2 g1 g2=>?_,fun id b g hb hg=>?_,fun p x hx=>hkeep _ _ (R.ext p x hx),fun p h1 h2=>?_,⟨hos.1.trans R.os.1,hos.2.1.trans R.os.2.1,hos.2.2.trans R.os.2.2⟩,⟨Nat.le_trans R.grown.1 hsz,Nat.le_trans R.grown.2 hsz⟩,fun g h1 h2=>?_,R.upd.trans hu⟩
 ·rcases Nat.lt_or_ge id 1000 with hi|hi
  ·have hb':s.S id=some b:=(D3 (S:=s.S) (S':=S') hi).symm.trans hb;rw[hlo id hi];exact(R.blk id b hb').mono hkeep hu (fun g hg=>hsame g (hlt id b g hb' hg) (hlow id b g hi hb' hg)) (fun g hg p hp=>hold p (by rw[hp];exact hlt id b g hb' hg) (by rw[hp];exact hlow id b g hi hb' hg))
  ·have hb':S' id=some b:=(A9 (S:=s.S) (S':=S') hi).symm.trans hb;rw[hhi id hi];exact(hown'.1 id b hb').mono (fun _ _ h=>h) hu2 (fun _ _=>rfl) (fun _ _ _ _=>rfl)
 ·have cross:∀id id' b b' g,id<1000→1000≤id'→Ec s.S S' id=some b→Ec s.S S' id'=some b'→(ι2 id).g=some g→(ι2 id').g=some g→False:=fun id id' b b' g l1 l2 h1 h2 g1 g2=>by
   rw[D3 l1]at h1;rw[A9 l2]at h2;rw[hlo id l1]at g1;rw[hhi id' l2]at g2;rcases hbase id' b' g h2 g2 with h|h
   ·have:=hlt id b g h1 g1;omega
   ·exact h (hlow id b g l1 h1 g1)
  change Ec s.S S' id=some b at h1;change Ec s.S S' id'=some b' at h2;rcases Nat.lt_or_ge id 1000 with l1|l1 <;> rcases Nat.lt_or_ge id' 1000 with l2|l2
  ·rw[D3 l1]at h1;rw[D3 l2]at h2;rw[hlo id l1]at g1;rw[hlo id' l2]at g2;exact R.inj _ _ _ _ g h1 h2 g1 g2
  ·exact(cross id id' b b' g l1 l2 h1 h2 g1 g2).elim
  ·exact(cross id' id b' b g l2 l1 h2 h1 g2 g1).elim
  ·rw[A9 l1]at h1;rw[A9 l2]at h2;rw[hhi id l1]at g1;rw[hhi id' l2]at g2;exact hown'.2 _ _ _ _ g h1 h2 g1 g2
 ·change Ec s.S S' id=some b at hb;rcases Nat.lt_or_ge id 1000 with hi|hi
  ·rw[D3 hi]at hb;rw[hlo id hi]at hg;exact R.base id b g hb hg
  ·rw[A9 hi]at hb;rw[hhi id hi]at hg;rcases hbase id b g hb hg with h2|h2
   ·exact .inl (by have:=R.grown.1;omega)
   ·by_cases hN:g<C.N
    ·by_cases hG:C.G g
     ·exact .inr hG
     ·exact absurd (hnot g hN hG) h2
    ·exact .inl (by omega)
 ·exact(hold p (by have:=R.grown.1;omega) (hnot _ h1 h2)).trans (R.old p h1 h2)
 ·exact(hsame g (by have:=R.grown.1;omega) (hnot g h1 h2)).trans (R.same g h1 h2)
end

def Sr(P:Program)(t:TypeId):Option (Bool×Nat):=match P.underlying t,P.info? t with
 | some d,some i=>some (Ey d,if Ey d then i.size else 1)
 | _,_=>none
def Yj(v:Value):Option SV:=match NF v with
 | some (.st c)=>some c
 | some (.full xs)=>some (.list xs)
 | _=>none
def IY:List Value→Option (List SV)
 | []=>some []
 | v::vs=>match Yj v,IY vs with
  | some c,some cs=>some (c::cs)
  | _,_=>none
def isP(mu:List Nat):Option Nat→Bool
 | some d=>mu.contains (30000000+d)
 | none=>false
def isB(mu:List Nat):Option Nat→Bool
 | some d=>mu.contains (90000000+d)
 | none=>false
def isY(mu:List Nat):Option Nat→Bool
 | some d=>mu.contains (70000000+d)
 | none=>false
def Ul(P:Program)(t:TypeId):Bool:=match P.underlying t with
 | some .string=>true
 | _=>false
theorem T2{P:Program}{t:TypeId}(h:Ul P t=true):P.underlying t=some .string:=by
 unfold Ul at h;split at h
 ·assumption
 ·cases h
def ABf:Value→Bool
 | .int .u8 n=>decide (n=0)
 | _=>false
theorem YA{v:Value}(h:ABf v=true):v=.int .u8 0:=by
 unfold ABf at h;split at h
 ·rw[of_decide_eq_true h]
 ·cases h
def Zu(P:Program)(n:Nat)(mu:List Nat)(dst:Option Nat)(c:Call):Option Kd:=match c.callee with
 | .builtin .len=>match c.args.toList,c.argTypes.toList with
  | [x],[t]=>match AR n x,P.underlying t with
   | some x',some .string=>some (.len true x')
   | some x',some (.slice _)=>some (.len false x')
   | some x',some (.map _ _)=>some (.lenM x')
   | _,_=>none
  | _,_=>none
 | .builtin .append=>match c.args.toList,c.argTypes.toList with
  | [x,y],[t,t']=>match AR n x,AR n y,P.underlying t with
   | some x',some y',some (.slice e)=>match P.info? e with
    | some i=>match i.zero with
     | some z=>if t=t'∧z.cells.size=i.size∧0<i.size then if isP mu dst then some (.appP e i.size i.bytes x' y') else some (.append (match dst with|some d=>mu.contains d|none=>false) e i.size i.bytes x' y') else if Ul P t'=true∧i.size=1∧i.bytes=1∧ABf z=true then some (.appS e x' y') else none
     | none=>none
    | none=>none
   | _,_,_=>none
  | _,_=>none
 | .builtin .clear=>match c.args.toList,c.argTypes.toList with
  | [x],[t]=>match AR n x,P.underlying t with
   | some x',some (.slice e)=>match P.info? e with
    | some i=>match i.zero with
     | some z=>match IY z.cells.toList with
      | some zs=>if z.cells.size=i.size∧0<i.size then some (.clearP e i.size zs x') else none
      | none=>none
     | none=>none
    | none=>none
   | _,_=>none
  | _,_=>none
 | .builtin .copy=>match c.args.toList,c.argTypes.toList with
  | [x,y],[t,t']=>match AR n x,AR n y,P.underlying t with
   | some x',some y',some (.slice e)=>if(P.info? e).map (·.size)=some 1 then some (.copyP x' y') else some .never
   | _,_,_=>some .never
  | _,_=>some .never
 | .builtin .min=>match c.args.toList with
  | [x,y]=>match AR n x,AR n y with
   | some x',some y'=>some (.mm false x' y')
   | _,_=>none
  | _=>none
 | .builtin .max=>match c.args.toList with
  | [x,y]=>match AR n x,AR n y with
   | some x',some y'=>some (.mm true x' y')
   | _,_=>none
  | _=>none
 | .value (.func f)=>if CY P f then(CO n c.args.toList).map (fun xs=>match dst with
  | some d=>if mu.contains d then .callS f xs else if mu.contains (20000000+d) then .callN f xs else if mu.contains (40000000+d) then .callR f xs else if mu.contains (50000000+d) then .callW f xs else if mu.contains (80000000+d) then .callX f xs else .call f xs
  | none=>.callS f xs) else none
 | .value (.tmp t)=>match AR n (.tmp t),CO n c.args.toList with
  | some f',some xs=>if isY mu dst then none else some (.callV f' xs)
  | _,_=>none
 | _=>none
def ABe(P:Program)(t:TypeId):Bool:=match P.underlying t with
 | some (.int _)=>true
 | some .string=>true
 | some .bool=>true
 | _=>false
def Mp(P:Program)(t:TypeId):Option (TypeId×Option KK):=match P.underlying t with
 | some (.map k e)=>(QZ P k).map fun kt=>(e,kt)
 | _=>none
theorem H2{P:Program}{t e:TypeId}{kt:Option KK}(h:Mp P t=some (e,kt)):∃k,P.underlying t=some (.map k e)∧Nu P k kt:=by
 unfold Mp at h;split at h
 ·rename_i k e' e1;rw[Option.map_eq_some_iff]at h;obtain⟨q,h1,h2⟩:=h;cases h2;exact⟨k,e1,ZI h1⟩
 ·cases h
def M3(P:Program)(e:TypeId):Option AV:=match P.info? e with
 | some i=>match i.zero with
  | some z=>LF z
  | none=>none
 | none=>none
theorem Ig{P:Program}{e:TypeId}{zv:AV}(h:M3 P e=some zv):∃i z,P.info? e=some i∧i.zero=some z∧LF z=some zv:=by
 unfold M3 at h;split at h
 ·rename_i i e1;split at h
  ·rename_i z e2;exact⟨i,z,e1,e2,h⟩
  ·cases h
 ·cases h
def BW(P:Program)(n:Nat)(mu:List Nat)(dst:Option Nat):Op→Option Kd
 | .move x=>(AR n x).map .mov
 | .assign x=>(AR n x).map .mov
 | .pick c x y=>match AR n c,AR n x,AR n y with
  | some c',some x',some y'=>some (.pick c' x' y')
  | _,_,_=>none
 | .alloc e=>match P.info? e with
  | some i=>match i.zero with
   | some z=>(De z.cells.toList).map (.alloc e)
   | none=>none
  | none=>none
 | .box e x=>(AR n x).map (.box e)
 | .build t ps=>match P.info? t,P.underlying t with
  | some it,some (.struct fs)=>match it.zero,fs.toList.mapM (fun f=>(P.info? f.type).map fun i=>(f.offset,i.size)) with
   | some z,some places=>match FO n places ps.toList,De z.cells.toList with
    | some ps',some cs=>some (.build cs ps')
    | _,_=>none
   | _,_=>none
  | some it,some (.array len e)=>match it.zero,P.info? e with
   | some z,some ie=>match FO n ((List.range len).map fun i=>(i*ie.size,ie.size)) ps.toList,De z.cells.toList with
    | some ps',some cs=>if 1<ie.size then some (.build cs ps') else none
    | _,_=>none
   | _,_=>none
  | _,_=>none
 | .buildSlice t len ps=>match P.underlying t with
  | some (.slice e)=>match P.info? e with
   | some ie=>match ie.zero,O3 n 0 ps.toList with
    | some z,some xs=>if len*ie.size≤2^24∧0<ie.size∧ps.size=len then(if ABe P e&&ie.size==1&&!(match dst with|some d=>mu.contains d|none=>false) then some (.buildFlat xs) else some (.buildSlice (match dst with|some d=>mu.contains d|none=>false) e ie.size xs)) else none
    | _,_=>none
   | none=>none
  | _=>none
 | .load t x=>match Sr P t,AR n x with
  | some (g,k),some x'=>some (.load g k x')
  | _,_=>none
 | .store t x v=>match P.info? t,AR n x,AR n v with
  | some i,some x',some v'=>some (.store i.size x' v')
  | _,_,_=>none
 | .fieldAddr t x f=>match P.underlying t,AR n x with
  | some (.struct fs),some x'=>match fs[f]? with
   | some fd=>match P.info? fd.type with
    | some i=>if i.size≠0 then some (.fieldAddr fd.offset x') else none
    | none=>none
   | none=>none
  | _,_=>none
 | .field t x f=>match P.underlying t,AR n x with
  | some (.struct fs),some x'=>match fs[f]? with
   | some fd=>match Sr P fd.type with
    | some (g,k)=>some (.field g fd.offset k x')
    | none=>none
   | none=>none
  | _,_=>none
 | .indexAddr t x y=>match P.underlying t,AR n x,AR n y with
  | some (.slice e),some x',some y'=>match P.info? e with
   | some i=>if isP mu dst then some (.indexP i.size x' y') else some (.indexAddr i.size x' y')
   | none=>none
  | some (.array len e),some x',some y'=>match P.info? e with
   | some i=>some (.indexArr len i.size x' y')
   | none=>none
  | _,_,_=>none
 | .index t x y=>match P.underlying t,AR n x,AR n y with
  | some .string,some x',some y'=>some (.indexStr x' y')
  | _,_,_=>none
 | .binOp op t x y _=>match AR n x,AR n y with
  | some x',some y'=>match P.underlying t,op,y with
   | some .bool,.eql,_=>some (.eqB false x' y')
   | some .bool,.neq,_=>some (.eqB true x' y')
   | some (.slice _),.eql,.const (.slice none 0 0)=>some (.eqN false x')
   | some (.slice _),.neq,.const (.slice none 0 0)=>some (.eqN true x')
   | some (.interface _),.eql,.const .nilIface=>some (.eqE false x')
   | some (.interface _),.neq,.const .nilIface=>some (.eqE true x')
   | some (.pointer _),.eql,.const (.pointer none)=>some (.eqP false x')
   | some (.pointer _),.neq,.const (.pointer none)=>some (.eqP true x')
   | _,.and,_=>some (.bits op x' y')
   | _,.or,_=>some (.bits op x' y')
   | _,.shl,_=>some (.bits op x' y')
   | _,.shr,_=>if isB mu dst then some (.bits op x' y') else some (.bin op x' y')
   | _,_,_=>some (.bin op x' y')
  | _,_=>none
 | .unOp op _ x=>(AR n x).map (.un op)
 | .convert src dst x=>match P.underlying src,P.underlying dst,AR n x with
  | some _,some (.int k),some x'=>some (.conv k x')
  | some (.slice e),some .string,some x'=>match P.underlying e with
   | some (.int .u8)=>some (.strOf false x')
   | _=>none
  | some (.int _),some .string,some x'=>some (.strOf true x')
  | _,_,_=>none
 | .slice t x lo hi none=>match P.underlying t,AR n x,CZ n lo,CZ n hi with
  | some .string,some x',some lo',some hi'=>some (.sliceS x' lo' hi')
  | some (.slice e),some x',some lo',some hi'=>match P.info? e with
   | some i=>if isP mu dst then(match lo',hi' with|none,some h'=>some (.cutP i.size x' h')|some l',none=>some (.restP i.size x' l')|_,_=>none) else some (.sliceL i.size x' lo' hi')
   | none=>none
  | _,_,_,_=>none
 | .slice t x none (some hi) (some mx)=>match P.underlying t,AR n x,AR n hi,AR n mx with
  | some (.slice e),some x',some h',some m'=>(P.info? e).map fun i=>.sliceM i.size x' h' m'
  | _,_,_,_=>none
 | .extract x i=>(AR n x).map (.extract i)
 | .nilCheck x=>(AR n x).map .nilCheck
 | .call c=>Zu P n mu dst c
 | .makeSlice t x y=>match P.underlying t,AR n x,AR n y with
  | some (.slice e),some x',some y'=>match P.info? e with
   | some i=>match i.zero with
    | some z=>match IY z.cells.toList with
     | some zs=>if z.cells.size=i.size∧0<i.size then some (.makeSlice e i.size i.bytes zs x' y') else none
     | none=>none
    | none=>none
   | none=>none
  | _,_,_=>none
 | .makeMap t none=>(Mp P t).map fun q=>.makeMap q.2
 | .lookup t x k ok=>match Mp P t,AR n x,AR n k with
  | some (e,kt),some x',some k'=>(M3 P e).map fun z=>.lookup kt ok z x' k'
  | _,_,_=>none
 | .mapUpdate t x k v=>match Mp P t,AR n x,AR n k,AR n v with
  | some (_,kt),some x',some k',some v'=>some (.mapSet kt x' k' v')
  | _,_,_,_=>none
 | .insert t x k v=>match Mp P t,AR n x,AR n k,AR n v with
  | some (_,kt),some x',some k',some v'=>some (.mapSet kt x' k' v')
  | _,_,_,_=>none
 | .mapEntry t x k=>match Mp P t,AR n x,AR n k with
  | some (e,kt),some x',some k'=>(M3 P e).map fun z=>.mapEntry kt z x' k'
  | _,_,_=>none
 | .entryStore _ x k v=>match AR n x,AR n k,AR n v with
  | some x',some k',some v'=>some (.entrySet x' k' v')
  | _,_,_=>none
 | .range t x=>match P.underlying t,AR n x with
  | some (.map _ _),some x'=>some (.rangeM x')
  | _,_=>none
 | .next x false=>(AR n x).map .next
 | .entry x=>(AR n x).map .entry
 | .makeInterface t x=>match P.underlying t,AR n x with
  | some (.int _),some x'=>some (.iface t x')
  | _,_=>none
 | .makeFunc (.func g) first caps=>if first.size=0 then(CO n caps.toList).map (.makeFunc g) else none
 | _=>none
def Qb(n:Nat)(ops:List Oper):Option (Nat×Bool)→Option (Option (Nat×Bool))
 | none=>some none
 | some (j,want)=>match ops[j]? with
  | some o=>match o.dst with
   | some t=>if t<n then some (some (t,want)) else none
   | none=>none
  | none=>none
def Iu(P:Program)(k:TypeId):Bool:=match P.underlying k with
 | some (.array 2 e)=>match P.underlying e,P.info? e with
  | some (.pointer el),some i=>match P.info? el with
   | some j=>i.size==1&&j.size != 0
   | none=>false
  | _,_=>false
 | _=>false
theorem Ga{P:Program}{k:TypeId}(h:Iu P k=true):∃e el i j,DP P k e el i j:=by
 unfold Iu at h;split at h
 ·rename_i e e1;split at h
  ·rename_i el i e2 e3;split at h
   ·rename_i j e4;simp at h;exact⟨e,el,i,j,e1,e2,e3,h.1,e4,h.2⟩
   ·cases h
  ·cases h
 ·cases h
def QV(P:Program)(n:Nat):Op→Option Kd
 | .makeMap t none=>match P.underlying t with
  | some (.map k _)=>if Iu P k=true then some .makeMemo else none
  | _=>none
 | .lookup t x k ok=>match P.underlying t,AR n x,AR n k with
  | some (.map key e),some x',some k'=>if Iu P key=true then(M3 P e).map fun z=>.memoGet ok z x' k' else none
  | _,_,_=>none
 | .mapUpdate t x k v=>match P.underlying t,AR n x,AR n k,AR n v with
  | some (.map key _),some x',some k',some v'=>if Iu P key=true then some (.memoSet x' k' v') else none
  | _,_,_,_=>none
 | .insert t x k v=>match P.underlying t,AR n x,AR n k,AR n v with
  | some (.map key _),some x',some k',some v'=>if Iu P key=true then some (.memoSet x' k' v') else none
  | _,_,_,_=>none
 | .build t ps=>match ps.toList,P.info? t with
  | [(0,x),(1,y)],some it=>match it.zero,CO n [x,y] with
   | some z,some xs=>if Iu P t=true∧z.cells.size=2 then some (.buildArr xs) else none
   | _,_=>none
  | _,_=>none
 | _=>none
def Z8(mu:List Nat):Option Nat→Bool
 | some d=>mu.contains (60000000+d)
 | none=>false
def Kd.stillIf(b:Bool)(k:Kd):Kd:=match b with
 | true=>k.stillOf
 | false=>k
theorem Td{P:Program}{d:Nat}{s:AS}{K:AV→AS→Prop}{b:Bool}{kd:Kd}(h:(kd.stillIf b).go P d s K):kd.go P d s (ABk K):=by
 have keep:kd.go P d s K→kd.go P d s (ABk K):=fun h=>go_mono h fun _ _ h=>.inl h;cases b with
 | true =>
  by_cases ha:∃mu e w b x y,kd=.append mu e w b x y
  ·obtain⟨mu,e,w,b,x,y,rfl⟩:=ha;exact SZ h
  ·exact keep (Ub (fun mu e w b x y he=>ha ⟨mu,e,w,b,x,y,he⟩) h)
 | false=>exact keep h
def ABl(P:Program)(n:Nat)(mu:List Nat)(dst:Option Nat)(op:Op):Option Kd:=match BW P n mu dst op with
 | some k=>some (k.stillIf (Z8 mu dst))
 | none=>match QV P n op with
  | some k=>some k
  | none=>match op with
   | .panic x=>(AR n x).map .pan
   | .call c=>match c.callee with
    | .value (.tmp t)=>match AR n (.tmp t),CO n c.args.toList with
     | some f',some xs=>some (.callY f' xs)
     | _,_=>some .never
    | _=>some .never
   | _=>some .never
def SR(P:Program)(n:Nat)(mu:List Nat)(ops:List Oper)(o:Oper):Option Ins:=match Qb n ops o.guard,ABl P n mu o.dst o.op with
 | some g,some k=>some ⟨o.dst,g,k,.no⟩
 | _,_=>none
def My(P:Program)(n:Nat)(mu:List Nat)(ops:List Oper):List Oper→Option (List Ins)
 | []=>some []
 | o::os=>match SR P n mu ops o,My P n mu ops os with
  | some i,some is=>some (i::is)
  | _,_=>none
section
variable {P:Program} {C:Ctx} {o:Oper} {a:Act} {w:World} {σ:Sto} {ι:A6} {s:AS} {d:Nat}
def Bh(C:Ctx)(s:AS)(a:Act)(w:World):Prop:=∃σ ι,Ac C σ ι s a w
theorem I0{t:TypeId}{g:Bool}{k:Nat}(h:Sr P t=some (g,k)):∃dd i,P.underlying t=some dd∧P.info? t=some i∧g=Ey dd∧k=if g then i.size else 1:=by
 unfold Sr at h;split at h
 ·rename_i dd i e1 e2;simp only[Option.some.injEq,Prod.mk.injEq]at h;obtain⟨rfl,rfl⟩:=h;exact⟨dd,i,e1,e2,rfl,rfl⟩
 ·cases h
theorem Y_{f:FuncId}{xs:Array Operand}{ts:Array TypeId}{xs':List Opd}{K:AV→AS→Prop}{next:Act→World→Prop}{Q:Exit→Act→World→Prop}(ho:o.op=.call { callee:=.value (.func f),args:=xs,argTypes:=ts })(hf:CY P f=true)(hx:CO C.n xs.toList=some xs')
  (R:Ac C σ ι s a w) (h:Kd.go P d s K (.call f xs')) (hn:∀av s' a' w',K av s'→Bh C (s'.put o.dst av) a' w'→next a' w'):o.wp P a w next Q:=by
 simp only[Kd.go]at h;split at h
 ·rename_i vs e1;obtain⟨r,hc,hK⟩:=h;have rxs:=R.evs hx;have hrun:(execOp a.eval o).run P w=.ok (.enter f (xs.map a.eval)) w:=by
   unfold CY at hf;split at hf
   ·rename_i fn hfn;simp only[Bool.and_eq_true,Bool.not_eq_true',beq_eq_false_iff_ne,Option.isSome_iff_exists]at hf;obtain⟨hname,c,hbody⟩:=hf;simp[execOp,ho,resolve,Deferred.ofValue,Act.eval,invoke,callFunc,hfn,hname,hbody]
   ·cases hf
  have hvs:An (Ae σ noS noH) (xs.map a.eval).toList vs:=by
   have:=rxs;rw[←Array.toList_map]at this;have hlen:=this.len;obtain⟨q1,q2⟩:=Ac.outVs R (cs:=s.evs xs') (cs':=vs) (c:=fun j=>((xs.map a.eval).toList[j]?).getD undef) (fun j b hb=>by
    obtain⟨v,v1,v2⟩:=this.get hb;rw[v1];exact v2) e1
   refine An.of_get (by omega) fun j v b hv hb=>?_;have:=q2 j b hb;rw[hv]at this;exact this
  unfold Oper.wp;rw[hrun,Oper.upon_enter];have hcall:=hc σ w _ (C.glob.mono R.ext) R.fit hvs;rw[Array.toArray_toList]at hcall;refine hcall.mono fun e w' he=>?_;obtain⟨v,σ',rfl,hv,hf',hext,hb⟩:=he;exact hn _ _ _ _ hK ⟨σ',ι,(R.more hext hf' hb).put (hv.mono (fun _ _ h=>h) (Ju _ _))⟩
 ·exact h.elim
theorem Xv{mx:Bool}{x y:Operand}{ts:Array TypeId}{x' y':Opd}{K:AV→AS→Prop}(ho:o.op=.call { callee:=.builtin (if mx then .max else .min),args:=#[x,y],argTypes:=ts })(hx:AR C.n x=some x')(hy:AR C.n y=some y')(R:Ac C σ ι s a w)(h:Kd.go P d s K (.mm mx x' y')):BQ P C o a w K:=by
 have rx:=R.ev hx;have ry:=R.ev hy;simp only[Kd.go]at h;split at h
 ·rename_i k m k' n e1 e2;rw[e1]at rx;rw[e2]at ry;obtain⟨hex,h1⟩:=BL rx;obtain⟨hey,h2⟩:=BL ry;obtain⟨rfl,h⟩:=h;cases mx with
  | true =>
   simp only[if_true]at h ho;by_cases hlt:m<n
   ·rw[if_pos hlt]at h;exact Af R (.int k n) _ (by simp[execOp,ho,resolve,invoke,builtin,Builtin.max_,Builtin.max2,hex,hey,hlt]) h (.one (.st (.int h2)))
   ·rw[if_neg hlt]at h;exact Af R (.int k m) _ (by simp[execOp,ho,resolve,invoke,builtin,Builtin.max_,Builtin.max2,hex,hey,hlt]) h (.one (.st (.int h1)))
  | false =>
   simp only[Bool.false_eq_true,if_false]at h ho;by_cases hlt:n<m
   ·rw[if_pos hlt]at h;exact Af R (.int k n) _ (by simp[execOp,ho,resolve,invoke,builtin,Builtin.min_,Builtin.min2,hex,hey,hlt]) h (.one (.st (.int h2)))
   ·rw[if_neg hlt]at h;exact Af R (.int k m) _ (by simp[execOp,ho,resolve,invoke,builtin,Builtin.min_,Builtin.min2,hex,hey,hlt]) h (.one (.st (.int h1)))
 ·exact h.elim
theorem XD{v:Value}{c:SV}(h:Yj v=some c):A8 σ v c:=by
 unfold Yj at h;split at h
 ·rename_i e;cases h;have:=Gd (σ:=σ) (S:=noS) (ι:=noH) e;exact CU this
 ·rename_i e;cases h;have:=Gd (σ:=σ) (S:=noS) (ι:=noH) e;exact D4 this
 ·cases h
theorem Hn:∀{vs:List Value} {cs:List SV},IY vs=some cs→An (A8 σ) vs cs
 | [],cs,h=>by simp only[IY,Option.some.injEq]at h;subst h;exact .nil
 | v::vs,cs,h=>by
  simp only[IY]at h;split at h
  ·rename_i k1 k2;cases h;exact .cons (XD k1) (Hn k2)
  ·cases h
theorem Wv{z:Array Value}{zs:List SV}(hzs:IY z.toList=some zs)(hpos:0<z.size)(n:Nat):BV σ (Builtin.zeroCells z n).toList z.size (List.replicate n zs):=by
 have rz:=Hn (σ:=σ) hzs;have hzl:=rz.len;simp only[Array.length_toList]at hzl;refine⟨fun x hx=>by rw[(List.mem_replicate.1 hx).2];exact hzl.symm,fun k x j y hx hy=>?_⟩;obtain⟨hk1,hk2⟩:=List.getElem?_eq_some_iff.1 hx;simp only[List.length_replicate]at hk1;rw[List.getElem_replicate]at hk2;subst hk2;have hj:j<z.size:=by
  have:=(List.getElem?_eq_some_iff.1 hy).1;omega
 obtain⟨v,v1,v2⟩:=rz.get hy;refine⟨v,?_,v2⟩;have hlt:k*z.size+j<n*z.size:=by
  have:(k+1)*z.size≤n*z.size:=Nat.mul_le_mul_right _ hk1
  rw[Nat.add_mul]at this;omega
 have em:(k*z.size+j) % z.size=j:=by rw[Nat.mul_comm,Nat.mul_add_mod,Nat.mod_eq_of_lt hj]
 have hv:z[j]?=some v:=by simpa using v1
 unfold Builtin.zeroCells;simp only[Array.getElem?_toList,Array.getElem?_map,Array.getElem?_range,if_pos hlt,Option.map_some,em];simp only[Array.getElem!_eq_getD,Array.getD_eq_getD_getElem?,hv,Option.getD_some]
theorem Z1{z:Array Value}{zs:List SV}(hzs:IY z.toList=some zs)(hpos:0<z.size)(n:Nat):∀u∈(Builtin.zeroCells z n).toList,u.oneCell'=true:=fun u hu=>by
 have rz:=Hn (σ:=fun _=>none) hzs;unfold Builtin.zeroCells at hu;simp only[Array.toList_map,List.mem_map]at hu;obtain⟨q,_,rfl⟩:=hu;have hq:q % z.size<z.size:=Nat.mod_lt _ hpos;rw[getElem!_pos z (q % z.size) hq];obtain⟨c,_,hc⟩:=rz.get' (show z.toList[q % z.size]?=some z[q % z.size] by simp[hq]);exact hc.one
theorem Ug{t e:TypeId}{i:TypeInfo}{z:Value}{zs:List SV}{x:Operand}{x':Opd}{K:AV→AS→Prop}(ho:o.op=.call { callee:=.builtin .clear,args:=#[x],argTypes:=#[t] })(hx:AR C.n x=some x')(ht:P.underlying t=some (.slice e))(hi:P.info? e=some i)(hz:i.zero=some z)(hzs:IY z.cells.toList=some zs)(hsz:z.cells.size=i.size)(hpos:0<i.size)
  (R:Ac C σ ι s a w) (h:Kd.go P d s K (.clearP e i.size zs x')):BQ P C o a w K:=by
 have rx:=R.ev hx;simp only[Kd.go]at h;split at h
 ·rename_i id q m e1;rw[e1]at rx;replace rx:=Ad rx;split at h
  ·rename_i e' w' xs hS;obtain⟨⟨hm,rfl,rfl⟩,hK⟩:=h;obtain⟨b,hb1,hb2,hb3⟩:=K6 rx;rw[hS]at hb1;cases hb1;obtain⟨hqm,hex⟩:=hb3 hm;have hb:=R.blk _ _ hS;have hmm:m=xs.length:=hm;have hex2:∀v w2,(Builtin.clear_ #[t] o.type #[a.eval x]).run P w=.ok v w2→(execOp a.eval o).run P w=.ok (.value v) w2:=fun v w2 hr=>by
    simp only[execOp,ho,resolve,invoke,builtin,Sem.run_bind,Sem.run_pure,Result.andThen_ok,List.map_toArray,List.map_cons,List.map_nil,hr]
   have hlen:(xs.take q++List.replicate (m-q) zs).length=xs.length:=by simp;omega
   by_cases h0:m-q=0
   ·have hrun:=hex2 (.tuple #[]) w (by
     rw[hex,h0];generalize (if(ι id).cap=q then(ι id).p else Option.map (fun x=>x.add (q*(AJ.mrow e' i.size xs).wid)) (ι id).p)=pp;cases pp <;> simp[Builtin.clear_,run_underlying ht])
    have hq:q=xs.length:=by omega
    have hsame:s.set id (.mrow e' i.size (xs.take q++List.replicate (m-q) zs))=s:=by
     rw[h0,List.replicate_zero,List.append_nil,List.take_of_length_le (by omega)];obtain⟨env,S⟩:=s;simp only[AS.set,AS.mk.injEq,true_and];funext k;unfold AI;split
     ·rename_i hk;subst hk;exact hS.symm
     ·rfl
    rw[hsame]at hK;exact⟨_,_,s,σ,ι,w,.inl hrun,hK,R,.tup (fun _=>undef) rfl (by simp) (by simp)⟩
   ·cases hb with
    | mnil k1=>simp at hmm;omega
    | @mrow _ _ _ g vs k1 k2 k3 k4 k5 k6 k7 k8 k9 =>
     have hcap:xs.length*i.size≤(ι id).cap*i.size:=Nat.mul_le_mul_right _ k4;have hqw:q*i.size+(m-q)*i.size=xs.length*i.size:=by rw[←Nat.add_mul];congr 1;omega
     have hzl:(Builtin.zeroCells z.cells (m-q)).toList.length=(m-q)*i.size:=by rw[Array.length_toList,size_zeroCells,hsz]
     have hst:=run_storeCells_at P g (q*i.size) e' (Builtin.zeroCells z.cells (m-q)).toList 0 vs w k3 (by rw[hzl];omega) (Z1 hzs (by omega) _);rw[Nat.add_zero,hzl]at hst;generalize hA:(vs.toList.take (q*i.size)++(Builtin.zeroCells z.cells (m-q)).toList++vs.toList.drop (q*i.size+(m-q)*i.size)).toArray=A at hst;have hne:¬(ι id).cap=q:=by omega
     have hrun:=hex2 (.tuple #[]) (w.setRow g A) (by
      rw[hex,if_neg hne,k2];obtain⟨n',hn'⟩:∃n',m-q=n'+1:=⟨m-q-1,by omega⟩
      simp only[Option.map_some,B6,Nat.zero_add,AJ.wid];rw[hn']at hst ⊢;simp[Builtin.clear_,run_underlying ht,zeroValue,typeInfo,hi,hz,hst])
     have hheap:(w.setRow g A).heap[g]?=some (.cells A e' (0,0)):=setRow_heap w _ _ _ _ _ k3;have hlaidAll:BV σ vs.toList i.size xs:=⟨k7,fun kk x j y hx hy=>by
      obtain⟨v,v1,v2⟩:=k8 kk x j y hx hy;exact⟨v,by simpa using v1,v2⟩⟩
     have hl:BV σ A.toList i.size (xs.take q++List.replicate (m-q) zs):=by
      have h2:=Wv (σ:=σ) hzs (by omega) (m-q);have htl:(vs.toList.take (q*i.size)).length=(xs.take q).length*i.size:=by
       have e1:(xs.take q).length=q:=by rw[List.length_take];omega
       have e2:vs.toList.length=(ι id).cap*i.size:=by rw[Array.length_toList,k6]
       rw[e1,List.length_take,e2];omega
      rw[hsz]at h2;have h3:=((Hp hlaidAll q).append h2 htl).more (vs.toList.drop (q*i.size+(m-q)*i.size));rw[←hA];exact h3
     have hAs:A.size=(ι id).cap*i.size:=by
      rw[←hA];simp only[List.size_toArray,List.length_append,List.length_take,List.length_drop,hzl,Array.length_toList,k6];omega
     obtain⟨hu,R'⟩:=R.turn (w':=w.setRow g A) hS (.mrow e' i.size (xs.take q++List.replicate (m-q) zs)) (ι id) (σ':=σ) (fun _ _ h=>h)
      (fun _ _ _=>rfl) (R.fit.row k9 fun k hk=>setRow_other _ _ _ _ hk) (by simp only[AJ.len,hlen];exact Nat.le_refl _) (fun _=>⟨rfl,rfl⟩) (CD _ _) (by simp) (fun k hk hne=>setRow_other _ _ _ _ (fun e=>hne (by rw[e];exact k1))) (fun g h=>.inl h)
      (fun hu=>.mrow k1 k2 hheap (by rw[hlen];exact k4) k5 hAs hl.1 (DH hl fun j v hv=>by simpa using hv) k9)
     exact⟨_,_,_,_,_,_,.inl hrun,hK,R',.tup (fun _=>undef) rfl (by simp) (by simp)⟩
  ·exact h.elim
 ·exact h.elim
theorem WI{t t' e:TypeId}{x y:Operand}{x' y':Opd}{K:AV→AS→Prop}(ho:o.op=.call { callee:=.builtin .copy,args:=#[x,y],argTypes:=#[t,t'] })(hx:AR C.n x=some x')(hy:AR C.n y=some y')(ht:P.underlying t=some (.slice e))(hi:(P.info? e).map (·.size)=some 1)
  (R:Ac C σ ι s a w) (h:Kd.go P d s K (.copyP x' y')):BQ P C o a w K:=by
 have rx:=R.ev hx;have ry:=R.ev hy;simp only[Kd.go]at h;split at h
 ·rename_i id q m id2 u m2 e1 e2;rw[e1]at rx;rw[e2]at ry;replace rx:=Ad rx;replace ry:=Ad ry;split at h
  ·rename_i e' w' xs hS;obtain⟨⟨rfl,hm,hm2,rfl⟩,hK⟩:=h;subst hm;subst hm2;obtain⟨b,hb1,hb2,hb3⟩:=K6 rx;rw[hS]at hb1;cases hb1;obtain⟨hqm,hex⟩:=hb3 rfl;obtain⟨b,hb1,hb2',hb3'⟩:=K6 ry;rw[hS]at hb1;cases hb1;obtain⟨hum,hey⟩:=hb3' rfl;have hb:=R.blk _ _ hS;have hex2:∀v w2,(Builtin.copy_ #[t,t'] o.type #[a.eval x,a.eval y]).run P w=.ok v w2→(execOp a.eval o).run P w=.ok (.value v) w2:=fun v w2 hr=>by
    simp only[execOp,ho,resolve,invoke,builtin,Sem.run_bind,Sem.run_pure,Result.andThen_ok,List.map_toArray,List.map_cons,List.map_nil,hr]
   generalize hN:min (xs.length-u) (xs.length-q)=N at hK;have hlen:(xs.take q++((xs.drop u).take N++xs.drop (q+N))).length=xs.length:=by simp;omega
   by_cases h0:N=0
   ·subst h0;have hrun:=hex2 (goInt 0) w (by
     rw[hex,hey];exact run_copy_none w t t' o.type e _ _ _ _ _ _ ht hi (by show min _ _=0;exact hN))
    have hsame:s.set id (.mrow e' 1 (xs.take q++((xs.drop u).take 0++xs.drop (q+0))))=s:=by
     rw[List.take_zero,List.nil_append,Nat.add_zero,List.take_append_drop];obtain⟨env,S⟩:=s;simp only[AS.set,AS.mk.injEq,true_and];funext k;unfold AI;split
     ·rename_i hk;subst hk;exact hS.symm
     ·rfl
    rw[hsame]at hK;exact⟨_,_,s,σ,ι,w,.inl hrun,hK,R,.any⟩
   ·cases hb with
    | mnil k1=>simp at hN;omega
    | @mrow _ _ _ g vs k1 k2 k3 k4 k5 k6 k7 k8 k9 =>
     have hcq:¬(ι id).cap=q:=by omega
     have hcu:¬(ι id).cap=u:=by omega
     have hlaidAll:BV σ vs.toList 1 xs:=⟨k7,fun kk x j y hx hy=>by
      obtain⟨v,v1,v2⟩:=k8 kk x j y hx hy;exact⟨v,by simpa using v1,v2⟩⟩
     have h1:BV σ (vs.toList.take (q*1)) 1 (xs.take q):=Hp hlaidAll q;have h2:BV σ ((vs.toList.drop (u*1)).take (N*1)) 1 ((xs.drop u).take N):=Hp (KN hlaidAll u) N;have h3:BV σ (vs.toList.drop ((q+N)*1)) 1 (xs.drop (q+N)):=KN hlaidAll (q+N);simp only[Nat.mul_one]at h1 h2 h3 k6;have hcl:((vs.toList.drop u).take N).length=N:=by simp;omega
     have hone:∀v∈(vs.toList.drop u).take N,v.oneCell'=true:=fun v hv=>by
      obtain⟨j,hj⟩:=List.getElem?_of_mem hv;have hjN:j<N:=by have:=(List.getElem?_eq_some_iff.1 hj).1;omega
      have hxl:j<((xs.drop u).take N).length:=by simp;omega
      have hw1:=h2.1 _ (List.getElem_mem hxl);obtain⟨v',v1,v2⟩:=h2.2 j _ 0 (((xs.drop u).take N)[j][0]'(by omega)) (List.getElem?_eq_getElem hxl) (List.getElem?_eq_getElem (by omega));rw[Nat.mul_one,Nat.add_zero,hj]at v1;cases v1;exact v2.one
     have hr:=run_copy_row (P:=P) w t t' o.type e g q (xs.length-q) ((ι id).cap-q) ⟨g,u,none⟩ (xs.length-u) ((ι id).cap-u) vs e' ((vs.toList.drop u).take N) ht hi k3 (by rw[hcl,←hN]) (fun j v hv=>by
      rw[B6];rw[List.getElem?_take]at hv;split at hv
      ·rw[List.getElem?_drop]at hv;rw[cell_of_row w g _ _ _ _ k3];simpa using hv
      ·cases hv) (by rw[hcl];omega) hone
     rw[hcl]at hr;generalize hA:(vs.toList.take q++(vs.toList.drop u).take N++vs.toList.drop (q+N)).toArray=A at hr;have hrun:=hex2 (goInt N) (w.setRow g A) (by
      rw[hex,hey,if_neg hcq,if_neg hcu,k2];simp only[Option.map_some,B6,Nat.zero_add,AJ.wid,Nat.mul_one];exact hr)
     have hheap:(w.setRow g A).heap[g]?=some (.cells A e' (0,0)):=setRow_heap w _ _ _ _ _ k3;have hl:BV σ A.toList 1 (xs.take q++((xs.drop u).take N++xs.drop (q+N))):=by
      rw[←hA,List.append_assoc];exact h1.append (h2.append h3 (by rw[hcl];simp;omega)) (by simp;omega)
     have hAs:A.size=(ι id).cap*1:=by
      rw[←hA];simp only[List.size_toArray,List.length_append,List.length_take,List.length_drop,Array.length_toList];omega
     obtain⟨hu,R'⟩:=R.turn (w':=w.setRow g A) hS (.mrow e' 1 (xs.take q++((xs.drop u).take N++xs.drop (q+N)))) (ι id) (σ':=σ) (fun _ _ h=>h)
      (fun _ _ _=>rfl) (R.fit.row k9 fun k hk=>setRow_other _ _ _ _ hk) (by simp only[AJ.len,hlen];exact Nat.le_refl _) (fun _=>⟨rfl,rfl⟩) (CD _ _) (by simp) (fun k hk hne=>setRow_other _ _ _ _ (fun e=>hne (by rw[e];exact k1))) (fun g h=>.inl h)
      (fun hu=>.mrow k1 k2 hheap (by rw[hlen];exact k4) k5 hAs hl.1 (DH hl fun j v hv=>by simpa using hv) k9)
     exact⟨_,_,_,_,_,_,.inl hrun,hK,R',.any⟩
  ·exact h.elim
 ·exact h.elim
theorem Oa{t e:TypeId}{i:TypeInfo}{z:Value}{zs:List SV}{x y:Operand}{x' y':Opd}{K:AV→AS→Prop}(ho:o.op=.makeSlice t x y)(hx:AR C.n x=some x')(hy:AR C.n y=some y')(ht:P.underlying t=some (.slice e))(hi:P.info? e=some i)(hz:i.zero=some z)(hzs:IY z.cells.toList=some zs)(hsz:z.cells.size=i.size)(hpos:0<i.size)
  (R:Ac C σ ι s a w) (h:Kd.go P d s K (.makeSlice e i.size i.bytes zs x' y')):BQ P C o a w K:=by
 have rx:=R.ev hx;have ry:=R.ev hy;simp only[Kd.go]at h;split at h
 ·rename_i k m k' n e1 e2;rw[e1]at rx;rw[e2]at ry;obtain⟨hex,-⟩:=BL rx;obtain⟨hey,-⟩:=BL ry;obtain⟨rfl,h0,h63,hby,hid,hK⟩:=h;obtain⟨q,rfl⟩:∃q:Nat,m=q:=⟨m.toNat,by omega⟩
  simp only[Int.toNat_natCast]at hK;have hr:=run_make (P:=P) w t e i z ht hi hz k k' (q:Int) (q:Int) (by omega) (Int.le_refl _) (by rw[Int.mul_comm];omega) h63;simp only[Int.toNat_natCast]at hr;have rz:=Hn (σ:=σ) hzs;have hzl:=rz.len;have hmax:q≤maxLen:=by simp only[maxLen];omega
  obtain⟨hu,R'⟩:=R.fresh (w':=w.alloc (.cells (madeCells z.cells (q*i.size)) e)) hid (.mrow e i.size (List.replicate q zs)) ⟨some ⟨w.heap.size,0,none⟩,q,some w.heap.size⟩ (Ext.refl _ _) (R.fit.alloc _) (E1.alloc _ _) (by simp)
   (fun S' ι' hu=>.mrow rfl rfl (heap_alloc_new w _) (by simp) hmax (by simp[madeCells]) (fun x hx=>by rw[(List.mem_replicate.1 hx).2];simp at hzl;omega) (fun kk x j y hx hy=>by
    obtain⟨hk1,hk2⟩:=List.getElem?_eq_some_iff.1 hx;simp only[List.length_replicate]at hk1;rw[List.getElem_replicate]at hk2;subst hk2;have hj:j<i.size:=by
     have:=(List.getElem?_eq_some_iff.1 hy).1;simp at hzl;omega
    obtain⟨v,v1,v2⟩:=rz.get hy;refine⟨v,?_,v2⟩;have hlt:kk*i.size+j<q*i.size:=by
     have:(kk+1)*i.size≤q*i.size:=Nat.mul_le_mul_right _ hk1
     rw[Nat.add_mul]at this;omega
    have hjz:j<z.cells.size:=by omega
    have em:(kk*i.size+j) % z.cells.size=j:=by rw[hsz,Nat.mul_comm,Nat.mul_add_mod,Nat.mod_eq_of_lt hj]
    have hv:z.cells[j]?=some v:=by simpa using v1
    unfold madeCells;rw[Array.getElem?_map,Array.getElem?_range,if_pos hlt,Option.map_some,em];simp only[Array.getElem!_eq_getD,Array.getD_eq_getD_getElem?,hv,Option.getD_some]) (fun p hp=>R.fit.no (by omega)))
  exact⟨_,_,_,σ,_,_,.inl (by simp only[execOp,ho,hex,hey,Sem.run_bind,hr,Result.andThen_ok];rfl),hK,R',.one (.row (b:=.mrow e i.size (List.replicate q zs)) (by simp[AS.set,AG]) (by simp[AJ.len]) rfl fun _=>by simp[AG])⟩
 ·exact h.elim
theorem Nc(R:Ac C σ ι s a w):∀{xs:List Operand} {xs':List Opd} {cs:List AC},CO C.n xs=some xs'→s.caps xs'=some cs→An (At σ s.S ι) (xs.map a.eval) cs
 | [],xs',cs,h1,h2=>by
  simp only[CO,Option.some.injEq]at h1;subst h1;simp only[AS.caps,Option.some.injEq]at h2;subst h2;exact .nil
 | x::xs,xs',cs,h1,h2=>by
  simp only[CO]at h1;split at h1
  ·rename_i k1 k2;cases h1;simp only[AS.caps]at h2;split at h2
   ·rename_i e1 e2;cases h2;have rx:=R.ev k1;rw[e1]at rx;exact .cons (Ad rx) (Nc R k2 e2)
   ·cases h2
  ·cases h1
theorem Qf{t e el:TypeId}{it i1 j:TypeInfo}{z:Value}{ps:Array (Nat×Operand)}{x y:Operand}{xs:List Opd}{K:AV→AS→Prop}(ho:o.op=.build t ps)(hps:ps.toList=[(0,x),(1,y)])(A:DP P t e el i1 j)(hit:P.info? t=some it)(hz:it.zero=some z)(hzs:z.cells.size=2)(hx:CO C.n [x,y]=some xs)(R:Ac C σ ι s a w)(h:Kd.go P d s K (.buildArr xs)):BQ P C o a w K:=by
 simp only[Kd.go]at h;split at h
 ·rename_i cs e1;have rc:=Nc R hx e1;have hps':ps=#[(0,x),(1,y)]:=by rw[←hps]
  subst hps';match cs,rc with
  | [c1,c2],.cons r1 (.cons r2 .nil) =>
  have k1:=Gc r1.one;have k2:=Gc r2.one;obtain⟨u,v,hzc⟩:∃u v,z.cells=#[u,v]:=by
   have h3:z.cells.toList.length=2:=by simpa using hzs
   match hl:z.cells.toList,h3 with
   | [u,v],_=>exact⟨u,v,by rw[←hl]⟩
  refine Af R (.agg #[a.eval x,a.eval y]) _ ?_ h (.agg (.cons r1 (.cons r2 .nil)));simp[execOp,ho,Instr.build,zeroValue,typeInfo,hit,hz,run_underlying A.arr,sizeOf,A.info,A.size,Instr.fill,k1,k2,hzc,Result.andThen]
 ·exact h.elim
theorem Qg{g:FuncId}{first caps:Array Operand}{xs:List Opd}{K:AV→AS→Prop}(ho:o.op=.makeFunc (.func g) first caps)(hf:first.size=0)(hx:CO C.n caps.toList=some xs)(R:Ac C σ ι s a w)(h:Kd.go P d s K (.makeFunc g xs)):BQ P C o a w K:=by
 simp only[Kd.go]at h;split at h
 ·rename_i cs e1;have rc:=Nc R hx e1;have e0:first=#[]:=Array.eq_empty_of_size_eq_zero hf
  subst e0;have hl:=rc.len;refine Af R (.func (.func g) #[] (caps.map a.eval)) _ (by simp[execOp,ho,Instr.makeFunc]) h (.one (.fn (fun j=>((caps.toList.map a.eval)[j]?).getD undef) (by simpa using hl) (fun j b hb=>?_) (fun j b hb=>?_)))
  ·obtain⟨v,v1,v2⟩:=rc.get hb;rw[v1];simpa using v1
  ·obtain⟨v,v1,v2⟩:=rc.get hb;rw[v1];exact v2
 ·exact h.elim
theorem Gi{f:FuncId}{vs:List Value}{avs:List AV}{r:AV}{S':AA}{next:Act→World→Prop}{Q:Exit→Act→World→Prop}(R:Ac C σ ι s a w)(hrun:(execOp a.eval o).run P w=.ok (.enter f vs.toArray) w)(hvs:An (Ae σ s.S ι) vs avs)
  (h:Ah P f (AV.rens up1 avs) (upS s.S) r S') (hn:∀a' w',Bh C ((⟨s.env,dnS S'⟩:AS).put o.dst (r.ren dn1)) a' w'→next a' w'):o.wp P a w next Q:=by
 have hup:∀i,dn1 (up1 i)=i:=M1;have hS:∀i b,s.S i=some b→upS s.S (up1 i)=some (b.ren up1):=fun i b hb=>EP hb;obtain⟨ι1,hι1⟩:∃ι1:A6,∀i,ι1 i=ι (dn1 i):=⟨fun i=>ι (dn1 i),fun _=>rfl⟩
 have hι:∀i b,s.S i=some b→ι1 (up1 i)=ι i:=fun i b _=>by rw[hι1,hup]
 have hown:Fi σ (upS s.S) ι1 w:=by
  refine⟨fun id b hb=>?_,fun id id' b b' g h1 h2 g1 g2=>?_⟩
  ·obtain⟨hle,b',h1,rfl⟩:=FC hb;have:=CA.ren (S2:=upS s.S) (ι2:=ι1) (ρ:=up1) hS hι (R.blk _ _ h1);rw[hι1];exact this
  ·obtain⟨l1,c1,k1,_⟩:=FC h1;obtain⟨l2,c2,k2,_⟩:=FC h2;rw[hι1]at g1 g2;have:=R.inj _ _ _ _ g k1 k2 g1 g2;rw[←NT l1,←NT l2,this]
 have hargs:An (Ae σ (upS s.S) ι1) vs (AV.rens up1 avs):=by
  rw[AV.rens_eq];exact(hvs.mono fun _ _ x=>Ae.ren (S2:=upS s.S) (ι2:=ι1) (ρ:=up1) hS hι x).map_right
 unfold Oper.wp;rw[hrun,Oper.upon_enter];refine(h (Kb _) σ w vs _ (C.glob.mono R.ext) R.fit hown hargs).mono fun e w' he=>?_;obtain⟨v,σ',ι',rfl,hclean,hupd,hown',hv,hf',hkeep,hold,hos,hsz,hsame,hbase⟩:=he;have hSd:∀i b,S' i=some b→dnS S' (dn1 i)=some (b.ren dn1):=fun i b hb=>Hd (hclean i b hb).1 hb;obtain⟨ι2,hι2⟩:∃ι2:A6,∀i,ι2 i=ι' (up1 i):=⟨fun i=>ι' (up1 i),fun _=>rfl⟩
 have hιd:∀i b,S' i=some b→ι2 (dn1 i)=ι' i:=fun i b hb=>by
  rw[hι2,NT (hclean i b hb).1]
 have hu:Upd s.S ι (dnS S') ι2:=fun id b hb=>by
  obtain⟨b',h1,h2,h3⟩:=hupd _ _ (hS id b hb);have h4:=hSd _ _ h1;rw[hup]at h4;refine⟨_,h4,by rw[CL]at h2 ⊢;exact h2,fun hl=>?_⟩;rw[CL]at hl;obtain⟨q1,q2⟩:=h3 (by rw[CL];exact hl);refine⟨by rw[MA]at q1 ⊢;exact q1,?_⟩;rw[hι2,q2,hι1,hup]
 have hnot:∀g,g<C.N→¬C.G g→C3 (upS s.S) ι1 g:=fun g h1 h2 id b hb hg=>by
  obtain⟨_,b',k1,_⟩:=FC hb;rw[hι1]at hg;rcases R.base _ _ g k1 hg with h|h
  ·omega
  ·exact h2 h
 have R':Ac C σ' ι2 ⟨s.env,dnS S'⟩ a w':=by
  refine⟨R.size,fun i hi=>(R.env i hi).mono hkeep hu,R.nod.mono (fun D h=>(hsame D (Array.getElem?_eq_some_iff.1 h).1 (GN hown.1 h)).trans h),hf',fun id b hb=>?_,fun id id' b b' g h1 h2 g1 g2=>?_,fun id b g hb hg=>?_,fun p x hx=>hkeep _ _ (R.ext p x hx),fun p h1 h2=>?_,⟨hos.1.trans R.os.1,hos.2.1.trans R.os.2.1,hos.2.2.trans R.os.2.2⟩,⟨Nat.le_trans R.grown.1 hsz,Nat.le_trans R.grown.2 hsz⟩,fun g h1 h2=>?_,R.upd.trans hu⟩
  ·obtain⟨b',h1,rfl⟩:=FH hb;have:=CA.ren (S2:=dnS S') (ι2:=ι2) (ρ:=dn1) hSd hιd (hown'.1 _ _ h1);rw[hι2];exact this
  ·obtain⟨c1,k1,_⟩:=FH h1;obtain⟨c2,k2,_⟩:=FH h2;rw[hι2]at g1 g2;have:=congrArg dn1 (hown'.2 _ _ _ _ g k1 k2 g1 g2);rw[hup,hup]at this;exact this
  ·obtain⟨b',h1,_⟩:=FH hb;rw[hι2]at hg;rcases hbase _ _ g h1 hg with h2|h2
   ·exact .inl (by have:=R.grown.1;omega)
   ·by_cases hN:g<C.N
    ·by_cases hG:C.G g
     ·exact .inr hG
     ·exact absurd (hnot g hN hG) h2
    ·exact .inl (by omega)
  ·exact(hold p (by have:=R.grown.1;omega) (hnot _ h1 h2)).trans (R.old p h1 h2)
  ·exact(hsame g (by have:=R.grown.1;omega) (hnot g h1 h2)).trans (R.same g h1 h2)
 exact hn _ _ ⟨σ',_,R'.put (Ae.ren (S2:=dnS S') (ι2:=ι2) (ρ:=dn1) hSd hιd hv)⟩
theorem WG{f:FuncId}{xs:Array Operand}{ts:Array TypeId}{xs':List Opd}{d:Nat}{K:AV→AS→Prop}{next:Act→World→Prop}{Q:Exit→Act→World→Prop}(ho:o.op=.call { callee:=.value (.func f),args:=xs,argTypes:=ts })(hf:CY P f=true)(hx:CO C.n xs.toList=some xs')
  (R:Ac C σ ι s a w) (h:Kd.go P d s K (.callN f xs')) (hn:∀av s' a' w',K av s'→Bh C (s'.put o.dst av) a' w'→next a' w'):o.wp P a w next Q:=by
 simp only[Kd.go]at h;split at h
 ·rename_i vs e1;obtain⟨mu,e,wd,ys,hc,hd,hK⟩:=h;have rxs:=R.evs hx;have hrun:(execOp a.eval o).run P w=.ok (.enter f (xs.map a.eval)) w:=by
   unfold CY at hf;split at hf
   ·rename_i fn hfn;simp only[Bool.and_eq_true,Bool.not_eq_true',beq_eq_false_iff_ne,Option.isSome_iff_exists]at hf;obtain⟨hname,c,hbody⟩:=hf;simp[execOp,ho,resolve,Deferred.ofValue,Act.eval,invoke,callFunc,hfn,hname,hbody]
   ·cases hf
  have hvs:An (Ae σ noS noH) (xs.map a.eval).toList vs:=by
   have:=rxs;rw[←Array.toList_map]at this;have hlen:=this.len;obtain⟨q1,q2⟩:=Ac.outVs R (cs:=s.evs xs') (cs':=vs) (c:=fun j=>((xs.map a.eval).toList[j]?).getD undef) (fun j b hb=>by
    obtain⟨v,v1,v2⟩:=this.get hb;rw[v1];exact v2) e1
   refine An.of_get (by omega) fun j v b hv hb=>?_;have:=q2 j b hb;rw[hv]at this;exact this
  unfold Oper.wp;rw[hrun,Oper.upon_enter];have hno:∀g,C3 noS noH g:=fun g id b hb=>by cases hb
  have hcl:Ay noS:=fun i b hb=>by cases hb
  have how:Fi σ noS noH w:=⟨fun id b hb=>(by cases hb),fun id id' b b' g hb=>(by cases hb)⟩
  have hcall:=hc hcl σ w _ noH (C.glob.mono R.ext) R.fit how hvs;rw[Array.toArray_toList]at hcall;refine hcall.mono fun ex w' he=>?_;obtain⟨v,σ',ι',rfl,hclean,hupd,hown',hv,hf',hkeep,hold,hos,hsz,hsame,hbase⟩:=he;have hblk:=hown'.1 1000 (KG mu e wd ys) (by simp);obtain⟨hu,R'⟩:=R.fresh (w':=w') hd (KG mu e wd ys) (ι' 1000) (σ':=σ') ⟨hkeep,fun p hp=>hold p hp (hno _)⟩ hf' ⟨hos.1,hos.2.1,hos.2.2,hsz,fun g hg=>hsame g hg (hno _)⟩ (fun g hg=>by
   rcases hbase 1000 (KG mu e wd ys) g (by simp) hg with h1|h1
   ·exact h1
   ·exact absurd (hno g) h1) (fun S2 ι2 _=>by
   cases mu with
   | false =>
    cases hblk with
    | afull h1 h2 h3 h4=>exact .afull h1 h2 h3 h4
    | arow h1 h2 h3 h4 h5 h6 h7 h8 h9 hh=>exact .arow h1 h2 h3 h4 h5 h6 h7 h8 h9 hh
   | true =>
    cases hblk with
    | mnil h1 h2=>exact .mnil h1 h2
    | mrow h1 h2 h3 h4 h5 h6 h7 h8 h9=>exact .mrow h1 h2 h3 h4 h5 h6 h7 h8 h9)
  refine hn _ _ _ _ hK ⟨σ',_,R'.put ?_⟩;cases hv with
  | one hv =>
   cases hv with
   | row k1 k2 k3 k4 =>
    simp only[if_true,Option.some.injEq]at k1;subst k1;exact .one (.row (b:=KG mu e wd ys) (by simp[AS.set,AG]) (by cases mu <;> exact Nat.le_refl _) k3 (fun hl=>by rw[AG];exact k4 hl))
 ·exact h.elim
theorem En{f:FuncId}{args:Array Value}(hf:CY P f=true):(callFunc f args).run P w=.ok (.enter f args) w:=by
 unfold CY at hf;split at hf
 ·rename_i fn hfn;simp only[Bool.and_eq_true,Bool.not_eq_true',beq_eq_false_iff_ne,Option.isSome_iff_exists]at hf;obtain⟨hname,c,hbody⟩:=hf;simp[callFunc,hfn,hname,hbody]
 ·cases hf
theorem Pf{f:FuncId}{xs:Array Operand}{ts:Array TypeId}{xs':List Opd}{K:AV→AS→Prop}{next:Act→World→Prop}{Q:Exit→Act→World→Prop}(ho:o.op=.call { callee:=.value (.func f),args:=xs,argTypes:=ts })(hf:CY P f=true)(hx:CO C.n xs.toList=some xs')
  (R:Ac C σ ι s a w) (h:Kd.go P d s K (.callS f xs')) (hn:∀av s' a' w',K av s'→Bh C (s'.put o.dst av) a' w'→next a' w'):o.wp P a w next Q:=by
 simp only[Kd.go]at h;obtain⟨r,S',hc,hK⟩:=h;refine Gi (vs:=xs.toList.map a.eval) R ?_ (R.evs hx) hc fun a' w' hH=>hn _ _ _ _ hK hH;have:=En (P:=P) (w:=w) (args:=xs.map a.eval) hf;have e:(xs.toList.map a.eval).toArray=xs.map a.eval:=by rw[←Array.toList_map,Array.toArray_toList]
 rw[e];simp[execOp,ho,resolve,Deferred.ofValue,Act.eval,invoke,this]
theorem WM{f:FuncId}{xs:Array Operand}{ts:Array TypeId}{xs':List Opd}{K:AV→AS→Prop}{next:Act→World→Prop}{Q:Exit→Act→World→Prop}(ho:o.op=.call { callee:=.value (.func f),args:=xs,argTypes:=ts })(hf:CY P f=true)(hx:CO C.n xs.toList=some xs')
  (R:Ac C σ ι s a w) (h:Kd.go P d s K (.callR f xs')) (hn:∀av s' a' w',K av s'→Bh C (s'.put o.dst av) a' w'→next a' w'):o.wp P a w next Q:=by
 simp only[Kd.go]at h;obtain⟨r,rows,h0,hc,hK⟩:=h;refine Gi (vs:=xs.toList.map a.eval) R ?_ (R.evs hx) (hc s.S h0) fun a' w' hH=>hn _ s _ _ hK (by rw[QH]at hH;exact hH);have:=En (P:=P) (w:=w) (args:=xs.map a.eval) hf;have e:(xs.toList.map a.eval).toArray=xs.map a.eval:=by rw[←Array.toList_map,Array.toArray_toList]
 rw[e];simp[execOp,ho,resolve,Deferred.ofValue,Act.eval,invoke,this]
theorem W8{f:FuncId}{xs:Array Operand}{ts:Array TypeId}{xs':List Opd}{K:AV→AS→Prop}{next:Act→World→Prop}{Q:Exit→Act→World→Prop}(ho:o.op=.call { callee:=.value (.func f),args:=xs,argTypes:=ts })(hf:CY P f=true)(hx:CO C.n xs.toList=some xs')
  (R:Ac C σ ι s a w) (h:Kd.go P d s K (.callW f xs')) (hn:∀av s' a' w',K av s'→Bh C (s'.put o.dst av) a' w'→next a' w'):o.wp P a w next Q:=by
 simp only[Kd.go]at h;obtain⟨r,rows,h0,hc,hK⟩:=h;refine Gi (vs:=xs.toList.map a.eval) R ?_ (R.evs hx) (hc s.S h0) fun a' w' hH=>hn _ _ _ _ hK (by rw[QH]at hH;exact hH);have:=En (P:=P) (w:=w) (args:=xs.map a.eval) hf;have e:(xs.toList.map a.eval).toArray=xs.map a.eval:=by rw[←Array.toList_map,Array.toArray_toList]
 rw[e];simp[execOp,ho,resolve,Deferred.ofValue,Act.eval,invoke,this]
theorem W0{f:FuncId}{xs:Array Operand}{ts:Array TypeId}{xs':List Opd}{K:AV→AS→Prop}{next:Act→World→Prop}{Q:Exit→Act→World→Prop}(ho:o.op=.call { callee:=.value (.func f),args:=xs,argTypes:=ts })(hf:CY P f=true)(hx:CO C.n xs.toList=some xs')
  (R:Ac C σ ι s a w) (h:Kd.go P d s K (.callX f xs')) (hn:∀av s' a' w',K av s'→Bh C (s'.put o.dst av) a' w'→next a' w'):o.wp P a w next Q:=by
 simp only[Kd.go]at h;obtain⟨T,Post,hT,hST,hh,hc,hK⟩:=h;have hrun:(execOp a.eval o).run P w=.ok (.enter f (xs.map a.eval)) w:=by
  have:=En (P:=P) (w:=w) (args:=xs.map a.eval) hf;simp[execOp,ho,resolve,Deferred.ofValue,Act.eval,invoke,this]
 unfold Oper.wp;rw[hrun,Oper.upon_enter];have e:(xs.toList.map a.eval).toArray=xs.map a.eval:=by rw[←Array.toList_map,Array.toArray_toList]
 rw[←e];refine(hc hT σ w _ ι (C.glob.mono R.ext) R.fit (R.ownT hST hT) (R.argsT hST hh (R.evs hx))).mono fun e w' he=>?_;obtain⟨v,r,S',σ',ι2,rfl,hP,hS',R',hv⟩:=R.join hST hT he;exact hn _ _ _ _ (hK r S' hS' hP) ⟨σ',ι2,R'.put hv⟩
theorem Xd{t:Nat}{xs:Array Operand}{ts:Array TypeId}{f':Opd}{xs':List Opd}{K:AV→AS→Prop}{next:Act→World→Prop}{Q:Exit→Act→World→Prop}(ho:o.op=.call { callee:=.value (.tmp t),args:=xs,argTypes:=ts })(hf:AR C.n (.tmp t)=some f')(hx:CO C.n xs.toList=some xs')
  (R:Ac C σ ι s a w) (h:Kd.go P d s K (.callY f' xs')) (hn:∀av s' a' w',K av s'→Bh C (s'.put o.dst av) a' w'→next a' w'):o.wpIn (fen C.ro) 0 P a w next Q:=by
 have rf:=R.ev hf;simp only[Kd.go]at h;obtain⟨T,Post,hT,hST,hh,hc,hK⟩:=h;rw[Bool.and_eq_true]at hh;have e:(xs.toList.map a.eval).toArray=xs.map a.eval:=by rw[←Array.toList_map,Array.toArray_toList]
 obtain⟨l,hl,hy⟩:=hc hT σ w _ _ ι (C.glob.mono R.ext) R.fit (R.ownT hST hT) (rf.low (fun i b hi hb=>by rw[←hST i hi];exact hb) hh.1) (R.argsT hST hh.2 (R.evs hx));obtain⟨fn,tmps,assign,body,hrun,hR⟩:=hy C.ro;rw[e]at hrun;refine⟨fun _ _=>trivial,?_⟩;rw[Oper.semAt_eq _ _ _ (fun c e=>by rw[e]at ho;cases ho)];have hev':a.tmps.getD t undef=.func (.yield l) #[] #[]:=hl;have hrun':(execOp a.eval o).run P w=.ok (.round l fn tmps assign body) w:=by
  simp only[execOp,ho,resolve,Act.eval,hev',Deferred.ofValue,invoke,Sem.run_bind,Sem.run_pure,Result.andThen_ok];rw[show(#[]++Array.map a.eval xs)=xs.map a.eval by simp];exact hrun
 rw[hrun'];refine⟨fun h=>by simp[fen,Fence.wide]at h,hR.mono fun e w' he=>?_⟩;obtain⟨v,r,S',σ',ι2,rfl,hP,hS',R',hv⟩:=R.join hST hT he;exact hn _ _ _ _ (hK r S' hS' hP) ⟨σ',ι2,R'.put hv⟩
theorem YG{S:AA}{v:Value}{av:AV}{g:Nat}{caps:List AC}(h:Ae σ S ι v av)(e:av.fnOf=some (g,caps)):∃vs,v=.func (.func g) #[] vs∧An (Ae σ S ι) vs.toList (caps.map .one):=by
 unfold AV.fnOf at e;split at e
 ·cases e;have rf:=Ad h;cases rf with
  | @fn _ vs _ c h1 h2 h3 =>
   exact⟨vs,rfl,(An.of_get (R:=fun v c=>Ae σ S ι v (.one c)) (by simpa using h1) fun j v b hv hb=>by
    have e:=h2 j b hb;have e2:vs.toList[j]?=some (c j):=by simpa using e
    rw[hv]at e2;cases e2;exact .one (h3 j b hb)).map_right⟩
 ·cases e;have rf:=Ad h;cases rf with
  | st hs =>
   obtain⟨vs,rfl,hv⟩:=Xt hs;exact⟨vs,rfl,((hv S ι).mono fun _ _ x=>Ae.one x).map_right⟩
 ·split at e
  ·rename_i hab;cases e;have rf:=Ad h;cases rf with
   | st hs =>
    cases hs;rw[Array.eq_empty_of_size_eq_zero hab.1,Array.eq_empty_of_size_eq_zero hab.2];exact⟨#[],rfl,.nil⟩
  ·cases e
 ·cases e
theorem Wy{t:Nat}{xs:Array Operand}{ts:Array TypeId}{f':Opd}{xs':List Opd}{K:AV→AS→Prop}{next:Act→World→Prop}{Q:Exit→Act→World→Prop}(ho:o.op=.call { callee:=.value (.tmp t),args:=xs,argTypes:=ts })(hf:AR C.n (.tmp t)=some f')(hx:CO C.n xs.toList=some xs')
  (R:Ac C σ ι s a w) (h:Kd.go P d s K (.callV f' xs')) (hn:∀av s' a' w',K av s'→Bh C (s'.put o.dst av) a' w'→next a' w'):o.wp P a w next Q:=by
 have rf:=R.ev hf;simp only[Kd.go]at h;split at h
 ·rename_i g caps e1;obtain⟨hp,r,S',hc,hK⟩:=h;obtain⟨vs,hev,hcaps⟩:=YG rf e1;refine Gi (vs:=xs.toList.map a.eval++vs.toList) R ?_ ((R.evs hx).append hcaps) hc fun a' w' hH=>hn _ _ _ _ hK hH;have:=En (P:=P) (w:=w) (args:=xs.map a.eval++vs) hp;have hev':a.tmps.getD t undef=.func (.func g) #[] vs:=hev;simp only[execOp,ho,resolve,hev,Deferred.ofValue,invoke,Sem.run_bind,Sem.run_pure,Result.andThen_ok];rw[show(#[]++Array.map a.eval xs++vs)=xs.map a.eval++vs by simp,this];congr 1;simp
 ·exact h.elim
theorem XF{mu:List Nat}{k:Kd}(htr:BW P C.n mu o.dst o.op=some k){K:AV→AS→Prop}{next:Act→World→Prop}{Q:Exit→Act→World→Prop}(R:Ac C σ ι s a w)(h:Kd.go P d s K k)(hn:∀av s' a' w',K av s'→Bh C (s'.put o.dst av) a' w'→next a' w'):o.wp P a w next Q:=by
 have fin:BQ P C o a w K→o.wp P a w next Q:=fun hg=>hg.wp fun av s' σ' ι' a' w' hk R'=>hn _ _ _ _ hk ⟨σ',ι',R'⟩
 cases ho:o.op with
 | move x =>
  rw[ho]at htr;simp only[BW,Option.map_eq_some_iff]at htr;obtain⟨x',hx,rfl⟩:=htr;exact fin (VA (.inl ho) hx R h)
 | assign x =>
  rw[ho]at htr;simp only[BW,Option.map_eq_some_iff]at htr;obtain⟨x',hx,rfl⟩:=htr;exact fin (VA (.inr ho) hx R h)
 | pick c x y =>
  rw[ho]at htr;simp only[BW]at htr;split at htr
  ·cases htr;rename_i e1 e2 e3;exact fin (Zg ho e1 e2 e3 R h)
  ·cases htr
 | alloc e =>
  rw[ho]at htr;simp only[BW]at htr;split at htr
  ·rename_i i e1;split at htr
   ·rename_i z e2;rw[Option.map_eq_some_iff]at htr;obtain⟨cs,hcs,rfl⟩:=htr;exact fin (Xf ho e1 e2 hcs R h)
   ·cases htr
  ·cases htr
 | box e x =>
  rw[ho]at htr;simp only[BW,Option.map_eq_some_iff]at htr;obtain⟨x',hx,rfl⟩:=htr;exact fin (Z3 ho hx R h)
 | build t ps =>
  rw[ho]at htr;simp only[BW]at htr;split at htr
  ·rename_i it fs e1 e2;split at htr
   ·rename_i z places e3 e4;split at htr
    ·rename_i ps' cs e5 e6;cases htr;exact fin (V_ ho e1 e3 e2 e4 e5 e6 R h)
    ·cases htr
   ·cases htr
  ·rename_i it len e e1 e2;split at htr
   ·rename_i z ie e3 e4;split at htr
    ·rename_i ps' cs e5 e6;split at htr
     ·cases htr;exact fin (Sz ho e1 e3 e2 e4 e5 e6 R h)
     ·cases htr
    ·cases htr
   ·cases htr
  ·cases htr
 | buildSlice t len ps =>
  rw[ho]at htr;simp only[BW]at htr;split at htr
  ·rename_i e e1;split at htr
   ·rename_i ie e2;split at htr
    ·rename_i z xs e3 e4;split at htr
     ·rename_i hc;split at htr;all_goals
       split at htr
       ·rename_i hp;cases htr;simp only[Bool.and_eq_true,beq_iff_eq]at hp;have h':=AA1 (e:=e) h;rw[←hp.1.2]at h';exact fin (HL ho e1 e2 e3 hc.1 hc.2.1 hc.2.2 e4 R h')
       ·cases htr;exact fin (HL ho e1 e2 e3 hc.1 hc.2.1 hc.2.2 e4 R h)
     ·cases htr
    ·cases htr
   ·cases htr
  ·cases htr
 | load t x =>
  rw[ho]at htr;simp only[BW]at htr;split at htr
  ·rename_i g kk x' e1 e2;cases htr;obtain⟨dd,i,q1,q2,q3,q4⟩:=I0 e1;exact fin (ZM ho e2 q1 q2 g q3 kk q4 R h)
  ·cases htr
 | store t x v =>
  rw[ho]at htr;simp only[BW]at htr;split at htr
  ·rename_i e1 e2 e3;cases htr;exact fin (XG ho e2 e3 e1 R h)
  ·cases htr
 | fieldAddr t x f =>
  rw[ho]at htr;simp only[BW]at htr;split at htr
  ·rename_i fs x' e1 e2;split at htr
   ·rename_i fd e3;split at htr
    ·rename_i i e4;split at htr
     ·rename_i hz;cases htr;exact fin (OX ho e2 e1 e3 e4 hz R h)
     ·cases htr
    ·cases htr
   ·cases htr
  ·cases htr
 | field t x f =>
  rw[ho]at htr;simp only[BW]at htr;split at htr
  ·rename_i fs x' e1 e2;split at htr
   ·rename_i fd e3;split at htr
    ·rename_i g kk e4;cases htr;obtain⟨dd,i,q1,q2,q3,q4⟩:=I0 e4;exact fin (WN ho e2 e1 e3 q1 q2 g q3 kk q4 R h)
    ·cases htr
   ·cases htr
  ·cases htr
 | indexAddr t x y =>
  rw[ho]at htr;simp only[BW]at htr;split at htr
  ·rename_i e x' y' e1 e2 e3;split at htr
   ·rename_i i e4;split at htr
    ·cases htr;exact fin (UA ho e2 e3 e1 e4 R h)
    ·cases htr;exact fin (OZ ho e2 e3 e1 e4 R h)
   ·cases htr
  ·rename_i len e x' y' e1 e2 e3;split at htr
   ·rename_i i e4;cases htr;exact fin (QI ho e2 e3 e1 e4 R h)
   ·cases htr
  ·cases htr
 | index t x y =>
  rw[ho]at htr;simp only[BW]at htr;split at htr
  ·rename_i e1 e2 e3;cases htr;exact fin (QY ho e2 e3 e1 R h)
  ·cases htr
 | binOp op t x y t' =>
  rw[ho]at htr;simp only[BW]at htr;split at htr
  ·rename_i x' y' e1 e2;split at htr
   ·rename_i e3;cases htr;exact fin (Vz (neg:=false) ho e1 e2 e3 R h)
   ·rename_i e3;cases htr;exact fin (Vz (neg:=true) ho e1 e2 e3 R h)
   ·rename_i e3;cases htr;exact fin (VJ (neg:=false) ho e1 e3 R h)
   ·rename_i e3;cases htr;exact fin (VJ (neg:=true) ho e1 e3 R h)
   ·rename_i e3;cases htr;exact fin (U8 (neg:=false) ho e1 e3 R h)
   ·rename_i e3;cases htr;exact fin (U8 (neg:=true) ho e1 e3 R h)
   ·rename_i e3;cases htr;exact fin (VV (neg:=false) ho e1 e3 R h)
   ·rename_i e3;cases htr;exact fin (VV (neg:=true) ho e1 e3 R h)
   ·cases htr;exact fin (JR ho e1 e2 R h)
   ·cases htr;exact fin (JR ho e1 e2 R h)
   ·cases htr;exact fin (JR ho e1 e2 R h)
   ·split at htr
    ·cases htr;exact fin (JR ho e1 e2 R h)
    ·cases htr;exact fin (Vo ho e1 e2 R h)
   ·cases htr;exact fin (Vo ho e1 e2 R h)
  ·cases htr
 | unOp op t x =>
  rw[ho]at htr;simp only[BW,Option.map_eq_some_iff]at htr;obtain⟨x',hx,rfl⟩:=htr;exact fin (ABg ho hx R h)
 | convert src dst x =>
  rw[ho]at htr;simp only[BW]at htr;split at htr
  ·rename_i e1 e2 e3;cases htr;exact fin (YL ho e3 (by rw[e1];rfl) e2 R h)
  ·rename_i e1 e2 e3;split at htr
   ·rename_i e4;cases htr;exact fin (WD ho e3 e1 e4 e2 R h)
   ·cases htr
  ·rename_i e1 e2 e3;cases htr;exact fin (ZZ ho e3 e1 e2 R h)
  ·cases htr
 | slice t x lo hi mx =>
  rw[ho]at htr;cases mx with
  | some m =>
   cases lo with
   | some _=>simp[BW]at htr
   | none =>
   cases hi with
   | none=>simp[BW]at htr
   | some hi =>
   simp only[BW]at htr;split at htr
   ·rename_i e1 e2 e3 e4;rw[Option.map_eq_some_iff]at htr;obtain⟨i,e5,rfl⟩:=htr;exact fin (Up ho e2 e3 e4 e1 e5 R h)
   ·cases htr
  | none =>
  simp only[BW]at htr;split at htr
  ·rename_i e1 e2 e3 e4;cases htr;exact fin (Ud ho e2 e3 e4 e1 R h)
  ·rename_i e1 e2 e3 e4;split at htr
   ·rename_i i e5;split at htr
    ·split at htr
     ·cases htr;exact fin (Ze ho e2 e3 e4 e1 e5 R h)
     ·cases htr;exact fin (WW ho e2 e3 e4 e1 e5 R h)
     ·cases htr
    ·cases htr;exact fin (Tn ho e2 e3 e4 e1 e5 R h)
   ·cases htr
  ·cases htr
 | extract x i =>
  rw[ho]at htr;simp only[BW,Option.map_eq_some_iff]at htr;obtain⟨x',hx,rfl⟩:=htr;exact fin (TN ho hx R h)
 | nilCheck x =>
  rw[ho]at htr;simp only[BW,Option.map_eq_some_iff]at htr;obtain⟨x',hx,rfl⟩:=htr;exact fin (Qm ho hx R h)
 | call c =>
  rw[ho]at htr;obtain⟨callee,args,argTypes⟩:=c;simp only[BW,Zu]at htr;split at htr
  ·split at htr
   ·rename_i x t e1 e2;have e1':args=#[x]:=Array.ext' e1;have e2':argTypes=#[t]:=Array.ext' e2;subst e1' e2';split at htr
    ·rename_i e3 e4;cases htr;exact fin (VX (str:=true) ho e3 e4 R h)
    ·rename_i e3 e4;cases htr;exact fin (VX (str:=false) ho e3 ⟨_,e4⟩ R h)
    ·rename_i e3 e4;cases htr;exact fin (ZY ho e3 e4 R h)
    ·cases htr
   ·cases htr
  ·split at htr
   ·rename_i x y t t' e1 e2;have e1':args=#[x,y]:=Array.ext' e1;have e2':argTypes=#[t,t']:=Array.ext' e2;subst e1' e2';split at htr
    ·rename_i e e3 e4 e5;split at htr
     ·rename_i i e6;split at htr
      ·rename_i z e7;split at htr
       ·rename_i hc;obtain⟨rfl,hz,hp⟩:=hc;split at htr
        ·cases htr;exact fin (Yh ho e3 e4 e5 e6 e7 hz hp R h)
        cases htr;exact fin (Ty ho e3 e4 e5 e6 e7 hz hp R h)
       ·split at htr
        ·rename_i hc;obtain⟨hu,hz,hp,h8⟩:=hc;cases htr;exact fin (X0 ho e3 e4 e5 (T2 hu) e6 (by rw[e7,YA h8]) hz hp R h)
        ·cases htr
      ·cases htr
     ·cases htr
    ·cases htr
   ·cases htr
  ·split at htr
   ·rename_i x t e1 e2;have e1':args=#[x]:=Array.ext' e1;have e2':argTypes=#[t]:=Array.ext' e2;subst e1' e2';split at htr
    ·rename_i e e3 e4;split at htr
     ·rename_i i e5;split at htr
      ·rename_i z e6;split at htr
       ·rename_i zs e7;split at htr
        ·rename_i hc;cases htr;exact fin (Ug ho e3 e4 e5 e6 e7 hc.1 hc.2 R h)
        ·cases htr
       ·cases htr
      ·cases htr
     ·cases htr
    ·cases htr
   ·cases htr
  ·split at htr
   ·rename_i x y t t' e1 e2;have e1':args=#[x,y]:=Array.ext' e1;have e2':argTypes=#[t,t']:=Array.ext' e2;subst e1' e2';split at htr
    ·rename_i e e3 e4 e5;split at htr
     ·rename_i hc;cases htr;exact fin (WI ho e3 e4 e5 hc R h)
     ·cases htr;exact False.elim h
    ·cases htr;exact False.elim h
   ·cases htr;exact False.elim h
  ·split at htr
   ·rename_i x y e1;have e1':args=#[x,y]:=Array.ext' e1;subst e1';split at htr
    ·rename_i e3 e4;cases htr;exact fin (Xv (mx:=false) ho e3 e4 R h)
    ·cases htr
   ·cases htr
  ·split at htr
   ·rename_i x y e1;have e1':args=#[x,y]:=Array.ext' e1;subst e1';split at htr
    ·rename_i e3 e4;cases htr;exact fin (Xv (mx:=true) ho e3 e4 R h)
    ·cases htr
   ·cases htr
  ·rename_i f;split at htr
   ·rename_i hf;rw[Option.map_eq_some_iff]at htr;obtain⟨xs',hx,htr⟩:=htr;split at htr
    ·split at htr
     ·subst htr;exact Pf ho hf hx R h hn
     ·split at htr
      ·subst htr;exact WG ho hf hx R h hn
      ·split at htr
       ·subst htr;exact WM ho hf hx R h hn
       ·split at htr
        ·subst htr;exact W8 ho hf hx R h hn
        ·split at htr
         ·subst htr;exact W0 ho hf hx R h hn
         ·subst htr;exact Y_ ho hf hx R h hn
    ·subst htr;exact Pf ho hf hx R h hn
   ·cases htr
  ·split at htr
   ·rename_i e3 e4;split at htr
    ·cases htr
    ·cases htr;exact Wy ho e3 e4 R h hn
   ·cases htr
  ·cases htr
 | makeSlice t x y =>
  rw[ho]at htr;simp only[BW]at htr;split at htr
  ·rename_i e x' y' e1 e2 e3;split at htr
   ·rename_i i e4;split at htr
    ·rename_i z e5;split at htr
     ·rename_i zs e6;split at htr
      ·rename_i hc;cases htr;exact fin (Oa ho e2 e3 e1 e4 e5 e6 hc.1 hc.2 R h)
      ·cases htr
     ·cases htr
    ·cases htr
   ·cases htr
  ·cases htr
 | makeMap t rs =>
  rw[ho]at htr;cases rs with
  | none =>
   simp only[BW,Option.map_eq_some_iff]at htr;obtain⟨⟨e,kt⟩,hx,rfl⟩:=htr;exact fin (SF ho R h)
  | some _=>simp[BW]at htr
 | lookup t x k ok =>
  rw[ho]at htr;simp only[BW]at htr;split at htr
  ·rename_i e kt x' k' e1 e2 e3;rw[Option.map_eq_some_iff]at htr;obtain⟨z,hz,rfl⟩:=htr;obtain⟨kk,m1,m2⟩:=H2 e1;obtain⟨i,zz,z1,z2,z3⟩:=Ig hz;exact fin (UF ho e2 e3 m1 m2 z1 z2 z3 R h)
  ·cases htr
 | mapUpdate t x k v =>
  rw[ho]at htr;simp only[BW]at htr;split at htr
  ·rename_i e kt x' k' v' e1 e2 e3 e4;cases htr;obtain⟨kk,m1,m2⟩:=H2 e1;exact fin (Nr (.inl ho) e2 e3 e4 m1 m2 R h)
  ·cases htr
 | insert t x k v =>
  rw[ho]at htr;simp only[BW]at htr;split at htr
  ·rename_i e kt x' k' v' e1 e2 e3 e4;cases htr;obtain⟨kk,m1,m2⟩:=H2 e1;exact fin (Nr (.inr ho) e2 e3 e4 m1 m2 R h)
  ·cases htr
 | mapEntry t x k =>
  rw[ho]at htr;simp only[BW]at htr;split at htr
  ·rename_i e kt x' k' e1 e2 e3;rw[Option.map_eq_some_iff]at htr;obtain⟨z,hz,rfl⟩:=htr;obtain⟨kk,m1,m2⟩:=H2 e1;obtain⟨i,zz,z1,z2,z3⟩:=Ig hz;exact fin (QX ho e2 e3 m1 m2 z1 z2 z3 R h)
  ·cases htr
 | entryStore t x k v =>
  rw[ho]at htr;simp only[BW]at htr;split at htr
  ·rename_i x' k' v' e1 e2 e3;cases htr;exact fin (Qr ho e1 e2 e3 R h)
  ·cases htr
 | range t x =>
  rw[ho]at htr;simp only[BW]at htr;split at htr
  ·rename_i x' e1 e2;cases htr;exact fin (Ts ho e2 e1 R h)
  ·cases htr
 | next x b =>
  rw[ho]at htr;cases b with
  | false =>
   simp only[BW,Option.map_eq_some_iff]at htr;obtain⟨x',hx,rfl⟩:=htr;exact fin (Xp ho hx R h)
  | true=>simp[BW]at htr
 | entry x =>
  rw[ho]at htr;simp only[BW,Option.map_eq_some_iff]at htr;obtain⟨x',hx,rfl⟩:=htr;exact fin (XI ho hx R h)
 | makeInterface t x =>
  rw[ho]at htr;simp only[BW]at htr;split at htr
  ·rename_i e1 e2;cases htr;exact fin (V5 ho e2 e1 R h)
  ·cases htr
 | makeFunc fn first caps =>
  rw[ho]at htr;cases fn with
  | func g =>
   simp only[BW]at htr;split at htr
   ·rename_i hf;rw[Option.map_eq_some_iff]at htr;obtain⟨xs,hx,rfl⟩:=htr;exact fin (Qg ho hf hx R h)
   ·cases htr
  | _=>simp[BW]at htr
 | _=>rw[ho]at htr;simp[BW]at htr
theorem Xc{k:Kd}(htr:QV P C.n o.op=some k){K:AV→AS→Prop}{next:Act→World→Prop}{Q:Exit→Act→World→Prop}(R:Ac C σ ι s a w)(h:Kd.go P d s K k)(hn:∀av s' a' w',K av s'→Bh C (s'.put o.dst av) a' w'→next a' w'):o.wp P a w next Q:=by
 have fin:BQ P C o a w K→o.wp P a w next Q:=fun hg=>hg.wp fun av s' σ' ι' a' w' hk R'=>hn _ _ _ _ hk ⟨σ',ι',R'⟩
 unfold QV at htr;split at htr
 ·rename_i t ho;split at htr
  ·rename_i kk e e1;split at htr
   ·cases htr;exact fin (QF ho R h)
   ·cases htr
  ·cases htr
 ·rename_i t x kk ok ho;split at htr
  ·rename_i key e x' k' e1 e2 e3;split at htr
   ·rename_i hp;rw[Option.map_eq_some_iff]at htr;obtain⟨z,hz,rfl⟩:=htr;obtain⟨ee,el,i,j,A⟩:=Ga hp;obtain⟨i2,zz,z1,z2,z3⟩:=Ig hz;exact fin (S5 ho e2 e3 e1 A z1 z2 z3 R h)
   ·cases htr
  ·cases htr
 ·rename_i t x kk v ho;split at htr
  ·rename_i key e x' k' v' e1 e2 e3 e4;split at htr
   ·rename_i hp;cases htr;obtain⟨ee,el,i,j,A⟩:=Ga hp;exact fin (LS (.inl ho) e2 e3 e4 e1 A R h)
   ·cases htr
  ·cases htr
 ·rename_i t x kk v ho;split at htr
  ·rename_i key e x' k' v' e1 e2 e3 e4;split at htr
   ·rename_i hp;cases htr;obtain⟨ee,el,i,j,A⟩:=Ga hp;exact fin (LS (.inr ho) e2 e3 e4 e1 A R h)
   ·cases htr
  ·cases htr
 ·rename_i t ps ho;split at htr
  ·rename_i x y it e1 e2;split at htr
   ·rename_i z xs e3 e4;split at htr
    ·rename_i hp;cases htr;obtain⟨ee,el,i,j,A⟩:=Ga hp.1;exact fin (Qf ho e1 A e2 e3 hp.2 e4 R h)
    ·cases htr
   ·cases htr
  ·cases htr
 ·cases htr
theorem ZT{mu:List Nat}{k:Kd}(htr:ABl P C.n mu o.dst o.op=some k){K:AV→AS→Prop}{next:Act→World→Prop}{Q:Exit→Act→World→Prop}(R:Ac C σ ι s a w)(h:Kd.go P d s K k)(hn:∀av s' a' w',K av s'→Bh C (s'.put o.dst av) a' w'→next a' w'):o.wpIn (fen C.ro) 0 P a w next Q:=by
 unfold ABl at htr;split at htr
 ·rename_i k' hk;cases htr;refine NP (fun c e=>by rw[e]at hk;simp[BW]at hk) (XF hk R (Td h) fun av s' a' w' hK hH=>?_);rcases hK with hK|⟨v',ho,hK⟩
  ·exact hn _ _ _ _ hK hH
  ·refine hn _ _ _ _ hK ?_;obtain⟨σ',ι',R'⟩:=hH;cases hd:o.dst with
   | none=>rw[hd]at R';exact⟨σ',ι',R'⟩
   | some t =>
    rw[hd]at R';refine⟨σ',ι',{ R' with env:=fun i hi=>?_ }⟩;have hR:=R'.env i hi;by_cases e:i=t
    ·subst e;have e1:(s'.put (some i) av).env i=av:=AG _ _ _;have e2:(s'.put (some i) v').env i=v':=AG _ _ _;rw[e1]at hR;rw[e2];exact(R'.outV hR ho).mono (fun _ _ h=>h) (Ju _ _)
    ·have e1:(s'.put (some t) av).env i=s'.env i:=AH _ e _;have e2:(s'.put (some t) v').env i=s'.env i:=AH _ e _;rw[e1]at hR;rw[e2];exact hR
 ·split at htr
  ·rename_i k' hk;cases htr;exact NP (fun c e=>by rw[e]at hk;simp[QV]at hk) (Xc hk R h hn)
  ·split at htr
   ·rw[Option.map_eq_some_iff]at htr;obtain⟨x',hx,rfl⟩:=htr;exact(show False from h).elim
   ·rename_i c ho;split at htr
    ·rename_i t hcal;split at htr
     ·rename_i f' xs e1 e2;cases htr;obtain⟨cal,args,tys⟩:=c;dsimp only at hcal
      subst hcal;exact Xd ho e1 e2 R h hn
     ·cases htr;exact(show False from h).elim
    ·cases htr;exact(show False from h).elim
   ·cases htr;exact(show False from h).elim
end

end Go.Proofs.YtbhnmjkmieiadaaGreatDoor
