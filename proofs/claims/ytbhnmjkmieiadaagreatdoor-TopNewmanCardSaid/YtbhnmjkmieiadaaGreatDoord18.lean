/-
  Part 8 of the texts. Conditions: none.
-/
import Derived.Test.YtbhnmjkmieiadaaGreatDoord17
import Derived.Lib.ItoaNum
namespace Go.Proofs.YtbhnmjkmieiadaaGreatDoor
open Go Go.RowKit
set_option linter.unusedVariables false
section
variable {α:Type} {R:α→α→Prop}
inductive Cv (R:α→α→Prop):α→α→Prop
 | refl (x:α):Cv R x x
 | step {x y z:α}:R x y→Cv R y z→Cv R x z
theorem Cv.one {x y:α} (h:R x y):Cv R x y:=.step h (.refl _)
theorem Cv.trans {x y z:α} (h:Cv R x y) (k:Cv R y z):Cv R x z:=by
 induction h with
 | refl=>exact k
 | step h1 _ ih=>exact .step h1 (ih k)
def Et (R:α→α→Prop) (y z:α):Prop:=∃ w,Cv R y w∧Cv R z w
theorem Et.symm {y z:α} (h:Et R y z):Et R z y:=by
 obtain ⟨w,h1,h2⟩:=h
 exact ⟨w,h2,h1⟩
theorem AAA {P:α→Prop} (hP:∀ x y,P x→R x y→P y) (hl:∀ x y z,P x→R x y→R x z→Et R y z):∀ x,Acc (fun y x=>R x y∧P y) x→P x→∀ y z,Cv R x y→Cv R x z→Et R y z:=fun x hx=>by
 induction hx with
 | intro x _ ih =>
  intro hpx y z hy hz
  cases hy with
  | refl=>exact ⟨z,hz,.refl _⟩
  | @step _ y1 _ h1 h2 =>
   cases hz with
   | refl=>exact ⟨y,.refl _,.step h1 h2⟩
   | @step _ z1 _ k1 k2 =>
    obtain ⟨w,w1,w2⟩:=hl x y1 z1 hpx h1 k1
    obtain ⟨v,v1,v2⟩:=ih y1 ⟨h1,hP _ _ hpx h1⟩ (hP _ _ hpx h1) y w h2 w1
    obtain ⟨u,u1,u2⟩:=ih z1 ⟨k1,hP _ _ hpx k1⟩ (hP _ _ hpx k1) v z (w2.trans v2) k2
    exact ⟨u,v1.trans u1,u2⟩
theorem Og {x y:α} (hx:∀ z,¬ R x z) (h:Cv R x y):y=x:=by
 cases h with
 | refl=>rfl
 | step h1 _=>exact absurd h1 (hx _)
end
def OkV (b:List Bd):Prop:=∀ c ∈ b,AJ c.1=true
inductive St (L:List (Tm × Tm)):Tm→Tm→Prop
 | root {r:Tm × Tm} {b:List Bd} {t u:Tm}:r ∈ L→OkV b→t=r.1.on b→u=r.2.on b→St L t u
 | arg {n:ByteArray} {xs ys:List Tm} {a b:Tm}:St L a b→St L (.mk n (xs ++ a :: ys)) (.mk n (xs ++ b :: ys))
variable {L:List (Tm × Tm)}
theorem EL {n:ByteArray} {xs ys:List Tm} {a b:Tm} (h:Cv (St L) a b):Cv (St L) (.mk n (xs ++ a :: ys)) (.mk n (xs ++ b :: ys)):=by
 induction h with
 | refl=>exact .refl _
 | step h1 _ ih=>exact .step (.arg h1) ih
theorem IY {n:ByteArray}:∀ (zs xs ys:List Tm),xs.length=ys.length→(∀ (k:Nat) x y,xs[k]?=some x→ys[k]?=some y→Cv (St L) x y)→Cv (St L) (.mk n (zs ++ xs)) (.mk n (zs ++ ys))
 | zs,[],[],_,_=>.refl _
 | zs,x :: xs,y :: ys,hl,h=>by
  have h1:Cv (St L) (.mk n (zs ++ x :: xs)) (.mk n (zs ++ y :: xs)):=EL (h 0 x y rfl rfl)
  have h2:=IY (n:=n) (zs ++ [y]) xs ys (by simpa using hl) fun k a b ha hb=>h (k + 1) a b (by simpa using ha) (by simpa using hb)
  simp only [List.append_assoc,List.singleton_append] at h2
  exact h1.trans h2
 | _,[],_ :: _,hl,_=>by simp at hl
 | _,_ :: _,[],hl,_=>by simp at hl
theorem Lf {s s':List Bd}:∀ (N:Nat) (t:Tm),SizeOf.sizeOf t < N→(∀ v,Cv (St L) ((Tm.mk v []).on s) ((Tm.mk v []).on s'))→Cv (St L) (t.on s) (t.on s')
 | 0,_,h,_=>absurd h (Nat.not_lt_zero _)
 | N + 1,.mk n [],h,hv=>hv n
 | N + 1,.mk n (x :: xs),h,hv=>by
  have e:∀ b:List Bd,(Tm.mk n (x :: xs)).on b=.mk n ((x :: xs).map (Tm.on b)):=fun b=>by
   rw [Tm.on,Tm.onL_eq]
   rfl
  rw [e,e]
  refine IY [] ((x :: xs).map (Tm.on s)) ((x :: xs).map (Tm.on s')) (by simp) fun k a b ha hb=>?_
  rw [List.getElem?_map,Option.map_eq_some_iff] at ha hb
  obtain ⟨y,hy,rfl⟩:=ha
  obtain ⟨y',hy',rfl⟩:=hb
  rw [hy] at hy'
  cases hy'
  exact Lf N y (by have:=Tm.lt_of_arg (t:=.mk n (x :: xs)) (List.mem_of_getElem? hy);omega) hv
def AAW (L:List (Tm × Tm)) (l:Tm) (s:List Bd) (u:Tm):Prop:=∃ (p:List Int) (x:Tm) (r:Tm × Tm) (b:List Bd),l.atP p=some x∧(x.args=[]→lookup s x.name=none)∧r ∈ L∧OkV b∧x.on s=r.1.on b∧u=(l.on s).putP p (r.2.on b)
def Zz (L:List (Tm × Tm)) (l:Tm) (s:List Bd) (u:Tm):Prop:=∃ s':List Bd,(OkV s→OkV s')∧(∀ v,Cv (St L) ((Tm.mk v []).on s) ((Tm.mk v []).on s'))∧Cv (St L) u (l.on s')
theorem on_leaf (s:List Bd) (v:ByteArray):(Tm.mk v []).on s=(lookup s v).getD (.mk v []):=by
 rw [Tm.on]
 simp only [List.isEmpty_nil,if_true]
 cases lookup s v with
 | none=>simp [Tm.onL]
 | some x=>rfl
theorem on_knot (s:List Bd) (n:ByteArray) (x:Tm) (xs:List Tm):(Tm.mk n (x :: xs)).on s=.mk n ((x :: xs).map (Tm.on s)):=by
 rw [Tm.on,Tm.onL_eq]
 rfl
theorem Me {s:List Bd}:∀ (N:Nat) (l u:Tm),SizeOf.sizeOf l < N→St L (l.on s) u→AAW L l s u ∨ Zz L l s u
 | 0,_,_,h,_=>absurd h (Nat.not_lt_zero _)
 | N + 1,.mk n [],u,h,hs=>by
  rw [on_leaf] at hs
  cases hl:lookup s n with
  | none =>
   rw [hl] at hs
   simp only [Option.getD_none] at hs
   generalize ht:Tm.mk n []=t at hs
   cases hs with
   | @root r b _ _ hr hb e1 e2 =>
    subst ht
    refine .inl ⟨[],.mk n [],r,b,rfl,fun _=>hl,hr,hb,?_,?_⟩
    ·rw [on_leaf,hl]
     exact e1
    ·rw [Tm.putP_nil]
     exact e2
   | arg _ =>
    simp at ht
  | some w =>
   rw [hl] at hs
   simp only [Option.getD_some] at hs
   refine .inr ⟨(n,u) :: s,fun hk c hc=>?_,fun v=>?_,?_⟩
   ·rcases List.mem_cons.1 hc with rfl | hc
    ·have hf:=hl
     unfold lookup at hf
     rw [Option.map_eq_some_iff] at hf
     obtain ⟨d,hd,_⟩:=hf
     have h1:=hk d (List.mem_of_find?_eq_some hd)
     have h2:d.1=n:=by simpa using List.find?_some hd
     rw [h2] at h1
     exact h1
    ·exact hk c hc
   ·rw [on_leaf,on_leaf]
    by_cases e:n=v
    ·subst e
     rw [hl]
     have:lookup ((n,u) :: s) n=some u:=by simp [lookup]
     rw [this]
     exact .one hs
    ·have:lookup ((n,u) :: s) v=lookup s v:=by simp [lookup,e]
     rw [this]
     exact .refl _
   ·rw [on_leaf]
    have:lookup ((n,u) :: s) n=some u:=by simp [lookup]
    rw [this]
    exact .refl _
 | N + 1,.mk n (x :: xs),u,h,hs=>by
  rw [on_knot] at hs
  generalize ht:Tm.mk n ((x :: xs).map (Tm.on s))=t at hs
  cases hs with
  | @root r b _ _ hr hb e1 e2 =>
   subst ht
   refine .inl ⟨[],.mk n (x :: xs),r,b,rfl,fun e=>(by cases e),hr,hb,?_,?_⟩
   ·rw [on_knot]
    exact e1
   ·rw [Tm.putP_nil]
    exact e2
  | @arg m us vs a b hab =>
   rw [Tm.mk.injEq] at ht
   obtain ⟨rfl,ht⟩:=ht
   obtain ⟨l1,l2,hl,h1,h2⟩:=List.map_eq_append_iff.1 ht
   obtain ⟨y,ys,rfl,h3,h4⟩:=List.map_eq_cons_iff.1 h2
   subst h1 h3 h4
   have hy:(Tm.mk n (x :: xs)).args[l1.length]?=some y:=by
    show (x :: xs)[l1.length]?=some y
    rw [hl]
    simp
   have hym:y ∈ (Tm.mk n (x :: xs)).args:=List.mem_of_getElem? hy
   rcases Me N y b (by have:=Tm.lt_of_arg hym;omega) hab with ⟨p,z,r,b',q1,q2,q3,q0,q4,q5⟩ | ⟨s',q0,q1,q2⟩
   ·refine .inl ⟨(l1.length:Int) :: p,z,r,b',?_,q2,q3,q0,q4,?_⟩
    ·rw [Tm.atP_at hy]
     exact q1
    ·have e:((x :: xs).map (Tm.on s))[l1.length]?=some (y.on s):=by
      rw [List.getElem?_map]
      have:(x :: xs)[l1.length]?=some y:=hy
      rw [this]
      rfl
     rw [on_knot,Tm.putP_cons,Int.toNat_natCast]
     simp only [Tm.args,Tm.name]
     rw [e]
     simp only
     rw [← q5,hl,List.map_append,List.map_cons,List.set_append_right _ _ (by simp)]
     simp
   ·refine .inr ⟨s',q0,q1,?_⟩
    have k1:Cv (St L) (.mk n (l1.map (Tm.on s) ++ b :: ys.map (Tm.on s))) (.mk n (l1.map (Tm.on s) ++ y.on s' :: ys.map (Tm.on s))):=EL q2
    refine k1.trans ?_
    rw [on_knot,hl,List.map_append,List.map_cons]
    refine IY [] (l1.map (Tm.on s) ++ y.on s' :: ys.map (Tm.on s)) (l1.map (Tm.on s') ++ y.on s' :: ys.map (Tm.on s')) (by simp) fun k c d hc hd=>?_
    have hon:∀ t:Tm,Cv (St L) (t.on s) (t.on s'):=fun t=>Lf _ t (Nat.lt_succ_self _) q1
    rcases Nat.lt_trichotomy k l1.length with hk | hk | hk
    ·rw [List.getElem?_append_left (by simpa using hk),List.getElem?_map,Option.map_eq_some_iff] at hc hd
     obtain ⟨t1,g1,rfl⟩:=hc
     obtain ⟨t2,g2,rfl⟩:=hd
     rw [g1] at g2
     cases g2
     exact hon _
    ·subst hk
     rw [List.getElem?_append_right (by simp)] at hc hd
     simp at hc hd
     subst hc hd
     exact .refl _
    ·rw [List.getElem?_append_right (by simp;omega)] at hc hd
     obtain ⟨j,hj⟩:∃ j,k - l1.length=j + 1:=⟨k - l1.length - 1,by omega⟩
     rw [List.length_map,hj,List.getElem?_cons_succ,List.getElem?_map,Option.map_eq_some_iff] at hc hd
     obtain ⟨t1,g1,rfl⟩:=hc
     obtain ⟨t2,g2,rfl⟩:=hd
     rw [g1] at g2
     cases g2
     exact hon _
theorem IF (hover:∀ r1 ∈ L,∀ r2 ∈ L,∀ (p:List Int) (x:Tm) (b1 b2:List Bd),OkV b1→OkV b2→r1.1.atP p=some x→(x.args=[]→lookup b1 x.name=none)→x.on b1=r2.1.on b2→Et (St L) (r1.2.on b1) ((r1.1.on b1).putP p (r2.2.on b2))):∀ (N:Nat) (t u v:Tm),SizeOf.sizeOf t < N→St L t u→St L t v→Et (St L) u v
 | 0,_,_,_,h,_,_=>absurd h (Nat.not_lt_zero _)
 | N + 1,t,u,v,h,hu,hv=>by
  have side:∀ (r:Tm × Tm) (b:List Bd) (w:Tm),r ∈ L→OkV b→St L (r.1.on b) w→Et (St L) (r.2.on b) w:=fun r b w hr hb hw=>by
   rcases Me _ r.1 w (Nat.lt_succ_self _) hw with ⟨p,x,r2,b2,q1,q2,q3,q0,q4,q5⟩ | ⟨s',q0,q1,q2⟩
   ·rw [q5]
    exact hover r hr r2 q3 p x b b2 hb q0 q1 q2 q4
   ·refine ⟨r.2.on s',Lf _ _ (Nat.lt_succ_self _) q1,q2.trans (.one (.root hr (q0 hb) rfl rfl))⟩
  cases hu with
  | root hr hb e1 e2 =>
   subst e1 e2
   exact side _ _ v hr hb hv
  | @arg n xs ys a a' hab =>
   have hsa:SizeOf.sizeOf a < N:=by
    have:=Tm.lt_of_arg (t:=.mk n (xs ++ a :: ys)) (a:=a) (by show a ∈ xs ++ a :: ys;simp)
    omega
   generalize ht:Tm.mk n (xs ++ a :: ys)=t at hv
   cases hv with
   | root hr hb e1 e2 =>
    subst e1 e2
    refine (side _ _ _ hr hb ?_).symm
    rw [← ht]
    exact .arg hab
   | @arg m us vs c c' hcd =>
    rw [Tm.mk.injEq] at ht
    obtain ⟨rfl,ht⟩:=ht
    rcases List.append_eq_append_iff.1 ht with ⟨zs,e1,e2⟩ | ⟨zs,e1,e2⟩
    ·cases zs with
     | nil =>
      simp only [List.append_nil,List.nil_append,List.cons.injEq] at e1 e2
      obtain ⟨rfl,rfl⟩:=e2
      subst e1
      obtain ⟨w,w1,w2⟩:=IF hover N _ a' c' hsa hab hcd
      exact ⟨_,EL w1,EL w2⟩
     | cons z zs =>
      simp only [List.cons_append,List.cons.injEq] at e2
      obtain ⟨rfl,rfl⟩:=e2
      subst e1
      refine ⟨.mk n (xs ++ a' :: (zs ++ c' :: vs)),?_,?_⟩
      ·have:=St.arg (L:=L) (n:=n) (xs:=xs ++ a' :: zs) (ys:=vs) hcd
       simp only [List.append_assoc,List.cons_append] at this
       exact .one this
      ·have:=St.arg (L:=L) (n:=n) (xs:=xs) (ys:=zs ++ c' :: vs) hab
       simp only [List.append_assoc,List.cons_append]
       exact .one this
    ·cases zs with
     | nil =>
      simp only [List.append_nil,List.nil_append,List.cons.injEq] at e1 e2
      obtain ⟨rfl,rfl⟩:=e2
      subst e1
      obtain ⟨w,w1,w2⟩:=IF hover N _ a' c' hsa hab hcd
      exact ⟨_,EL w1,EL w2⟩
     | cons z zs =>
      simp only [List.cons_append,List.cons.injEq] at e2
      obtain ⟨rfl,rfl⟩:=e2
      subst e1
      refine ⟨.mk n (us ++ c' :: (zs ++ a' :: ys)),?_,?_⟩
      ·have:=St.arg (L:=L) (n:=n) (xs:=us) (ys:=zs ++ a' :: ys) hcd
       simp only [List.append_assoc,List.cons_append]
       exact .one this
      ·have:=St.arg (L:=L) (n:=n) (xs:=us ++ c' :: zs) (ys:=ys) hab
       simp only [List.append_assoc,List.cons_append] at this
       exact .one this
theorem Pl (s:List Bd) (n:ByteArray):∀ l:List Tm,l ≠ []→(Tm.mk n l).on s=.mk n (l.map (Tm.on s))
 | [],h=>absurd rfl h
 | x :: xs,_=>on_knot s n x xs
theorem HZ (s r:List Bd):∀ (N:Nat) (t:Tm),SizeOf.sizeOf t < N→(t.on s).on r=t.on (KG s r)
 | 0,_,h=>absurd h (Nat.not_lt_zero _)
 | N + 1,.mk n [],_=>by
  rw [on_leaf,on_leaf,H0]
  cases lookup s n with
  | none=>exact on_leaf r n
  | some x=>rfl
 | N + 1,.mk n (x :: xs),h=>by
  rw [on_knot,Pl _ _ _ (by simp),on_knot,List.map_map]
  congr 1
  refine List.map_congr_left fun y hy=>?_
  exact HZ s r N y (by have:=Tm.lt_of_arg (t:=.mk n (x :: xs)) (a:=y) hy;omega)
theorem Sg {s r:List Bd} (hs:OkV s) (hr:OkV r):OkV (KG s r):=fun b hb=>by
 rcases Sm hb with ⟨c,hc,rfl⟩ | h
 ·exact hs c hc
 ·exact hr b h
theorem AAe {θ:List Bd} (hθ:OkV θ) {t u:Tm} (h:St L t u):St L (t.on θ) (u.on θ):=by
 induction h with
 | @root r b t u hr hb e1 e2 =>
  subst e1 e2
  rw [HZ b θ _ r.1 (Nat.lt_succ_self _),HZ b θ _ r.2 (Nat.lt_succ_self _)]
  exact .root hr (Sg hb hθ) rfl rfl
 | arg _ ih =>
  rw [Pl _ _ _ (by simp),Pl _ _ _ (by simp),List.map_append,List.map_append,List.map_cons,List.map_cons]
  exact .arg ih
theorem OB {θ:List Bd} (hθ:OkV θ) {t u:Tm} (h:Cv (St L) t u):Cv (St L) (t.on θ) (u.on θ):=by
 induction h with
 | refl=>exact .refl _
 | step h1 _ ih=>exact .step (AAe hθ h1) ih
theorem Ng {θ:List Bd} (hθ:OkV θ) {t u:Tm} (h:Et (St L) t u):Et (St L) (t.on θ) (u.on θ):=by
 obtain ⟨w,h1,h2⟩:=h
 exact ⟨w.on θ,OB hθ h1,OB hθ h2⟩
theorem OC {k:Tm}:∀ {xs:List Tm},k ∈ Tm.knotsL xs→∃ x ∈ xs,k ∈ x.knots
 | [],h=>by simp [Tm.knotsL] at h
 | x :: xs,h=>by
  rw [Tm.knotsL,List.mem_append] at h
  rcases h with h | h
  ·exact ⟨x,by simp,h⟩
  ·obtain ⟨y,hy,hk⟩:=OC h
   exact ⟨y,by simp [hy],hk⟩
theorem KJ {x k:Tm}:∀ {xs:List Tm},x ∈ xs→k ∈ x.knots→k ∈ Tm.knotsL xs
 | y :: ys,hx,hk=>by
  rw [Tm.knotsL,List.mem_append]
  rcases List.mem_cons.1 hx with rfl | hx
  ·exact .inl hk
  ·exact .inr (KJ hx hk)
theorem N7 {b1 b2:List Bd}:∀ (N:Nat) (t:Tm),SizeOf.sizeOf t < N→t.on b1=t.on b2→∀ k ∈ t.knots,k.args=[]→k.on b1=k.on b2
 | 0,_,h,_=>absurd h (Nat.not_lt_zero _)
 | N + 1,.mk n [],_,he=>fun k hk _=>by
  rw [Tm.knots,Tm.knotsL,List.mem_singleton] at hk
  rw [hk]
  exact he
 | N + 1,.mk n (x :: xs),h,he=>fun k hk ha=>by
  rw [on_knot,on_knot,Tm.mk.injEq] at he
  rw [Tm.knots,List.mem_cons] at hk
  rcases hk with rfl | hk
  ·cases ha
  ·obtain ⟨y,hy,hk⟩:=OC hk
   exact N7 N y (by have:=Tm.lt_of_arg (t:=.mk n (x :: xs)) (a:=y) hy;omega) (List.map_inj_left.1 he.2 y hy) k hk ha
theorem F7 {b1 b2:List Bd}:∀ (N:Nat) (t:Tm),SizeOf.sizeOf t < N→(∀ k ∈ t.knots,k.args=[]→k.on b1=k.on b2)→t.on b1=t.on b2
 | 0,_,h,_=>absurd h (Nat.not_lt_zero _)
 | N + 1,.mk n [],_,he=>he _ (by rw [Tm.knots];simp) rfl
 | N + 1,.mk n (x :: xs),h,he=>by
  rw [on_knot,on_knot,Tm.mk.injEq]
  refine ⟨rfl,List.map_inj_left.2 fun y hy=>?_⟩
  exact F7 N y (by have:=Tm.lt_of_arg (t:=.mk n (x :: xs)) (a:=y) hy;omega) fun k hk ha=>he k (by rw [Tm.knots,List.mem_cons];exact .inr (KJ hy hk)) ha

def occ (x:ByteArray) (t:Tm):Bool:=t.knots.any fun k=>decide (k.name=x)
theorem MJ (p:Tm→Bool):∀ xs:List Tm,(Tm.knotsL xs).any p=xs.any fun t=>t.knots.any p
 | []=>rfl
 | t :: ts=>by rw [Tm.knotsL,List.any_append,MJ p ts,List.any_cons]
theorem TA (x:ByteArray) (t:Tm):occ x t=(decide (t.name=x) || t.args.any (occ x)):=by
 unfold occ
 rw [Tm.knots_eq,List.any_cons,MJ]
theorem I2 {x:ByteArray} {t:Tm}:occ x t=true ↔ t.name=x ∨ ∃ a ∈ t.args,occ x a=true:=by
 rw [TA,Bool.or_eq_true,decide_eq_true_eq,List.any_eq_true]
theorem PD {x:ByteArray} {t a:Tm} (ha:a ∈ t.args) (h:occ x a=true):occ x t=true:=I2.2 (.inr ⟨a,ha,h⟩)
theorem PZ {x:ByteArray} {t:Tm} (h:occ x t=false):t.name ≠ x∧∀ a ∈ t.args,occ x a=false:=by
 rw [TA,Bool.or_eq_false_iff,decide_eq_false_iff_not,List.any_eq_false] at h
 exact ⟨h.1,fun a ha=>by simpa using h.2 a ha⟩
theorem Gz {x:ByteArray} (hv:AJ x=true):∀ (ks:List Tm) (l:List ByteArray),x ∈ Ah l ks ↔ x ∈ l ∨ ∃ k ∈ ks,k.name=x
 | [],l=>by simp [Ah]
 | t :: ks,l=>by
  have e:Ah l (t :: ks)=Ah (BQ l t.name) ks:=rfl
  rw [e,Gz hv ks]
  have h1:x ∈ BQ l t.name ↔ x ∈ l ∨ t.name=x:=by
   unfold BQ
   split
   ·rename_i h
    rw [List.mem_append,List.mem_singleton]
    exact ⟨fun h=>h.imp id Eq.symm,fun h=>h.imp id Eq.symm⟩
   ·rename_i h
    refine ⟨.inl,fun h'=>?_⟩
    rcases h' with h' | h'
    ·exact h'
    ·subst h'
     rw [hv,Bool.true_and,Bool.not_eq_true'] at h
     have h:Cq t.name l=true:=by
      cases hc:Cq t.name l with
      | true=>rfl
      | false=>exact absurd hc h
     exact DY.1 h
  rw [h1]
  simp only [List.mem_cons,exists_eq_or_imp]
  constructor
  ·rintro ((h | h) | h)
   ·exact .inl h
   ·exact .inr (.inl h)
   ·exact .inr (.inr h)
  ·rintro (h | h | h)
   ·exact .inl (.inl h)
   ·exact .inl (.inr h)
   ·exact .inr h
theorem G8 {x:ByteArray} (hv:AJ x=true) (t:Tm):Cq x t.varsOf=occ x t:=by
 rw [Bool.eq_iff_iff,DY]
 unfold Tm.varsOf occ
 rw [Gz hv]
 simp [List.any_eq_true]
def MC (s:List Bd) (t:Tm):Prop:=∀ b ∈ s,occ b.1 t=false
theorem Zq {s:List Bd} {t:Tm} (h:MC s t):t.on s=t:=by
 induction hN:SizeOf.sizeOf t using Nat.strongRecOn generalizing t with
 | _ N ih =>
 subst hN
 have hl:lookup s t.name=none:=Ch fun b hb e=>(PZ (h b hb)).1 e.symm
 rw [Tm.on_knot (.inl hl)]
 have hm:t.args.map (Tm.on s)=t.args:=by
  conv=>rhs;rw [← List.map_id t.args]
  exact List.map_congr_left fun a ha=>ih _ (Tm.lt_of_arg ha) (fun b hb=>(PZ (h b hb)).2 a ha) rfl
 rw [hm]
 cases t;rfl
theorem Sl {s:List Bd} {n:ByteArray} (h:lookup s n=none):∀ b ∈ s,b.1 ≠ n:=by
 unfold lookup at h
 rw [Option.map_eq_none_iff,List.find?_eq_none] at h
 exact fun b hb e=>h b hb (by simpa using e)
theorem SH {s:List Bd} (hv:∀ b ∈ s,AJ b.1=true) {t:Tm} (hc:t.chk=0) {y:ByteArray} (h:occ y (t.on s)=true):(occ y t=true∧∀ b ∈ s,b.1 ≠ y) ∨ ∃ b ∈ s,occ y b.2=true:=by
 induction hN:SizeOf.sizeOf t using Nat.strongRecOn generalizing t with
 | _ N ih =>
 subst hN
 obtain ⟨c1,c2⟩:=Tm.chk_args hc
 cases hl:lookup s t.name with
 | some x =>
  obtain ⟨b,hb,hbn,hbx⟩:=Cm hl
  rw [Tm.on_leaf hl (c1 (by rw [← hbn];exact hv b hb)),← hbx] at h
  exact .inr ⟨b,hb,h⟩
 | none =>
  rw [Tm.on_knot (.inl hl),I2] at h
  rcases h with h | ⟨a,ha,h⟩
  ·simp only [Tm.name_mk] at h
   refine .inl ⟨I2.2 (.inl h),fun b hb=>?_⟩
   rw [← h]
   exact Sl hl b hb
  ·simp only [Tm.args_mk,List.mem_map] at ha
   obtain ⟨c,hc',rfl⟩:=ha
   rcases ih _ (Tm.lt_of_arg hc') (c2 c hc') h rfl with h | h
   ·exact .inl ⟨PD hc' h.1,h.2⟩
   ·exact .inr h
theorem AAB {t:Tm} (h:Bl t=0) (ha:∀ a ∈ t.args,a.chk=0):t.chk=0:=by
 rw [Tm.chk_eq,if_pos h]
 have key:∀ {xs:List Tm},(∀ a ∈ xs,a.chk=0)→Tm.chkL xs=0:=by
  intro xs
  induction xs with
  | nil=>intro _;rfl
  | cons x xs ih=>intro hx;simp only [Tm.chkL];rw [if_pos (hx x (by simp))];exact ih fun a ha=>hx a (by simp [ha])
 exact key ha
theorem Y8 {t:Tm} (h:t.chk=0):Bl t=0:=by
 rw [Tm.chk_eq] at h
 by_cases h1:Bl t=0
 ·exact h1
 ·rw [if_neg h1] at h;exact h
theorem IJ {s:List Bd} (hs:∀ b ∈ s,b.2.chk=0) {t:Tm} (hc:t.chk=0):(t.on s).chk=0:=by
 induction hN:SizeOf.sizeOf t using Nat.strongRecOn generalizing t with
 | _ N ih =>
 subst hN
 obtain ⟨c1,c2⟩:=Tm.chk_args hc
 by_cases hleaf:(∃ x,lookup s t.name=some x)∧t.args=[]
 ·obtain ⟨⟨x,hx⟩,h0⟩:=hleaf
  rw [Tm.on_leaf hx h0]
  obtain ⟨b,hb,_,rfl⟩:=Cm hx
  exact hs b hb
 ·have hon:t.on s=.mk t.name (t.args.map (Tm.on s)):=Tm.on_knot (by
   cases hl:lookup s t.name with
   | none=>exact .inl rfl
   | some x=>exact .inr fun h0=>hleaf ⟨⟨x,hl⟩,h0⟩)
  rw [hon]
  refine AAB ?_ fun a ha=>?_
  ·have:=Y8 hc
   unfold Bl at this ⊢
   simpa only [Tm.name_mk,Tm.args_mk,List.length_map] using this
  ·simp only [Tm.args_mk,List.mem_map] at ha
   obtain ⟨c,hc',rfl⟩:=ha
   exact ih _ (Tm.lt_of_arg hc') (c2 c hc') rfl
inductive AAa where
 | err (e:Int)
 | go (s:List Bd) (ps:List Pr)
def Da (s:List Bd) (x:ByteArray) (t:Tm):AAa :=
 if occ x t=true then .err 6 else if (s.all fun b=>decide ((b.2.on [(x,t)]).size≤2000))=true then .go (BS (s.map (fun b=>(b.1,b.2.on [(x,t)])) ++ [(x,t)])) [] else .err 8
def CF (s:List Bd) (p:Pr):AAa :=
 if 2000 < (p.1.on s).size ∨ 2000 < (p.2.on s).size then .err 8
 else if AJ (p.1.on s).name=true∧(p.1.on s).name=(p.2.on s).name then .go s []
 else if AJ (p.1.on s).name=true then Da s (p.1.on s).name (p.2.on s)
 else if AJ (p.2.on s).name=true then Da s (p.2.on s).name (p.1.on s)
 else if (p.1.on s).name=(p.2.on s).name∧(p.1.on s).args.length=(p.2.on s).args.length then .go s ((p.1.on s).args.zip (p.2.on s).args)
 else .err 5
inductive DM:Nat→List Bd→List Pr→List Bd × Int→Prop
 | nil {s}:DM 0 s [] (s,0)
 | err {s p l e}:CF s p=.err e→DM 1 s (p :: l) ([],e)
 | go {s p l s' ps n r}:CF s p=.go s' ps→DM n s' (ps ++ l) r→DM (n + 1) s (p :: l) r
def J_ (C v:Nat) (s:List Bd):List Pr→Prop
 | []=>True
 | p :: l=>l.length + 2000 * min (p.1.on s).size 2000 + 4000000 * v≤C∧J_ C v s l
theorem J_.less {C v v':Nat} {s s':List Bd} (hv:v' + 1≤v):∀ {l:List Pr},J_ C v s l→J_ C v' s' l
 | [],_=>trivial
 | p :: l,h=>⟨by have:=h.1;have:=Nat.min_le_right (p.1.on s').size 2000;omega,J_.less hv h.2⟩
theorem J_.more {C v m:Nat} {s:List Bd} {l:List Pr} (hm:m + 1≤2000) (hC:l.length + 2000 * (m + 1) + 4000000 * v≤C) (hl:J_ C v s l):∀ {ps:List Pr},ps.length≤2000→(∀ c ∈ ps,(c.1.on s).size≤m)→J_ C v s (ps ++ l)
 | [],_,_=>hl
 | c :: ps,h1,h2=>by
  refine ⟨?_,J_.more hm hC hl (by simp at h1;omega) fun c hc=>h2 c (by simp [hc])⟩
  have h3:=h2 c (by simp)
  have h4:=Nat.min_le_left (c.1.on s).size 2000
  simp only [List.length_cons] at h1
  have e:(ps ++ l).length=ps.length + l.length:=List.length_append
  show (ps ++ l).length + _ + _≤C
  omega
structure CT (U:List ByteArray) (C:Nat) (s:List Bd) (l:List Pr):Prop where
 ord:BH s
 var:∀ b ∈ s,AJ b.1=true
 inU:∀ b ∈ s,b.1 ∈ U
 chk:∀ b ∈ s,b.2.chk=0
 siz:∀ b ∈ s,b.2.size≤2000
 idem:∀ b ∈ s,MC s b.2
 ranU:∀ b ∈ s,∀ y,occ y b.2=true→y ∈ U
 lchk:∀ p ∈ l,p.1.chk=0∧p.2.chk=0
 lU:∀ p ∈ l,∀ y,(occ y p.1=true→y ∈ U)∧(occ y p.2=true→y ∈ U)
 lsiz:∀ p ∈ l,p.1.size≤2000∧p.2.size≤2000
 fits:J_ C (U.length - s.length) s l
theorem Kb {x:ByteArray}:∀ {m:List ByteArray},x ∈ m→(m.filter fun y=>!decide (y=x)).length + 1≤m.length
 | y :: m,h=>by
  have hle:=List.length_filter_le (fun y=>!decide (y=x)) m
  by_cases e:y=x
  ·rw [List.filter_cons_of_neg (by simp [e]),List.length_cons]
   omega
  ·rw [List.filter_cons_of_pos (by simp [e]),List.length_cons,List.length_cons]
   have:=Kb (x:=x) (m:=m) ((List.mem_cons.1 h).resolve_left fun h=>e h.symm)
   omega
theorem Jv:∀ {l m:List ByteArray},l.Nodup→(∀ x ∈ l,x ∈ m)→l.length≤m.length
 | [],m,_,_=>Nat.zero_le _
 | x :: l,m,hn,hs=>by
  obtain ⟨n1,n2⟩:=List.nodup_cons.1 hn
  have h1:=Jv (m:=m.filter fun y=>!decide (y=x)) n2 fun y hy=>List.mem_filter.2 ⟨hs y (by simp [hy]),by
   have:y ≠ x:=fun e=>n1 (by rw [← e];exact hy)
   simp [this]⟩
  have:=Kb (hs x (by simp))
  rw [List.length_cons]
  omega
theorem CT.len {U:List ByteArray} {C:Nat} {s:List Bd} {l:List Pr} (h:CT U C s l):s.length≤U.length:=by
 have:=Jv (l:=s.map (fun b:Bd=>b.1)) (m:=U) (C4 h.ord) fun x hx=>by
  obtain ⟨b,hb,rfl⟩:=List.mem_map.1 hx
  exact h.inU b hb
 simpa using this
theorem CT.stack {U:List ByteArray} {C:Nat} {s:List Bd} {l:List Pr} (h:CT U C s l):l.length≤C + 1:=by
 cases l with
 | nil=>simp
 | cons p l=>have:=h.fits.1;simp;omega
def G1 (s:List Bd):List Pr→Nat
 | []=>0
 | p :: l=>(p.1.on s).size + G1 s l
theorem KY (s:List Bd):∀ (ps l:List Pr),G1 s (ps ++ l)=G1 s ps + G1 s l
 | [],l=>by simp [G1]
 | p :: ps,l=>by rw [List.cons_append,G1,KY s ps l,G1];omega
theorem Ex {α β:Type} {xs:List α} {ys:List β} {c:α × β} (h:c ∈ xs.zip ys):c.1 ∈ xs∧c.2 ∈ ys:=by
 obtain ⟨a,b⟩:=c
 exact ⟨(List.of_mem_zip h).1,(List.of_mem_zip h).2⟩
theorem CT.tail {U:List ByteArray} {C:Nat} {s:List Bd} {p:Pr} {l:List Pr} (h:CT U C s (p :: l)):CT U C s l :=
 { h with lchk:=fun q hq=>h.lchk q (by simp [hq]),lU:=fun q hq=>h.lU q (by simp [hq]),lsiz:=fun q hq=>h.lsiz q (by simp [hq]),fits:=h.fits.2 }
theorem onU {U:List ByteArray} {C:Nat} {s:List Bd} {l:List Pr} (h:CT U C s l) {t:Tm} (hc:t.chk=0) (hU:∀ y,occ y t=true→y ∈ U):(t.on s).chk=0∧MC s (t.on s)∧∀ y,occ y (t.on s)=true→y ∈ U:=by
 refine ⟨IJ h.chk hc,fun b hb=>?_,fun y hy=>?_⟩
 ·cases ho:occ b.1 (t.on s) with
  | false=>rfl
  | true =>
   rcases SH h.var hc ho with ⟨_,k⟩ | ⟨c,hc',k⟩
   ·exact absurd rfl (k b hb)
   ·rw [h.idem c hc' b hb] at k;cases k
 ·rcases SH h.var hc hy with ⟨k,_⟩ | ⟨c,hc',k⟩
  ·exact hU y k
  ·exact h.ranU c hc' y k
theorem Mn {U:List ByteArray} {C:Nat} {s:List Bd} {l:List Pr} (h:CT U C s l) {x:ByteArray} {t:Tm} (hx:AJ x=true) (hxU:x ∈ U) (hxs:∀ b ∈ s,b.1 ≠ x) (htc:t.chk=0) (hts:t.size≤2000) (htn:MC s t) (htU:∀ y,occ y t=true→y ∈ U) {s':List Bd} {ps:List Pr} (hb:Da s x t=.go s' ps) :
  ps=[]∧CT U C s' l∧s.length < s'.length:=by
 unfold Da at hb
 split at hb
 ·cases hb
 rename_i ho
 have ho:occ x t=false:=by simpa using ho
 split at hb
 ·rename_i hall
  cases hb
  have hone:∀ b ∈ [(x,t)],AJ b.1=true:=by simp [hx]
  have honec:∀ b ∈ ([(x,t)]:List Bd),b.2.chk=0:=by simp [htc]
  have hmem:∀ b,b ∈ s.map (fun b=>(b.1,b.2.on [(x,t)])) ++ [(x,t)] ↔ (∃ c ∈ s,b=(c.1,c.2.on [(x,t)])) ∨ b=(x,t):=fun b=>by
   simp only [List.mem_append,List.mem_map,List.mem_singleton]
   constructor
   ·rintro (⟨c,hc,rfl⟩ | h)
    ·exact .inl ⟨c,hc,rfl⟩
    ·exact .inr h
   ·rintro (⟨c,hc,rfl⟩ | h)
    ·exact .inl ⟨c,hc,rfl⟩
    ·exact .inr h
  have hnamed:Bc (s.map (fun b=>(b.1,b.2.on [(x,t)])) ++ [(x,t)]):=by
   have:=C4 h.ord
   unfold Bc at this ⊢
   rw [List.map_append,List.map_map,List.nodup_append]
   refine ⟨this,by simp,fun a ha b hb e=>?_⟩
   obtain ⟨c,hc,rfl⟩:=List.mem_map.1 ha
   simp only [List.map_cons,List.map_nil,List.mem_singleton] at hb
   exact hxs c hc (e.trans hb)
  have hoccr:∀ c ∈ s,∀ y,occ y (c.2.on [(x,t)])=true→(occ y c.2=true∧x ≠ y) ∨ occ y t=true:=fun c hc y hy=>by
   rcases SH hone (h.chk c hc) hy with ⟨k1,k2⟩ | ⟨b,hb,k⟩
   ·exact .inl ⟨k1,k2 (x,t) (by simp)⟩
   ·rw [List.mem_singleton] at hb
    subst hb
    exact .inr k
  have hfree:∀ b ∈ s.map (fun b=>(b.1,b.2.on [(x,t)])) ++ [(x,t)],∀ c ∈ s.map (fun b=>(b.1,b.2.on [(x,t)])) ++ [(x,t)],occ c.1 b.2=false:=fun b hb c hc=>by
   cases hoc:occ c.1 b.2 with
   | false=>rfl
   | true =>
    exfalso
    rcases (hmem b).1 hb with ⟨b',hb',rfl⟩ | rfl
    ·rcases hoccr b' hb' _ hoc with ⟨k1,k2⟩ | k
     ·rcases (hmem c).1 hc with ⟨c',hc',rfl⟩ | rfl
      ·have:=h.idem b' hb' c' hc'
       rw [k1] at this
       cases this
      ·exact k2 rfl
     ·rcases (hmem c).1 hc with ⟨c',hc',rfl⟩ | rfl
      ·have:=htn c' hc'
       rw [k] at this
       cases this
      ·rw [k] at ho;cases ho
    ·rcases (hmem c).1 hc with ⟨c',hc',rfl⟩ | rfl
     ·have:=htn c' hc'
      rw [hoc] at this
      cases this
     ·rw [hoc] at ho;cases ho
  have hlen:(BS (s.map (fun b=>(b.1,b.2.on [(x,t)])) ++ [(x,t)])).length=s.length + 1:=by rw [BY];simp
  have hinU:∀ b ∈ BS (s.map (fun b=>(b.1,b.2.on [(x,t)])) ++ [(x,t)]),b.1 ∈ U:=fun b hb=>by
   rcases (hmem b).1 (BT.1 hb) with ⟨c,hc,rfl⟩ | rfl
   ·exact h.inU c hc
   ·exact hxU
  have hle:s.length + 1≤U.length:=by
   have:=Jv (l:=(BS (s.map (fun b=>(b.1,b.2.on [(x,t)])) ++ [(x,t)])).map (fun b:Bd=>b.1)) (m:=U) (C4 (Bo hnamed)) fun y hy=>by
    obtain ⟨b,hb,rfl⟩:=List.mem_map.1 hy
    exact hinU b hb
   rw [List.length_map,hlen] at this
   exact this
  refine ⟨rfl,⟨Bo hnamed,fun b hb=>?_,hinU,fun b hb=>?_,fun b hb=>?_,fun b hb c hc=>hfree b (BT.1 hb) c (BT.1 hc),fun b hb y hy=>?_,h.lchk,h.lU,h.lsiz,J_.less (by rw [hlen];omega) h.fits⟩,by rw [hlen];omega⟩
  ·rcases (hmem b).1 (BT.1 hb) with ⟨c,hc,rfl⟩ | rfl
   ·exact h.var c hc
   ·exact hx
  ·rcases (hmem b).1 (BT.1 hb) with ⟨c,hc,rfl⟩ | rfl
   ·exact IJ honec (h.chk c hc)
   ·exact htc
  ·rcases (hmem b).1 (BT.1 hb) with ⟨c,hc,rfl⟩ | rfl
   ·have:=List.all_eq_true.1 hall c hc
    simpa using this
   ·exact hts
  ·rcases (hmem b).1 (BT.1 hb) with ⟨c,hc,rfl⟩ | rfl
   ·rcases hoccr c hc y hy with k | k
    ·exact h.ranU c hc y k.1
    ·exact htU y k
   ·exact htU y hy
 ·cases hb
theorem FN {U:List ByteArray} {C:Nat} {s:List Bd} {p:Pr} {l:List Pr} (h:CT U C s (p :: l)) {s':List Bd} {ps:List Pr} (hs:CF s p=.go s' ps) :
  CT U C s' (ps ++ l)∧(s.length < s'.length ∨ (s'=s∧G1 s (ps ++ l) < G1 s (p :: l))):=by
 obtain ⟨hc1,hc2⟩:=h.lchk p (by simp)
 have hU:=h.lU p (by simp)
 obtain ⟨a1,a2,a3⟩:=onU h hc1 fun y=>(hU y).1
 obtain ⟨b1,b2,b3⟩:=onU h hc2 fun y=>(hU y).2
 have hpos:=Tm.size_pos (p.1.on s)
 have nameNo:∀ {t:Tm},MC s t→∀ b ∈ s,b.1 ≠ t.name:=fun {t} hn b hb e=>(PZ (hn b hb)).1 e.symm
 have nameU:∀ {t:Tm},(∀ y,occ y t=true→y ∈ U)→t.name ∈ U:=fun {t} ht=>ht _ (I2.2 (.inl rfl))
 unfold CF at hs
 split at hs
 ·cases hs
 rename_i hz
 rw [not_or] at hz
 split at hs
 ·cases hs
  exact ⟨h.tail,.inr ⟨rfl,by simp only [List.nil_append,G1];omega⟩⟩
 split at hs
 ·rename_i hv
  obtain ⟨rfl,k1,k2⟩:=Mn h.tail hv (nameU a3) (nameNo a2) b1 (by omega) b2 b3 hs
  exact ⟨k1,.inl k2⟩
 split at hs
 ·rename_i hv
  obtain ⟨rfl,k1,k2⟩:=Mn h.tail hv (nameU b3) (nameNo b2) a1 (by omega) a2 a3 hs
  exact ⟨k1,.inl k2⟩
 split at hs
 ·rename_i heq
  cases hs
  have hsz:=Tm.size_eq (p.1.on s)
  have hlen:=Tm.length_le (p.1.on s).args
  have hid:∀ a ∈ (p.1.on s).args,a.on s=a:=fun a ha=>Zq fun b hb=>(PZ (a2 b hb)).2 a ha
  have hsum:∀ (xs ys:List Tm),(∀ a ∈ xs,a.on s=a)→G1 s (xs.zip ys)≤Tm.sizes xs:=by
   intro xs
   induction xs with
   | nil=>intro ys _;simp [G1]
   | cons x xs ih =>
    intro ys hx
    cases ys with
    | nil=>simp [G1]
    | cons y ys =>
     have:=ih ys fun a ha=>hx a (by simp [ha])
     simp only [List.zip_cons_cons,G1,Tm.sizes]
     rw [hx x (by simp)]
     omega
  have hzl:((p.1.on s).args.zip (p.2.on s).args).length≤(p.1.on s).args.length:=by rw [List.length_zip];exact Nat.min_le_left _ _
  have hmin:min (p.1.on s).size 2000=(p.1.on s).size:=Nat.min_eq_left (by omega)
  have hf:=h.fits.1
  rw [hmin] at hf
  have hszb:=Tm.size_eq (p.2.on s)
  refine ⟨⟨h.ord,h.var,h.inU,h.chk,h.siz,h.idem,h.ranU,fun q hq=>?_,fun q hq=>?_,fun q hq=>?_,J_.more (m:=(p.1.on s).size - 1) (by omega) (by omega) h.fits.2 (by omega) fun c hc=>?_⟩,.inr ⟨rfl,?_⟩⟩
  ·rcases List.mem_append.1 hq with hq | hq
   ·exact ⟨(Tm.chk_args a1).2 _ (Ex hq).1,(Tm.chk_args b1).2 _ (Ex hq).2⟩
   ·exact h.tail.lchk q hq
  ·rcases List.mem_append.1 hq with hq | hq
   ·exact fun y=>⟨fun hy=>a3 y (PD (Ex hq).1 hy),fun hy=>b3 y (PD (Ex hq).2 hy)⟩
   ·exact h.tail.lU q hq
  ·rcases List.mem_append.1 hq with hq | hq
   ·have h1:=Tm.size_mem (Ex hq).1
    have h2:=Tm.size_mem (Ex hq).2
    omega
   ·exact h.tail.lsiz q hq
  ·rw [hid _ (Ex hc).1]
   have h1:=Tm.size_mem (Ex hc).1
   omega
  ·rw [KY]
   have h1:=hsum _ (p.2.on s).args hid
   simp only [G1]
   omega
 ·cases hs
theorem J7 {U:List ByteArray} {C:Nat}:∀ (v m:Nat) (s:List Bd) (l:List Pr),CT U C s l→U.length - s.length=v→G1 s l=m→∃ n r,DM n s l r:=by
 intro v
 induction v using Nat.strongRecOn with
 | _ v ihv =>
 intro m
 induction m using Nat.strongRecOn with
 | _ m ihm =>
 intro s l h hv hm
 cases l with
 | nil=>exact ⟨0,_,.nil⟩
 | cons p l =>
  cases hs:CF s p with
  | err e=>exact ⟨1,_,.err hs⟩
  | go s' ps =>
   obtain ⟨h',hd⟩:=FN h hs
   have hlen:=h'.len
   rcases hd with hd | ⟨rfl,hd⟩
   ·obtain ⟨n,r,hr⟩:=ihv (U.length - s'.length) (by omega) _ s' _ h' rfl rfl
    exact ⟨n + 1,r,.go hs hr⟩
   ·obtain ⟨n,r,hr⟩:=ihm (G1 s' (ps ++ l)) (by omega) s' _ h' hv rfl
    exact ⟨n + 1,r,.go hs hr⟩

abbrev vT (x:ByteArray):Tm:=.mk x []
def Sol (s θ:List Bd):Prop:=∀ b ∈ s,b.2.on θ=(vT b.1).on θ
theorem Hg {θ:List Bd} {t:Tm} (h:t.args ≠ []):t.on θ=.mk t.name (t.args.map (Tm.on θ)):=Tm.on_knot (.inr h)
theorem Ds {t:Tm} (h:t.args=[]):t=vT t.name:=by
 cases t with
 | mk n xs =>
  change xs=[] at h
  subst h
  rfl
theorem HL {s θ:List Bd} (hv:∀ b ∈ s,AJ b.1=true) (hs:Sol s θ) {t:Tm} (hc:t.chk=0):(t.on s).on θ=t.on θ:=by
 induction hN:SizeOf.sizeOf t using Nat.strongRecOn generalizing t with
 | _ N ih =>
 subst hN
 obtain ⟨c1,c2⟩:=Tm.chk_args hc
 cases hl:lookup s t.name with
 | some x =>
  obtain ⟨b,hb,hbn,hbx⟩:=Cm hl
  have h0:=c1 (by rw [← hbn];exact hv b hb)
  rw [Tm.on_leaf hl h0,← hbx,hs b hb,hbn,← Ds h0]
 | none =>
  rw [Tm.on_knot (.inl hl)]
  by_cases h0:t.args=[]
  ·have:(Tm.mk t.name (t.args.map (Tm.on s)))=t:=by
    cases t with
    | mk n xs =>
     change xs=[] at h0
     subst h0
     rfl
   rw [this]
  ·rw [Hg (t:=Tm.mk t.name (t.args.map (Tm.on s))) (by rw [Tm.args_mk];simpa using h0),Hg h0]
   congr 1
   rw [Tm.args_mk,List.map_map]
   exact List.map_congr_left fun a ha=>ih _ (Tm.lt_of_arg ha) (c2 a ha) rfl
theorem WW {θ:List Bd} {x:ByteArray} (hx:AJ x=true) {t:Tm} (hc:t.chk=0) (h:occ x t=true):((vT x).on θ).size≤(t.on θ).size∧(t.name ≠ x→((vT x).on θ).size < (t.on θ).size):=by
 induction hN:SizeOf.sizeOf t using Nat.strongRecOn generalizing t with
 | _ N ih =>
 subst hN
 obtain ⟨c1,c2⟩:=Tm.chk_args hc
 rcases I2.1 h with h | ⟨a,ha,h⟩
 ·have h0:=c1 (by rw [h];exact hx)
  rw [Ds h0,h]
  exact ⟨Nat.le_refl _,fun hn=>absurd rfl hn⟩
 ·have h0:t.args ≠ []:=fun e=>by rw [e] at ha;cases ha
  have h1:=(ih _ (Tm.lt_of_arg ha) (c2 a ha) h rfl).1
  have h2:=Tm.size_mem (xs:=t.args.map (Tm.on θ)) (List.mem_map_of_mem ha)
  have h3:(t.on θ).size=1 + Tm.sizes (t.args.map (Tm.on θ)):=by rw [Hg h0,Tm.size_eq];rfl
  omega
theorem Du {θ:List Bd} (hv:∀ b ∈ θ,AJ b.1=true) {t:Tm} (hn:¬ AJ t.name=true):t.on θ=.mk t.name (t.args.map (Tm.on θ)):=by
 refine Tm.on_knot (.inl (Ch fun b hb e=>hn ?_))
 rw [← e]
 exact hv b hb
theorem Q3 {s θ:List Bd} {x:ByteArray} {t:Tm} (hv:∀ b ∈ s,AJ b.1=true) (hx:AJ x=true) (hc:∀ b ∈ s,b.2.chk=0) (h1:t.on θ=(vT x).on θ):Sol s θ ↔ Sol (s.map fun b=>(b.1,b.2.on [(x,t)])) θ:=by
 have hone:Sol [(x,t)] θ:=fun b hb=>by
  rw [List.mem_singleton] at hb
  subst hb
  exact h1
 have hvo:∀ b ∈ ([(x,t)]:List Bd),AJ b.1=true:=by simp [hx]
 constructor
 ·intro hs b hb
  obtain ⟨c,hc',rfl⟩:=List.mem_map.1 hb
  show (c.2.on [(x,t)]).on θ=_
  rw [HL hvo hone (hc c hc')]
  exact hs c hc'
 ·intro hs b hb
  have:=hs (b.1,b.2.on [(x,t)]) (List.mem_map.2 ⟨b,hb,rfl⟩)
  change (b.2.on [(x,t)]).on θ=(vT b.1).on θ at this
  rwa [HL hvo hone (hc b hb)] at this
theorem WH {s θ:List Bd} {b:Bd}:Sol (BS (s ++ [b])) θ ↔ Sol s θ∧b.2.on θ=(vT b.1).on θ:=by
 constructor
 ·intro h
  exact ⟨fun c hc=>h c (BT.2 (by simp [hc])),h b (BT.2 (by simp))⟩
 ·rintro ⟨h1,h2⟩ c hc
  rcases List.mem_append.1 (BT.1 hc) with h | h
  ·exact h1 c h
  ·rw [List.mem_singleton] at h
   subst h
   exact h2
theorem Tr {f:Tm→Tm}:∀ {xs ys:List Tm},xs.length=ys.length→((∀ p ∈ xs.zip ys,f p.1=f p.2) ↔ xs.map f=ys.map f)
 | [],[],_=>by simp
 | x :: xs,y :: ys,h=>by
  have:=Tr (f:=f) (xs:=xs) (ys:=ys) (by simpa using h)
  simp only [List.zip_cons_cons,List.mem_cons,forall_eq_or_imp,List.map_cons,List.cons.injEq]
  rw [this]
theorem R7 {U:List ByteArray} {C:Nat} {s:List Bd} {p:Pr} {l:List Pr} (h:CT U C s (p :: l)) {θ:List Bd} (hθ:∀ b ∈ θ,AJ b.1=true) {s':List Bd} {ps:List Pr} (hs:CF s p=.go s' ps):(Sol s θ∧p.1.on θ=p.2.on θ) ↔ (Sol s' θ∧∀ q ∈ ps,q.1.on θ=q.2.on θ):=by
 obtain ⟨hc1,hc2⟩:=h.lchk p (by simp)
 have hU:=h.lU p (by simp)
 obtain ⟨a1,a2,a3⟩:=onU h hc1 fun y=>(hU y).1
 obtain ⟨b1,b2,b3⟩:=onU h hc2 fun y=>(hU y).2
 have e1:=fun hsol=>HL h.var (θ:=θ) hsol hc1
 have e2:=fun hsol=>HL h.var (θ:=θ) hsol hc2
 have bind:∀ {x t u:Tm},AJ x.name=true→x.chk=0→Da s x.name t=.go s' ps→(Sol s θ∧x.on θ=t.on θ ↔ Sol s' θ∧∀ q ∈ ps,q.1.on θ=q.2.on θ):=by
  intro x t u hx hxc hb
  have hxl:=Ds ((Tm.chk_args hxc).1 hx)
  unfold Da at hb
  split at hb
  ·cases hb
  split at hb
  ·cases hb
   rw [WH]
   constructor
   ·rintro ⟨k1,k2⟩
    have k3:t.on θ=(vT x.name).on θ:=by rw [← hxl];exact k2.symm
    exact ⟨⟨(Q3 h.var hx h.chk k3).1 k1,k3⟩,fun q hq=>by cases hq⟩
   ·rintro ⟨⟨k1,k3⟩,_⟩
    exact ⟨(Q3 h.var hx h.chk k3).2 k1,by rw [hxl];exact k3.symm⟩
  ·cases hb
 unfold CF at hs
 split at hs
 ·cases hs
 split at hs
 ·rename_i hv
  cases hs
  have l1:=Ds ((Tm.chk_args a1).1 hv.1)
  have l2:=Ds ((Tm.chk_args b1).1 (by rw [← hv.2];exact hv.1))
  constructor
  ·rintro ⟨k1,_⟩
   exact ⟨k1,fun q hq=>by cases hq⟩
  ·rintro ⟨k1,_⟩
   refine ⟨k1,?_⟩
   rw [← e1 k1,← e2 k1,l1,l2,hv.2]
 split at hs
 ·rename_i hv
  rw [← bind (u:=p.2.on s) hv a1 hs]
  constructor
  ·rintro ⟨k1,k2⟩
   exact ⟨k1,by rw [e1 k1,e2 k1];exact k2⟩
  ·rintro ⟨k1,k2⟩
   exact ⟨k1,by rw [e1 k1,e2 k1] at k2;exact k2⟩
 split at hs
 ·rename_i hv
  rw [← bind (u:=p.1.on s) hv b1 hs]
  constructor
  ·rintro ⟨k1,k2⟩
   exact ⟨k1,by rw [e1 k1,e2 k1];exact k2.symm⟩
  ·rintro ⟨k1,k2⟩
   exact ⟨k1,by rw [e1 k1,e2 k1] at k2;exact k2.symm⟩
 rename_i hv1 hv2
 split at hs
 ·rename_i heq
  cases hs
  rw [Tr heq.2]
  constructor
  ·rintro ⟨k1,k2⟩
   refine ⟨k1,?_⟩
   rw [← e1 k1,← e2 k1,Du hθ hv1,Du hθ hv2] at k2
   injection k2
  ·rintro ⟨k1,k2⟩
   refine ⟨k1,?_⟩
   rw [← e1 k1,← e2 k1,Du hθ hv1,Du hθ hv2,k2,heq.1]
 ·cases hs
theorem ZF {s:List Bd} {p:Pr} {e:Int} (h:CF s p=.err e):e ≠ 0:=by
 have hb:∀ {x:ByteArray} {t:Tm},Da s x t=.err e→e ≠ 0:=by
  intro x t hb
  unfold Da at hb
  split at hb
  ·cases hb;decide
  split at hb
  ·cases hb
  ·cases hb;decide
 unfold CF at h
 split at h
 ·cases h;decide
 split at h
 ·cases h
 split at h
 ·exact hb h
 split at h
 ·exact hb h
 split at h
 ·cases h
 ·cases h;decide
theorem W1 {s:List Bd} (hn:Bc s) (hi:∀ b ∈ s,MC s b.2):Sol s s:=fun b hb=>by
 rw [Zq (hi b hb),Tm.on_leaf (t:=vT b.1) ((IN hn).2 (by exact hb)) rfl]
theorem My {U:List ByteArray} {C:Nat} {n:Nat} {s:List Bd} {l:List Pr} {r:List Bd × Int} (hr:DM n s l r):CT U C s l→r.2=0→CT U C r.1 []∧Sol s r.1∧∀ p ∈ l,p.1.on r.1=p.2.on r.1:=by
 induction hr with
 | nil=>exact fun h _=>⟨h,W1 (C4 h.ord) h.idem,fun p hp=>by cases hp⟩
 | err he=>exact fun _ h0=>absurd h0 (ZF he)
 | @go s p l s' ps n r hst hr ih =>
  intro h h0
  obtain ⟨h',_⟩:=FN h hst
  obtain ⟨q0,q1,q2⟩:=ih h' h0
  obtain ⟨k1,k2⟩:=(R7 h q0.var hst).2 ⟨q1,fun q hq=>q2 q (by simp [hq])⟩
  refine ⟨q0,k1,fun q hq=>?_⟩
  rcases List.mem_cons.1 hq with rfl | hq
  ·exact k2
  ·exact q2 q (by simp [hq])

def Vz (l:List UInt8):Nat:=l.foldl (fun v d=>v * 10 + (d.toNat - 48)) 0
theorem VJ (l:List UInt8) (d:UInt8):Vz (l ++ [d])=Vz l * 10 + (d.toNat - 48):=by unfold Vz;rw [List.foldl_append];rfl
theorem UF {k:Nat} (h:k < 10):(UInt8.ofNat (48 + k)).toNat - 48=k:=by
 rw [UInt8.toNat_ofNat_of_lt' (by show _ < 256;omega)]
 omega
theorem JW (u:Nat):Vz (Lib.decDigits u)=u:=by
 induction u using Nat.strongRecOn with
 | _ u ih =>
  by_cases h:u < 10
  ·rw [Lib.decDigits,dif_pos h]
   show 0 * 10 + _=u
   rw [UF h]
   omega
  ·rw [Lib.decDigits,dif_neg h,VJ,ih _ (by omega),UF (Nat.mod_lt _ (by omega))]
   omega
def Rc (n:Nat):ByteArray:=⟨(Lib.decDigits n).toArray⟩
def CK (k:Nat):ByteArray:=⟨#[90]⟩ ++ Rc (k + 1)
def Lw (k:Nat):Tm:=.mk (CK k) []
theorem GG (k:Nat):(CK k).data.toList=90 :: Lib.decDigits (k + 1):=by
 unfold CK Rc
 simp
theorem Vs {m n:Nat} (h:CK m=CK n):m=n:=by
 have h1:=congrArg (fun b:ByteArray=>b.data.toList) h
 simp only [GG] at h1
 have h2:=congrArg Vz (List.cons.inj h1).2
 rw [JW,JW] at h2
 omega
theorem PA {u k:Nat} (h:u < 10 ^ k) (hk:1≤k):Lib.nDigits u≤k:=by
 induction k generalizing u with
 | zero=>omega
 | succ k ih =>
  by_cases h1:u < 10
  ·rw [Lib.nDigits_small h1];omega
  ·rw [Lib.nDigits_big h1]
   have:1≤k:=by
    rcases Nat.eq_zero_or_pos k with h0 | h0
    ·subst h0;rw [Nat.zero_add,Nat.pow_one] at h;omega
    ·exact h0
   have:=ih (u:=u / 10) (by rw [Nat.pow_succ] at h;omega) this
   omega
theorem U8 (n:Nat):(Rc n).size=Lib.nDigits n:=by
 show (Lib.decDigits n).toArray.size=_
 rw [List.size_toArray,Lib.decDigits_length]
theorem F5 {n:Nat} (h:n < 1000000):(Rc n).size≤6:=by rw [U8];exact PA (k:=6) (by omega) (by omega)
theorem Gi (u:Nat):∀ d ∈ Lib.decDigits u,48≤d.toNat∧d.toNat≤57:=by
 induction u using Nat.strongRecOn with
 | _ u ih =>
  by_cases h:u < 10
  ·rw [Lib.decDigits,dif_pos h]
   intro d hd
   rw [List.mem_singleton] at hd
   subst hd
   rw [UInt8.toNat_ofNat_of_lt' (by show _ < 256;omega)]
   omega
  ·rw [Lib.decDigits,dif_neg h]
   intro d hd
   rcases List.mem_append.1 hd with hd | hd
   ·exact ih _ (by omega) d hd
   ·rw [List.mem_singleton] at hd
    subst hd
    rw [UInt8.toNat_ofNat_of_lt' (by show _ < 256;omega)]
    omega
theorem Ru (k:Nat):Aj (CK k) 0=90:=by
 unfold Aj
 rw [GG]
 rfl
theorem IK (k:Nat):(CK k).size=1 + Lib.nDigits (k + 1):=by
 have:(CK k).size=(CK k).data.toList.length:=by
  show (CK k).data.size=_
  rw [Array.length_toList]
 rw [this,GG,List.length_cons,Lib.decDigits_length]
 omega
theorem Ou (k:Nat):AJ (CK k)=true:=by
 unfold AJ
 rw [Ru,IK,decide_eq_true (by omega)]
 rfl
theorem Xl {k:Nat} (h:k + 1 < 1000000):Ay (CK k)=true:=by
 have h6:=PA (u:=k + 1) (k:=6) (by omega) (by omega)
 unfold Ay
 rw [Ru,IK,decide_eq_true (show 1≤1 + Lib.nDigits (k + 1) by omega),decide_eq_true (show 1 + Lib.nDigits (k + 1)≤8 by omega)]
 have:Bp (CK k) (1 + Lib.nDigits (k + 1))=true:=by
  unfold Bp
  rw [GG]
  refine List.all_eq_true.2 fun c hc=>?_
  have hc:=List.mem_of_mem_take hc
  rcases List.mem_cons.1 hc with rfl | hc
  ·decide
  ·have:=Gi _ c hc
   unfold BE
   rw [decide_eq_true (show 48≤(c.toNat:Int)∧(c.toNat:Int)≤57 by omega),Bool.or_true]
 rw [this]
 decide
theorem Un {k:Nat} (h:k + 1 < 1000000):(Lw k).chk=0:=Q2 (Xl h)
def V7 (n:ByteArray) (xs:List Tm) (b:Tm):Prop:=AJ n=false∧n=b.name∧xs.length=b.args.length
instance (n:ByteArray) (xs:List Tm) (b:Tm):Decidable (V7 n xs b):=by unfold V7;infer_instance
def V0 (l m:List Pr):Prop:=∃ r,m=l ++ r
theorem V0.refl (l:List Pr):V0 l l:=⟨[],by simp⟩
theorem V0.trans {a b c:List Pr} (h:V0 a b) (k:V0 b c):V0 a c:=by
 obtain ⟨r,rfl⟩:=h
 obtain ⟨q,rfl⟩:=k
 exact ⟨r ++ q,by simp⟩


def BO:List ByteArray→ByteArray→Nat
 | [],_=>0
 | x :: l,n=>if x=n then 0 else BO l n + 1
def Ec (l:List ByteArray) (n:ByteArray):List ByteArray:=if BO l n < l.length then l else l ++ [n]
theorem Tw (l:List ByteArray) (n:ByteArray):BO l n≤l.length:=by
 induction l with
 | nil=>exact Nat.le_refl _
 | cons p l ih=>rw [BO];split <;> simp;omega
theorem HA {l:List ByteArray} {n:ByteArray}:BO l n < l.length ↔ n ∈ l:=by
 induction l with
 | nil=>simp [BO]
 | cons x l ih =>
  rw [BO]
  by_cases e:x=n
  ·rw [if_pos e];simp [e]
  ·rw [if_neg e,List.length_cons,List.mem_cons]
   constructor
   ·intro h;exact .inr (ih.1 (by omega))
   ·rintro (h | h)
    ·exact absurd h.symm e
    ·have:=ih.2 h;omega
theorem Kn {l m:List ByteArray} {n:ByteArray} (h:BO l n < l.length):BO (l ++ m) n=BO l n:=by
 induction l with
 | nil=>simp [BO] at h
 | cons x l ih =>
  rw [BO] at h
  rw [List.cons_append,BO,BO]
  by_cases e:x=n
  ·rw [if_pos e,if_pos e]
  ·rw [if_neg e] at h
   rw [if_neg e,if_neg e,ih (by simpa using h)]
theorem HU {l:List ByteArray} {n:ByteArray} (h:¬ BO l n < l.length):BO (l ++ [n]) n=l.length:=by
 induction l with
 | nil=>simp [BO]
 | cons x l ih =>
  rw [BO] at h
  rw [List.cons_append,BO]
  by_cases e:x=n
  ·rw [if_pos e] at h;simp at h
  ·rw [if_neg e] at h
   rw [if_neg e,ih (by simpa using h),List.length_cons]
theorem WF {l:List ByteArray} {n:ByteArray} (hv:AJ n=true):Ec l n=BQ l n:=by
 unfold Ec
 by_cases h:n ∈ l
 ·rw [if_pos (HA.2 h),Oa (DY.2 h)]
 ·rw [if_neg (fun k=>h (HA.1 k)),Mo hv (Pz.2 h)]
mutual
def Tm.cn:Tm→List ByteArray→Tm × List ByteArray
 | .mk n xs,l=>if AJ n=true then (Lw (BO l n),Ec l n) else (.mk n (Tm.cnL xs l).1,(Tm.cnL xs l).2)
def Tm.cnL:List Tm→List ByteArray→List Tm × List ByteArray
 | [],l=>([],l)
 | x :: xs,l=>((x.cn l).1 :: (Tm.cnL xs (x.cn l).2).1,(Tm.cnL xs (x.cn l).2).2)
end
theorem AAH {t:Tm} {l:List ByteArray} (h:AJ t.name=true):t.cn l=(Lw (BO l t.name),Ec l t.name):=by
 cases t with
 | mk n xs =>
  have h:AJ n=true:=h
  rw [Tm.cn,if_pos h]
  rfl
theorem ZP {t:Tm} {l:List ByteArray} (h:AJ t.name=false):t.cn l=(.mk t.name (Tm.cnL t.args l).1,(Tm.cnL t.args l).2):=by
 cases t with
 | mk n xs =>
  have h:AJ n=false:=h
  rw [Tm.cn,if_neg (by rw [h];simp)]
  rfl
theorem ML:∀ (xs ys:List Tm) (l:List ByteArray),Tm.cnL (xs ++ ys) l=((Tm.cnL xs l).1 ++ (Tm.cnL ys (Tm.cnL xs l).2).1,(Tm.cnL ys (Tm.cnL xs l).2).2)
 | [],ys,l=>by simp [Tm.cnL]
 | x :: xs,ys,l=>by
  simp only [List.cons_append,Tm.cnL]
  rw [ML xs ys]
theorem R6 {xs:List Tm} {k:Nat} {x:Tm} {l:List ByteArray} (hx:xs[k]?=some x):Tm.cnL (xs.take (k + 1)) l=((Tm.cnL (xs.take k) l).1 ++ [(x.cn (Tm.cnL (xs.take k) l).2).1],(x.cn (Tm.cnL (xs.take k) l).2).2):=by
 rw [Al hx,ML]
 simp [Tm.cnL]
theorem Oz:∀ (xs:List Tm) (l:List ByteArray),(Tm.cnL xs l).1.length=xs.length
 | [],l=>rfl
 | x :: xs,l=>by simp only [Tm.cnL,List.length_cons];rw [Oz xs]
def Dm (k:Nat):List ByteArray→List Bd
 | []=>[]
 | n :: l=>(n,Lw k) :: Dm (k + 1) l
theorem Dv:∀ (l:List ByteArray) (k:Nat) (n:ByteArray),lookup (Dm k l) n=if BO l n < l.length then some (Lw (k + BO l n)) else none
 | [],k,n=>by simp [Dm,Em,BO]
 | x :: l,k,n=>by
  rw [Dm,A5,BO]
  by_cases e:x=n
  ·rw [if_pos e,if_pos e]
   simp
  ·rw [if_neg e,if_neg e,Dv l (k + 1) n,List.length_cons]
   by_cases h:BO l n < l.length
   ·rw [if_pos h,if_pos (by omega)]
    congr 2
    omega
   ·rw [if_neg h,if_neg (by omega)]
def Fc (l m:List ByteArray):Prop:=∃ r,m=l ++ r
theorem Fc.trans {a b c:List ByteArray} (h:Fc a b) (k:Fc b c):Fc a c:=by
 obtain ⟨r,rfl⟩:=h
 obtain ⟨q,rfl⟩:=k
 exact ⟨r ++ q,by simp⟩
theorem VC (l:List ByteArray) (n:ByteArray):Fc l (Ec l n):=by
 unfold Ec
 split
 ·exact ⟨[],by simp⟩
 ·exact ⟨_,rfl⟩
mutual
theorem UA:∀ (t:Tm) (l:List ByteArray),Fc l (t.cn l).2
 | .mk n xs,l=>by
  rw [Tm.cn]
  split
  ·exact VC l n
  ·exact L7 xs l
theorem L7:∀ (xs:List Tm) (l:List ByteArray),Fc l (Tm.cnL xs l).2
 | [],l=>⟨[],by simp [Tm.cnL]⟩
 | x :: xs,l=>by
  simp only [Tm.cnL]
  exact (UA x l).trans (L7 xs _)
end
theorem VM {l m:List ByteArray} {n:ByteArray} (hg:Fc (Ec l n) m):BO m n=BO l n∧BO m n < m.length:=by
 obtain ⟨r,rfl⟩:=hg
 unfold Ec
 by_cases h:BO l n < l.length
 ·rw [if_pos h,Kn h,List.length_append]
  exact ⟨rfl,by omega⟩
 ·rw [if_neg h,Kn (by rw [HU h];simp),HU h]
  have:=Tw l n
  refine ⟨by omega,by rw [List.length_append,List.length_append,List.length_singleton];omega⟩
mutual
theorem I8:∀ (t:Tm),t.chk=0→∀ l,(t.cn l).2=Ah l t.knots
 | .mk n xs,hc,l=>by
  obtain ⟨c1,c2⟩:=Tm.chk_args hc
  simp only [Tm.name_mk,Tm.args_mk] at c1 c2
  have hk:Ah l (Tm.mk n xs).knots=Ah (BQ l n) (Tm.knotsL xs):=rfl
  rw [hk,Tm.cn]
  cases hv:AJ n with
  | true =>
   have h0:=c1 hv
   subst h0
   rw [if_pos rfl]
   exact WF hv
  | false =>
   rw [if_neg (by simp),OO hv]
   exact Oi xs c2 l
theorem Oi:∀ (xs:List Tm),(∀ x ∈ xs,x.chk=0)→∀ l,(Tm.cnL xs l).2=Ah l (Tm.knotsL xs)
 | [],_,l=>rfl
 | x :: xs,hc,l=>by
  simp only [Tm.cnL]
  rw [Oi xs (fun a ha=>hc a (by simp [ha])),I8 x (hc x (by simp)),Tm.knotsL,HK]
end
mutual
theorem Ry:∀ (t:Tm),t.chk=0→∀ l m,(∀ n ∈ m,AJ n=true)→Fc (t.cn l).2 m→(t.cn l).1=t.on (Dm 0 m)
 | .mk n xs,hc,l,m,hm,hg=>by
  obtain ⟨c1,c2⟩:=Tm.chk_args hc
  simp only [Tm.name_mk,Tm.args_mk] at c1 c2
  rw [Tm.cn] at hg ⊢
  cases hv:AJ n with
  | true =>
   have h0:=c1 hv
   subst h0
   rw [hv,if_pos rfl] at hg
   rw [if_pos rfl]
   obtain ⟨p1,p2⟩:=VM (show Fc (Ec l n) m from hg)
   rw [Tm.on_leaf (t:=.mk n []) (x:=Lw (BO l n)) (by rw [Tm.name_mk,Dv,if_pos p2,p1,Nat.zero_add]) rfl]
  | false =>
   rw [hv,if_neg (by simp)] at hg
   rw [if_neg (by simp)]
   have hl:lookup (Dm 0 m) n=none:=by
    rw [Dv,if_neg]
    intro h
    have:=hm n (HA.1 h)
    rw [hv] at this
    cases this
   rw [Tm.on_knot (t:=.mk n xs) (.inl hl),Tm.name_mk,Tm.args_mk,X3 xs c2 l m hm hg]
theorem X3:∀ (xs:List Tm),(∀ x ∈ xs,x.chk=0)→∀ l m,(∀ n ∈ m,AJ n=true)→Fc (Tm.cnL xs l).2 m→(Tm.cnL xs l).1=xs.map (Tm.on (Dm 0 m))
 | [],_,l,m,_,_=>rfl
 | x :: xs,hc,l,m,hm,hg=>by
  simp only [Tm.cnL] at hg ⊢
  rw [List.map_cons,Ry x (hc x (by simp)) l m hm ((L7 xs _).trans hg),X3 xs (fun a ha=>hc a (by simp [ha])) _ m hm hg]
end
theorem WU (l:List ByteArray) (n:ByteArray):(Ec l n).length≤l.length + 1:=by unfold Ec;split <;> simp
mutual
theorem F8:∀ (t:Tm) (l:List ByteArray),(t.cn l).2.length≤l.length + t.size
 | .mk n xs,l=>by
  rw [Tm.cn,Tm.size]
  split
  ·have:=WU l n
   show (Ec l n).length≤_
   omega
  ·have:=Dw xs l
   show (Tm.cnL xs l).2.length≤_
   omega
theorem Dw:∀ (xs:List Tm) (l:List ByteArray),(Tm.cnL xs l).2.length≤l.length + Tm.sizes xs
 | [],l=>by simp [Tm.cnL]
 | x :: xs,l=>by
  simp only [Tm.cnL,Tm.sizes]
  have h1:=F8 x l
  have h2:=Dw xs (x.cn l).2
  omega
end
theorem JQ (ks:List Tm):∀ l:List ByteArray,(∀ n ∈ l,AJ n=true)→∀ n ∈ Ah l ks,AJ n=true:=by
 induction ks with
 | nil=>exact fun l h=>h
 | cons k ks ih =>
  intro l h
  have e:Ah l (k :: ks)=Ah (BQ l k.name) ks:=rfl
  rw [e]
  refine ih _ fun n hn=>?_
  unfold BQ at hn
  split at hn
  ·rename_i h1
   rcases List.mem_append.1 hn with h2 | h2
   ·exact h n h2
   ·rw [List.mem_singleton.1 h2]
    rw [Bool.and_eq_true] at h1
    exact h1.1
  ·exact h n hn
theorem HH (t:Tm):∀ n ∈ t.varsOf,AJ n=true:=JQ _ [] (by simp)
theorem NB (ks:List Tm):∀ l:List ByteArray,l.Nodup→(Ah l ks).Nodup:=by
 induction ks with
 | nil=>exact fun l h=>h
 | cons k ks ih =>
  intro l h
  have e:Ah l (k :: ks)=Ah (BQ l k.name) ks:=rfl
  rw [e]
  refine ih _ ?_
  unfold BQ
  split
  ·rename_i h1
   rw [Bool.and_eq_true,Bool.not_eq_true'] at h1
   have h2:=Pz.1 h1.2
   rw [List.nodup_append]
   exact ⟨h,by simp,fun a ha b hb e=>h2 (by rw [List.mem_singleton.1 hb] at e;rw [← e];exact ha)⟩
  ·exact h
theorem PX (t:Tm):t.varsOf.Nodup:=NB _ [] List.nodup_nil

structure Ren (f:ByteArray→ByteArray):Prop where
 inv:∀ n,f (f n)=n
 var:∀ n,AJ (f n)=AJ n
 con:∀ n,AJ n=false→f n=n
theorem Ren.inj {f:ByteArray→ByteArray} (hf:Ren f) {a b:ByteArray}:f a=f b ↔ a=b:=⟨fun h=>by rw [← hf.inv a,h,hf.inv],fun h=>by rw [h]⟩
mutual
def Tm.ren (f:ByteArray→ByteArray):Tm→Tm
 | .mk n xs=>.mk (f n) (Tm.renL f xs)
def Tm.renL (f:ByteArray→ByteArray):List Tm→List Tm
 | []=>[]
 | x :: xs=>x.ren f :: Tm.renL f xs
end
section
variable {f:ByteArray→ByteArray}
theorem FO:∀ {l:List Bd},Bc l→∀ {n:ByteArray} {t:Tm},lookup l n=some t ↔ (n,t) ∈ l
 | [],_,n,t=>by simp [lookup]
 | b :: l,h,n,t=>by
  have h':b.1 ∉ l.map (·.1)∧Bc l:=by
   unfold Bc at h
   rw [List.map_cons,List.nodup_cons] at h
   exact h
  have ih:=FO h'.2 (n:=n) (t:=t)
  unfold lookup at ih ⊢
  rw [List.find?_cons]
  by_cases hb:b.1=n
  ·rw [decide_eq_true hb]
   constructor
   ·intro h2
    cases h2
    exact List.mem_cons.2 (.inl (by rw [← hb]))
   ·intro h2
    rcases List.mem_cons.1 h2 with h2 | h2
    ·rw [← h2]
     rfl
    ·exact absurd (List.mem_map.2 ⟨_,h2,hb.symm⟩) h'.1
  ·rw [decide_eq_false hb,ih]
   constructor
   ·exact fun h2=>List.mem_cons_of_mem _ h2
   ·intro h2
    rcases List.mem_cons.1 h2 with h2 | h2
    ·rw [← h2] at hb
     exact absurd rfl hb
    ·exact h2
theorem R3 {l m:List Bd} (hp:l.Perm m) (hn:Bc m) (n:ByteArray):lookup l n=lookup m n:=by
 have hl:=Dk hp.symm hn
 cases h:lookup m n with
 | some t=>exact (FO hl).2 (hp.mem_iff.2 ((FO hn).1 h))
 | none =>
  cases h2:lookup l n with
  | none=>rfl
  | some t =>
   rw [(FO hn).2 (hp.mem_iff.1 ((FO hl).1 h2))] at h
   cases h
theorem MH (s:List Bd) (x n:ByteArray) (t:Tm):lookup (s ++ [(x,t)]) n=(lookup s n).or (if x=n then some t else none):=by
 unfold lookup
 rw [List.find?_append]
 cases h:s.find? fun b=>decide (b.1=n) with
 | some b=>simp
 | none =>
  by_cases hx:x=n
  ·simp [hx]
  ·simp [hx]
structure Yx (f:ByteArray→ByteArray) (s s':List Bd):Prop where
 n1:Bc s
 n2:Bc s'
 eq:∀ n,lookup s' (f n)=(lookup s n).map (Tm.ren f)
theorem Yx.nil (f:ByteArray→ByteArray):Yx f [] []:=⟨List.nodup_nil,List.nodup_nil,fun _=>rfl⟩
theorem Yx.one (hf:Ren f) (x:ByteArray) (t:Tm):Yx f [(x,t)] [(f x,t.ren f)]:=⟨by simp [Bc],by simp [Bc],fun n=>by
 have h1:=MH [] x n t
 have h2:=MH [] (f x) (f n) (t.ren f)
 rw [List.nil_append] at h1 h2
 rw [h1,h2]
 by_cases h:x=n
 ·simp [lookup,h]
 ·simp [lookup,h,mt hf.inj.1 h]⟩
end

section
variable {T:List (ByteArray × ByteArray)}
end
def C5 (c:UInt8) (k:Nat):ByteArray:=⟨#[c]⟩ ++ Rc k
theorem F1 (c:UInt8) (k:Nat):(C5 c k).data.toList=c :: Lib.decDigits k:=by
 unfold C5 Rc
 simp
theorem KI {c d:UInt8} {m n:Nat} (h:C5 c m=C5 d n):c=d∧m=n:=by
 have h1:=congrArg (fun b:ByteArray=>b.data.toList) h
 simp only [F1] at h1
 have h2:=congrArg Vz (List.cons.inj h1).2
 rw [JW,JW] at h2
 exact ⟨(List.cons.inj h1).1,h2⟩
theorem Qe (c:UInt8) (k:Nat):Aj (C5 c k) 0=(c.toNat:Int):=by
 unfold Aj
 rw [F1]
 rfl
theorem Mf (c:UInt8) (k:Nat):(C5 c k).size=1 + Lib.nDigits k:=by
 have:(C5 c k).size=(C5 c k).data.toList.length:=by
  show (C5 c k).data.size=_
  rw [Array.length_toList]
 rw [this,F1,List.length_cons,Lib.decDigits_length]
 omega
theorem Nb {c:UInt8} (h1:65≤c.toNat) (h2:c.toNat≤90) (k:Nat):AJ (C5 c k)=true:=by
 unfold AJ
 rw [Qe,Mf,decide_eq_true (by omega),decide_eq_true (show (65:Int)≤(c.toNat:Int) by omega),decide_eq_true (show (c.toNat:Int)≤90 by omega)]
 rfl
theorem XC {c:UInt8} (h1:65≤c.toNat) (h2:c.toNat≤90) {k:Nat} (h:k < 1000000):Ay (C5 c k)=true:=by
 have h6:=PA (u:=k) (k:=6) (by omega) (by omega)
 unfold Ay
 rw [Qe,Mf,decide_eq_true (show 1≤1 + Lib.nDigits k by omega),decide_eq_true (show 1 + Lib.nDigits k≤8 by omega),decide_eq_false (show ¬ ((c.toNat:Int)≤57) by omega)]
 have:Bp (C5 c k) (1 + Lib.nDigits k)=true:=by
  unfold Bp
  rw [F1]
  refine List.all_eq_true.2 fun d hd=>?_
  have hd:=List.mem_of_mem_take hd
  rcases List.mem_cons.1 hd with rfl | hd
  ·unfold BE
   rw [decide_eq_true (show 65≤(d.toNat:Int)∧(d.toNat:Int)≤90 by omega)]
   simp
  ·have:=Gi _ d hd
   unfold BE
   rw [decide_eq_true (show 48≤(d.toNat:Int)∧(d.toNat:Int)≤57 by omega),Bool.or_true]
 rw [this]
 simp
def nmB (c:UInt8):Nat→List ByteArray→List Bd
 | _,[]=>[]
 | k,n :: l=>(n,.mk (C5 c k) []) :: nmB c (k + 1) l
theorem Ms (c:UInt8):∀ (l:List ByteArray) (k:Nat) (n:ByteArray),lookup (nmB c k l) n=if BO l n < l.length then some (.mk (C5 c (k + BO l n)) []) else none
 | [],k,n=>by simp [nmB,Em,BO]
 | x :: l,k,n=>by
  rw [nmB,A5,BO]
  by_cases e:x=n
  ·rw [if_pos e,if_pos e]
   simp
  ·rw [if_neg e,if_neg e,Ms c l (k + 1) n,List.length_cons]
   by_cases h:BO l n < l.length
   ·rw [if_pos h,if_pos (by omega)]
    congr 3
    omega
   ·rw [if_neg h,if_neg (by omega)]
theorem QZ (c:UInt8):∀ (l:List ByteArray) (k:Nat) (n:ByteArray),nmB c k (l ++ [n])=nmB c k l ++ [(n,.mk (C5 c (k + l.length)) [])]
 | [],k,n=>by simp [nmB]
 | x :: l,k,n=>by
  rw [List.cons_append,nmB,QZ c l (k + 1) n,nmB,List.cons_append,List.length_cons,show k + 1 + l.length=k + (l.length + 1) by omega]
theorem PV (c:UInt8):∀ (l:List ByteArray) (k:Nat),(nmB c k l).length=l.length
 | [],_=>rfl
 | n :: l,k=>by rw [nmB,List.length_cons,List.length_cons,PV c l]
theorem KH (c:UInt8):∀ (l:List ByteArray) (k:Nat),(nmB c k l).map (·.1)=l
 | [],_=>rfl
 | n :: l,k=>by rw [nmB,List.map_cons,KH c l]
def D8 (c:UInt8) (k:Nat) (r:Pr):Pr:=(r.1.on (nmB c k r.1.varsOf),r.2.on (nmB c k r.1.varsOf))

def KX (l m:List Bd):Prop:=∀ n x,lookup l n=some x→lookup m n=some x
theorem KX.trans {a b c:List Bd} (h:KX a b) (k:KX b c):KX a c:=fun n x e=>k n x (h n x e)
theorem G7 {l:List Bd} {b:Bd} {n:ByteArray}:lookup (l ++ [b]) n=match lookup l n with | some x=>some x | none=>if b.1=n then some b.2 else none:=by
 rw [C1,A5,Em]
 all_goals cases lookup l n <;> rfl
mutual
theorem YR:∀ (p t:Tm) (l:List Bd),KX l (p.mt t l).1
 | .mk n xs,t,l=>by
  rw [Tm.mt]
  split
  ·split
   ·exact fun _ _ h=>h
   ·intro m x h
    rw [G7,h]
  ·split
   ·exact PK xs t.args l
   ·exact fun _ _ h=>h
theorem PK:∀ (xs ys:List Tm) (l:List Bd),KX l (Tm.mtL xs ys l).1
 | [],ys,l=>by rw [Tm.mtL_nil];exact fun _ _ h=>h
 | x :: xs,[],l=>by rw [Tm.mtL];exact fun _ _ h=>h;simp
 | x :: xs,y :: ys,l=>by
  rw [Tm.mtL]
  split
  ·exact (YR x y l).trans (PK xs ys _)
  ·exact YR x y l
end
mutual
theorem QV:∀ (p:Tm),p.chk=0→∀ (t:Tm) (l:List Bd),(p.mt t l).2=true→∀ m:List Bd,(∀ b ∈ m,AJ b.1=true)→KX (p.mt t l).1 m→p.on m=t
 | .mk n xs,hc,t,l,h,m,hm,hx=>by
  obtain ⟨c1,c2⟩:=Tm.chk_args hc
  simp only [Tm.name_mk,Tm.args_mk] at c1 c2
  cases hv:AJ n with
  | true =>
   have h0:=c1 hv
   subst h0
   cases hl:lookup l n with
   | some x =>
    rw [Tm.mt_old (p:=.mk n []) hv hl] at h hx
    rw [Tm.on_leaf (t:=.mk n []) (hx n x hl) rfl]
    exact (Tm.beq_iff x t).1 h
   | none =>
    rw [Tm.mt_new (p:=.mk n []) hv hl] at h hx
    exact Tm.on_leaf (t:=.mk n []) (hx n t (by rw [G7,hl];simp [Tm.name_mk])) rfl
  | false =>
   by_cases hk:n=t.name∧xs.length=t.args.length
   ·rw [Tm.mt_knot (p:=.mk n xs) hv hk.1 hk.2] at h hx
    rw [YF hv hm,OT xs c2 t.args l hk.2 h m hm hx]
    cases t
    rw [hk.1]
    rfl
   ·rw [Tm.mt_clash (p:=.mk n xs) hv hk] at h
    cases h
theorem OT:∀ (xs:List Tm),(∀ x ∈ xs,x.chk=0)→∀ (ys:List Tm) (l:List Bd),xs.length=ys.length→(Tm.mtL xs ys l).2=true→∀ m:List Bd,(∀ b ∈ m,AJ b.1=true)→KX (Tm.mtL xs ys l).1 m→xs.map (Tm.on m)=ys
 | [],_,[],l,_,_,m,_,_=>rfl
 | x :: xs,hc,y :: ys,l,hl,h,m,hm,hx=>by
  rw [Tm.mtL] at h hx
  by_cases h1:(x.mt y l).2=true
  ·rw [if_pos h1] at h hx
   rw [List.map_cons,QV x (hc x (by simp)) y l h1 m hm ((PK xs ys _).trans hx),OT xs (fun a ha=>hc a (by simp [ha])) ys _ (by simpa using hl) h m hm hx]
  ·rw [if_neg h1] at h
   cases h
 | [],_,y :: ys,l,hl,_,m,_,_=>by simp at hl
 | x :: xs,_,[],l,hl,_,m,_,_=>by simp at hl
end
def LJ (s l:List Bd):Prop:=∀ n x,lookup l n=some x→(Tf n).on s=x
mutual
theorem Ko {s:List Bd} (hs:∀ b ∈ s,AJ b.1=true):∀ (p:Tm),p.chk=0→∀ l:List Bd,LJ s l→(p.mt (p.on s) l).2=true∧LJ s (p.mt (p.on s) l).1
 | .mk n xs,hc,l,ha=>by
  obtain ⟨c1,c2⟩:=Tm.chk_args hc
  simp only [Tm.name_mk,Tm.args_mk] at c1 c2
  cases hv:AJ n with
  | true =>
   have h0:=c1 hv
   subst h0
   cases hl:lookup l n with
   | some x =>
    rw [Tm.mt_old (p:=.mk n []) hv hl]
    exact ⟨(Tm.beq_iff _ _).2 (ha n x hl).symm,ha⟩
   | none =>
    rw [Tm.mt_new (p:=.mk n []) hv hl]
    refine ⟨rfl,fun m x h=>?_⟩
    rw [G7] at h
    cases hm:lookup l m with
    | some z=>rw [hm] at h;cases h;exact ha m _ hm
    | none =>
     rw [hm] at h
     have h9:(if n=m then some ((Tm.mk n []).on s) else none)=some x:=h
     by_cases e:n=m
     ·rw [if_pos e] at h9
      rw [← e]
      exact Option.some.inj h9
     ·rw [if_neg e] at h9
      cases h9
  | false =>
   rw [YF hv hs,Tm.mt_knot (p:=.mk n xs) (t:=.mk n (xs.map (Tm.on s))) hv rfl (by simp [Tm.args_mk])]
   exact I6 hs xs c2 l ha
theorem I6 {s:List Bd} (hs:∀ b ∈ s,AJ b.1=true):∀ (xs:List Tm),(∀ x ∈ xs,x.chk=0)→∀ l:List Bd,LJ s l→(Tm.mtL xs (xs.map (Tm.on s)) l).2=true∧LJ s (Tm.mtL xs (xs.map (Tm.on s)) l).1
 | [],_,l,ha=>⟨rfl,ha⟩
 | x :: xs,hc,l,ha=>by
  obtain ⟨h1,h2⟩:=Ko hs x (hc x (by simp)) l ha
  rw [List.map_cons,Tm.mtL,if_pos h1]
  exact I6 hs xs (fun a ha=>hc a (by simp [ha])) _ h2
end
def T4 (b:Bd):Prop:=AJ b.1=true∧Ay b.1=true∧b.2.chk=0
theorem VD {t:Tm} (h:t.chk=0):Ay t.name=true:=by
 have:=OY h
 unfold Bl at this
 split at this
 ·assumption
 ·cases this
mutual
theorem Ty:∀ (p:Tm),p.chk=0→∀ (t:Tm),t.chk=0→∀ (l:List Bd),(∀ b ∈ l,T4 b)→∀ b ∈ (p.mt t l).1,T4 b
 | .mk n xs,hc,t,ht,l,hl=>by
  obtain ⟨c1,c2⟩:=Tm.chk_args hc
  simp only [Tm.name_mk,Tm.args_mk] at c1 c2
  rw [Tm.mt]
  split
  ·rename_i hv
   split
   ·exact hl
   ·intro b hb
    rcases List.mem_append.1 hb with hb | hb
    ·exact hl b hb
    ·rw [List.mem_singleton] at hb
     subst hb
     exact ⟨hv,VD hc,ht⟩
  ·split
   ·exact Rg xs c2 t.args (Tm.chk_args ht).2 l hl
   ·exact hl
theorem Rg:∀ (xs:List Tm),(∀ x ∈ xs,x.chk=0)→∀ (ys:List Tm),(∀ y ∈ ys,y.chk=0)→∀ (l:List Bd),(∀ b ∈ l,T4 b)→∀ b ∈ (Tm.mtL xs ys l).1,T4 b
 | [],_,ys,_,l,hl=>by rw [Tm.mtL_nil];exact hl
 | x :: xs,_,[],_,l,hl=>by rw [Tm.mtL];exact hl;simp
 | x :: xs,hc,y :: ys,hy,l,hl=>by
  rw [Tm.mtL]
  have h1:=Ty x (hc x (by simp)) y (hy y (by simp)) l hl
  split
  ·exact Rg xs (fun a ha=>hc a (by simp [ha])) ys (fun a ha=>hy a (by simp [ha])) _ h1
  ·exact h1
end
section
variable {p t:Tm}
theorem Yv (h:CN p t=true):A8 p t=BS (p.mt t []).1:=by
 unfold A8
 rw [if_pos (show (p.mt t []).2=true from h)]
theorem Fs (hp:p.chk=0) (ht:t.chk=0):OkB (A8 p t):=by
 unfold A8
 have hg:=Ty p hp t ht [] (by simp)
 split
 ·exact ⟨Bo (JB p t),fun b hb=>(hg b (BT.1 hb)).1,fun b hb=>(hg b (BT.1 hb)).2.1,fun b hb=>(hg b (BT.1 hb)).2.2⟩
 ·exact ⟨List.Pairwise.nil,by simp,by simp,by simp⟩
theorem Ud:∀ b ∈ A8 p t,b.2.size≤t.size:=fun b hb=>by
 unfold A8 at hb
 split at hb
 ·exact UM p t b (BT.1 hb)
 ·simp at hb
theorem QN:(A8 p t).length≤p.size:=by
 unfold A8
 split
 ·rw [BY];exact YP p t
 ·simp
theorem Pe (hp:p.chk=0) (ht:t.chk=0) (h:CN p t=true):p.on (A8 p t)=t:=by
 refine QV p hp t [] h _ (Fs hp ht).var fun n x hl=>?_
 rw [Yv h]
 exact (IN (Dk (CL _).symm (JB p t))).2 (BT.2 ((IN (JB p t)).1 hl))
theorem Xy {s:List Bd} (hp:p.chk=0) (hs:∀ b ∈ s,AJ b.1=true):CN p (p.on s)=true :=
 (Ko hs p hp [] fun n x h=>by rw [Em] at h;cases h).1
end

def E_ {α:Type} (f:α→Int):List α→Int
 | []=>0
 | x :: xs=>if f x=0 then E_ f xs else f x
theorem E6 {α:Type} (f:α→Int):∀ xs ys:List α,E_ f (xs ++ ys)=if E_ f xs=0 then E_ f ys else E_ f xs
 | [],ys=>rfl
 | x :: xs,ys=>by
  by_cases h:f x=0
  ·have e1:E_ f (x :: (xs ++ ys))=E_ f (xs ++ ys):=if_pos h
   have e2:E_ f (x :: xs)=E_ f xs:=if_pos h
   rw [List.cons_append,e1,e2,E6 f xs ys]
  ·have e1:E_ f (x :: (xs ++ ys))=f x:=if_neg h
   have e2:E_ f (x :: xs)=f x:=if_neg h
   rw [List.cons_append,e1,e2,if_neg h]
theorem X5 {α:Type} {f:α→Int} {xs:List α} {k:Nat} {a:α} (h:xs[k]?=some a) (h0:E_ f (xs.take k)=0):(f a=0→E_ f (xs.take (k + 1))=0)∧(f a ≠ 0→E_ f xs=f a):=by
 refine ⟨fun ha=>?_,fun ha=>?_⟩
 ·rw [Al h,E6,if_pos h0]
  simp [E_,ha]
 ·have e:xs=xs.take k ++ a :: xs.drop (k + 1):=by
   rw [← Bi h,List.take_append_drop]
  rw [e,E6,if_pos h0]
  simp [E_,ha]
theorem N9 {α:Type} {f:α→Int}:∀ {xs:List α},E_ f xs=0→∀ x ∈ xs,f x=0
 | [],_,x,h=>by cases h
 | y :: ys,h0,x,hx=>by
  rw [E_] at h0
  by_cases hy:f y=0
  ·rw [if_pos hy] at h0
   rcases List.mem_cons.1 hx with rfl | hx
   ·exact hy
   ·exact N9 h0 x hx
  ·rw [if_neg hy] at h0
   exact absurd h0 hy
def MF (r:Pr):Bool:=r.2.varsOf.any fun v=>!Cq v r.1.varsOf
def HR (r:Pr):Int:=if CY r.1 r.2=0 then (if AJ r.1.name=true then 2 else if MF r=true then 15 else 0) else CY r.1 r.2
def BF (R:List Pr):Int:=if 40 < R.length then 3 else E_ HR R
structure AZ (R:List Pr):Prop where
 len:R.length≤40
 left:∀ r ∈ R,r.1.may=0
 right:∀ r ∈ R,r.2.may=0
 head:∀ r ∈ R,AJ r.1.name=false
 vars:∀ r ∈ R,∀ v ∈ r.2.varsOf,v ∈ r.1.varsOf
theorem PC {r:Pr} (h:HR r=0):r.1.may=0∧r.2.may=0∧AJ r.1.name=false∧MF r=false:=by
 unfold HR at h
 by_cases h1:CY r.1 r.2=0
 ·rw [if_pos h1] at h
  by_cases h2:AJ r.1.name=true
  ·rw [if_pos h2] at h;cases h
  ·rw [if_neg h2] at h
   by_cases h3:MF r=true
   ·rw [if_pos h3] at h;cases h
   ·unfold CY at h1
    by_cases h4:r.1.may=0
    ·rw [if_pos h4] at h1
     exact ⟨h4,h1,by simpa using h2,by simpa using h3⟩
    ·rw [if_neg h4] at h1
     exact absurd h1 h4
 ·rw [if_neg h1] at h
  exact absurd h h1
theorem He {R:List Pr} (h:BF R=0):AZ R:=by
 unfold BF at h
 by_cases h0:40 < R.length
 ·rw [if_pos h0] at h;cases h
 ·rw [if_neg h0] at h
  have key:=fun r hr=>PC (N9 h r hr)
  refine ⟨by omega,fun r hr=>(key r hr).1,fun r hr=>(key r hr).2.1,fun r hr=>(key r hr).2.2.1,fun r hr v hv=>?_⟩
  have:=(key r hr).2.2.2
  unfold MF at this
  rw [List.any_eq_false] at this
  have:=this v hv
  simp only [Bool.not_eq_true',Bool.not_eq_false] at this
  exact DY.1 this
def DJ (R:List Pr) (t:Tm):Int:=if BF R=0 then t.may else BF R
def Ey (t:Tm):Nat→List Pr→Tm × Int × Int
 | _,[]=>(Tm.nil,-1,0)
 | k,r :: l=>if CN r.1 t=true then ((A7 (A8 r.1 t) r.2).1,(k:Int),if (A7 (A8 r.1 t) r.2).2=true then 0 else 8) else Ey t (k + 1) l
theorem Pk {s:List Bd} {t:Tm} (h:¬ (A7 s t).2=true):(A7 s t).1=Tm.nil:=by
 unfold A7 at *
 split
 ·rename_i h1
  rw [if_pos h1] at h
  exact absurd rfl h
 ·rfl
theorem Mm (R:List Pr) (t:Tm):∀ (l:List Pr) (k:Nat),match CE R t l with
  | none=>Ey t k l=(Tm.nil,-1,0)
  | some (x,e)=>∃ i:Nat,Ey t k l=(x,(i:Int),e)
 | [],k=>rfl
 | r :: l,k=>by
  rw [CE,Ey]
  by_cases h:CN r.1 t=true
  ·rw [if_pos h,if_pos h]
   by_cases h2:(A7 (A8 r.1 t) r.2).2=true
   ·rw [if_pos h2,if_pos h2]
    exact ⟨k,rfl⟩
   ·rw [if_neg h2,if_neg h2]
    exact ⟨k,by rw [Pk h2]⟩
  ·rw [if_neg h,if_neg h]
   exact Mm R t l (k + 1)
theorem UK {R:List Pr}:∀ {xs:List Tm} {k:Nat} {a y:Tm} {e:Int},xs[k]?=some a→(∀ b ∈ xs.take k,b.inn R=none)→a.inn R=some (y,e)→Tm.innL R xs=some (xs.set k y,e)
 | [],k,a,y,e,h,_,_=>by simp at h
 | x :: xs,0,a,y,e,h,_,hy=>by
  simp at h
  subst h
  rw [Tm.innL,hy]
  rfl
 | x :: xs,k + 1,a,y,e,h,hn,hy=>by
  rw [Tm.innL,hn x (by simp),UK (xs:=xs) (k:=k) (by simpa using h) (fun b hb=>hn b (by rw [List.take_succ_cons];exact List.mem_cons_of_mem _ hb)) hy]
  rfl
theorem Qu {R:List Pr}:∀ {xs:List Tm},(∀ b ∈ xs,b.inn R=none)→Tm.innL R xs=none
 | [],_=>rfl
 | x :: xs,h=>by rw [Tm.innL,h x (by simp),Qu (fun b hb=>h b (List.mem_cons_of_mem _ hb))]
theorem Tt {R:List Pr}:∀ {xs:List Tm} {k:Nat} {a y:Tm} {e:Int},xs[k]?=some a→(∀ b ∈ xs.take k,b.out R=none)→a.out R=some (y,e)→Tm.outL R xs=some (xs.set k y,e)
 | [],k,a,y,e,h,_,_=>by simp at h
 | x :: xs,0,a,y,e,h,_,hy=>by
  simp at h
  subst h
  rw [Tm.outL,hy]
  rfl
 | x :: xs,k + 1,a,y,e,h,hn,hy=>by
  rw [Tm.outL,hn x (by simp),Tt (xs:=xs) (k:=k) (by simpa using h) (fun b hb=>hn b (by rw [List.take_succ_cons];exact List.mem_cons_of_mem _ hb)) hy]
  rfl
theorem Q1 {R:List Pr}:∀ {xs:List Tm},(∀ b ∈ xs,b.out R=none)→Tm.outL R xs=none
 | [],_=>rfl
 | x :: xs,h=>by rw [Tm.outL,h x (by simp),Q1 (fun b hb=>h b (List.mem_cons_of_mem _ hb))]
theorem KA {R:List Pr} (hR:AZ R) {t x:Tm} {e:Int} (ht:t.chk=0):∀ {l:List Pr},(∀ r ∈ l,r ∈ R)→CE R t l=some (x,e)→x.chk=0 ∨ e=8
 | [],_,h=>by cases h
 | r :: l,hl,h=>by
  rw [CE] at h
  have hr:=hl r (by simp)
  split at h
  ·rename_i hc
   split at h
   ·rename_i h2
    cases h
    left
    have e1:(A7 (A8 r.1 t) r.2).1=r.2.on (A8 r.1 t):=by
     unfold A7 at h2 ⊢
     split
     ·rfl
     ·rename_i h3
      rw [if_neg h3] at h2
      cases h2
    rw [e1]
    exact O8 (Fs (Tm.may_chk (hR.left r hr)).1 ht).chk (Tm.may_chk (hR.right r hr)).1
   ·cases h
    exact .inr rfl
  ·exact KA hR ht (fun r hr=>hl r (List.mem_cons_of_mem _ hr)) h
theorem JF {n:ByteArray} {xs:List Tm} {k:Nat} {y:Tm} (h:(Tm.mk n xs).chk=0) (hk:k < xs.length) (hy:y.chk=0):(Tm.mk n (xs.set k y)).chk=0:=by
 refine P8 h (by simp) fun z hz=>?_
 rcases List.mem_or_eq_of_mem_set hz with hz | rfl
 ·exact (Tm.chk_args h).2 z hz
 ·exact hy
theorem Fk:∀ {xs:List Tm} {k:Nat} {a:Tm} (y:Tm),xs[k]?=some a→Tm.sizes (xs.set k y) + a.size=Tm.sizes xs + y.size
 | [],k,a,y,h=>by simp at h
 | x :: xs,0,a,y,h=>by
  simp at h
  subst h
  simp only [List.set_cons_zero,Tm.sizes]
  omega
 | x :: xs,k + 1,a,y,h=>by
  have:=Fk (xs:=xs) (k:=k) y (by simpa using h)
  simp only [List.set_cons_succ,Tm.sizes]
  omega
mutual
theorem JG {R:List Pr} (hR:AZ R):∀ {t x:Tm} {e:Int},t.chk=0→t.inn R=some (x,e)→(e=0 ∨ e=8)∧(e=0→x.chk=0)∧x.size≤t.size + 2000
 | .mk n xs,x,e,hc,h=>by
  rw [Tm.inn] at h
  split at h
  ·rename_i ys e' hy
   cases h
   obtain ⟨k,a,y,h1,h2,h3,h4,h5,h6⟩:=Jm (xs:=xs) hR (fun b hb=>(Tm.chk_args hc).2 b hb) hy
   subst h2
   have h7:=Fk y h1
   have hk:=CW h1
   refine ⟨h4,fun he=>JF hc hk (h5 he),?_⟩
   have z1:(Tm.mk n (xs.set k y)).size=1 + Tm.sizes (xs.set k y):=rfl
   have z2:(Tm.mk n xs).size=1 + Tm.sizes xs:=rfl
   omega
  ·obtain ⟨h1,h2,h3⟩:=Ji h
   refine ⟨h1,fun he=>(KA hR hc (fun r hr=>hr) h).resolve_right (by omega),by omega⟩
theorem Jm {R:List Pr} (hR:AZ R):∀ {xs ys:List Tm} {e:Int},(∀ b ∈ xs,b.chk=0)→Tm.innL R xs=some (ys,e)→∃ k a y,xs[k]?=some a∧ys=xs.set k y∧a.inn R=some (y,e)∧(e=0 ∨ e=8)∧(e=0→y.chk=0)∧y.size≤a.size + 2000
 | [],ys,e,_,h=>by cases h
 | x :: xs,ys,e,hc,h=>by
  rw [Tm.innL] at h
  split at h
  ·rename_i y e' hy
   cases h
   obtain ⟨q1,q2,q3⟩:=JG hR (hc x (by simp)) hy
   exact ⟨0,x,y,rfl,rfl,hy,q1,q2,q3⟩
  ·split at h
   ·rename_i ys' e' hy
    cases h
    obtain ⟨k,a,y,h1,h2,h3,h4⟩:=Jm hR (fun b hb=>hc b (List.mem_cons_of_mem _ hb)) hy
    exact ⟨k + 1,a,y,by simpa using h1,by rw [h2];rfl,h3,h4⟩
   ·cases h
end
mutual
theorem Lu {R:List Pr} (hR:AZ R):∀ {t x:Tm} {e:Int},t.chk=0→t.out R=some (x,e)→(e=0 ∨ e=8)∧(e=0→x.chk=0)∧x.size≤t.size + 2000
 | .mk n xs,x,e,hc,h=>by
  rw [Tm.out] at h
  split at h
  ·rename_i r hr
   obtain ⟨x',e'⟩:=r
   cases h
   obtain ⟨h1,h2,h3⟩:=Ji hr
   refine ⟨h1,fun he=>(KA hR hc (fun r hr=>hr) hr).resolve_right (by omega),by omega⟩
  ·split at h
   ·rename_i ys e' hy
    cases h
    obtain ⟨k,a,y,h1,h2,h3,h4,h5,h6⟩:=KE (xs:=xs) hR (fun b hb=>(Tm.chk_args hc).2 b hb) hy
    subst h2
    have h7:=Fk y h1
    have hk:=CW h1
    refine ⟨h4,fun he=>JF hc hk (h5 he),?_⟩
    have z1:(Tm.mk n (xs.set k y)).size=1 + Tm.sizes (xs.set k y):=rfl
    have z2:(Tm.mk n xs).size=1 + Tm.sizes xs:=rfl
    omega
   ·cases h
theorem KE {R:List Pr} (hR:AZ R):∀ {xs ys:List Tm} {e:Int},(∀ b ∈ xs,b.chk=0)→Tm.outL R xs=some (ys,e)→∃ k a y,xs[k]?=some a∧ys=xs.set k y∧a.out R=some (y,e)∧(e=0 ∨ e=8)∧(e=0→y.chk=0)∧y.size≤a.size + 2000
 | [],ys,e,_,h=>by cases h
 | x :: xs,ys,e,hc,h=>by
  rw [Tm.outL] at h
  split at h
  ·rename_i y e' hy
   cases h
   obtain ⟨q1,q2,q3⟩:=Lu hR (hc x (by simp)) hy
   exact ⟨0,x,y,rfl,rfl,hy,q1,q2,q3⟩
  ·split at h
   ·rename_i ys' e' hy
    cases h
    obtain ⟨k,a,y,h1,h2,h3,h4⟩:=KE hR (fun b hb=>hc b (List.mem_cons_of_mem _ hb)) hy
    exact ⟨k + 1,a,y,by simpa using h1,by rw [h2];rfl,h3,h4⟩
   ·cases h
end

mutual
theorem DC:∀ (t:Tm) (p:List Int),p ∈ t.places→∃ x,t.atP p=some x∧x ∈ t.knots
 | .mk n xs,p,h=>by
  rw [Tm.places] at h
  rcases List.mem_cons.1 h with rfl | h
  ·exact ⟨_,rfl,by rw [Tm.knots];exact List.mem_cons_self⟩
  ·obtain ⟨x,h1,h2⟩:=H5 n xs 0 xs p (by simp) h
   exact ⟨x,h1,by rw [Tm.knots];exact List.mem_cons_of_mem _ h2⟩
theorem H5 (n:ByteArray) (all:List Tm):∀ (k:Nat) (xs:List Tm) (p:List Int),all.drop k=xs→p ∈ Tm.placesFrom k xs→∃ x,(Tm.mk n all).atP p=some x∧x ∈ Tm.knotsL xs
 | _,[],p,_,h=>by simp [Tm.placesFrom] at h
 | k,x :: xs,p,hd,h=>by
  have hk:all[k]?=some x:=by
   have:=congrArg (fun l=>l[0]?) hd
   simpa using this
  rw [Tm.placesFrom] at h
  rcases List.mem_append.1 h with h | h
  ·obtain ⟨q,hq,rfl⟩:=List.mem_map.1 h
   obtain ⟨y,h1,h2⟩:=DC x q hq
   exact ⟨y,by rw [Tm.atP_at (t:=.mk n all) hk];exact h1,by rw [Tm.knotsL];exact List.mem_append_left _ h2⟩
  ·obtain ⟨y,h1,h2⟩:=H5 n all (k + 1) xs p (by rw [← List.tail_drop,hd];rfl) h
   exact ⟨y,h1,by rw [Tm.knotsL];exact List.mem_append_right _ h2⟩
end
mutual
theorem DS:∀ (t x:Tm),t.chk=0→x ∈ t.knots→x.chk=0
 | .mk n xs,x,hc,h=>by
  rw [Tm.knots] at h
  rcases List.mem_cons.1 h with rfl | h
  ·exact hc
  ·exact OP xs x (fun b hb=>(Tm.chk_args hc).2 b hb) h
theorem OP:∀ (xs:List Tm) (x:Tm),(∀ b ∈ xs,b.chk=0)→x ∈ Tm.knotsL xs→x.chk=0
 | [],x,_,h=>by simp [Tm.knotsL] at h
 | y :: ys,x,hc,h=>by
  rw [Tm.knotsL] at h
  rcases List.mem_append.1 h with h | h
  ·exact DS y x (hc y (by simp)) h
  ·exact OP ys x (fun b hb=>hc b (List.mem_cons_of_mem _ hb)) h
end
mutual
theorem DD:∀ (t x:Tm),x ∈ t.knots→x.size≤t.size
 | .mk n xs,x,h=>by
  rw [Tm.knots] at h
  rcases List.mem_cons.1 h with rfl | h
  ·exact Nat.le_refl _
  ·have:=MU xs x h
   simp only [Tm.size]
   omega
theorem MU:∀ (xs:List Tm) (x:Tm),x ∈ Tm.knotsL xs→x.size≤Tm.sizes xs
 | [],x,h=>by simp [Tm.knotsL] at h
 | y :: ys,x,h=>by
  rw [Tm.knotsL] at h
  simp only [Tm.sizes]
  rcases List.mem_append.1 h with h | h
  ·have:=DD y x h;omega
  ·have:=MU ys x h;omega
end
def LW (inner:Bool) (R:List Pr) (t:Tm):Option (Tm × Int):=if inner=true then t.inn R else t.out R
theorem SJ {inner:Bool} {R:List Pr} (hR:AZ R) {t x:Tm} {e:Int} (hc:t.chk=0) (h:LW inner R t=some (x,e)):(e=0 ∨ e=8)∧(e=0→x.chk=0)∧x.size≤t.size + 2000:=by
 cases inner with
 | true=>exact JG hR hc h
 | false=>exact Lu hR hc h
theorem RZ {step:Tm→Option (Tm × Int)}:∀ (k:Nat) (n:Int) (t:Tm),(BA step k n t).2.2 ≠ 0→BA step k n t=(Tm.nil,0,(BA step k n t).2.2)
 | 0,n,t,h=>by
  unfold BA at h ⊢
  split at h
  ·exact absurd rfl h
  ·rfl
 | k + 1,n,t,h=>by
  rw [BA] at h ⊢
  split at h
  ·exact absurd rfl h
  ·rename_i x e hs
   by_cases he:e ≠ 0
   ·rw [if_pos he] at h ⊢
   ·rw [if_neg he] at h ⊢
    by_cases hz:2000 < x.size
    ·rw [if_pos hz] at h ⊢
    ·rw [if_neg hz] at h ⊢
     exact RZ k (n + 1) x h
def D3 (R:List Pr) (most:Nat) (a b:Tm):Bool × Int :=
 let x:=BA (Tm.inn R) most 0 a
 let y:=BA (Tm.inn R) most 0 b
 if x.2.2 ≠ 0 then (false,x.2.2) else if y.2.2 ≠ 0 then (false,y.2.2) else (x.1.beq y.1,0)

def Bw:List (Tm × Nat)→Tm→Tm
 | [],x=>x
 | (t,i) :: V,x=>Bw V (.mk t.name (t.args.set i x))
mutual
def Tm.visits:List (Tm × Nat)→Tm→List (List (Tm × Nat) × Tm)
 | V,.mk n xs=>(V,.mk n xs) :: Tm.visitsL V (.mk n xs) 0 xs
def Tm.visitsL:List (Tm × Nat)→Tm→Nat→List Tm→List (List (Tm × Nat) × Tm)
 | _,_,_,[]=>[]
 | V,t,k,x :: xs=>Tm.visits ((t,k) :: V) x ++ Tm.visitsL V t (k + 1) xs
end
theorem Tm.visits_eq (V:List (Tm × Nat)) (t:Tm):t.visits V=(V,t) :: Tm.visitsL V t 0 t.args:=by cases t;rfl
theorem O6 {V:List (Tm × Nat)} {t a:Tm} {k:Nat} {xs:List Tm} (h:xs[k]?=some a):Tm.visitsL V t k (xs.drop k)=a.visits ((t,k) :: V) ++ Tm.visitsL V t (k + 1) (xs.drop (k + 1)):=by
 obtain ⟨hk,he⟩:=List.getElem?_eq_some_iff.1 h
 rw [List.drop_eq_getElem_cons hk,he,Tm.visitsL]
abbrev IW:=(Tm→Tm) × Tm
def DA (q:List (Tm × Nat) × Tm):IW:=(Bw q.1,q.2)
def Gl (V:List (Tm × Nat)) (t:Tm) (p:List Int):IW:=(fun y=>Bw V (t.putP p y),(t.atP p).getD Tm.nil)
mutual
theorem Dx:∀ (t:Tm) (V:List (Tm × Nat)),(t.visits V).map DA=t.places.map (Gl V t)
 | .mk n xs,V=>by
  rw [Tm.visits,Tm.places,List.map_cons,List.map_cons,HM n xs 0 xs V (by simp)]
  rfl
theorem HM (n:ByteArray) (all:List Tm):∀ (k:Nat) (xs:List Tm) (V:List (Tm × Nat)),all.drop k=xs→(Tm.visitsL V (.mk n all) k xs).map DA=(Tm.placesFrom k xs).map (Gl V (.mk n all))
 | _,[],_,_=>rfl
 | k,x :: xs,V,h=>by
  have hk:all[k]?=some x:=by
   have:=congrArg (fun l=>l[0]?) h
   simpa using this
  rw [Tm.visitsL,Tm.placesFrom,List.map_append,List.map_append,Dx x,HM n all (k + 1) xs V (by rw [← List.tail_drop,h];rfl),List.map_map]
  congr 1
  refine List.map_congr_left fun p _=>?_
  show (fun y=>Bw ((Tm.mk n all,k) :: V) (x.putP p y),(x.atP p).getD Tm.nil)=(fun y=>Bw V ((Tm.mk n all).putP ((k:Int) :: p) y),((Tm.mk n all).atP ((k:Int) :: p)).getD Tm.nil)
  rw [Tm.atP_at (t:=.mk n all) hk]
  congr 1
  funext y
  rw [Tm.putP_at (t:=.mk n all) hk]
  rfl
end
def Ct (q:IW):List Pr→Option (List Tm)
 | []=>some []
 | r :: l=>if CN r.1 q.2=true then (if (A7 (A8 r.1 q.2) r.2).2=true∧(q.1 (A7 (A8 r.1 q.2) r.2).1).size≤2000 then (Ct q l).map (q.1 (A7 (A8 r.1 q.2) r.2).1 :: ·) else none) else Ct q l
def BL (R:List Pr):List IW→Option (List Tm)
 | []=>some []
 | q :: l=>match Ct q R with
  | none=>none
  | some a=>(BL R l).map (a ++ ·)
def Gr (R:List Pr) (t:Tm):Option (List Tm):=BL R (t.places.map (Gl [] t))
theorem NF (R:List Pr) (t:Tm):Gr R t=BL R ((t.visits []).map DA):=by rw [Dx];rfl
theorem FB (R:List Pr):∀ a b:List IW,BL R (a ++ b)=match BL R a with
  | none=>none
  | some x=>(BL R b).map (x ++ ·)
 | [],b=>by
  simp only [List.nil_append,BL]
  cases BL R b <;> simp
 | q :: a,b=>by
  rw [List.cons_append,BL,BL,FB R a b]
  cases Ct q R with
  | none=>rfl
  | some x =>
   simp only
   cases BL R a with
   | none=>rfl
   | some y=>cases BL R b <;> simp
theorem P6 {R:List Pr} {a:List IW} {q:IW} {x y:List Tm} (h:BL R a=some x) (h2:Ct q R=some y):BL R (a ++ [q])=some (x ++ y):=by
 rw [FB,h]
 simp [BL,h2]
theorem Sq {R:List Pr} {a b:List IW} {q:IW} (h2:Ct q R=none):BL R (a ++ q :: b)=none:=by
 rw [FB,BL,h2]
 cases BL R a <;> rfl
theorem OE (q:IW):∀ (l:List Pr) (k:Nat),(Ey q.2 k l=(Tm.nil,-1,0)∧Ct q l=some []) ∨
  ∃ (i:Nat) (y:Tm) (r:Pr),k≤i∧i < k + l.length∧r ∈ l∧CN r.1 q.2=true∧(A7 (A8 r.1 q.2) r.2).1=y∧((Ey q.2 k l=(y,(i:Int),0)∧(A7 (A8 r.1 q.2) r.2).2=true∧Ct q l=if (q.1 y).size≤2000 then (Ct q (l.drop (i + 1 - k))).map (q.1 y :: ·) else none) ∨ (Ey q.2 k l=(Tm.nil,(i:Int),8)∧Ct q l=none))
 | [],k=>.inl ⟨rfl,rfl⟩
 | r :: l,k=>by
  rw [Ey,Ct]
  by_cases h:CN r.1 q.2=true
  ·rw [if_pos h,if_pos h]
   refine .inr ⟨k,_,r,Nat.le_refl k,by simp,by simp,h,rfl,?_⟩
   by_cases h2:(A7 (A8 r.1 q.2) r.2).2=true
   ·refine .inl ⟨by rw [if_pos h2],h2,?_⟩
    by_cases h3:(q.1 (A7 (A8 r.1 q.2) r.2).1).size≤2000
    ·rw [if_pos ⟨h2,h3⟩,if_pos h3,show k + 1 - k=1 by omega]
     rfl
    ·rw [if_neg (fun h=>h3 h.2),if_neg h3]
   ·exact .inr ⟨by rw [if_neg h2,Pk h2],by rw [if_neg (fun h=>h2 h.1)]⟩
  ·rw [if_neg h,if_neg h]
   rcases OE q l (k + 1) with ⟨h1,h3⟩ | ⟨i,y,r',h1,h2,hm,hc,hy,h3⟩
   ·exact .inl ⟨h1,h3⟩
   ·refine .inr ⟨i,y,r',by omega,by rw [List.length_cons];omega,List.mem_cons_of_mem _ hm,hc,hy,?_⟩
    rcases h3 with ⟨h3,h4,h5⟩ | h3
    ·refine .inl ⟨h3,h4,?_⟩
     rw [h5,show i + 1 - k=(i + 1 - (k + 1)) + 1 by omega,List.drop_succ_cons]
    ·exact .inr h3
theorem Fl {s:List Bd} {t:Tm}:(A7 s t).1.size≤2000:=by
 unfold A7
 split
 ·assumption
 ·decide
def N5:List (Tm × Nat)→Prop
 | []=>True
 | (t,i) :: V=>i < t.args.length∧t.args.length≤1000000∧N5 V
mutual
theorem Nx:∀ (t:Tm) (V:List (Tm × Nat)),N5 V→t.size≤1000000→∀ q ∈ t.visits V,N5 q.1∧q.2 ∈ t.knots
 | .mk n xs,V,hV,hz,q,hq=>by
  rw [Tm.visits] at hq
  rw [Tm.knots]
  rcases List.mem_cons.1 hq with rfl | hq
  ·exact ⟨hV,List.mem_cons_self⟩
  ·have:=MA n xs 0 xs V (by simp) hV hz q hq
   exact ⟨this.1,List.mem_cons_of_mem _ this.2⟩
theorem MA (n:ByteArray) (all:List Tm):∀ (k:Nat) (xs:List Tm) (V:List (Tm × Nat)),all.drop k=xs→N5 V→(Tm.mk n all).size≤1000000→∀ q ∈ Tm.visitsL V (.mk n all) k xs,N5 q.1∧q.2 ∈ Tm.knotsL xs
 | _,[],_,_,_,_,q,hq=>by simp [Tm.visitsL] at hq
 | k,x :: xs,V,h,hV,hz,q,hq=>by
  have hk:all[k]?=some x:=by
   have:=congrArg (fun l=>l[0]?) h
   simpa using this
  have hlt:k < all.length:=(List.getElem?_eq_some_iff.1 hk).1
  have hl:=Tm.length_le all
  have hx:=Fk x hk
  have hx2:x.size≤Tm.sizes all:=by
   have h2:=Tm.length_le all
   have:∀ {l:List Tm},x ∈ l→x.size≤Tm.sizes l:=fun {l} hm=>by
    induction l with
    | nil=>cases hm
    | cons y ys ih =>
     simp only [Tm.sizes]
     rcases List.mem_cons.1 hm with rfl | hm
     ·omega
     ·have:=ih hm
      omega
   exact this (List.mem_of_getElem? hk)
  simp only [Tm.size] at hz
  rw [Tm.visitsL] at hq
  rw [Tm.knotsL]
  rcases List.mem_append.1 hq with hq | hq
  ·have:=Nx x ((.mk n all,k) :: V) ⟨hlt,by show all.length≤_;omega,hV⟩ (by omega) q hq
   exact ⟨this.1,List.mem_append_left _ this.2⟩
  ·have:=MA n all (k + 1) xs V (by rw [← List.tail_drop,h];rfl) hV (by simp only [Tm.size];omega) q hq
   exact ⟨this.1,List.mem_append_right _ this.2⟩
end
theorem Jp:∀ (p:List Int) (t y:Tm),(t.putP p y).size≤t.size + y.size
 | [],t,y=>by rw [Tm.putP_nil];omega
 | i :: p,t,y=>by
  rw [Tm.putP_cons]
  split
  ·rename_i a ha
   have h1:=Fk (a.putP p y) ha
   have h2:=Jp p a y
   have h3:=Tm.size_eq t
   simp only [Tm.size]
   omega
  ·omega
theorem Q0 {t:Tm} {q:List (Tm × Nat) × Tm} (hq:q ∈ t.visits []) (y:Tm):(Bw q.1 y).size≤t.size + y.size:=by
 have h1:DA q ∈ (t.visits []).map DA:=List.mem_map_of_mem hq
 rw [Dx] at h1
 obtain ⟨p,_,h2⟩:=List.mem_map.1 h1
 have h3:Bw q.1=fun y=>Bw [] (t.putP p y):=(congrArg Prod.fst h2).symm
 rw [h3]
 exact Jp p t y
theorem Jq {q:IW}:∀ {l:List Pr} {a:List Tm},Ct q l=some a→a.length≤l.length
 | [],a,h=>by cases h;simp
 | r :: l,a,h=>by
  rw [Ct] at h
  split at h
  ·split at h
   ·rw [Option.map_eq_some_iff] at h
    obtain ⟨b,h1,rfl⟩:=h
    have:=Jq h1
    simp only [List.length_cons]
    omega
   ·cases h
  ·have:=Jq h
   simp only [List.length_cons]
   omega
theorem Ik {R:List Pr}:∀ {l:List IW} {a:List Tm},BL R l=some a→a.length≤l.length * R.length
 | [],a,h=>by cases h;simp
 | q :: l,a,h=>by
  rw [BL] at h
  split at h
  ·cases h
  ·rename_i b hb
   rw [Option.map_eq_some_iff] at h
   obtain ⟨c,h1,rfl⟩:=h
   have h2:=Jq hb
   have h3:=Ik h1
   simp only [List.length_cons,List.length_append,Nat.add_mul]
   omega
theorem TD (t:Tm) (V:List (Tm × Nat)):(t.visits V).length=t.size:=by
 have:=congrArg List.length (Dx t V)
 simp only [List.length_map] at this
 rw [this,Tm.places_length]

theorem OA:∀ (p:List Int) (t x:Tm),t.chk=0→x.chk=0→(t.putP p x).chk=0
 | [],t,x,_,hx=>by rw [Tm.putP_nil];exact hx
 | i :: p,t,x,ht,hx=>by
  rw [Tm.putP_cons]
  split
  ·rename_i a ha
   have hl:=(List.getElem?_eq_some_iff.1 ha).1
   refine JF (n:=t.name) (xs:=t.args) (by cases t;exact ht) hl ?_
   exact OA p a x ((Tm.chk_args ht).2 a (List.mem_of_getElem? ha)) hx
  ·exact ht
def Xd (q:IW):Prop:=q.2.chk=0∧∀ y:Tm,y.chk=0→(q.1 y).chk=0
theorem VP {s:List Bd} {t:Tm} (hs:OkB s) (ht:t.chk=0) (h:(A7 s t).2=true):(A7 s t).1.chk=0:=by
 unfold A7 at h ⊢
 split
 ·exact O8 hs.chk ht
 ·rename_i hn
  rw [if_neg hn] at h
  cases h
theorem L4 {q:IW} (hq:Xd q):∀ {l:List Pr} {a:List Tm},(∀ r ∈ l,r.1.chk=0∧r.2.chk=0)→Ct q l=some a→∀ x ∈ a,x.chk=0∧x.size≤2000
 | [],a,_,h,x,hx=>by cases h;cases hx
 | r :: l,a,hl,h,x,hx=>by
  rw [Ct] at h
  split at h
  ·split at h
   ·rename_i h1 h2
    rw [Option.map_eq_some_iff] at h
    obtain ⟨b,hb,rfl⟩:=h
    rcases List.mem_cons.1 hx with rfl | hx
    ·have hr:=hl r (by simp)
     exact ⟨hq.2 _ (VP (Fs hr.1 hq.1) hr.2 h2.1),h2.2⟩
    ·exact L4 hq (fun r hr=>hl r (by simp [hr])) hb x hx
   ·cases h
  ·exact L4 hq (fun r hr=>hl r (by simp [hr])) h x hx
theorem NZ {R:List Pr} (hR:∀ r ∈ R,r.1.chk=0∧r.2.chk=0):∀ {l:List IW} {a:List Tm},(∀ q ∈ l,Xd q)→BL R l=some a→∀ x ∈ a,x.chk=0∧x.size≤2000
 | [],a,_,h,x,hx=>by cases h;cases hx
 | q :: l,a,hq,h,x,hx=>by
  rw [BL] at h
  split at h
  ·cases h
  ·rename_i b hb
   rw [Option.map_eq_some_iff] at h
   obtain ⟨c,hc,rfl⟩:=h
   rcases List.mem_append.1 hx with hx | hx
   ·exact L4 (hq q (by simp)) hR hb x hx
   ·exact NZ hR (fun q h=>hq q (by simp [h])) hc x hx
theorem Uw {R:List Pr} (hR:AZ R) {t:Tm} (ht:t.chk=0) {a:List Tm} (h:Gr R t=some a):∀ x ∈ a,x.chk=0∧x.size≤2000:=by
 refine NZ (fun r hr=>⟨(Tm.may_chk (hR.left r hr)).1,(Tm.may_chk (hR.right r hr)).1⟩) (fun q hq=>?_) h
 obtain ⟨p,hp,rfl⟩:=List.mem_map.1 hq
 obtain ⟨x,h1,h2⟩:=DC t p hp
 refine ⟨?_,fun y hy=>OA p t y ht hy⟩
 show ((t.atP p).getD Tm.nil).chk=0
 rw [h1]
 exact DS t x ht h2

theorem ZW {t:Tm} (h:t.chk=0) (ha:0 < t.args.length):AJ t.name=false:=by
 rw [Tm.chk_eq] at h
 cases hv:AJ t.name with
 | false=>rfl
 | true =>
  split at h
  ·rename_i h0
   unfold Bl at h0
   split at h0
   ·rw [if_pos ⟨hv,ha⟩] at h0
    cases h0
   ·cases h0
  ·rename_i h0
   exact absurd h h0
theorem Fd {step:Tm→Option (Tm × Int)}:∀ (k:Nat) (n:Int) (t:Tm),(BA step k n t).2.2=0→step (BA step k n t).1=none∧((BA step k n t).2.1=n∧step t=none ∨ n < (BA step k n t).2.1∧step t ≠ none)
 | 0,n,t,h=>by
  rw [BA] at h ⊢
  split
  ·rename_i hs
   exact ⟨hs,.inl ⟨rfl,hs⟩⟩
  ·rename_i hs
   rw [hs] at h
   cases h
 | k + 1,n,t,h=>by
  rw [BA] at h ⊢
  split
  ·rename_i hs
   exact ⟨hs,.inl ⟨rfl,hs⟩⟩
  ·rename_i x e hs
   rw [hs] at h
   simp only at h
   split
   ·rename_i he
    rw [if_pos he] at h
    exact absurd h he
   ·rename_i he
    rw [if_neg he] at h
    split
    ·rename_i hz
     rw [if_pos hz] at h
     cases h
    ·rename_i hz
     rw [if_neg hz] at h
     obtain ⟨h1,h2⟩:=Fd k (n + 1) x h
     refine ⟨h1,.inr ⟨?_,by rw [hs];simp⟩⟩
     rcases h2 with ⟨h2,_⟩ | ⟨h2,_⟩ <;> omega
theorem Y7 {s:List Bd} {t:Tm} (h:(t.on s).size≤2000):A7 s t=(t.on s,true):=by unfold A7;rw [if_pos h]
theorem Li {t:Tm} (ht:t.chk=0) (hz:t.size≤19) {p:List Int} {y:Tm} (hy:t.atP p=some y) (hyz:y.size≤19):∀ {l:List Pr},(∀ r ∈ l,r.2.size≤7)→∃ a,Ct (Gl [] t p) l=some a∧∀ x ∈ a,x.size≤152
 | [],_=>⟨[],rfl,by simp⟩
 | r :: l,hl=>by
  have hs:(Gl [] t p).2=y:=by show (t.atP p).getD Tm.nil=y;rw [hy];rfl
  obtain ⟨b,hb,hbz⟩:=Li ht hz hy hyz (l:=l) fun r' hr=>hl r' (by simp [hr])
  rw [Ct,hs]
  by_cases hc:CN r.1 y=true
  ·rw [if_pos hc]
   have h7:=hl r (by simp)
   have h1:(r.2.on (A8 r.1 y)).size≤r.2.size * 19:=XI (by omega) (fun b hb=>by have:=Ud b hb;omega) r.2
   rw [Y7 (by omega)]
   have h2:=Jp p t (r.2.on (A8 r.1 y))
   have h3:((Gl [] t p).1 (r.2.on (A8 r.1 y))).size≤152:=by
    show (t.putP p (r.2.on (A8 r.1 y))).size≤152
    omega
   simp only
   rw [if_pos ⟨trivial,by omega⟩,hb]
   exact ⟨_,rfl,fun x hx=>by
    rcases List.mem_cons.1 hx with rfl | hx
    ·exact h3
    ·exact hbz x hx⟩
  ·rw [if_neg hc]
   exact ⟨b,hb,hbz⟩
theorem SD:∀ (t x:Tm),x ∈ t.knots→x.size≤t.size:=fun t x h=>DD t x h
theorem I9 {R:List Pr} (hR:∀ r ∈ R,r.2.size≤7) {t:Tm} (ht:t.chk=0) (hz:t.size≤19):∀ {l:List (List Int)},(∀ p ∈ l,p ∈ t.places)→∃ a,BL R (l.map (Gl [] t))=some a∧∀ x ∈ a,x.size≤152
 | [],_=>⟨[],rfl,by simp⟩
 | p :: l,hp=>by
  obtain ⟨c,hc,hcz⟩:=I9 hR ht hz (l:=l) fun q h=>hp q (by simp [h])
  obtain ⟨y,h1,h2⟩:=DC t p (hp p (by simp))
  obtain ⟨b,hb,hbz⟩:=Li ht hz h1 (by have:=SD t y h2;omega) hR
  rw [List.map_cons,BL,hb]
  simp only
  rw [hc]
  exact ⟨_,rfl,fun x hx=>by
   rcases List.mem_append.1 hx with hx | hx
   ·exact hbz x hx
   ·exact hcz x hx⟩
theorem RU {R:List Pr} (hR:∀ r ∈ R,r.2.size≤7) {t:Tm} (ht:t.chk=0) (hz:t.size≤19):∃ a,Gr R t=some a∧∀ x ∈ a,x.size≤152:=I9 hR ht hz fun _ h=>h

def Gb (f:Nat→ByteArray) (b:List Bd):Nat→List ByteArray→List Bd
 | _,[]=>[]
 | k,n :: l=>(f k,(vT n).on b) :: Gb f b (k + 1) l
theorem FV {f:Nat→ByteArray} (hf:∀ k,AJ (f k)=true) {b:List Bd}:∀ (l:List ByteArray) (k:Nat),OkV (Gb f b k l)
 | [],k=>fun c hc=>by cases hc
 | n :: l,k=>fun c hc=>by
  rw [Gb] at hc
  rcases List.mem_cons.1 hc with rfl | hc
  ·exact hf k
  ·exact FV hf l (k + 1) c hc
theorem MM {f:Nat→ByteArray} {b:List Bd} {y:ByteArray} (hy:∀ k,f k ≠ y):∀ (l:List ByteArray) (k:Nat),lookup (Gb f b k l) y=none
 | [],k=>rfl
 | n :: l,k=>by rw [Gb,A5,if_neg (hy k),MM hy l (k + 1)]
theorem HQ {f:Nat→ByteArray} (hi:∀ m n,f m=f n→m=n) {b:List Bd}:∀ (l:List ByteArray) (k i:Nat) (n:ByteArray),l[i]?=some n→lookup (Gb f b k l) (f (k + i))=some ((vT n).on b)
 | [],k,i,n,h=>by simp at h
 | x :: l,k,0,n,h=>by
  simp at h
  subst h
  rw [Gb,A5,Nat.add_zero,if_pos rfl]
 | x :: l,k,i + 1,n,h=>by
  rw [Gb,A5,if_neg (fun e=>by have:=hi _ _ e;omega),show k + (i + 1)=k + 1 + i by omega]
  exact HQ hi l (k + 1) i n (by simpa using h)
theorem Pt:∀ {l:List ByteArray} {n:ByteArray},n ∈ l→l[BO l n]?=some n
 | x :: l,n,h=>by
  rw [BO]
  by_cases e:x=n
  ·rw [if_pos e,e]
   rfl
  ·rw [if_neg e,List.getElem?_cons_succ]
   exact Pt ((List.mem_cons.1 h).resolve_left fun h=>e h.symm)
theorem PY {nm θ b:List Bd} {L:List ByteArray} (hnm:OkV nm) (hθ:OkV θ) (hb:OkV b) (h:∀ n ∈ L,∃ m,lookup nm n=some (vT m)∧lookup θ m=some ((vT n).on b)) {t:Tm} (hv:∀ n,AJ n=true→occ n t=true→n ∈ L):(t.on nm).on θ=t.on b:=by
 rw [HZ nm θ _ t (Nat.lt_succ_self _)]
 refine F7 _ t (Nat.lt_succ_self _) fun k hk ha=>?_
 have e:k=vT k.name:=Ds ha
 have no:∀ {s:List Bd},OkV s→¬ AJ k.name=true→lookup s k.name=none:=fun hs hn=>Ch fun c hc e=>hn (by rw [← e];exact hs c hc)
 rw [e,on_leaf,on_leaf,H0]
 by_cases hkv:AJ k.name=true
 ·have hm:=hv k.name hkv (List.any_eq_true.2 ⟨k,hk,by simp⟩)
  obtain ⟨m,h1,h2⟩:=h _ hm
  rw [h1]
  simp only [Option.getD_some]
  rw [show (vT m).on θ=(lookup θ m).getD (.mk m []) from on_leaf θ m,h2]
  exact on_leaf b k.name
 ·rw [no hnm hkv,no hθ hkv,no hb hkv]
theorem PJ {c:UInt8}:∀ {l:List ByteArray} {k:Nat},(∀ n ∈ l,AJ n=true)→OkV (nmB c k l)
 | [],k,_=>fun b hb=>by cases hb
 | n :: l,k,h=>fun b hb=>by
  rw [nmB] at hb
  rcases List.mem_cons.1 hb with rfl | hb
  ·exact h n (by simp)
  ·exact PJ (fun m hm=>h m (by simp [hm])) b hb
theorem Lo:∀ {l:List ByteArray} {k:Nat},(∀ n ∈ l,AJ n=true)→OkV (Dm k l)
 | [],k,_=>fun b hb=>by cases hb
 | n :: l,k,h=>fun b hb=>by
  rw [Dm] at hb
  rcases List.mem_cons.1 hb with rfl | hb
  ·exact h n (by simp)
  ·exact Lo (fun m hm=>h m (by simp [hm])) b hb
mutual
theorem UG:∀ t:Tm,t.on []=t
 | .mk n []=>by rw [on_leaf];rfl
 | .mk n (x :: xs)=>by rw [on_knot,Qf (x :: xs)]
theorem Qf:∀ xs:List Tm,xs.map (Tm.on [])=xs
 | []=>rfl
 | x :: xs=>by rw [List.map_cons,UG x,Qf xs]
end
theorem Xp {L:List ByteArray} (hL:∀ n ∈ L,AJ n=true) {t:Tm} (hv:∀ n,AJ n=true→occ n t=true→n ∈ L):(t.on (Dm 0 L)).on (Gb CK [] 0 L)=t:=by
 have:=PY (Lo (k:=0) hL) (FV Ou L 0) (b:=[]) (fun c hc=>by cases hc) (L:=L) (fun n hn=>⟨CK (0 + BO L n),by
  rw [Dv,if_pos (HA.2 hn)]
  rfl,HQ (fun m n=>Vs) L 0 _ n (Pt hn)⟩) hv
 rw [this,UG]
theorem UC {s:List Bd}:∀ (p:List Int) (t x:Tm),t.atP p=some x→(t.on s).atP p=some (x.on s)
 | [],t,x,h=>by
  rw [Tm.atP_nil] at h ⊢
  cases h
  rfl
 | i :: p,t,x,h=>by
  rw [Tm.atP_cons] at h
  split at h
  ·cases h
  rename_i hi
  split at h
  ·rename_i a ha
   have hne:t.args ≠ []:=fun e=>by rw [e] at ha;simp at ha
   rw [Hg hne,Tm.atP_cons,if_neg hi,Tm.args_mk,List.getElem?_map,ha]
   exact UC p a x h
  ·cases h
theorem XG {s:List Bd}:∀ (p:List Int) (t x y:Tm),t.atP p=some x→(t.on s).putP p (y.on s)=(t.putP p y).on s
 | [],t,x,y,h=>by rw [Tm.putP_nil,Tm.putP_nil]
 | i :: p,t,x,y,h=>by
  rw [Tm.atP_cons] at h
  split at h
  ·cases h
  split at h
  ·rename_i a ha
   have hne:t.args ≠ []:=fun e=>by rw [e] at ha;simp at ha
   rw [Hg hne,Tm.putP_cons,Tm.putP_cons,Tm.args_mk,List.getElem?_map,ha]
   simp only [Option.map_some,Tm.name_mk]
   rw [XG p a x y h,Hg (t:=.mk t.name _) (by rw [Tm.args_mk];intro e;exact hne (by simpa using e)),Tm.name_mk,Tm.args_mk,List.map_set]
  ·cases h
theorem Hq {q:List Int}:∀ {xs:List Tm} {k j:Nat} {a:Tm},xs[j]?=some a→q ∈ a.places→(((k + j:Nat):Int) :: q) ∈ Tm.placesFrom k xs
 | [],k,j,a,h,_=>by simp at h
 | x :: xs,k,0,a,h,hq=>by
  simp at h
  subst h
  rw [Tm.placesFrom]
  exact List.mem_append_left _ (List.mem_map.2 ⟨q,hq,rfl⟩)
 | x :: xs,k,j + 1,a,h,hq=>by
  rw [Tm.placesFrom,show k + (j + 1)=k + 1 + j by omega]
  exact List.mem_append_right _ (Hq (by simpa using h) hq)
theorem J6:∀ (p:List Int) (t x:Tm),t.atP p=some x→p ∈ t.places
 | [],.mk n xs,x,h=>by rw [Tm.places];simp
 | i :: p,.mk n xs,x,h=>by
  rw [Tm.atP_cons] at h
  split at h
  ·cases h
  rename_i hi
  split at h
  ·rename_i a ha
   rw [Tm.places]
   have:=Hq (k:=0) (show xs[i.toNat]?=some a from ha) (J6 p a x h)
   rw [show ((0 + i.toNat:Nat):Int)=i by omega] at this
   exact List.mem_cons_of_mem _ this
  ·cases h
theorem WC {L:List (Tm × Tm)} {a b:Tm} (hab:St L a b):∀ (p:List Int) (t:Tm),t.atP p=some a→St L t (t.putP p b)
 | [],t,h=>by
  rw [Tm.atP_nil] at h
  cases h
  rw [Tm.putP_nil]
  exact hab
 | i :: p,t,h=>by
  rw [Tm.atP_cons] at h
  split at h
  ·cases h
  split at h
  ·rename_i x hx
   have ih:=WC hab p x h
   have hl:=(List.getElem?_eq_some_iff.1 hx).1
   have e1:=FU hx
   have e2:t.args.set i.toNat (x.putP p b)=t.args.take i.toNat ++ x.putP p b :: t.args.drop (i.toNat + 1):=by
    rw [List.set_eq_take_append_cons_drop,if_pos hl]
   rw [Tm.putP_cons,hx]
   simp only
   rw [e2]
   have hk:=St.arg (L:=L) (n:=t.name) (xs:=t.args.take i.toNat) (ys:=t.args.drop (i.toNat + 1)) ih
   rw [← e1] at hk
   cases t with
   | mk n xs=>exact hk
  ·cases h
variable {R:List Pr}
theorem T5 (hR:AZ R) {r:Pr} (hr:r ∈ R) {t:Tm} (ht:t.chk=0) (h:CN r.1 t=true):St R t (r.2.on (A8 r.1 t)):=by
 have hc:=(Tm.may_chk (hR.left r hr)).1
 exact .root hr (Fs hc ht).var (Pe hc ht h).symm rfl
theorem LK {s:List Bd} {t:Tm} (h:(A7 s t).2=true):(A7 s t).1=t.on s:=by
 unfold A7 at h ⊢
 split
 ·rfl
 ·rename_i hn
  rw [if_neg hn] at h
  cases h
theorem P3 (hR:AZ R) {t x:Tm} (ht:t.chk=0):∀ {l:List Pr},(∀ r ∈ l,r ∈ R)→CE R t l=some (x,0)→St R t x
 | [],_,h=>by cases h
 | r :: l,hl,h=>by
  rw [CE] at h
  split at h
  ·rename_i hc
   split at h
   ·rename_i h2
    rw [LK h2] at h
    cases h
    exact T5 hR (hl r (by simp)) ht hc
   ·cases h
  ·exact P3 hR ht (fun r hr=>hl r (by simp [hr])) h
theorem Ws {n:ByteArray} {xs:List Tm} {k:Nat} {a y:Tm} (h1:xs[k]?=some a) (h:St R a y):St R (.mk n xs) (.mk n (xs.set k y)):=by
 have hl:=(List.getElem?_eq_some_iff.1 h1).1
 have e1:=FU h1
 rw [List.set_eq_take_append_cons_drop,if_pos hl]
 have hk:=St.arg (L:=R) (n:=n) (xs:=xs.take k) (ys:=xs.drop (k + 1)) h
 rw [← e1] at hk
 exact hk
theorem WI (hR:AZ R):∀ (N:Nat) (t x:Tm),SizeOf.sizeOf t < N→t.chk=0→t.inn R=some (x,0)→St R t x
 | 0,_,_,h,_,_=>absurd h (Nat.not_lt_zero _)
 | N + 1,.mk n xs,x,hN,hc,h=>by
  rw [Tm.inn] at h
  split at h
  ·rename_i ys e' hy
   cases h
   obtain ⟨k,a,y,h1,h2,h3,h4⟩:=Jm hR (fun b hb=>(Tm.chk_args hc).2 b hb) hy
   subst h2
   have hm:=List.mem_of_getElem? h1
   exact Ws h1 (WI hR N a y (by have:=Tm.lt_of_arg (t:=.mk n xs) hm;omega) ((Tm.chk_args hc).2 a hm) h3)
  ·exact P3 hR hc (fun r hr=>hr) h
theorem WO (hR:AZ R):∀ (N:Nat) (t x:Tm),SizeOf.sizeOf t < N→t.chk=0→t.out R=some (x,0)→St R t x
 | 0,_,_,h,_,_=>absurd h (Nat.not_lt_zero _)
 | N + 1,.mk n xs,x,hN,hc,h=>by
  rw [Tm.out] at h
  split at h
  ·rename_i r hr
   cases h
   exact P3 hR hc (fun r hr=>hr) hr
  ·split at h
   ·rename_i ys e' hy
    cases h
    obtain ⟨k,a,y,h1,h2,h3,h4⟩:=KE hR (fun b hb=>(Tm.chk_args hc).2 b hb) hy
    subst h2
    have hm:=List.mem_of_getElem? h1
    exact Ws h1 (WO hR N a y (by have:=Tm.lt_of_arg (t:=.mk n xs) hm;omega) ((Tm.chk_args hc).2 a hm) h3)
   ·cases h
theorem YB (hR:AZ R) {inner:Bool} {t x:Tm} (hc:t.chk=0) (h:LW inner R t=some (x,0)):St R t x:=by
 cases inner with
 | true=>exact WI hR _ t x (Nat.lt_succ_self _) hc h
 | false=>exact WO hR _ t x (Nat.lt_succ_self _) hc h
theorem Df (hR:AZ R) {inner:Bool}:∀ (k:Nat) (n:Int) (t:Tm),t.chk=0→(BA (LW inner R) k n t).2.2=0→Cv (St R) t (BA (LW inner R) k n t).1
 | 0,n,t,hc,h=>by
  rw [BA] at h ⊢
  split
  ·exact .refl _
  ·rename_i hs
   rw [hs] at h
   cases h
 | k + 1,n,t,hc,h=>by
  rw [BA] at h ⊢
  split
  ·exact .refl _
  ·rename_i x e hs
   rw [hs] at h
   simp only at h
   obtain ⟨h1,h2,h3⟩:=SJ hR hc hs
   by_cases he:e ≠ 0
   ·rw [if_pos he] at h
    exact absurd h he
   ·rw [if_neg he] at h ⊢
    by_cases hz:2000 < x.size
    ·rw [if_pos hz] at h
     cases h
    ·rw [if_neg hz] at h ⊢
     have he:e=0:=by omega
     subst he
     exact .step (YB hR hc hs) (Df hR k (n + 1) x (h2 rfl) h)
theorem P4 (hR:AZ R) {t:Tm} {p:List Int} {y:Tm} (hy:t.atP p=some y) (hyc:y.chk=0):∀ {l:List Pr} {a:List Tm},(∀ r ∈ l,r ∈ R)→Ct (Gl [] t p) l=some a→∀ x ∈ a,St R t x
 | [],a,_,h,x,hx=>by cases h;cases hx
 | r :: l,a,hl,h,x,hx=>by
  have hs:(Gl [] t p).2=y:=by show (t.atP p).getD Tm.nil=y;rw [hy];rfl
  rw [Ct,hs] at h
  split at h
  ·rename_i hcase
   split at h
   ·rename_i h2
    rw [Option.map_eq_some_iff] at h
    obtain ⟨b,hb,rfl⟩:=h
    rcases List.mem_cons.1 hx with rfl | hx
    ·show St R t (t.putP p (A7 (A8 r.1 y) r.2).1)
     rw [LK h2.1]
     exact WC (T5 hR (hl r (by simp)) hyc hcase) p t hy
    ·exact P4 hR hy hyc (fun r hr=>hl r (by simp [hr])) hb x hx
   ·cases h
  ·exact P4 hR hy hyc (fun r hr=>hl r (by simp [hr])) h x hx
theorem NV (hR:AZ R) {t:Tm} (ht:t.chk=0):∀ {l:List (List Int)} {a:List Tm},(∀ p ∈ l,p ∈ t.places)→BL R (l.map (Gl [] t))=some a→∀ x ∈ a,St R t x
 | [],a,_,h,x,hx=>by cases h;cases hx
 | p :: l,a,hp,h,x,hx=>by
  rw [List.map_cons,BL] at h
  split at h
  ·cases h
  ·rename_i b hb
   rw [Option.map_eq_some_iff] at h
   obtain ⟨c,hc,rfl⟩:=h
   rcases List.mem_append.1 hx with hx | hx
   ·obtain ⟨y,h1,h2⟩:=DC t p (hp p (by simp))
    exact P4 hR h1 (DS t y ht h2) (fun r hr=>hr) hb x hx
   ·exact NV hR ht (fun q h=>hp q (by simp [h])) hc x hx
theorem V6 (hR:AZ R) {t:Tm} (ht:t.chk=0) {a:List Tm} (h:Gr R t=some a):∀ x ∈ a,St R t x:=NV hR ht (fun _ h=>h) h
theorem Xr {t:Tm} {n:ByteArray} (hc:t.chk=0) (hn:AJ n=true) (h:occ n t=true):vT n ∈ t.knots:=by
 obtain ⟨k,hk,he⟩:=List.any_eq_true.1 h
 have he:k.name=n:=by simpa using he
 have h0:=(Tm.chk_args (DS t k hc hk)).1 (by rw [he];exact hn)
 rw [← he,← Ds h0]
 exact hk
theorem P9 (hR:AZ R) {r:Pr} (hr:r ∈ R) {b1 b2:List Bd} (v1:OkV b1) (v2:OkV b2) (h:r.1.on b1=r.1.on b2):r.2.on b1=r.2.on b2:=by
 have hc:=(Tm.may_chk (hR.left r hr)).1
 refine F7 _ r.2 (Nat.lt_succ_self _) fun k hk ha=>?_
 by_cases hv:AJ k.name=true
 ·have ho:occ k.name r.2=true:=List.any_eq_true.2 ⟨k,hk,by simp⟩
  rw [← G8 hv,DY] at ho
  have ho:=hR.vars r hr _ ho
  rw [← DY,G8 hv] at ho
  have:=N7 _ r.1 (Nat.lt_succ_self _) h _ (Xr hc hv ho) rfl
  rw [Ds ha]
  exact this
 ·rw [Du v1 hv,Du v2 hv,ha]
  rfl
theorem Tk (hR:AZ R) {r:Pr} (hr:r ∈ R) {b:List Bd} (hb:OkV b) (hc:(r.1.on b).chk=0):CN r.1 (r.1.on b)=true∧r.2.on b=r.2.on (A8 r.1 (r.1.on b)):=by
 have h1:=(Tm.may_chk (hR.left r hr)).1
 have h2:=Xy h1 hb
 exact ⟨h2,P9 hR hr hb (Fs h1 hc).var (Pe h1 hc h2).symm⟩
theorem Iy (hR:AZ R) {row:List ByteArray} (hd:∀ r ∈ R,Pa row r.1 r.2) {t u:Tm} (h:St R t u):t.chk=0→Pa row t u∧u.chk=0:=by
 induction h with
 | @root r b t u hr hb e1 e2 =>
  subst e1 e2
  intro hc
  obtain ⟨h1,h2⟩:=Tk hR hr hb hc
  have hl:=(Tm.may_chk (hR.left r hr)).1
  have ho:=Fs hl hc
  have h3:=AAV ho (hd r hr)
  rw [Pe hl hc h1] at h3
  rw [h2]
  exact ⟨h3,O8 ho.chk (Tm.may_chk (hR.right r hr)).1⟩
 | @arg n xs ys a b hab ih =>
  intro hc
  obtain ⟨h1,h2⟩:=ih ((Tm.chk_args hc).2 a (by show a ∈ xs ++ a :: ys;simp))
  refine ⟨Z_ (ZW hc (by rw [Tm.args_mk,List.length_append,List.length_cons];omega)) xs ys h1,?_⟩
  have h3:=JF hc (k:=xs.length) (by simp) h2
  rw [List.set_append_right _ _ (Nat.le_refl _),Nat.sub_self,List.set_cons_zero] at h3
  exact h3
theorem AAJ (hR:AZ R) {row:List ByteArray} (hd:∀ r ∈ R,Pa row r.1 r.2) {t:Tm} (hc:t.chk=0):Acc (fun y x=>St R x y∧y.chk=0) t:=by
 have h:=Zk row _ t (Nat.lt_succ_self _) hc
 induction h with
 | intro x _ ih =>
  exact ⟨x,fun y hy=>ih y ⟨(Iy hR hd hy.1 hc).1,hy.2⟩ hy.2⟩
mutual
theorem Tm.out_none (R:List Pr):∀ t:Tm,t.out R=none ↔ t.knots.any (Vb R)=false
 | .mk n xs=>by
  rw [Tm.out,Tm.knots,List.any_cons,Bool.or_eq_false_iff,← Tm.outL_none R xs,← Lp]
  cases FW R (.mk n xs) with
  | some r=>simp
  | none=>cases Tm.outL R xs <;> simp
theorem Tm.outL_none (R:List Pr):∀ xs:List Tm,Tm.outL R xs=none ↔ (Tm.knotsL xs).any (Vb R)=false
 | []=>by simp [Tm.outL,Tm.knotsL]
 | x :: xs=>by
  rw [Tm.outL,Tm.knotsL,List.any_append,Bool.or_eq_false_iff,← Tm.outL_none R xs,← Tm.out_none R x]
  cases Tm.out R x with
  | some r=>simp
  | none=>cases Tm.outL R xs <;> simp
end

theorem UR {U:List ByteArray} {C:Nat} {s:List Bd} {p:Pr} {l:List Pr} (h:CT U C s (p :: l)) {θ:List Bd} (hθ:∀ b ∈ θ,AJ b.1=true) (hsol:Sol s θ) (hp:p.1.on θ=p.2.on θ):∀ e,CF s p=.err e→e=8:=by
 intro e hs
 obtain ⟨hc1,hc2⟩:=h.lchk p (by simp)
 have hU:=h.lU p (by simp)
 obtain ⟨a1,a2,a3⟩:=onU h hc1 fun y=>(hU y).1
 obtain ⟨b1,b2,b3⟩:=onU h hc2 fun y=>(hU y).2
 have e1:=HL h.var hsol hc1
 have e2:=HL h.var hsol hc2
 have heq:(p.1.on s).on θ=(p.2.on s).on θ:=by rw [e1,e2,hp]
 have bind:∀ {x t:Tm},AJ x.name=true→x.chk=0→t.chk=0→t.name ≠ x.name→x.on θ=t.on θ→Da s x.name t=.err e→e=8:=by
  intro x t hx hxc htc hne hxt hb
  have hxl:=Ds ((Tm.chk_args hxc).1 hx)
  rw [hxl] at hxt
  unfold Da at hb
  split at hb
  ·rename_i ho
   have:=(WW (θ:=θ) hx htc ho).2 hne
   rw [hxt] at this
   omega
  ·split at hb
   ·cases hb
   ·cases hb
    rfl
 unfold CF at hs
 split at hs
 ·cases hs
  rfl
 split at hs
 ·cases hs
 rename_i hsame
 split at hs
 ·rename_i hv
  exact bind hv a1 b1 (fun e=>hsame ⟨hv,e.symm⟩) heq hs
 rename_i hv1
 split at hs
 ·rename_i hv
  exact bind hv b1 a1 (fun e=>hv1 (by rw [e];exact hv)) heq.symm hs
 rename_i hv2
 rw [Du hθ hv1,Du hθ hv2] at heq
 injection heq with q1 q2
 have q3:=congrArg List.length q2
 rw [List.length_map,List.length_map] at q3
 split at hs
 ·cases hs
 ·rename_i hno
  exact absurd ⟨q1,q3⟩ hno
theorem U6 {U:List ByteArray} {C:Nat} {θ:List Bd} (hθ:∀ b ∈ θ,AJ b.1=true) {n:Nat} {s:List Bd} {l:List Pr} {r:List Bd × Int} (hr:DM n s l r) :
  CT U C s l→Sol s θ→(∀ p ∈ l,p.1.on θ=p.2.on θ)→r.2 ≠ 8→r.2=0∧Sol r.1 θ:=by
 induction hr with
 | nil=>exact fun _ hs _ _=>⟨rfl,hs⟩
 | @err s p l e he =>
  intro h hs hl h8
  exact absurd (UR h hθ hs (hl p (by simp)) e he) h8
 | @go s p l s' ps n r hst hr ih =>
  intro h hs hl h8
  obtain ⟨h',hd⟩:=FN h hst
  obtain ⟨q1,q2⟩:=(R7 h hθ hst).1 ⟨hs,hl p (by simp)⟩
  refine ih h' q1 (fun q hq=>?_) h8
  rcases List.mem_append.1 hq with hq | hq
  ·exact q2 q hq
  ·exact hl q (by simp [hq])

theorem TL {ds:List Nat} (hds:∀ d ∈ ds,d < 1000) {x:Option AL} (hb:∀ b,x=some b→b.high=true):x.map (AL.purge ds)=x:=by
 cases h:x with
 | none=>rfl
 | some b=>rw [Option.map_some,AL.purge_high hds (hb b h)]
theorem Yb {S S1:AA} {a0:Nat} {b:AL} (hS:Ax S) (ha:1000≤a0) (h1:S1 a0=some b) (h2:∀ i,1000≤i→i ≠ a0→S1 i=S i):B6 S1=AG S a0 (some b):=by
 funext i
 show (if i < 1000 then none else S1 i)=_
 by_cases e:i=a0
 ·subst e
  rw [if_neg (by omega),AE,h1]
 ·rw [AH _ e]
  by_cases hi:i < 1000
  ·rw [if_pos hi,AP hS hi]
  ·rw [if_neg hi,h2 i (by omega) e]
theorem XF {S S1:AA} {a0:Nat} {b:AL} (hS:Ax S) (hb:b.high=true) (h1:S1 a0=some b) (h2:∀ i,1000≤i→i ≠ a0→S1 i=S i):∀ i c,1000≤i→S1 i=some c→c.high=true:=fun i c hi hc=>by
 by_cases e:i=a0
 ·subst e
  rw [h1] at hc
  cases hc
  exact hb
 ·rw [h2 i hi e] at hc
  exact (hS i c hc).2
theorem Bg {C:Ctx} {rs:List RV} {r:AV} {e:AX} {s:AS} {S:AA} {a0:Nat} {b:AL} (r0:AV) (hS:Ax S) (ha:1000≤a0) (hb:b.high=true) (he:match e with | .normal=>True | .ret=>True | _=>False)
  (h1:(AB s rs).map AK=some r0) (h2:outV s.S r0=some r) (h3:s.S a0=some b) (h4:∀ i,1000≤i→i ≠ a0→s.S i=S i):Jt C rs r (AG S a0 (some b)) e s :=
 Rr he r0 h1 h2 (XF hS hb h3 h4) (Yb hS ha h3 h4) (B0 hS ha hb)

set_option linter.unusedSimpArgs false
set_option maxHeartbeats 800000
def DE (u:Tm) (left:Int):Tm × Int:=if (u.size:Int)≤left then (u,left - u.size) else (Tm.nil,-1)
abbrev Ja (s:List Bd) (left:Int):AL:=.box 150 [.st (.list (s.map C3)),.st (.int .i64 left)]
theorem EN {u:Tm} {left:Int} (h:(u.size:Int)≤left):DE u left=(u,left - u.size):=if_pos h
theorem Dz {u:Tm} {left:Int} (h:¬ (u.size:Int)≤left):DE u left=(Tm.nil,-1):=if_neg h
theorem Nq (s:List Bd) (h40:s.length≤100000) (ho:BH s) (turn:Bool) (f:Tm→Tm) (t:Tm) (hl:turn=true→lookup s t.name=none)
  (ih:∀ a ∈ t.args,∀ (a0:Nat) (left:Int) (S:AA),1000≤a0→0≤left→left≤1000000→S a0=some (Ja s left) →
   As Tryz.prog 126 [.one (.ptr a0 1 0 0),aTm a,Aa turn] S (aTm (DE (f a) left).1) (AG S a0 (some (Ja s (DE (f a) left).2))))
  (a0:Nat) (left:Int) (S:AA) (ha0:1000≤a0) (h0:0≤left) (h1:left≤1000000) (hSa:S a0=some (Ja s left)) :
  As Tryz.prog 126 [.one (.ptr a0 1 0 0),aTm t,Aa turn] S (aTm (DE (.mk t.name (t.args.map f)) left).1) (AG S a0 (some (Ja s (DE (.mk t.name (t.args.map f)) left).2))):=by
 refine CJ.acS fun hS C hC=>?_
 have hu:(Tm.mk t.name (t.args.map f)).size=1 + Tm.sizes (t.args.map f):=rfl
 have hlen:=Tm.length_le (t.args.map f)
 rw [List.length_map] at hlen
 have n4:S 4=none:=AP hS (by omega)
 have n6:S 6=none:=AP hS (by omega)
 have n7:S 7=none:=AP hS (by omega)
 have n9:S 9=none:=AP hS (by omega)
 have n11:S 11=none:=AP hS (by omega)
 have n900:S 900=none:=AP hS (by omega)
 have d4:¬ 4=a0:=by omega
 have d6:¬ 6=a0:=by omega
 have d7:¬ 7=a0:=by omega
 have d9:¬ 9=a0:=by omega
 have d11:¬ 11=a0:=by omega
 have d900:¬ 900=a0:=by omega
 have e4:¬ a0=4:=by omega
 have e6:¬ a0=6:=by omega
 have e7:¬ a0=7:=by omega
 have e9:¬ a0=9:=by omega
 have e11:¬ a0=11:=by omega
 have e900:¬ a0=900:=by omega
 unfold Bb
 cases turn
 case' false =>
  repeat' with_reducible first | refine W ?_ | refine Z0 ?_ | ((first | refine Wo fun K hK=>?_ | refine Wq ?_ | refine Wr ?_);(try simp only [go_sem,fN,seval,eT,iR,hSa,n4,n6,n7,d4,d6,d7,e4,e6,e7]);(repeat refine Ai ?_);(try (refine hK _ ?_;clear hK K)))
  with_reducible refine Wp ?_
  simp only [go_sem,fN,seval,true_implies,false_implies,implies_true,dT,dF,nL]
  (try with_reducible refine iC ?_)
  repeat' with_reducible first | refine W ?_ | refine Z0 ?_ | ((first | refine Wo fun K hK=>?_ | refine Wq ?_ | refine Wr ?_);(try simp only [go_sem,fN,seval,eT,iR,hSa,n4,n6,n7,n9,d4,d6,d7,d9,e4,e6,e7,e9]);(repeat refine Ai ?_);(try (refine hK _ ?_;clear hK K)))
 case' true =>
  have hln:=hl rfl
  repeat' with_reducible first | refine W ?_ | refine Z0 ?_ | ((first | refine Wo fun K hK=>?_ | refine Wq ?_ | refine Wr ?_);(try simp only [go_sem,fN,seval,eT,iR,hSa,n4,n6,n7,d4,d6,d7,e4,e6,e7]);(repeat refine Ai ?_);(try (refine hK _ ?_;clear hK K)))
  with_reducible refine Wp ?_
  simp only [go_sem,fN,seval,true_implies,false_implies,implies_true,dT,dF,nL]
  (try with_reducible refine iC ?_)
  repeat' (first | (with_reducible first | refine W ?_ | refine Z0 ?_ | ((first | refine Wo fun K hK=>?_ | refine Wq ?_ | refine Wr ?_);(try simp only [go_sem,fN,seval,eT,iR,hSa,n4,n6,n7,d4,d6,d7,e4,e6,e7,hln]);(repeat refine Ai ?_);(try (refine hK _ ?_;clear hK K)))) | refine Cg _ (YE s h40 ho t.name) ?_)
  with_reducible refine Wp ?_
  simp only [go_sem,fN,seval,true_implies,false_implies,implies_true,dT,dF,nL]
  (try with_reducible refine iC ?_)
  repeat' with_reducible first | refine W ?_ | refine Z0 ?_ | ((first | refine Wo fun K hK=>?_ | refine Wq ?_ | refine Wr ?_);(try simp only [go_sem,fN,seval,eT,iR,hSa,n4,n6,n7,n9,d4,d6,d7,d9,e4,e6,e7,e9]);(repeat refine Ai ?_);(try (refine hK _ ?_;clear hK K)))
 all_goals
  by_cases hz:left=0
  ·subst hz
   have hno:¬ ((Tm.mk t.name (t.args.map f)).size:Int)≤0:=by rw [hu];omega
   rw [Dz hno]
   with_reducible refine Wp ?_
   simp only [go_sem,fN,seval,true_implies,false_implies,implies_true,dT,dF,nL]
   (try with_reducible refine iC ?_)
   repeat' with_reducible first | refine W ?_ | refine Z0 ?_ | ((first | refine Wo fun K hK=>?_ | refine Wq ?_ | refine Wr ?_);(try simp only [go_sem,fN,seval,eT,iR,hSa,n4,n6,n7,n9,d4,d6,d7,d9,e4,e6,e7,e9]);(repeat refine Ai ?_);(try (refine hK _ ?_;clear hK K)))
   refine Bg (.agg [.st (.str ⟨#[]⟩),.full []]) hS ha0 rfl trivial ?_ ?_ ?_ fun i hi hne=>?_
   ·simp only [go_sem,fN,seval,eT,iR,AB,AD,AK,e4,e6,e7,e9,d4,d6,d7,d9]
   ·simp only [go_sem,fN,seval,eT,iR,Tm.nil]
    rfl
   ·simp only [go_sem,fN,seval,eT,iR,e4,e6,e7,e9]
   ·have i4:¬ i=4:=by omega
    have i6:¬ i=6:=by omega
    have i7:¬ i=7:=by omega
    simp only [go_sem,fN,seval,eT,iR,i4,i6,i7,hne]
  have hz':¬ left - 1 < 0:=by omega
  with_reducible refine Wp ?_
  simp only [go_sem,fN,seval,true_implies,false_implies,implies_true,dT,dF,nL,hz']
  (try with_reducible refine iC ?_)
  repeat' with_reducible first | refine W ?_ | refine Z0 ?_ | ((first | refine Wo fun K hK=>?_ | refine Wq ?_ | refine Wr ?_);(try simp only [go_sem,fN,seval,eT,iR,hSa,n4,n6,n7,n9,d4,d6,d7,d9,e4,e6,e7,e9]);(repeat refine Ai ?_);(try (refine hK _ ?_;clear hK K)))
  refine IWP.ghost (Ac.ownC 9 1 900 37 2 (xs:=([]:List Tm).map Ap) (by simp only [go_sem,fN,seval,eT,iR,d9,d4,d6,d7,e9];rfl) rfl (by simp only [go_sem,fN,seval,eT,iR,n900,d900]) EP) ?_
  refine IWP.loopD [11] (fun m x=>∃ k,k≤t.args.length∧m=t.args.length - k∧(Tm.sizes ((t.args.take k).map f):Int)≤left - 1∧x.env 0=.one (.ptr a0 1 0 0)∧x.env 2=Aa _∧x.env 6=.one (.ptr 6 1 0 0)∧x.env 9=.one (.ptr 9 1 0 0)∧x.env 44=.one (.st (.list (t.args.map Ap)))∧x.env 45=AO t.args.length∧x.env 46=AO k ∧
    x.S 6=some (.box 37 [.st (.str ⟨#[]⟩),.full []])∧x.S 9=some (.box 37 [.st (.str t.name),.row 900 k])∧x.S 900=some (.arow 37 2 (((t.args.take k).map f).map Ap))∧x.S 11=none∧x.S a0=some (Ja s (left - 1 - Tm.sizes ((t.args.take k).map f)))∧∀ i,1000≤i→i ≠ a0→x.S i=S i)
   t.args.length ⟨0,Nat.zero_le _,rfl,by show (0:Int)≤_;omega,rfl,rfl,rfl,rfl,rfl,rfl,rfl,by simp only [go_sem,fN,seval,eT,iR,d6,d4,d7,d9,e6],by (simp only [go_sem,fN,seval,eT,iR,d9]);rfl,by simp only [go_sem,fN,seval,eT,iR,e9],by simp only [go_sem,fN,seval,eT,iR,n11,d11],by (simp only [go_sem,fN,seval,eT,iR,e9,e900]);simp [Tm.sizes],fun i hi hne=>?_⟩ ?_
  ·have i4:¬ i=4:=by omega
   have i6:¬ i=6:=by omega
   have i7:¬ i=7:=by omega
   have i9:¬ i=9:=by omega
   have i900:¬ i=900:=by omega
   simp only [go_sem,fN,seval,eT,iR,i4,i6,i7,i9,i900,hne]
  rintro m ⟨env,S1⟩ ⟨k,hk,rfl,hsz,e0,e2,e6',e9',e44,e45,e46,s6,s9,s900,s11,sa,hrest⟩
  simp only at e0 e2 e6' e9' e44 e45 e46 s6 s9 s900 s11 sa hrest
  have hlk:(t.args.take k).length=k:=by rw [List.length_take];omega
  have hle:=Tm.sizes_take_le (t.args.map f) k
  rw [← List.map_take] at hle
  have hkl:=Tm.length_le ((t.args.take k).map f)
  rw [List.length_map,hlk] at hkl
  by_cases hlt:(k:Int) < t.args.length
  ·obtain ⟨a,ha⟩:=Ag (show k < t.args.length by omega)
   have ha':(t.args.map f)[k]?=some (f a):=by rw [List.getElem?_map,ha];rfl
   have z1:=Tm.sizes_take ha'
   have z2:=Tm.sizes_take_le (t.args.map f) (k + 1)
   rw [← List.map_take,← List.map_take] at z1
   rw [← List.map_take] at z2
   repeat' with_reducible first | refine W ?_ | refine Z0 ?_ | ((first | refine Wo fun K hK=>?_ | refine Wq ?_ | refine Wr ?_);(try simp only [go_sem,fN,seval,eT,iR,e0,e2,e6',e9',e44,e45,e46,s6,s9,s900,s11,sa,hlt]);(repeat refine Ai ?_);(try (refine hK _ ?_;clear hK K)))
   with_reducible refine Wp ?_
   simp only [go_sem,fN,seval,true_implies,false_implies,implies_true,dT,dF,nL,hlt]
   (try with_reducible refine iC ?_)
   repeat' with_reducible first | refine W ?_ | refine Z0 ?_ | ((first | refine Wo fun K hK=>?_ | refine Wq ?_ | refine Wr ?_);(try simp only [go_sem,fN,seval,eT,iR,e0,e2,e6',e9',e44,e45,e46,s6,s9,s900,s11,sa,d11,d9,e11,ha]);(repeat refine Ai ?_);(try (refine hK _ ?_;clear hK K)))
   have hcall:=ih a (AQ ha) (up1 a0) (left - 1 - Tm.sizes ((t.args.take k).map f)) (upS (AG (AG S1 11 (some (.box 37 [.st (.str ⟨#[]⟩),.full []]))) 11 (some (.box 37 [.st (.str a.name),.st (.list (a.args.map Ap))])))) (At a0) (by omega) (by omega) (by rw [A0,AH _ e11,AH _ e11,sa];rfl)
   by_cases hfit:((f a).size:Int)≤left - 1 - Tm.sizes ((t.args.take k).map f)
   ·rw [EN hfit] at hcall
    refine ⟨_,_,hcall,?_⟩
    have hge:¬ left - 1 - Tm.sizes ((t.args.take k).map f) - (f a).size < 0:=by omega
    repeat' with_reducible first | refine W ?_ | refine Z0 ?_ | ((first | refine Wo fun K hK=>?_ | refine Wq ?_ | refine Wr ?_);(try simp only [go_sem,fN,seval,eT,iR,e0,e2,e6',e9',e44,e45,e46,s6,s9,s900,s11,d11,d9,e11,e9,e900,d900,hlk]);(repeat refine Ai ?_);(try (refine hK _ ?_;clear hK K)))
    with_reducible refine Wp ?_
    simp only [go_sem,fN,seval,true_implies,false_implies,implies_true,dT,dF,nL,hge]
    (try with_reducible refine iC ?_)
    repeat' with_reducible first | refine W ?_ | refine Z0 ?_ | ((first | refine Wo fun K hK=>?_ | refine Wq ?_ | refine Wr ?_);(try simp only [go_sem,fN,seval,eT,iR,e0,e2,e6',e9',e44,e45,e46,s6,s9,s900,s11,d11,d9,e11]);(repeat refine Ai ?_);(try (refine hK _ ?_;clear hK K)))
    refine AI ⟨t.args.length - (k + 1),by omega,k + 1,by omega,rfl,?_⟩
    have hib:(a0 == 11)=false:=by simp;omega
    have hzz:((Tm.sizes ((t.args.take (k + 1)).map f):Nat):Int)=Tm.sizes ((t.args.take k).map f) + (f a).size:=by omega
    refine ⟨by omega,?_⟩
    simp only [go_sem,fN,seval,AS.drop,Ao,AC.clears,AC.clear,AC.highs,AC.high,Bool.not_false,Bool.true_and,Bool.and_self,AV.purge,AV.purges,AC.purge,AL.purge,List.contains_cons,List.contains_nil,Nat.reduceBEq,Bool.or_self,Bool.or_false,Bool.false_or,Bool.or_true,eT,iR,e0,e2,e6',e9',e44,e45,s6,s9,s900,d11,d9,e11,e9,e900,d900,d6,hib]
    refine ⟨by congr 3,by rw [Al ha,List.map_append,List.map_append,List.map_cons,List.map_nil,List.map_cons,List.map_nil,Af],?_,fun i hi hne=>?_⟩
    ·congr 5
     omega
    ·have i9:¬ i=9:=by omega
     have i11:¬ i=11:=by omega
     have i900:¬ i=900:=by omega
     have i11b:(i == 11)=false:=by simp;omega
     simp only [go_sem,fN,seval,AS.drop,Ao,AC.clears,AC.clear,AC.highs,AC.high,Bool.not_false,Bool.true_and,Bool.and_self,AV.purge,AV.purges,AC.purge,AL.purge,List.contains_cons,List.contains_nil,Nat.reduceBEq,Bool.or_self,Bool.or_false,Bool.false_or,Bool.or_true,eT,iR,i9,i11,i11b,i900,hne]
     rw [hrest i hi hne]
     exact TL (by decide) fun b hb=>(hS i b hb).2
   ·have hno:¬ ((Tm.mk t.name (t.args.map f)).size:Int)≤left:=by rw [hu];omega
    rw [Dz hfit] at hcall
    refine ⟨_,_,hcall,?_⟩
    repeat' with_reducible first | refine W ?_ | refine Z0 ?_ | ((first | refine Wo fun K hK=>?_ | refine Wq ?_ | refine Wr ?_);(try simp only [go_sem,fN,seval,eT,iR,e0,e2,e6',e9',e44,e45,e46,s6,s9,s900,s11,d11,d9,e11,e9,e900,d900,hlk]);(repeat refine Ai ?_);(try (refine hK _ ?_;clear hK K)))
    with_reducible refine Wp ?_
    simp only [go_sem,fN,seval,true_implies,false_implies,implies_true,dT,dF,nL]
    (try with_reducible refine iC ?_)
    repeat' with_reducible first | refine W ?_ | refine Z0 ?_ | ((first | refine Wo fun K hK=>?_ | refine Wq ?_ | refine Wr ?_);(try simp only [go_sem,fN,seval,eT,iR,e0,e2,e6',e9',e44,e45,e46,s6,s9,s900,s11,d11,d9,e11,e6,d6,d900,e900]);(repeat refine Ai ?_);(try (refine hK _ ?_;clear hK K)))
    rw [Dz hno]
    refine Bg (.agg [.st (.str ⟨#[]⟩),.full []]) hS ha0 rfl trivial ?_ ?_ ?_ fun i hi hne=>?_
    ·simp only [go_sem,fN,seval,eT,iR,AB,AD,AK,e6',s6,e6,e9,e11,e900,d6,d9,d11,d900]
    ·simp only [go_sem,fN,seval,eT,iR,Tm.nil]
     rfl
    ·simp only [go_sem,fN,seval,eT,iR,e6,e9,e11,e900]
    ·have i6:¬ i=6:=by omega
     have i9:¬ i=9:=by omega
     have i11:¬ i=11:=by omega
     have i900:¬ i=900:=by omega
     simp only [go_sem,fN,seval,eT,iR,i6,i9,i11,i900,hne]
     exact hrest i hi hne
  ·have hall:t.args.take k=t.args:=List.take_of_length_le (by omega)
   rw [hall] at hlk s900 hsz sa
   have hyes:((Tm.mk t.name (t.args.map f)).size:Int)≤left:=by rw [hu];omega
   repeat' with_reducible first | refine W ?_ | refine Z0 ?_ | ((first | refine Wo fun K hK=>?_ | refine Wq ?_ | refine Wr ?_);(try simp only [go_sem,fN,seval,eT,iR,e0,e2,e6',e9',e44,e45,e46,s6,s9,s900,s11,sa,hlt]);(repeat refine Ai ?_);(try (refine hK _ ?_;clear hK K)))
   with_reducible refine Wp ?_
   simp only [go_sem,fN,seval,true_implies,false_implies,implies_true,dT,dF,nL,hlt]
   (try with_reducible refine iC ?_)
   repeat' with_reducible first | refine W ?_ | refine Z0 ?_ | ((first | refine Wo fun K hK=>?_ | refine Wq ?_ | refine Wr ?_);(try simp only [go_sem,fN,seval,eT,iR,e0,e2,e6',e9',e44,e45,e46,s6,s9,s900,s11,sa,d6]);(repeat refine Ai ?_);(try (refine hK _ ?_;clear hK K)))
   rw [EN hyes]
   refine Bg (.agg [.st (.str t.name),.row 900 k]) hS ha0 rfl trivial ?_ ?_ ?_ fun i hi hne=>?_
   ·simp only [go_sem,fN,seval,eT,iR,AB,AD,AK,e6',s6]
   ·simp only [go_sem,fN,seval,eT,iR,s900,hlk]
    rfl
   ·simp only [go_sem,fN,seval,eT,iR,e6,sa,hu]
    rw [show left - 1 - (Tm.sizes (t.args.map f):Int)=left - ((1 + Tm.sizes (t.args.map f):Nat):Int) by omega]
   ·have i6:¬ i=6:=by omega
    simp only [go_sem,fN,seval,eT,iR,i6]
    exact hrest i hi hne
theorem ZH (s:List Bd) (h40:s.length≤100000) (ho:BH s) (t:Tm):∀ (a0:Nat) (left:Int) (S:AA),1000≤a0→0≤left→left≤1000000→S a0=some (Ja s left) →
  As Tryz.prog 126 [.one (.ptr a0 1 0 0),aTm t,Aa false] S (aTm (DE t left).1) (AG S a0 (some (Ja s (DE t left).2))):=by
 induction h:SizeOf.sizeOf t using Nat.strongRecOn generalizing t with
 | _ N ih =>
 subst h
 intro a0 left S h1 h2 h3 h4
 have:=Nq s h40 ho false id t (fun h=>by cases h) (fun a ha=>ih _ (Tm.lt_of_arg ha) a rfl) a0 left S h1 h2 h3 h4
 rw [List.map_id,Tm.eta] at this
 exact this
theorem Yz (s:List Bd) (h40:s.length≤100000) (ho:BH s) (t:Tm) (hv:∀ b ∈ s,AJ b.1=true) (hchk:t.chk=0):∀ (a0:Nat) (left:Int) (S:AA),1000≤a0→0≤left→left≤1000000→S a0=some (Ja s left) →
  As Tryz.prog 126 [.one (.ptr a0 1 0 0),aTm t,Aa true] S (aTm (DE (t.on s) left).1) (AG S a0 (some (Ja s (DE (t.on s) left).2))):=by
 induction h:SizeOf.sizeOf t using Nat.strongRecOn generalizing t with
 | _ N ih =>
 subst h
 intro a0 left S ha0 h0 h1 hSa
 obtain ⟨c1,c2⟩:=Tm.chk_args hchk
 cases hl:lookup s t.name with
 | none =>
  have:=Nq s h40 ho true (Tm.on s) t (fun _=>hl) (fun a ha=>ih _ (Tm.lt_of_arg ha) a (c2 a ha) rfl) a0 left S ha0 h0 h1 hSa
  rw [← Tm.on_knot (.inl hl)] at this
  exact this
 | some x =>
  obtain ⟨b,hb,hbn,_⟩:=Cm hl
  have hargs:=c1 (by rw [← hbn];exact hv b hb)
  rw [Tm.on_leaf hl hargs]
  refine CJ.acS fun hS C hC=>?_
  have n4:S 4=none:=AP hS (by omega)
  have n6:S 6=none:=AP hS (by omega)
  have n7:S 7=none:=AP hS (by omega)
  have e4:¬ a0=4:=by omega
  have e6:¬ a0=6:=by omega
  have e7:¬ a0=7:=by omega
  have d4:¬ 4=a0:=by omega
  have d6:¬ 6=a0:=by omega
  have d7:¬ 7=a0:=by omega
  unfold Bb
  repeat' with_reducible first | refine W ?_ | refine Z0 ?_ | ((first | refine Wo fun K hK=>?_ | refine Wq ?_ | refine Wr ?_);(try simp only [go_sem,fN,seval,eT,iR,hSa,n4,n6,n7,d4,d6,d7,e4,e6,e7]);(repeat refine Ai ?_);(try (refine hK _ ?_;clear hK K)))
  with_reducible refine Wp ?_
  simp only [go_sem,fN,seval,true_implies,false_implies,implies_true,dT,dF,nL]
  (try with_reducible refine iC ?_)
  repeat' (first | (with_reducible first | refine W ?_ | refine Z0 ?_ | ((first | refine Wo fun K hK=>?_ | refine Wq ?_ | refine Wr ?_);(try simp only [go_sem,fN,seval,eT,iR,hSa,n4,n6,n7,d4,d6,d7,e4,e6,e7,hl]);(repeat refine Ai ?_);(try (refine hK _ ?_;clear hK K)))) | refine Cg _ (YE s h40 ho t.name) ?_)
  with_reducible refine Wp ?_
  simp only [go_sem,fN,seval,true_implies,false_implies,implies_true,dT,dF,nL]
  (try with_reducible refine iC ?_)
  repeat' with_reducible first | refine W ?_ | refine Z0 ?_ | ((first | refine Wo fun K hK=>?_ | refine Wq ?_ | refine Wr ?_);(try simp only [go_sem,fN,seval,eT,iR,hSa,n4,n6,n7,d4,d6,d7,e4,e6,e7]);(repeat refine Ai ?_);(try (refine hK _ ?_;clear hK K)))
  have hcall:=fun S' h=>ZH s h40 ho x (up1 a0) left S' (At a0) h0 h1 h
  refine ⟨_,_,hcall _ (by rw [A0];(simp only [go_sem,fN,seval,eT,iR,e4,e6,e7,hSa])),?_⟩
  repeat' with_reducible first | refine W ?_ | refine Z0 ?_ | ((first | refine Wo fun K hK=>?_ | refine Wq ?_ | refine Wr ?_);(try simp only [go_sem,fN,seval,eT,iR,e4,e6,e7,d4,d6,d7]);(repeat refine Ai ?_);(try (refine hK _ ?_;clear hK K)))
  refine Bg (aTm (DE x left).1) hS ha0 rfl trivial ?_ ?_ ?_ fun i hi hne=>?_
  ·simp only [go_sem,fN,seval,eT,iR,AB,AD,AK,e4,e6,e7,d4,d6,d7]
  ·simp only [go_sem,fN,seval,eT,iR]
  ·simp only [go_sem,fN,seval,eT,iR,e4,e6,e7]
  ·have i4:¬ i=4:=by omega
   have i6:¬ i=6:=by omega
   have i7:¬ i=7:=by omega
   simp only [go_sem,fN,seval,eT,iR,i4,i6,i7,hne]
theorem Nt (s:List Bd) (h40:s.length≤100000) (ho:BH s) (t:Tm) (hv:∀ b ∈ s,AJ b.1=true) (hchk:t.chk=0):AU Tryz.prog 110 [Uk s,aTm t] (.tup [aTm (A7 s t).1,Aa (A7 s t).2]):=by
 refine QK.ac fun C hC=>?_
 unfold Ka
 repeat' with_reducible first | refine W ?_ | refine Z0 ?_ | ((first | refine Wo fun K hK=>?_ | refine Wq ?_ | refine Wr ?_);(try simp only [go_sem,fN,seval,eT,iR]);(repeat refine Ai ?_);(try (refine hK _ ?_;clear hK K)))
 have hcall:=fun S' h=>Yz s h40 ho t hv hchk (up1 10) 2000 S' (At 10) (by omega) (by omega) h
 refine ⟨_,_,hcall _ (by rw [A0];rfl),?_⟩
 by_cases hfit:((t.on s).size:Int)≤2000
 ·have e:A7 s t=(t.on s,true):=by
   unfold A7
   rw [if_pos (by omega)]
  rw [EN hfit]
  have hge:(0:Int)≤2000 - (t.on s).size:=by omega
  repeat' with_reducible first | refine W ?_ | refine Z0 ?_ | ((first | refine Wo fun K hK=>?_ | refine Wq ?_ | refine Wr ?_);(try simp only [go_sem,fN,seval,eT,iR,hge]);(repeat refine Ai ?_);(try (refine hK _ ?_;clear hK K)))
  rw [e]
  simp only [go_sem,fN,seval,AN,AS.result,AB,AD,AK]
 ·have e:A7 s t=(Tm.nil,false):=by
   unfold A7
   rw [if_neg (by omega)]
  rw [Dz hfit]
  repeat' with_reducible first | refine W ?_ | refine Z0 ?_ | ((first | refine Wo fun K hK=>?_ | refine Wq ?_ | refine Wr ?_);(try simp only [go_sem,fN,seval,eT,iR]);(repeat refine Ai ?_);(try (refine hK _ ?_;clear hK K)))
  rw [e]
  simp only [go_sem,fN,seval,AN,AS.result,AB,AD,AK]

set_option maxRecDepth 100000
def Aq:IR :=
 (.seq (.ops [.i 6 (.mov (.n 0)),.i 7 (.mov (.c (.one (.st (.bool false)))))]) (.seq (.ops [.m 12 0,.i 13 (.len false (.t 12)),.m 8 13]) (.seq (.ops [.m 14 8,.i 9 (.mov (.n 0)),.m 10 14]) (.seq (.block 0 (.loop (.seq (.seq (.ops [.m 15 9,.m 16 10,.i 17 (.bin .lss (.t 15) (.t 16))]) (.cond (.t 17) .skip (.exit 0))) (.block 1 (.seq (.ops [.m 18 9,.m 19 10,.i 20 (.bin .add (.t 18) (.t 19)),.i 21 (.conv .u64 (.t 20)),.i 22 (.bin .shr (.t 21) (.c (.one (.st (.int .u64 1))))),.i 23 (.conv .i64 (.t 22)),.m 11 23]) (.seq (.ops [.m 24 2,.m 25 0,.m 26 11,.i 27 (.indexAddr 3 (.t 25) (.t 26)),.L 28 3 27,.m 29 1,.i 30 (.callV (.t 24) [.t 28,.t 29]),.i 31 (.bin .lss (.t 30) (.n 0))]) (.cond (.t 31) (.ops [.m 32 11,.i 33 (.bin .add (.t 32) (.n 1)),.m 9 33]) (.ops [.m 34 11,.m 10 34])))))))) (.seq (.ops [.m 35 9,.m 36 9,.m 37 8,.i 38 (.bin .lss (.t 36) (.t 37)),.m 39 38,.mk (some 40) (some (39,true)) (.mov (.t 2)) .no,.mk (some 41) (some (39,true)) (.mov (.t 0)) .no,.mk (some 42) (some (39,true)) (.mov (.t 9)) .no,.mk (some 43) (some (39,true)) (.indexAddr 3 (.t 41) (.t 42)) .no,.mk (some 44) (some (39,true)) (.load true 3 (.t 43)) .no,.mk (some 45) (some (39,true)) (.mov (.t 1)) .no,.mk (some 46) (some (39,true)) (.callV (.t 40) [.t 44,.t 45]) .no,.mk (some 47) (some (39,true)) (.bin .eql (.t 46) (.n 0)) .no,.i 48 (.pick (.t 39) (.t 47) (.c (.one (.st (.bool false))))),.m 6 35,.m 7 48]) .ret)))))
theorem BB:OkF Tryz.prog 142 49 [] Aq [.t 6,.t 7]:=.of Tryz.func142 rfl rfl (by kernel_rfl) rfl
def HJ:IR :=
 (.seq (.ops [.i 4 (.alloc 37 [.st (.str (ByteArray.mk (#[]))),.full []]),.i 5 (.mov (.c (.one (.st (.bool false)))))]) (.seq (.ops [.m 9 0,.m 10 1,.i 11 (.callR 142 [.t 9,.t 10,.c (.one (.fn 143 []))]),.m 8 11,.i 12 (.extract 0 (.t 8)),.i 13 (.extract 1 (.t 8)),.m 6 12,.m 7 13]) (.seq (.seq (.ops [.m 14 7,.i 15 (.un .not (.t 14))]) (.cond (.t 15) (.seq (.ops [.i 16 (.build [.st (.str (ByteArray.mk (#[]))),.full []] []),.s 2 4 16,.i 5 (.mov (.c (.one (.st (.bool false)))))]) .ret) .skip)) (.seq (.ops [.m 17 0,.m 18 6,.i 19 (.indexAddr 3 (.t 17) (.t 18)),.f 20 1 19,.L 21 2 20,.s 2 4 21,.i 5 (.mov (.c (.one (.st (.bool true)))))]) .ret))))
theorem Ls:OkF Tryz.prog 135 22 [40000011] HJ [.cell 4 true 2,.t 5]:=.of Tryz.func135 rfl rfl (by kernel_rfl) rfl
def BU:IR :=
 (.seq (.ops [.i 4 (.box 37 (.t 1)),.i 6 (.alloc 37 [.st (.str (ByteArray.mk (#[]))),.full []])]) (.seq (.seq (.ops [.m 12 2]) (.cond (.t 12) (.seq (.ops [.m 14 0,.i 15 (.nilCheck (.t 14)),.f 16 0 15,.l 17 16,.f 18 0 4,.l 19 18,.i 20 (.callR 135 [.t 17,.t 19]),.m 13 20,.i 21 (.extract 0 (.t 13)),.i 22 (.extract 1 (.t 13)),.i 7 (.alloc 37 [.st (.str (ByteArray.mk (#[]))),.full []]),.s 2 7 21,.m 8 22]) (.seq (.ops [.m 23 8]) (.cond (.t 23) (.seq (.ops [.m 24 0,.L 25 2 7,.i 26 (.callS 126 [.t 24,.t 25,.c (.one (.st (.bool false)))]),.s 2 6 26]) .ret) .skip))) .skip)) (.seq (.seq (.ops [.m 27 0,.i 28 (.nilCheck (.t 27)),.f 29 1 28,.l 30 29,.i 31 (.bin .sub (.t 30) (.n 1)),.i 32 (.nilCheck (.t 27)),.f 33 1 32,.s 1 33 31]) (.seq (.ops [.m 34 0,.i 35 (.nilCheck (.t 34)),.f 36 1 35,.l 37 36,.i 38 (.bin .lss (.t 37) (.n 0))]) (.cond (.t 38) (.seq (.ops [.i 39 (.build [.st (.str (ByteArray.mk (#[]))),.full []] []),.s 2 6 39]) .ret) .skip))) (.seq (.ops [.f 40 0 4,.l 41 40,.i 42 (.build [.st (.str (ByteArray.mk (#[]))),.full []] [(0,1,.t 41)]),.i 9 (.alloc 37 [.st (.str (ByteArray.mk (#[]))),.full []]),.s 2 9 42]) (.seq (.seq (.ops [.f 43 1 4,.l 44 43,.i 45 (.len false (.t 44)),.i 46 (.mov (.n 0))]) (.block 0 (.loop (.seq (.ops [.i 47 (.bin .lss (.t 46) (.t 45))]) (.seq (.cond (.t 47) .skip (.exit 0)) (.seq (.block 1 (.seq (.ops [.i 48 (.indexAddr 2 (.t 44) (.t 46)),.L 49 2 48,.i 11 (.alloc 37 [.st (.str (ByteArray.mk (#[]))),.full []]),.s 2 11 49]) (.seq (.ops [.mk (some 50) none (.fieldAddr 1 (.t 9)) (.onb 9),.mk (some 51) none (.load false 1 (.t 50)) (.onb 9),.m 52 0,.L 53 2 11,.m 54 2,.mk (some 55) none (.callS 126 [.t 52,.t 53,.t 54]) (.keeps [9,9]),.i 56 (.buildSlice false 37 2 [.t 55]),.i 57 (.append false 37 2 40 (.t 51) (.t 56)),.f 58 1 9,.s 1 58 57]) (.seq (.ops [.m 59 0,.i 60 (.nilCheck (.t 59)),.f 61 1 60,.l 62 61,.i 63 (.bin .lss (.t 62) (.n 0))]) (.cond (.t 63) (.seq (.ops [.i 64 (.build [.st (.str (ByteArray.mk (#[]))),.full []] []),.s 2 6 64]) .ret) .skip))))) (.ops [.i 65 (.bin .add (.t 46) (.n 1)),.m 46 65]))))))) (.seq (.ops [.L 66 2 9,.s 2 6 66]) .ret))))))
theorem CA:OkF Tryz.prog 126 67 [40000020,26,55] BU [.cell 6 true 2]:=.of Tryz.func126 rfl rfl (by kernel_rfl) rfl
def Iw:IR :=
 (.seq (.ops [.i 3 (.box 37 (.t 1)),.i 4 (.alloc 37 [.st (.str (ByteArray.mk (#[]))),.full []]),.i 5 (.mov (.c (.one (.st (.bool false)))))]) (.seq (.ops [.m 8 0,.i 9 (.build [.full [],.st (.int .i64 0)] [(0,1,.t 8),(1,1,.n 2000)]),.i 10 (.box 150 (.t 9)),.m 6 10]) (.seq (.ops [.m 11 6,.L 12 2 3,.i 13 (.callS 126 [.t 11,.t 12,.c (.one (.st (.bool true)))]),.i 7 (.alloc 37 [.st (.str (ByteArray.mk (#[]))),.full []]),.s 2 7 13]) (.seq (.ops [.L 14 2 7,.m 15 6,.mk (some 16) none (.nilCheck (.t 15)) (.onb 10),.mk (some 17) none (.fieldAddr 1 (.t 16)) (.onb 10),.mk (some 18) none (.load false 1 (.t 17)) (.onb 10),.i 19 (.bin .geq (.t 18) (.n 0)),.mk none none (.store 2 (.t 4) (.t 14)) (.onb 4),.m 5 19]) .ret))))
theorem Py:OkF Tryz.prog 110 20 [13,10060010] Iw [.cell 4 true 2,.t 5]:=.of Tryz.func110 rfl rfl (by kernel_rfl) rfl

abbrev BR (l:List Bd):AL:=.mrow 82 3 (l.map C3)

end Go.Proofs.YtbhnmjkmieiadaaGreatDoor
