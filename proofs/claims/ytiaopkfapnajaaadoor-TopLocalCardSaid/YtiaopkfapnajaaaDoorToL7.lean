/-
  Part 7 of the texts. Conditions: none.
-/
import Derived.Test.YtiaopkfapnajaaaDoorToL6
import Derived.Shelf.Strconv.Itoa3
import Derived.Shelf.SlSortCmp.WholeK
import Derived.Shelf.SlSortCmp.NoneTotal
import Derived.Test.YtiaopkfapnajaaaDoorProg
namespace Go.Proofs.YtiaopkfapnajaaaDoor
open Go
set_option linter.unusedVariables false
def Tm.atP : Tm → List Int → Option Tm
 | t, [] => some t
 | t, i :: p => if i < 0 then none else match t.args[i.toNat]? with
  | some a => a.atP p
  | none => none
def Tm.putP : Tm → List Int → Tm → Tm
 | t, [], x => x
 | t, i :: p, x => match t.args[i.toNat]? with
  | some a => .mk t.name (t.args.set i.toNat (a.putP p x))
  | none => t
theorem Tm.atP_nil (t : Tm) : t.atP [] = some t := by cases t; rfl
theorem Tm.putP_nil (t x : Tm) : t.putP [] x = x := by cases t; rfl
theorem Tm.atP_cons (t : Tm) (i : Int) (p : List Int) : t.atP (i :: p) = if i < 0 then none else match t.args[i.toNat]? with
  | some a => a.atP p
  | none => none := by cases t; rfl
theorem Tm.putP_cons (t : Tm) (i : Int) (p : List Int) (x : Tm) : t.putP (i :: p) x = match t.args[i.toNat]? with
  | some a => .mk t.name (t.args.set i.toNat (a.putP p x))
  | none => t := by cases t; rfl
theorem Tm.atP_at {t a : Tm} {k : Nat} (h : t.args[k]? = some a) (p : List Int) : t.atP ((k : Int) :: p) = a.atP p := by
 rw [Tm.atP_cons, if_neg (by omega), Int.toNat_natCast, h]
theorem Tm.putP_at {t a : Tm} {k : Nat} (h : t.args[k]? = some a) (p : List Int) (x : Tm) : t.putP ((k : Int) :: p) x = .mk t.name (t.args.set k (a.putP p x)) := by
 rw [Tm.putP_cons, Int.toNat_natCast, h]
def DL (R : List Pr) (t : Tm) : List Pr → Option (Tm × Int)
 | [] => none
 | r :: l => if GH r.1 t = true then (if (BH (CM r.1 t) r.2).2 = true then some ((BH (CM r.1 t) r.2).1, 0) else some (Tm.nil, 8)) else DL R t l
def Gq (R : List Pr) (t : Tm) : Option (Tm × Int) := DL R t R
theorem Kp {R : List Pr} {t x : Tm} {e : Int} : ∀ {l : List Pr}, DL R t l = some (x, e) → (e = 0 ∨ e = 8) ∧ x.size ≤ 2000 ∧ (e = 8 → x = Tm.nil)
 | [], h => by cases h
 | r :: l, h => by
  rw [DL] at h
  split at h
  ·split at h
   ·cases h
    refine ⟨.inl rfl, ?_, by simp⟩
    unfold BH
    split
    ·assumption
    ·decide
   ·cases h
    exact ⟨.inr rfl, by decide, fun _ => rfl⟩
  ·exact Kp h
mutual
def Tm.inn (R : List Pr) : Tm → Option (Tm × Int)
 | .mk n xs => match Tm.innL R xs with
  | some (ys, e) => some (.mk n ys, e)
  | none => Gq R (.mk n xs)
def Tm.innL (R : List Pr) : List Tm → Option (List Tm × Int)
 | [] => none
 | x :: xs => match Tm.inn R x with
  | some (y, e) => some (y :: xs, e)
  | none => match Tm.innL R xs with
   | some (ys, e) => some (x :: ys, e)
   | none => none
end
mutual
def Tm.out (R : List Pr) : Tm → Option (Tm × Int)
 | .mk n xs => match Gq R (.mk n xs) with
  | some r => some r
  | none => match Tm.outL R xs with
   | some (ys, e) => some (.mk n ys, e)
   | none => none
def Tm.outL (R : List Pr) : List Tm → Option (List Tm × Int)
 | [] => none
 | x :: xs => match Tm.out R x with
  | some (y, e) => some (y :: xs, e)
  | none => match Tm.outL R xs with
   | some (ys, e) => some (x :: ys, e)
   | none => none
end
theorem Tm.inn_eq (R : List Pr) (t : Tm) : t.inn R = match Tm.innL R t.args with
  | some (ys, e) => some (.mk t.name ys, e)
  | none => Gq R t := by cases t; rfl
def Ct (step : Tm → Option (Tm × Int)) : Nat → Int → Tm → Tm × Int × Int
 | 0, n, t => match step t with
  | none => (t, n, 0)
  | some _ => (Tm.nil, 0, 9)
 | k + 1, n, t => match step t with
  | none => (t, n, 0)
  | some (x, e) => if e ≠ 0 then (Tm.nil, 0, e) else if 2000 < x.size then (Tm.nil, 0, 8) else Ct step k (n + 1) x

open Go.RowKit
def PP (l m : List Bd) : Prop := ∀ n x, lookup l n = some x → lookup m n = some x
theorem PP.trans {a b c : List Bd} (h : PP a b) (k : PP b c) : PP a c := fun n x e => k n x (h n x e)
def PW (b : Bd) : Prop := AQ b.1 = true ∧ A0 b.1 = true ∧ b.2.chk = 0
theorem QH {t : Tm} (h : t.chk = 0) : A0 t.name = true := by
 have := KT h
 unfold CE at this
 split at this
 ·assumption
 ·cases this
mutual
theorem PN : ∀ (p : Tm), p.chk = 0 → ∀ (t : Tm), t.chk = 0 → ∀ (l : List Bd), (∀ b ∈ l, PW b) → ∀ b ∈ (p.mt t l).1, PW b
 | .mk n xs, hc, t, ht, l, hl => by
  obtain ⟨c1, c2⟩ := Tm.chk_args hc
  simp only [Tm.name_mk, Tm.args_mk] at c1 c2
  rw [Tm.mt]
  split
  ·rename_i hv
   split
   ·exact hl
   ·intro b hb
    rcases List.mem_append.1 hb with hb | hb
    ·exact hl b hb
    ·rw [List.mem_singleton] at hb
     subst hb
     exact ⟨hv, QH hc, ht⟩
  ·split
   ·exact NF xs c2 t.args (Tm.chk_args ht).2 l hl
   ·exact hl
theorem NF : ∀ (xs : List Tm), (∀ x ∈ xs, x.chk = 0) → ∀ (ys : List Tm), (∀ y ∈ ys, y.chk = 0) → ∀ (l : List Bd), (∀ b ∈ l, PW b) → ∀ b ∈ (Tm.mtL xs ys l).1, PW b
 | [], _, ys, _, l, hl => by rw [Tm.mtL_nil]; exact hl
 | x :: xs, _, [], _, l, hl => by rw [Tm.mtL]; exact hl; simp
 | x :: xs, hc, y :: ys, hy, l, hl => by
  rw [Tm.mtL]
  have h1 := PN x (hc x (by simp)) y (hy y (by simp)) l hl
  split
  ·exact NF xs (fun a ha => hc a (by simp [ha])) ys (fun a ha => hy a (by simp [ha])) _ h1
  ·exact h1
end
section
variable {p t : Tm}
theorem PT (hp : p.chk = 0) (ht : t.chk = 0) : OkB (CM p t) := by
 unfold CM
 have hg := PN p hp t ht [] (by simp)
 split
 ·exact ⟨Bh (MW p t), fun b hb => (hg b (Bj.1 hb)).1, fun b hb => (hg b (Bj.1 hb)).2.1, fun b hb => (hg b (Bj.1 hb)).2.2⟩
 ·exact ⟨List.Pairwise.nil, by simp, by simp, by simp⟩
theorem NC : (CM p t).length ≤ p.size := by
 unfold CM
 split
 ·rw [BS]; exact RU p t
 ·simp
end

def D7 {α : Type} (f : α → Int) : List α → Int
 | [] => 0
 | x :: xs => if f x = 0 then D7 f xs else f x
theorem E6 {α : Type} (f : α → Int) : ∀ xs ys : List α, D7 f (xs ++ ys) = if D7 f xs = 0 then D7 f ys else D7 f xs
 | [], ys => rfl
 | x :: xs, ys => by
  by_cases h : f x = 0
  ·have e1 : D7 f (x :: (xs ++ ys)) = D7 f (xs ++ ys) := if_pos h
   have e2 : D7 f (x :: xs) = D7 f xs := if_pos h
   rw [List.cons_append, e1, e2, E6 f xs ys]
  ·have e1 : D7 f (x :: (xs ++ ys)) = f x := if_neg h
   have e2 : D7 f (x :: xs) = f x := if_neg h
   rw [List.cons_append, e1, e2, if_neg h]
theorem RM {α : Type} {f : α → Int} {xs : List α} {k : Nat} {a : α} (h : xs[k]? = some a) (h0 : D7 f (xs.take k) = 0) : (f a = 0 → D7 f (xs.take (k + 1)) = 0) ∧ (f a ≠ 0 → D7 f xs = f a) := by
 refine ⟨fun ha => ?_, fun ha => ?_⟩
 ·rw [Aq h, E6, if_pos h0]
  simp [D7, ha]
 ·have e : xs = xs.take k ++ a :: xs.drop (k + 1) := by
   rw [← Bl h, List.take_append_drop]
  rw [e, E6, if_pos h0]
  simp [D7, ha]
theorem LD {α : Type} {f : α → Int} : ∀ {xs : List α}, D7 f xs = 0 → ∀ x ∈ xs, f x = 0
 | [], _, x, h => by cases h
 | y :: ys, h0, x, hx => by
  rw [D7] at h0
  by_cases hy : f y = 0
  ·rw [if_pos hy] at h0
   rcases List.mem_cons.1 hx with rfl | hx
   ·exact hy
   ·exact LD h0 x hx
  ·rw [if_neg hy] at h0
   exact absurd h0 hy
def JH (r : Pr) : Bool := r.2.varsOf.any fun v => !C6 v r.1.varsOf
def Fn (r : Pr) : Int := if Bm r.1 r.2 = 0 then (if AQ r.1.name = true then 2 else if JH r = true then 15 else 0) else Bm r.1 r.2
def BM (R : List Pr) : Int := if 40 < R.length then 3 else D7 Fn R
structure BJ (R : List Pr) : Prop where
 len : R.length ≤ 40
 left : ∀ r ∈ R, r.1.may = 0
 right : ∀ r ∈ R, r.2.may = 0
 head : ∀ r ∈ R, AQ r.1.name = false
 vars : ∀ r ∈ R, ∀ v ∈ r.2.varsOf, v ∈ r.1.varsOf
theorem LV {r : Pr} (h : Fn r = 0) : r.1.may = 0 ∧ r.2.may = 0 ∧ AQ r.1.name = false ∧ JH r = false := by
 unfold Fn at h
 by_cases h1 : Bm r.1 r.2 = 0
 ·rw [if_pos h1] at h
  by_cases h2 : AQ r.1.name = true
  ·rw [if_pos h2] at h; cases h
  ·rw [if_neg h2] at h
   by_cases h3 : JH r = true
   ·rw [if_pos h3] at h; cases h
   ·unfold Bm at h1
    by_cases h4 : r.1.may = 0
    ·rw [if_pos h4] at h1
     exact ⟨h4, h1, by simpa using h2, by simpa using h3⟩
    ·rw [if_neg h4] at h1
     exact absurd h1 h4
 ·rw [if_neg h1] at h
  exact absurd h h1
theorem LH {R : List Pr} (h : BM R = 0) : BJ R := by
 unfold BM at h
 by_cases h0 : 40 < R.length
 ·rw [if_pos h0] at h; cases h
 ·rw [if_neg h0] at h
  have key := fun r hr => LV (LD h r hr)
  refine ⟨by omega, fun r hr => (key r hr).1, fun r hr => (key r hr).2.1, fun r hr => (key r hr).2.2.1, fun r hr v hv => ?_⟩
  have := (key r hr).2.2.2
  unfold JH at this
  rw [List.any_eq_false] at this
  have := this v hv
  simp only [Bool.not_eq_true', Bool.not_eq_false] at this
  exact GY.1 this
def Gn (R : List Pr) (t : Tm) : Int := if BM R = 0 then t.may else BM R
def GC (t : Tm) : Nat → List Pr → Tm × Int × Int
 | _, [] => (Tm.nil, -1, 0)
 | k, r :: l => if GH r.1 t = true then ((BH (CM r.1 t) r.2).1, (k : Int), if (BH (CM r.1 t) r.2).2 = true then 0 else 8) else GC t (k + 1) l
theorem Pa {s : List Bd} {t : Tm} (h : ¬ (BH s t).2 = true) : (BH s t).1 = Tm.nil := by
 unfold BH at *
 split
 ·rename_i h1
  rw [if_pos h1] at h
  exact absurd rfl h
 ·rfl
theorem Ix (R : List Pr) (t : Tm) : ∀ (l : List Pr) (k : Nat), match DL R t l with
  | none => GC t k l = (Tm.nil, -1, 0)
  | some (x, e) => ∃ i : Nat, GC t k l = (x, (i : Int), e)
 | [], k => rfl
 | r :: l, k => by
  rw [DL, GC]
  by_cases h : GH r.1 t = true
  ·rw [if_pos h, if_pos h]
   by_cases h2 : (BH (CM r.1 t) r.2).2 = true
   ·rw [if_pos h2, if_pos h2]
    exact ⟨k, rfl⟩
   ·rw [if_neg h2, if_neg h2]
    exact ⟨k, by rw [Pa h2]⟩
  ·rw [if_neg h, if_neg h]
   exact Ix R t l (k + 1)
theorem PL {R : List Pr} : ∀ {xs : List Tm} {k : Nat} {a y : Tm} {e : Int}, xs[k]? = some a → (∀ b ∈ xs.take k, b.inn R = none) → a.inn R = some (y, e) → Tm.innL R xs = some (xs.set k y, e)
 | [], k, a, y, e, h, _, _ => by simp at h
 | x :: xs, 0, a, y, e, h, _, hy => by
  simp at h
  subst h
  rw [Tm.innL, hy]
  rfl
 | x :: xs, k + 1, a, y, e, h, hn, hy => by
  rw [Tm.innL, hn x (by simp), PL (xs := xs) (k := k) (by simpa using h) (fun b hb => hn b (by rw [List.take_succ_cons]; exact List.mem_cons_of_mem _ hb)) hy]
  rfl
theorem MA {R : List Pr} : ∀ {xs : List Tm}, (∀ b ∈ xs, b.inn R = none) → Tm.innL R xs = none
 | [], _ => rfl
 | x :: xs, h => by rw [Tm.innL, h x (by simp), MA (fun b hb => h b (List.mem_cons_of_mem _ hb))]
theorem Kv {R : List Pr} (hR : BJ R) {t x : Tm} {e : Int} (ht : t.chk = 0) : ∀ {l : List Pr}, (∀ r ∈ l, r ∈ R) → DL R t l = some (x, e) → x.chk = 0 ∨ e = 8
 | [], _, h => by cases h
 | r :: l, hl, h => by
  rw [DL] at h
  have hr := hl r (by simp)
  split at h
  ·rename_i hc
   split at h
   ·rename_i h2
    cases h
    left
    have e1 : (BH (CM r.1 t) r.2).1 = r.2.on (CM r.1 t) := by
     unfold BH at h2 ⊢
     split
     ·rfl
     ·rename_i h3
      rw [if_neg h3] at h2
      cases h2
    rw [e1]
    exact Tu (PT (Tm.may_chk (hR.left r hr)).1 ht).chk (Tm.may_chk (hR.right r hr)).1
   ·cases h
    exact .inr rfl
  ·exact Kv hR ht (fun r hr => hl r (List.mem_cons_of_mem _ hr)) h
theorem O3 {n : ByteArray} {xs : List Tm} {k : Nat} {y : Tm} (h : (Tm.mk n xs).chk = 0) (hk : k < xs.length) (hy : y.chk = 0) : (Tm.mk n (xs.set k y)).chk = 0 := by
 refine NV h (by simp) fun z hz => ?_
 rcases List.mem_or_eq_of_mem_set hz with hz | rfl
 ·exact (Tm.chk_args h).2 z hz
 ·exact hy
theorem Kj : ∀ {xs : List Tm} {k : Nat} {a : Tm} (y : Tm), xs[k]? = some a → Tm.sizes (xs.set k y) + a.size = Tm.sizes xs + y.size
 | [], k, a, y, h => by simp at h
 | x :: xs, 0, a, y, h => by
  simp at h
  subst h
  simp only [List.set_cons_zero, Tm.sizes]
  omega
 | x :: xs, k + 1, a, y, h => by
  have := Kj (xs := xs) (k := k) y (by simpa using h)
  simp only [List.set_cons_succ, Tm.sizes]
  omega
mutual
theorem Jh {R : List Pr} (hR : BJ R) : ∀ {t x : Tm} {e : Int}, t.chk = 0 → t.inn R = some (x, e) → (e = 0 ∨ e = 8) ∧ (e = 0 → x.chk = 0) ∧ x.size ≤ t.size + 2000
 | .mk n xs, x, e, hc, h => by
  rw [Tm.inn] at h
  split at h
  ·rename_i ys e' hy
   cases h
   obtain ⟨k, a, y, h1, h2, h3, h4, h5, h6⟩ := K7 (xs := xs) hR (fun b hb => (Tm.chk_args hc).2 b hb) hy
   subst h2
   have h7 := Kj y h1
   have hk := CP h1
   refine ⟨h4, fun he => O3 hc hk (h5 he), ?_⟩
   have z1 : (Tm.mk n (xs.set k y)).size = 1 + Tm.sizes (xs.set k y) := rfl
   have z2 : (Tm.mk n xs).size = 1 + Tm.sizes xs := rfl
   omega
  ·obtain ⟨h1, h2, h3⟩ := Kp h
   refine ⟨h1, fun he => (Kv hR hc (fun r hr => hr) h).resolve_right (by omega), by omega⟩
theorem K7 {R : List Pr} (hR : BJ R) : ∀ {xs ys : List Tm} {e : Int}, (∀ b ∈ xs, b.chk = 0) → Tm.innL R xs = some (ys, e) → ∃ k a y, xs[k]? = some a ∧ ys = xs.set k y ∧ a.inn R = some (y, e) ∧ (e = 0 ∨ e = 8) ∧ (e = 0 → y.chk = 0) ∧ y.size ≤ a.size + 2000
 | [], ys, e, _, h => by cases h
 | x :: xs, ys, e, hc, h => by
  rw [Tm.innL] at h
  split at h
  ·rename_i y e' hy
   cases h
   obtain ⟨q1, q2, q3⟩ := Jh hR (hc x (by simp)) hy
   exact ⟨0, x, y, rfl, rfl, hy, q1, q2, q3⟩
  ·split at h
   ·rename_i ys' e' hy
    cases h
    obtain ⟨k, a, y, h1, h2, h3, h4⟩ := K7 hR (fun b hb => hc b (List.mem_cons_of_mem _ hb)) hy
    exact ⟨k + 1, a, y, by simpa using h1, by rw [h2]; rfl, h3, h4⟩
   ·cases h
end

mutual
theorem HO : ∀ (t : Tm) (p : List Int), p ∈ t.places → ∃ x, t.atP p = some x ∧ x ∈ t.knots
 | .mk n xs, p, h => by
  rw [Tm.places] at h
  rcases List.mem_cons.1 h with rfl | h
  ·exact ⟨_, rfl, by rw [Tm.knots]; exact List.mem_cons_self⟩
  ·obtain ⟨x, h1, h2⟩ := F2 n xs 0 xs p (by simp) h
   exact ⟨x, h1, by rw [Tm.knots]; exact List.mem_cons_of_mem _ h2⟩
theorem F2 (n : ByteArray) (all : List Tm) : ∀ (k : Nat) (xs : List Tm) (p : List Int), all.drop k = xs → p ∈ Tm.placesFrom k xs → ∃ x, (Tm.mk n all).atP p = some x ∧ x ∈ Tm.knotsL xs
 | _, [], p, _, h => by simp [Tm.placesFrom] at h
 | k, x :: xs, p, hd, h => by
  have hk : all[k]? = some x := by
   have := congrArg (fun l => l[0]?) hd
   simpa using this
  rw [Tm.placesFrom] at h
  rcases List.mem_append.1 h with h | h
  ·obtain ⟨q, hq, rfl⟩ := List.mem_map.1 h
   obtain ⟨y, h1, h2⟩ := HO x q hq
   exact ⟨y, by rw [Tm.atP_at (t := .mk n all) hk]; exact h1, by rw [Tm.knotsL]; exact List.mem_append_left _ h2⟩
  ·obtain ⟨y, h1, h2⟩ := F2 n all (k + 1) xs p (by rw [← List.tail_drop, hd]; rfl) h
   exact ⟨y, h1, by rw [Tm.knotsL]; exact List.mem_append_right _ h2⟩
end
mutual
theorem Ie : ∀ (t x : Tm), t.chk = 0 → x ∈ t.knots → x.chk = 0
 | .mk n xs, x, hc, h => by
  rw [Tm.knots] at h
  rcases List.mem_cons.1 h with rfl | h
  ·exact hc
  ·exact KS xs x (fun b hb => (Tm.chk_args hc).2 b hb) h
theorem KS : ∀ (xs : List Tm) (x : Tm), (∀ b ∈ xs, b.chk = 0) → x ∈ Tm.knotsL xs → x.chk = 0
 | [], x, _, h => by simp [Tm.knotsL] at h
 | y :: ys, x, hc, h => by
  rw [Tm.knotsL] at h
  rcases List.mem_append.1 h with h | h
  ·exact Ie y x (hc y (by simp)) h
  ·exact KS ys x (fun b hb => hc b (List.mem_cons_of_mem _ hb)) h
end
mutual
theorem Fb : ∀ (t x : Tm), x ∈ t.knots → x.size ≤ t.size
 | .mk n xs, x, h => by
  rw [Tm.knots] at h
  rcases List.mem_cons.1 h with rfl | h
  ·exact Nat.le_refl _
  ·have := JE xs x h
   simp only [Tm.size]
   omega
theorem JE : ∀ (xs : List Tm) (x : Tm), x ∈ Tm.knotsL xs → x.size ≤ Tm.sizes xs
 | [], x, h => by simp [Tm.knotsL] at h
 | y :: ys, x, h => by
  rw [Tm.knotsL] at h
  simp only [Tm.sizes]
  rcases List.mem_append.1 h with h | h
  ·have := Fb y x h; omega
  ·have := JE ys x h; omega
end
def D1 (R : List Pr) (most : Nat) (a b : Tm) : Bool × Int :=
 let x := Ct (Tm.inn R) most 0 a
 let y := Ct (Tm.inn R) most 0 b
 if x.2.2 ≠ 0 then (false, x.2.2) else if y.2.2 ≠ 0 then (false, y.2.2) else (x.1.beq y.1, 0)

theorem Fm {s : List Bd} {t : Tm} : (BH s t).1.size ≤ 2000 := by
 unfold BH
 split
 ·assumption
 ·decide

theorem OJ {ds : List Nat} (hds : ∀ d ∈ ds, d < 1000) {x : Option AJ} (hb : ∀ b, x = some b → b.high = true) : x.map (AJ.purge ds) = x := by
 cases h : x with
 | none => rfl
 | some b => rw [Option.map_some, AJ.purge_high hds (hb b h)]
theorem Pc {S S1 : AA} {a0 : Nat} {b : AJ} (hS : At S) (ha : 1000 ≤ a0) (h1 : S1 a0 = some b) (h2 : ∀ i, 1000 ≤ i → i ≠ a0 → S1 i = S i) : CJ S1 = AH S a0 (some b) := by
 funext i
 show (if i < 1000 then none else S1 i) = _
 by_cases e : i = a0
 ·subst e
  rw [if_neg (by omega), AE, h1]
 ·rw [AK _ e]
  by_cases hi : i < 1000
  ·rw [if_pos hi, AM hS hi]
  ·rw [if_neg hi, h2 i (by omega) e]
theorem MQ {S S1 : AA} {a0 : Nat} {b : AJ} (hS : At S) (hb : b.high = true) (h1 : S1 a0 = some b) (h2 : ∀ i, 1000 ≤ i → i ≠ a0 → S1 i = S i) : ∀ i c, 1000 ≤ i → S1 i = some c → c.high = true := fun i c hi hc => by
 by_cases e : i = a0
 ·subst e
  rw [h1] at hc
  cases hc
  exact hb
 ·rw [h2 i hi e] at hc
  exact (hS i c hc).2
theorem BV {C : Ctx} {rs : List RV} {r : AV} {e : AX} {s : AS} {S : AA} {a0 : Nat} {b : AJ} (r0 : AV) (hS : At S) (ha : 1000 ≤ a0) (hb : b.high = true) (he : match e with | .normal => True | .ret => True | _ => False)
  (h1 : (AB s rs).map AI = some r0) (h2 : outV s.S r0 = some r) (h3 : s.S a0 = some b) (h4 : ∀ i, 1000 ≤ i → i ≠ a0 → s.S i = S i) : IC C rs r (AH S a0 (some b)) e s :=
 Mi he r0 h1 h2 (MQ hS hb h3 h4) (Pc hS ha h3 h4) (CT hS ha hb)

set_option linter.unusedSimpArgs false
set_option maxHeartbeats 800000
def Cr (u : Tm) (left : Int) : Tm × Int := if (u.size : Int) ≤ left then (u, left - u.size) else (Tm.nil, -1)
abbrev GX (s : List Bd) (left : Int) : AJ := .box 87 [.st (.list (s.map CX)), .st (.int .i64 left)]
theorem Df {u : Tm} {left : Int} (h : (u.size : Int) ≤ left) : Cr u left = (u, left - u.size) := if_pos h
theorem DN {u : Tm} {left : Int} (h : ¬ (u.size : Int) ≤ left) : Cr u left = (Tm.nil, -1) := if_neg h
theorem KO (s : List Bd) (h40 : s.length ≤ 100000) (ho : BB s) (turn : Bool) (f : Tm → Tm) (t : Tm) (hl : turn = true → lookup s t.name = none)
  (ih : ∀ a ∈ t.args, ∀ (a0 : Nat) (left : Int) (S : AA), 1000 ≤ a0 → 0 ≤ left → left ≤ 1000000 → S a0 = some (GX s left) →
   Am Tryd.prog 49 [.one (.ptr a0 1 0 0), aTm a, Af turn] S (aTm (Cr (f a) left).1) (AH S a0 (some (GX s (Cr (f a) left).2))))
  (a0 : Nat) (left : Int) (S : AA) (ha0 : 1000 ≤ a0) (h0 : 0 ≤ left) (h1 : left ≤ 1000000) (hSa : S a0 = some (GX s left)) :
  Am Tryd.prog 49 [.one (.ptr a0 1 0 0), aTm t, Af turn] S (aTm (Cr (.mk t.name (t.args.map f)) left).1) (AH S a0 (some (GX s (Cr (.mk t.name (t.args.map f)) left).2))) := by
 refine B6.acS fun hS C hC => ?_
 have hu : (Tm.mk t.name (t.args.map f)).size = 1 + Tm.sizes (t.args.map f) := rfl
 have hlen := Tm.length_le (t.args.map f)
 rw [List.length_map] at hlen
 have n4 : S 4 = none := AM hS (by omega)
 have n6 : S 6 = none := AM hS (by omega)
 have n7 : S 7 = none := AM hS (by omega)
 have n9 : S 9 = none := AM hS (by omega)
 have n11 : S 11 = none := AM hS (by omega)
 have n900 : S 900 = none := AM hS (by omega)
 have d4 : ¬ 4 = a0 := by omega
 have d6 : ¬ 6 = a0 := by omega
 have d7 : ¬ 7 = a0 := by omega
 have d9 : ¬ 9 = a0 := by omega
 have d11 : ¬ 11 = a0 := by omega
 have d900 : ¬ 900 = a0 := by omega
 have e4 : ¬ a0 = 4 := by omega
 have e6 : ¬ a0 = 6 := by omega
 have e7 : ¬ a0 = 7 := by omega
 have e9 : ¬ a0 = 9 := by omega
 have e11 : ¬ a0 = 11 := by omega
 have e900 : ¬ a0 = 900 := by omega
 unfold BZ
 cases turn
 case' false =>
  repeat' with_reducible first | refine W ?_ | refine Z0 ?_ | ((first | refine Wo fun K hK => ?_ | refine Wq ?_ | refine Wr ?_); (try simp only [go_sem, fN, seval, eT, iR, hSa, n4, n6, n7, d4, d6, d7, e4, e6, e7]); (repeat refine Ai ?_); (try (refine hK _ ?_; clear hK K)))
  with_reducible refine Wp ?_
  simp only [go_sem, fN, seval, true_implies, false_implies, implies_true, dT, dF, nL]
  (try with_reducible refine iC ?_)
  repeat' with_reducible first | refine W ?_ | refine Z0 ?_ | ((first | refine Wo fun K hK => ?_ | refine Wq ?_ | refine Wr ?_); (try simp only [go_sem, fN, seval, eT, iR, hSa, n4, n6, n7, n9, d4, d6, d7, d9, e4, e6, e7, e9]); (repeat refine Ai ?_); (try (refine hK _ ?_; clear hK K)))
 case' true =>
  have hln := hl rfl
  repeat' with_reducible first | refine W ?_ | refine Z0 ?_ | ((first | refine Wo fun K hK => ?_ | refine Wq ?_ | refine Wr ?_); (try simp only [go_sem, fN, seval, eT, iR, hSa, n4, n6, n7, d4, d6, d7, e4, e6, e7]); (repeat refine Ai ?_); (try (refine hK _ ?_; clear hK K)))
  with_reducible refine Wp ?_
  simp only [go_sem, fN, seval, true_implies, false_implies, implies_true, dT, dF, nL]
  (try with_reducible refine iC ?_)
  repeat' (first | (with_reducible first | refine W ?_ | refine Z0 ?_ | ((first | refine Wo fun K hK => ?_ | refine Wq ?_ | refine Wr ?_); (try simp only [go_sem, fN, seval, eT, iR, hSa, n4, n6, n7, d4, d6, d7, e4, e6, e7, hln]); (repeat refine Ai ?_); (try (refine hK _ ?_; clear hK K)))) | refine Cg _ (R8 s h40 ho t.name) ?_)
  with_reducible refine Wp ?_
  simp only [go_sem, fN, seval, true_implies, false_implies, implies_true, dT, dF, nL]
  (try with_reducible refine iC ?_)
  repeat' with_reducible first | refine W ?_ | refine Z0 ?_ | ((first | refine Wo fun K hK => ?_ | refine Wq ?_ | refine Wr ?_); (try simp only [go_sem, fN, seval, eT, iR, hSa, n4, n6, n7, n9, d4, d6, d7, d9, e4, e6, e7, e9]); (repeat refine Ai ?_); (try (refine hK _ ?_; clear hK K)))
 all_goals
  by_cases hz : left = 0
  ·subst hz
   have hno : ¬ ((Tm.mk t.name (t.args.map f)).size : Int) ≤ 0 := by rw [hu]; omega
   rw [DN hno]
   with_reducible refine Wp ?_
   simp only [go_sem, fN, seval, true_implies, false_implies, implies_true, dT, dF, nL]
   (try with_reducible refine iC ?_)
   repeat' with_reducible first | refine W ?_ | refine Z0 ?_ | ((first | refine Wo fun K hK => ?_ | refine Wq ?_ | refine Wr ?_); (try simp only [go_sem, fN, seval, eT, iR, hSa, n4, n6, n7, n9, d4, d6, d7, d9, e4, e6, e7, e9]); (repeat refine Ai ?_); (try (refine hK _ ?_; clear hK K)))
   refine BV (.agg [.st (.str ⟨#[]⟩), .full []]) hS ha0 rfl trivial ?_ ?_ ?_ fun i hi hne => ?_
   ·simp only [go_sem, fN, seval, eT, iR, AB, AD, AI, e4, e6, e7, e9, d4, d6, d7, d9]
   ·simp only [go_sem, fN, seval, eT, iR, Tm.nil]
    rfl
   ·simp only [go_sem, fN, seval, eT, iR, e4, e6, e7, e9]
   ·have i4 : ¬ i = 4 := by omega
    have i6 : ¬ i = 6 := by omega
    have i7 : ¬ i = 7 := by omega
    simp only [go_sem, fN, seval, eT, iR, i4, i6, i7, hne]
  have hz' : ¬ left - 1 < 0 := by omega
  with_reducible refine Wp ?_
  simp only [go_sem, fN, seval, true_implies, false_implies, implies_true, dT, dF, nL, hz']
  (try with_reducible refine iC ?_)
  repeat' with_reducible first | refine W ?_ | refine Z0 ?_ | ((first | refine Wo fun K hK => ?_ | refine Wq ?_ | refine Wr ?_); (try simp only [go_sem, fN, seval, eT, iR, hSa, n4, n6, n7, n9, d4, d6, d7, d9, e4, e6, e7, e9]); (repeat refine Ai ?_); (try (refine hK _ ?_; clear hK K)))
  refine IWP.ghost (Ae.ownC 9 1 900 32 2 (xs := ([] : List Tm).map Ay) (by simp only [go_sem, fN, seval, eT, iR, d9, d4, d6, d7, e9]; rfl) rfl (by simp only [go_sem, fN, seval, eT, iR, n900, d900]) C8) ?_
  refine IWP.loopD [11] (fun m x => ∃ k, k ≤ t.args.length ∧ m = t.args.length - k ∧ (Tm.sizes ((t.args.take k).map f) : Int) ≤ left - 1 ∧ x.env 0 = .one (.ptr a0 1 0 0) ∧ x.env 2 = Af _ ∧ x.env 6 = .one (.ptr 6 1 0 0) ∧ x.env 9 = .one (.ptr 9 1 0 0) ∧ x.env 44 = .one (.st (.list (t.args.map Ay))) ∧ x.env 45 = AR t.args.length ∧ x.env 46 = AR k ∧
    x.S 6 = some (.box 32 [.st (.str ⟨#[]⟩), .full []]) ∧ x.S 9 = some (.box 32 [.st (.str t.name), .row 900 k]) ∧ x.S 900 = some (.arow 32 2 (((t.args.take k).map f).map Ay)) ∧ x.S 11 = none ∧ x.S a0 = some (GX s (left - 1 - Tm.sizes ((t.args.take k).map f))) ∧ ∀ i, 1000 ≤ i → i ≠ a0 → x.S i = S i)
   t.args.length ⟨0, Nat.zero_le _, rfl, by show (0 : Int) ≤ _; omega, rfl, rfl, rfl, rfl, rfl, rfl, rfl, by simp only [go_sem, fN, seval, eT, iR, d6, d4, d7, d9, e6], by (simp only [go_sem, fN, seval, eT, iR, d9]); rfl, by simp only [go_sem, fN, seval, eT, iR, e9], by simp only [go_sem, fN, seval, eT, iR, n11, d11], by (simp only [go_sem, fN, seval, eT, iR, e9, e900]); simp [Tm.sizes], fun i hi hne => ?_⟩ ?_
  ·have i4 : ¬ i = 4 := by omega
   have i6 : ¬ i = 6 := by omega
   have i7 : ¬ i = 7 := by omega
   have i9 : ¬ i = 9 := by omega
   have i900 : ¬ i = 900 := by omega
   simp only [go_sem, fN, seval, eT, iR, i4, i6, i7, i9, i900, hne]
  rintro m ⟨env, S1⟩ ⟨k, hk, rfl, hsz, e0, e2, e6', e9', e44, e45, e46, s6, s9, s900, s11, sa, hrest⟩
  simp only at e0 e2 e6' e9' e44 e45 e46 s6 s9 s900 s11 sa hrest
  have hlk : (t.args.take k).length = k := by rw [List.length_take]; omega
  have hle := Tm.sizes_take_le (t.args.map f) k
  rw [← List.map_take] at hle
  have hkl := Tm.length_le ((t.args.take k).map f)
  rw [List.length_map, hlk] at hkl
  by_cases hlt : (k : Int) < t.args.length
  ·obtain ⟨a, ha⟩ := Ao (show k < t.args.length by omega)
   have ha' : (t.args.map f)[k]? = some (f a) := by rw [List.getElem?_map, ha]; rfl
   have z1 := Tm.sizes_take ha'
   have z2 := Tm.sizes_take_le (t.args.map f) (k + 1)
   rw [← List.map_take, ← List.map_take] at z1
   rw [← List.map_take] at z2
   repeat' with_reducible first | refine W ?_ | refine Z0 ?_ | ((first | refine Wo fun K hK => ?_ | refine Wq ?_ | refine Wr ?_); (try simp only [go_sem, fN, seval, eT, iR, e0, e2, e6', e9', e44, e45, e46, s6, s9, s900, s11, sa, hlt]); (repeat refine Ai ?_); (try (refine hK _ ?_; clear hK K)))
   with_reducible refine Wp ?_
   simp only [go_sem, fN, seval, true_implies, false_implies, implies_true, dT, dF, nL, hlt]
   (try with_reducible refine iC ?_)
   repeat' with_reducible first | refine W ?_ | refine Z0 ?_ | ((first | refine Wo fun K hK => ?_ | refine Wq ?_ | refine Wr ?_); (try simp only [go_sem, fN, seval, eT, iR, e0, e2, e6', e9', e44, e45, e46, s6, s9, s900, s11, sa, d11, d9, e11, ha]); (repeat refine Ai ?_); (try (refine hK _ ?_; clear hK K)))
   have hcall := ih a (AW ha) (up1 a0) (left - 1 - Tm.sizes ((t.args.take k).map f)) (upS (AH (AH S1 11 (some (.box 32 [.st (.str ⟨#[]⟩), .full []]))) 11 (some (.box 32 [.st (.str a.name), .st (.list (a.args.map Ay))])))) (Ar a0) (by omega) (by omega) (by rw [As, AK _ e11, AK _ e11, sa]; rfl)
   by_cases hfit : ((f a).size : Int) ≤ left - 1 - Tm.sizes ((t.args.take k).map f)
   ·rw [Df hfit] at hcall
    refine ⟨_, _, hcall, ?_⟩
    have hge : ¬ left - 1 - Tm.sizes ((t.args.take k).map f) - (f a).size < 0 := by omega
    repeat' with_reducible first | refine W ?_ | refine Z0 ?_ | ((first | refine Wo fun K hK => ?_ | refine Wq ?_ | refine Wr ?_); (try simp only [go_sem, fN, seval, eT, iR, e0, e2, e6', e9', e44, e45, e46, s6, s9, s900, s11, d11, d9, e11, e9, e900, d900, hlk]); (repeat refine Ai ?_); (try (refine hK _ ?_; clear hK K)))
    with_reducible refine Wp ?_
    simp only [go_sem, fN, seval, true_implies, false_implies, implies_true, dT, dF, nL, hge]
    (try with_reducible refine iC ?_)
    repeat' with_reducible first | refine W ?_ | refine Z0 ?_ | ((first | refine Wo fun K hK => ?_ | refine Wq ?_ | refine Wr ?_); (try simp only [go_sem, fN, seval, eT, iR, e0, e2, e6', e9', e44, e45, e46, s6, s9, s900, s11, d11, d9, e11]); (repeat refine Ai ?_); (try (refine hK _ ?_; clear hK K)))
    refine AG ⟨t.args.length - (k + 1), by omega, k + 1, by omega, rfl, ?_⟩
    have hib : (a0 == 11) = false := by simp; omega
    have hzz : ((Tm.sizes ((t.args.take (k + 1)).map f) : Nat) : Int) = Tm.sizes ((t.args.take k).map f) + (f a).size := by omega
    refine ⟨by omega, ?_⟩
    simp only [go_sem, fN, seval, AS.drop, Ap, AC.clears, AC.clear, AC.highs, AC.high, Bool.not_false, Bool.true_and, Bool.and_self, AV.purge, AV.purges, AC.purge, AJ.purge, List.contains_cons, List.contains_nil, Nat.reduceBEq, Bool.or_self, Bool.or_false, Bool.false_or, Bool.or_true, eT, iR, e0, e2, e6', e9', e44, e45, s6, s9, s900, d11, d9, e11, e9, e900, d900, d6, hib]
    refine ⟨by congr 3, by rw [Aq ha, List.map_append, List.map_append, List.map_cons, List.map_nil, List.map_cons, List.map_nil, CS], ?_, fun i hi hne => ?_⟩
    ·congr 5
     omega
    ·have i9 : ¬ i = 9 := by omega
     have i11 : ¬ i = 11 := by omega
     have i900 : ¬ i = 900 := by omega
     have i11b : (i == 11) = false := by simp; omega
     simp only [go_sem, fN, seval, AS.drop, Ap, AC.clears, AC.clear, AC.highs, AC.high, Bool.not_false, Bool.true_and, Bool.and_self, AV.purge, AV.purges, AC.purge, AJ.purge, List.contains_cons, List.contains_nil, Nat.reduceBEq, Bool.or_self, Bool.or_false, Bool.false_or, Bool.or_true, eT, iR, i9, i11, i11b, i900, hne]
     rw [hrest i hi hne]
     exact OJ (by decide) fun b hb => (hS i b hb).2
   ·have hno : ¬ ((Tm.mk t.name (t.args.map f)).size : Int) ≤ left := by rw [hu]; omega
    rw [DN hfit] at hcall
    refine ⟨_, _, hcall, ?_⟩
    repeat' with_reducible first | refine W ?_ | refine Z0 ?_ | ((first | refine Wo fun K hK => ?_ | refine Wq ?_ | refine Wr ?_); (try simp only [go_sem, fN, seval, eT, iR, e0, e2, e6', e9', e44, e45, e46, s6, s9, s900, s11, d11, d9, e11, e9, e900, d900, hlk]); (repeat refine Ai ?_); (try (refine hK _ ?_; clear hK K)))
    with_reducible refine Wp ?_
    simp only [go_sem, fN, seval, true_implies, false_implies, implies_true, dT, dF, nL]
    (try with_reducible refine iC ?_)
    repeat' with_reducible first | refine W ?_ | refine Z0 ?_ | ((first | refine Wo fun K hK => ?_ | refine Wq ?_ | refine Wr ?_); (try simp only [go_sem, fN, seval, eT, iR, e0, e2, e6', e9', e44, e45, e46, s6, s9, s900, s11, d11, d9, e11, e6, d6, d900, e900]); (repeat refine Ai ?_); (try (refine hK _ ?_; clear hK K)))
    rw [DN hno]
    refine BV (.agg [.st (.str ⟨#[]⟩), .full []]) hS ha0 rfl trivial ?_ ?_ ?_ fun i hi hne => ?_
    ·simp only [go_sem, fN, seval, eT, iR, AB, AD, AI, e6', s6, e6, e9, e11, e900, d6, d9, d11, d900]
    ·simp only [go_sem, fN, seval, eT, iR, Tm.nil]
     rfl
    ·simp only [go_sem, fN, seval, eT, iR, e6, e9, e11, e900]
    ·have i6 : ¬ i = 6 := by omega
     have i9 : ¬ i = 9 := by omega
     have i11 : ¬ i = 11 := by omega
     have i900 : ¬ i = 900 := by omega
     simp only [go_sem, fN, seval, eT, iR, i6, i9, i11, i900, hne]
     exact hrest i hi hne
  ·have hall : t.args.take k = t.args := List.take_of_length_le (by omega)
   rw [hall] at hlk s900 hsz sa
   have hyes : ((Tm.mk t.name (t.args.map f)).size : Int) ≤ left := by rw [hu]; omega
   repeat' with_reducible first | refine W ?_ | refine Z0 ?_ | ((first | refine Wo fun K hK => ?_ | refine Wq ?_ | refine Wr ?_); (try simp only [go_sem, fN, seval, eT, iR, e0, e2, e6', e9', e44, e45, e46, s6, s9, s900, s11, sa, hlt]); (repeat refine Ai ?_); (try (refine hK _ ?_; clear hK K)))
   with_reducible refine Wp ?_
   simp only [go_sem, fN, seval, true_implies, false_implies, implies_true, dT, dF, nL, hlt]
   (try with_reducible refine iC ?_)
   repeat' with_reducible first | refine W ?_ | refine Z0 ?_ | ((first | refine Wo fun K hK => ?_ | refine Wq ?_ | refine Wr ?_); (try simp only [go_sem, fN, seval, eT, iR, e0, e2, e6', e9', e44, e45, e46, s6, s9, s900, s11, sa, d6]); (repeat refine Ai ?_); (try (refine hK _ ?_; clear hK K)))
   rw [Df hyes]
   refine BV (.agg [.st (.str t.name), .row 900 k]) hS ha0 rfl trivial ?_ ?_ ?_ fun i hi hne => ?_
   ·simp only [go_sem, fN, seval, eT, iR, AB, AD, AI, e6', s6]
   ·simp only [go_sem, fN, seval, eT, iR, s900, hlk]
    rfl
   ·simp only [go_sem, fN, seval, eT, iR, e6, sa, hu]
    rw [show left - 1 - (Tm.sizes (t.args.map f) : Int) = left - ((1 + Tm.sizes (t.args.map f) : Nat) : Int) by omega]
   ·have i6 : ¬ i = 6 := by omega
    simp only [go_sem, fN, seval, eT, iR, i6]
    exact hrest i hi hne
theorem T2 (s : List Bd) (h40 : s.length ≤ 100000) (ho : BB s) (t : Tm) : ∀ (a0 : Nat) (left : Int) (S : AA), 1000 ≤ a0 → 0 ≤ left → left ≤ 1000000 → S a0 = some (GX s left) →
  Am Tryd.prog 49 [.one (.ptr a0 1 0 0), aTm t, Af false] S (aTm (Cr t left).1) (AH S a0 (some (GX s (Cr t left).2))) := by
 induction h : SizeOf.sizeOf t using Nat.strongRecOn generalizing t with
 | _ N ih =>
 subst h
 intro a0 left S h1 h2 h3 h4
 have := KO s h40 ho false id t (fun h => by cases h) (fun a ha => ih _ (Tm.lt_of_arg ha) a rfl) a0 left S h1 h2 h3 h4
 rw [List.map_id, Tm.eta] at this
 exact this
theorem TX (s : List Bd) (h40 : s.length ≤ 100000) (ho : BB s) (t : Tm) (hv : ∀ b ∈ s, AQ b.1 = true) (hchk : t.chk = 0) : ∀ (a0 : Nat) (left : Int) (S : AA), 1000 ≤ a0 → 0 ≤ left → left ≤ 1000000 → S a0 = some (GX s left) →
  Am Tryd.prog 49 [.one (.ptr a0 1 0 0), aTm t, Af true] S (aTm (Cr (t.on s) left).1) (AH S a0 (some (GX s (Cr (t.on s) left).2))) := by
 induction h : SizeOf.sizeOf t using Nat.strongRecOn generalizing t with
 | _ N ih =>
 subst h
 intro a0 left S ha0 h0 h1 hSa
 obtain ⟨c1, c2⟩ := Tm.chk_args hchk
 cases hl : lookup s t.name with
 | none =>
  have := KO s h40 ho true (Tm.on s) t (fun _ => hl) (fun a ha => ih _ (Tm.lt_of_arg ha) a (c2 a ha) rfl) a0 left S ha0 h0 h1 hSa
  rw [← Tm.on_knot (.inl hl)] at this
  exact this
 | some x =>
  obtain ⟨b, hb, hbn, _⟩ := Cl hl
  have hargs := c1 (by rw [← hbn]; exact hv b hb)
  rw [Tm.on_leaf hl hargs]
  refine B6.acS fun hS C hC => ?_
  have n4 : S 4 = none := AM hS (by omega)
  have n6 : S 6 = none := AM hS (by omega)
  have n7 : S 7 = none := AM hS (by omega)
  have e4 : ¬ a0 = 4 := by omega
  have e6 : ¬ a0 = 6 := by omega
  have e7 : ¬ a0 = 7 := by omega
  have d4 : ¬ 4 = a0 := by omega
  have d6 : ¬ 6 = a0 := by omega
  have d7 : ¬ 7 = a0 := by omega
  unfold BZ
  repeat' with_reducible first | refine W ?_ | refine Z0 ?_ | ((first | refine Wo fun K hK => ?_ | refine Wq ?_ | refine Wr ?_); (try simp only [go_sem, fN, seval, eT, iR, hSa, n4, n6, n7, d4, d6, d7, e4, e6, e7]); (repeat refine Ai ?_); (try (refine hK _ ?_; clear hK K)))
  with_reducible refine Wp ?_
  simp only [go_sem, fN, seval, true_implies, false_implies, implies_true, dT, dF, nL]
  (try with_reducible refine iC ?_)
  repeat' (first | (with_reducible first | refine W ?_ | refine Z0 ?_ | ((first | refine Wo fun K hK => ?_ | refine Wq ?_ | refine Wr ?_); (try simp only [go_sem, fN, seval, eT, iR, hSa, n4, n6, n7, d4, d6, d7, e4, e6, e7, hl]); (repeat refine Ai ?_); (try (refine hK _ ?_; clear hK K)))) | refine Cg _ (R8 s h40 ho t.name) ?_)
  with_reducible refine Wp ?_
  simp only [go_sem, fN, seval, true_implies, false_implies, implies_true, dT, dF, nL]
  (try with_reducible refine iC ?_)
  repeat' with_reducible first | refine W ?_ | refine Z0 ?_ | ((first | refine Wo fun K hK => ?_ | refine Wq ?_ | refine Wr ?_); (try simp only [go_sem, fN, seval, eT, iR, hSa, n4, n6, n7, d4, d6, d7, e4, e6, e7]); (repeat refine Ai ?_); (try (refine hK _ ?_; clear hK K)))
  have hcall := fun S' h => T2 s h40 ho x (up1 a0) left S' (Ar a0) h0 h1 h
  refine ⟨_, _, hcall _ (by rw [As]; (simp only [go_sem, fN, seval, eT, iR, e4, e6, e7, hSa])), ?_⟩
  repeat' with_reducible first | refine W ?_ | refine Z0 ?_ | ((first | refine Wo fun K hK => ?_ | refine Wq ?_ | refine Wr ?_); (try simp only [go_sem, fN, seval, eT, iR, e4, e6, e7, d4, d6, d7]); (repeat refine Ai ?_); (try (refine hK _ ?_; clear hK K)))
  refine BV (aTm (Cr x left).1) hS ha0 rfl trivial ?_ ?_ ?_ fun i hi hne => ?_
  ·simp only [go_sem, fN, seval, eT, iR, AB, AD, AI, e4, e6, e7, d4, d6, d7]
  ·simp only [go_sem, fN, seval, eT, iR]
  ·simp only [go_sem, fN, seval, eT, iR, e4, e6, e7]
  ·have i4 : ¬ i = 4 := by omega
   have i6 : ¬ i = 6 := by omega
   have i7 : ¬ i = 7 := by omega
   simp only [go_sem, fN, seval, eT, iR, i4, i6, i7, hne]
theorem Ki (s : List Bd) (h40 : s.length ≤ 100000) (ho : BB s) (t : Tm) (hv : ∀ b ∈ s, AQ b.1 = true) (hchk : t.chk = 0) : Aa Tryd.prog 30 [Nn s, aTm t] (.tup [aTm (BH s t).1, Af (BH s t).2]) := by
 refine ND.ac fun C hC => ?_
 unfold H2
 repeat' with_reducible first | refine W ?_ | refine Z0 ?_ | ((first | refine Wo fun K hK => ?_ | refine Wq ?_ | refine Wr ?_); (try simp only [go_sem, fN, seval, eT, iR]); (repeat refine Ai ?_); (try (refine hK _ ?_; clear hK K)))
 have hcall := fun S' h => TX s h40 ho t hv hchk (up1 10) 2000 S' (Ar 10) (by omega) (by omega) h
 refine ⟨_, _, hcall _ (by rw [As]; rfl), ?_⟩
 by_cases hfit : ((t.on s).size : Int) ≤ 2000
 ·have e : BH s t = (t.on s, true) := by
   unfold BH
   rw [if_pos (by omega)]
  rw [Df hfit]
  have hge : (0 : Int) ≤ 2000 - (t.on s).size := by omega
  repeat' with_reducible first | refine W ?_ | refine Z0 ?_ | ((first | refine Wo fun K hK => ?_ | refine Wq ?_ | refine Wr ?_); (try simp only [go_sem, fN, seval, eT, iR, hge]); (repeat refine Ai ?_); (try (refine hK _ ?_; clear hK K)))
  rw [e]
  simp only [go_sem, fN, seval, AO, AS.result, AB, AD, AI]
 ·have e : BH s t = (Tm.nil, false) := by
   unfold BH
   rw [if_neg (by omega)]
  rw [DN hfit]
  repeat' with_reducible first | refine W ?_ | refine Z0 ?_ | ((first | refine Wo fun K hK => ?_ | refine Wq ?_ | refine Wr ?_); (try simp only [go_sem, fN, seval, eT, iR]); (repeat refine Ai ?_); (try (refine hK _ ?_; clear hK K)))
  rw [e]
  simp only [go_sem, fN, seval, AO, AS.result, AB, AD, AI]

set_option maxRecDepth 100000
def Ag : IR :=
 (.seq (.ops [.i 6 (.mov (.n 0)), .i 7 (.mov (.c (.one (.st (.bool false)))))]) (.seq (.ops [.m 12 0, .i 13 (.len false (.t 12)), .m 8 13]) (.seq (.ops [.m 14 8, .i 9 (.mov (.n 0)), .m 10 14]) (.seq (.block 0 (.loop (.seq (.seq (.ops [.m 15 9, .m 16 10, .i 17 (.bin .lss (.t 15) (.t 16))]) (.cond (.t 17) .skip (.exit 0))) (.block 1 (.seq (.ops [.m 18 9, .m 19 10, .i 20 (.bin .add (.t 18) (.t 19)), .i 21 (.conv .u64 (.t 20)), .i 22 (.bin .shr (.t 21) (.c (.one (.st (.int .u64 1))))), .i 23 (.conv .i64 (.t 22)), .m 11 23]) (.seq (.ops [.m 24 2, .m 25 0, .m 26 11, .i 27 (.indexAddr 3 (.t 25) (.t 26)), .L 28 3 27, .m 29 1, .i 30 (.callV (.t 24) [.t 28, .t 29]), .i 31 (.bin .lss (.t 30) (.n 0))]) (.cond (.t 31) (.ops [.m 32 11, .i 33 (.bin .add (.t 32) (.n 1)), .m 9 33]) (.ops [.m 34 11, .m 10 34])))))))) (.seq (.ops [.m 35 9, .m 36 9, .m 37 8, .i 38 (.bin .lss (.t 36) (.t 37)), .m 39 38, .mk (some 40) (some (39, true)) (.mov (.t 2)) .no, .mk (some 41) (some (39, true)) (.mov (.t 0)) .no, .mk (some 42) (some (39, true)) (.mov (.t 9)) .no, .mk (some 43) (some (39, true)) (.indexAddr 3 (.t 41) (.t 42)) .no, .mk (some 44) (some (39, true)) (.load true 3 (.t 43)) .no, .mk (some 45) (some (39, true)) (.mov (.t 1)) .no, .mk (some 46) (some (39, true)) (.callV (.t 40) [.t 44, .t 45]) .no, .mk (some 47) (some (39, true)) (.bin .eql (.t 46) (.n 0)) .no, .i 48 (.pick (.t 39) (.t 47) (.c (.one (.st (.bool false))))), .m 6 35, .m 7 48]) .ret)))))
theorem A8 : OkF Tryd.prog 71 49 [] Ag [.t 6, .t 7] := .of Tryd.func71 rfl rfl (by kernel_rfl) rfl
def FD : IR :=
 (.seq (.ops [.i 4 (.alloc 32 [.st (.str (ByteArray.mk (#[]))), .full []]), .i 5 (.mov (.c (.one (.st (.bool false)))))]) (.seq (.ops [.m 9 0, .m 10 1, .i 11 (.callR 71 [.t 9, .t 10, .c (.one (.fn 72 []))]), .m 8 11, .i 12 (.extract 0 (.t 8)), .i 13 (.extract 1 (.t 8)), .m 6 12, .m 7 13]) (.seq (.seq (.ops [.m 14 7, .i 15 (.un .not (.t 14))]) (.cond (.t 15) (.seq (.ops [.i 16 (.build [.st (.str (ByteArray.mk (#[]))), .full []] []), .s 2 4 16, .i 5 (.mov (.c (.one (.st (.bool false)))))]) .ret) .skip)) (.seq (.ops [.m 17 0, .m 18 6, .i 19 (.indexAddr 3 (.t 17) (.t 18)), .f 20 1 19, .L 21 2 20, .s 2 4 21, .i 5 (.mov (.c (.one (.st (.bool true)))))]) .ret))))
theorem Je : OkF Tryd.prog 63 22 [40000011] FD [.cell 4 true 2, .t 5] := .of Tryd.func63 rfl rfl (by kernel_rfl) rfl
def BO : IR :=
 (.seq (.ops [.i 4 (.box 32 (.t 1)), .i 6 (.alloc 32 [.st (.str (ByteArray.mk (#[]))), .full []])]) (.seq (.seq (.ops [.m 12 2]) (.cond (.t 12) (.seq (.ops [.m 14 0, .i 15 (.nilCheck (.t 14)), .f 16 0 15, .l 17 16, .f 18 0 4, .l 19 18, .i 20 (.callR 63 [.t 17, .t 19]), .m 13 20, .i 21 (.extract 0 (.t 13)), .i 22 (.extract 1 (.t 13)), .i 7 (.alloc 32 [.st (.str (ByteArray.mk (#[]))), .full []]), .s 2 7 21, .m 8 22]) (.seq (.ops [.m 23 8]) (.cond (.t 23) (.seq (.ops [.m 24 0, .L 25 2 7, .i 26 (.callS 49 [.t 24, .t 25, .c (.one (.st (.bool false)))]), .s 2 6 26]) .ret) .skip))) .skip)) (.seq (.seq (.ops [.m 27 0, .i 28 (.nilCheck (.t 27)), .f 29 1 28, .l 30 29, .i 31 (.bin .sub (.t 30) (.n 1)), .i 32 (.nilCheck (.t 27)), .f 33 1 32, .s 1 33 31]) (.seq (.ops [.m 34 0, .i 35 (.nilCheck (.t 34)), .f 36 1 35, .l 37 36, .i 38 (.bin .lss (.t 37) (.n 0))]) (.cond (.t 38) (.seq (.ops [.i 39 (.build [.st (.str (ByteArray.mk (#[]))), .full []] []), .s 2 6 39]) .ret) .skip))) (.seq (.ops [.f 40 0 4, .l 41 40, .i 42 (.build [.st (.str (ByteArray.mk (#[]))), .full []] [(0, 1, .t 41)]), .i 9 (.alloc 32 [.st (.str (ByteArray.mk (#[]))), .full []]), .s 2 9 42]) (.seq (.seq (.ops [.f 43 1 4, .l 44 43, .i 45 (.len false (.t 44)), .i 46 (.mov (.n 0))]) (.block 0 (.loop (.seq (.ops [.i 47 (.bin .lss (.t 46) (.t 45))]) (.seq (.cond (.t 47) .skip (.exit 0)) (.seq (.block 1 (.seq (.ops [.i 48 (.indexAddr 2 (.t 44) (.t 46)), .L 49 2 48, .i 11 (.alloc 32 [.st (.str (ByteArray.mk (#[]))), .full []]), .s 2 11 49]) (.seq (.ops [.mk (some 50) none (.fieldAddr 1 (.t 9)) (.onb 9), .mk (some 51) none (.load false 1 (.t 50)) (.onb 9), .m 52 0, .L 53 2 11, .m 54 2, .mk (some 55) none (.callS 49 [.t 52, .t 53, .t 54]) (.keeps [9, 9]), .i 56 (.buildSlice false 32 2 [.t 55]), .i 57 (.append false 32 2 40 (.t 51) (.t 56)), .f 58 1 9, .s 1 58 57]) (.seq (.ops [.m 59 0, .i 60 (.nilCheck (.t 59)), .f 61 1 60, .l 62 61, .i 63 (.bin .lss (.t 62) (.n 0))]) (.cond (.t 63) (.seq (.ops [.i 64 (.build [.st (.str (ByteArray.mk (#[]))), .full []] []), .s 2 6 64]) .ret) .skip))))) (.ops [.i 65 (.bin .add (.t 46) (.n 1)), .m 46 65]))))))) (.seq (.ops [.L 66 2 9, .s 2 6 66]) .ret))))))
theorem B0 : OkF Tryd.prog 49 67 [40000020, 26, 55] BO [.cell 6 true 2] := .of Tryd.func49 rfl rfl (by kernel_rfl) rfl
def Gs : IR :=
 (.seq (.ops [.i 3 (.box 32 (.t 1)), .i 4 (.alloc 32 [.st (.str (ByteArray.mk (#[]))), .full []]), .i 5 (.mov (.c (.one (.st (.bool false)))))]) (.seq (.ops [.m 8 0, .i 9 (.build [.full [], .st (.int .i64 0)] [(0, 1, .t 8), (1, 1, .n 2000)]), .i 10 (.box 87 (.t 9)), .m 6 10]) (.seq (.ops [.m 11 6, .L 12 2 3, .i 13 (.callS 49 [.t 11, .t 12, .c (.one (.st (.bool true)))]), .i 7 (.alloc 32 [.st (.str (ByteArray.mk (#[]))), .full []]), .s 2 7 13]) (.seq (.ops [.L 14 2 7, .m 15 6, .mk (some 16) none (.nilCheck (.t 15)) (.onb 10), .mk (some 17) none (.fieldAddr 1 (.t 16)) (.onb 10), .mk (some 18) none (.load false 1 (.t 17)) (.onb 10), .i 19 (.bin .geq (.t 18) (.n 0)), .mk none none (.store 2 (.t 4) (.t 14)) (.onb 4), .m 5 19]) .ret))))
theorem L0 : OkF Tryd.prog 30 20 [13, 10060010] Gs [.cell 4 true 2, .t 5] := .of Tryd.func30 rfl rfl (by kernel_rfl) rfl

abbrev BL (l : List Bd) : AJ := .mrow 51 3 (l.map CX)

theorem Q4 (l : List Bd) (n : ByteArray) (i0 : Nat) (hi0 : i0 ≤ l.length) (h40 : l.length ≤ 100000) (hlo : ∀ k b, l[k]? = some b → k < i0 → sLt b.1 n = true) (hhi : ∀ k b, l[k]? = some b → i0 ≤ k → sLt b.1 n = false) (r : Nat) (hr : 1000 ≤ r) (S : AA) (sr : S r = some (BL l)) :
  Am Tryd.prog 71 [.one (.row r l.length), Bg n, .one (.fn 72 [])] S (.tup [AR i0, Af (B9 l n i0)]) S := by
 have hplain : Bu Tryd.prog 72 = true := by kernel_rfl
 refine A8.acS fun hS C hC => ?_
 unfold Ag
 repeat' with_reducible first | refine W ?_ | refine Z0 ?_ | ((first | refine Wo fun K hK => ?_ | refine Wq ?_ | refine Wr ?_); (try simp only [go_sem, fN, seval, eT, iR, sr]); (repeat refine Ai ?_); (try (refine hK _ ?_; clear hK K)))
 refine IWP.loop (fun m s => ∃ i j : Nat, i ≤ i0 ∧ i0 ≤ j ∧ j ≤ l.length ∧ m = j - i ∧ s.env 0 = .one (.row r l.length) ∧ s.env 1 = Bg n ∧ s.env 2 = .one (.fn 72 []) ∧ s.env 8 = AR l.length ∧ s.env 9 = AR i ∧ s.env 10 = AR j ∧ s.S = S) l.length ⟨0, l.length, Nat.zero_le _, hi0, Nat.le_refl _, rfl, rfl, rfl, rfl, rfl, rfl, rfl, rfl⟩ ?_
 rintro m ⟨env, S1⟩ ⟨i, j, hi, hj, hjl, rfl, e0, e1, e2, e8, e9, e10, hS1⟩
 simp only at e0 e1 e2 e8 e9 e10 hS1
 subst hS1
 by_cases hlt : (i : Int) < j
 ·obtain ⟨z1, z2, z3⟩ := Uk (show i < j by omega)
  obtain ⟨b, hb⟩ := Ao (show (i + j) / 2 < l.length by omega)
  repeat' with_reducible first | refine W ?_ | refine Z0 ?_ | ((first | refine Wo fun K hK => ?_ | refine Wq ?_ | refine Wr ?_); (try simp only [go_sem, fN, seval, eT, iR, e0, e1, e2, e8, e9, e10, hlt, sr]); (repeat refine Ai ?_); (try (refine hK _ ?_; clear hK K)))
  with_reducible refine Wp ?_
  simp only [go_sem, fN, seval, true_implies, false_implies, implies_true, dT, dF, nL, hlt]
  (try with_reducible refine iC ?_)
  have hbits : (1 : Nat) ≤ IntKind.u64.bits := by show 1 ≤ 64; omega
  have hz0 : (0 : Int) ≤ (((i + j) / 2 : Nat) : Int) := Int.natCast_nonneg _
  repeat' with_reducible first | refine W ?_ | refine Z0 ?_ | ((first | refine Wo fun K hK => ?_ | refine Wq ?_ | refine Wr ?_); (try simp only [go_sem, fN, seval, eT, iR, e0, e1, e2, e8, e9, e10, hlt, z1, z3, O5, hbits, hb, CX, hplain, sr]); (repeat refine Ai ?_); (try (refine hK _ ?_; clear hK K)))
  refine ⟨_, _, IV b n _, ?_⟩
  cases hc : sLt b.1 n with
  | true =>
   have hneg : Ep b.1 n < 0 := CA.2 hc
   repeat' with_reducible first | refine W ?_ | refine Z0 ?_ | ((first | refine Wo fun K hK => ?_ | refine Wq ?_ | refine Wr ?_); (try simp only [go_sem, fN, seval, eT, iR, hneg]); (repeat refine Ai ?_); (try (refine hK _ ?_; clear hK K)))
   with_reducible refine Wp ?_
   simp only [go_sem, fN, seval, true_implies, false_implies, implies_true, dT, dF, nL, hneg]
   (try with_reducible refine iC ?_)
   repeat' with_reducible first | refine W ?_ | refine Z0 ?_ | ((first | refine Wo fun K hK => ?_ | refine Wq ?_ | refine Wr ?_); (try simp only [go_sem, fN, seval, eT, iR, e0, e1, e2, e8, e9, e10]); (repeat refine Ai ?_); (try (refine hK _ ?_; clear hK K)))
   refine AG ⟨j - ((i + j) / 2 + 1), by omega, (i + j) / 2 + 1, j, ?_, hj, hjl, rfl, ?_⟩
   ·rcases Nat.lt_or_ge ((i + j) / 2) i0 with h | h
    ·omega
    ·rw [hhi _ b hb h] at hc; cases hc
   ·simp only [go_sem, fN, seval, eT, iR, e0, e1, e2, e8, e9, e10]
    congr 3
  | false =>
   have hneg : ¬ Ep b.1 n < 0 := fun h => by rw [CA.1 h] at hc; cases hc
   repeat' with_reducible first | refine W ?_ | refine Z0 ?_ | ((first | refine Wo fun K hK => ?_ | refine Wq ?_ | refine Wr ?_); (try simp only [go_sem, fN, seval, eT, iR, hneg]); (repeat refine Ai ?_); (try (refine hK _ ?_; clear hK K)))
   with_reducible refine Wp ?_
   simp only [go_sem, fN, seval, true_implies, false_implies, implies_true, dT, dF, nL, hneg]
   (try with_reducible refine iC ?_)
   repeat' with_reducible first | refine W ?_ | refine Z0 ?_ | ((first | refine Wo fun K hK => ?_ | refine Wq ?_ | refine Wr ?_); (try simp only [go_sem, fN, seval, eT, iR, e0, e1, e2, e8, e9, e10]); (repeat refine Ai ?_); (try (refine hK _ ?_; clear hK K)))
   refine AG ⟨(i + j) / 2 - i, by omega, i, (i + j) / 2, hi, ?_, by omega, rfl, ?_⟩
   ·rcases Nat.lt_or_ge ((i + j) / 2) i0 with h | h
    ·rw [hlo _ b hb h] at hc; cases hc
    ·omega
   ·simp only [go_sem, fN, seval, eT, iR, e0, e1, e2, e8, e9, e10]
 ·have hii : i = i0 := by omega
  subst hii
  have hjj : j = i := by omega
  subst hjj
  repeat' with_reducible first | refine W ?_ | refine Z0 ?_ | ((first | refine Wo fun K hK => ?_ | refine Wq ?_ | refine Wr ?_); (try simp only [go_sem, fN, seval, eT, iR, e0, e1, e2, e8, e9, e10, hlt, sr]); (repeat refine Ai ?_); (try (refine hK _ ?_; clear hK K)))
  with_reducible refine Wp ?_
  simp only [go_sem, fN, seval, true_implies, false_implies, implies_true, dT, dF, nL, hlt]
  (try with_reducible refine iC ?_)
  by_cases hil : (j : Int) < l.length
  ·have hil' : j < l.length := by omega
   obtain ⟨b, hb⟩ := Ao hil'
   repeat' with_reducible first | refine W ?_ | refine Z0 ?_ | ((first | refine Wo fun K hK => ?_ | refine Wq ?_ | refine Wr ?_); (try simp only [go_sem, fN, seval, eT, iR, e0, e1, e2, e8, e9, e10, hil, hil', hb, CX, hplain, sr]); (repeat refine Ai ?_); (try (refine hK _ ?_; clear hK K)))
   refine ⟨_, _, IV b n _, ?_⟩
   repeat' with_reducible first | refine W ?_ | refine Z0 ?_ | ((first | refine Wo fun K hK => ?_ | refine Wq ?_ | refine Wr ?_); (try simp only [go_sem, fN, seval, eT, iR]); (repeat refine Ai ?_); (try (refine hK _ ?_; clear hK K)))
   refine CD (.tup [AR j, Af (B9 l n j)]) hS trivial ?_ ?_ fun _ _ => rfl
   ·simp only [go_sem, fN, seval, eT, iR, AB, AD, AI, e9, e10]
    unfold B9
    rw [hb]
    simp only [KR]
   ·rfl
  ·repeat' with_reducible first | refine W ?_ | refine Z0 ?_ | ((first | refine Wo fun K hK => ?_ | refine Wq ?_ | refine Wr ?_); (try simp only [go_sem, fN, seval, eT, iR, e0, e1, e2, e8, e9, e10, hil]); (repeat refine Ai ?_); (try (refine hK _ ?_; clear hK K)))
   refine CD (.tup [AR j, Af (B9 l n j)]) hS trivial ?_ ?_ fun _ _ => rfl
   ·simp only [go_sem, fN, seval, eT, iR, AB, AD, AI, e9, e10]
    unfold B9
    rw [List.getElem?_eq_none (by omega)]
   ·rfl
theorem Rx (l : List Bd) (h40 : l.length ≤ 100000) (ho : BB l) (n : ByteArray) (r : Nat) (hr : 1000 ≤ r) (S : AA) (sr : S r = some (BL l)) : Am Tryd.prog 63 [.one (.row r l.length), Bg n] S (.tup [aTm ((lookup l n).getD Tm.nil), Af (lookup l n).isSome]) S := by
 obtain ⟨i, hi, hlo, hhi, _⟩ := M4 l h40 ho n
 refine Je.acS fun hS C hC => ?_
 unfold FD
 have n4 : S 4 = none := AM hS (by omega)
 have r4 : ¬ r = 4 := by omega
 repeat' with_reducible first | refine W ?_ | refine Z0 ?_ | ((first | refine Wo fun K hK => ?_ | refine Wq ?_ | refine Wr ?_); (try simp only [go_sem, fN, seval, eT, iR, n4]); (repeat refine Ai ?_); (try (refine hK _ ?_; clear hK K)))
 refine ⟨_, [(r, BL l)], C4 (by (simp only [go_sem, fN, seval, eT, iR, r4, sr])), fun T hT => Q4 l n i hi h40 hlo hhi (up1 r) (Ar r) (upS T) (by rw [As, hT _ (List.mem_singleton.2 rfl)]; rfl), ?_⟩
 rcases Gg hlo hhi ho with ⟨b, hb, he, hl⟩ | ⟨hf, hl⟩
 ·have hf : B9 l n i = true := by unfold B9; rw [hb]; exact decide_eq_true he
  have hil := CP hb
  repeat' with_reducible first | refine W ?_ | refine Z0 ?_ | ((first | refine Wo fun K hK => ?_ | refine Wq ?_ | refine Wr ?_); (try simp only [go_sem, fN, seval, eT, iR, hf]); (repeat refine Ai ?_); (try (refine hK _ ?_; clear hK K)))
  with_reducible refine Wp ?_
  simp only [go_sem, fN, seval, true_implies, false_implies, implies_true, dT, dF, nL, hf]
  (try with_reducible refine iC ?_)
  repeat' with_reducible first | refine W ?_ | refine Z0 ?_ | ((first | refine Wo fun K hK => ?_ | refine Wq ?_ | refine Wr ?_); (try simp only [go_sem, fN, seval, eT, iR, hb, CX, sr, r4, hil]); (repeat refine Ai ?_); (try (refine hK _ ?_; clear hK K)))
  refine CD (.tup [aTm b.2, Af true]) hS trivial ?_ ?_ fun k hk => ?_
  ·simp only [go_sem, fN, seval, eT, iR, AB, AD, AI]
  ·simp only [go_sem, fN, seval, eT, iR]
   rw [hl]
   rfl
  ·have k4 : ¬ k = 4 := by omega
   simp only [go_sem, fN, seval, eT, iR, k4]
 ·repeat' with_reducible first | refine W ?_ | refine Z0 ?_ | ((first | refine Wo fun K hK => ?_ | refine Wq ?_ | refine Wr ?_); (try simp only [go_sem, fN, seval, eT, iR, hf]); (repeat refine Ai ?_); (try (refine hK _ ?_; clear hK K)))
  with_reducible refine Wp ?_
  simp only [go_sem, fN, seval, true_implies, false_implies, implies_true, dT, dF, nL, hf]
  (try with_reducible refine iC ?_)
  repeat' with_reducible first | refine W ?_ | refine Z0 ?_ | ((first | refine Wo fun K hK => ?_ | refine Wq ?_ | refine Wr ?_); (try simp only [go_sem, fN, seval, eT, iR]); (repeat refine Ai ?_); (try (refine hK _ ?_; clear hK K)))
  refine CD (.tup [.agg [.st (.str ⟨#[]⟩), .full []], Af false]) hS trivial ?_ ?_ fun k hk => ?_
  ·simp only [go_sem, fN, seval, eT, iR, AB, AD, AI]
  ·simp only [go_sem, fN, seval, eT, iR]
   rw [hl]
   rfl
  ·have k4 : ¬ k = 4 := by omega
   simp only [go_sem, fN, seval, eT, iR, k4]
abbrev Dp (r n : Nat) (left : Int) : AJ := .box 87 [.row r n, .st (.int .i64 left)]
theorem Iq (s : List Bd) (h40 : s.length ≤ 100000) (ho : BB s) (turn : Bool) (f : Tm → Tm) (t : Tm) (hl : turn = true → lookup s t.name = none)
  (ih : ∀ a ∈ t.args, ∀ (a0 r : Nat) (left : Int) (S : AA), 1000 ≤ a0 → 1000 ≤ r → ¬ r = a0 → 0 ≤ left → left ≤ 1000000 → S a0 = some (Dp r s.length left) → S r = some (BL s) →
   Am Tryd.prog 49 [.one (.ptr a0 1 0 0), aTm a, Af turn] S (aTm (Cr (f a) left).1) (AH S a0 (some (Dp r s.length (Cr (f a) left).2))))
  (a0 r : Nat) (left : Int) (S : AA) (ha0 : 1000 ≤ a0) (hr0 : 1000 ≤ r) (hra : ¬ r = a0) (h0 : 0 ≤ left) (h1 : left ≤ 1000000) (hSa : S a0 = some (Dp r s.length left)) (hSr : S r = some (BL s)) :
  Am Tryd.prog 49 [.one (.ptr a0 1 0 0), aTm t, Af turn] S (aTm (Cr (.mk t.name (t.args.map f)) left).1) (AH S a0 (some (Dp r s.length (Cr (.mk t.name (t.args.map f)) left).2))) := by
 refine B0.acS fun hS C hC => ?_
 have hu : (Tm.mk t.name (t.args.map f)).size = 1 + Tm.sizes (t.args.map f) := rfl
 have hlen := Tm.length_le (t.args.map f)
 rw [List.length_map] at hlen
 have hhigh : ∀ left, (Dp r s.length left).high = true := fun left => by
  show ((AC.row r s.length).high && AC.highs [.st (.int .i64 left)]) = true
  rw [Gf hr0]
  rfl
 have n4 : S 4 = none := AM hS (by omega)
 have n6 : S 6 = none := AM hS (by omega)
 have n7 : S 7 = none := AM hS (by omega)
 have n9 : S 9 = none := AM hS (by omega)
 have n11 : S 11 = none := AM hS (by omega)
 have n900 : S 900 = none := AM hS (by omega)
 have d4 : ¬ 4 = a0 := by omega
 have d6 : ¬ 6 = a0 := by omega
 have d7 : ¬ 7 = a0 := by omega
 have d9 : ¬ 9 = a0 := by omega
 have d11 : ¬ 11 = a0 := by omega
 have d900 : ¬ 900 = a0 := by omega
 have e4 : ¬ a0 = 4 := by omega
 have e6 : ¬ a0 = 6 := by omega
 have e7 : ¬ a0 = 7 := by omega
 have e9 : ¬ a0 = 9 := by omega
 have e11 : ¬ a0 = 11 := by omega
 have e900 : ¬ a0 = 900 := by omega
 have f4 : ¬ r = 4 := by omega
 have f6 : ¬ r = 6 := by omega
 have f7 : ¬ r = 7 := by omega
 have f9 : ¬ r = 9 := by omega
 have f11 : ¬ r = 11 := by omega
 have f900 : ¬ r = 900 := by omega
 unfold BO
 cases turn
 case' false =>
  repeat' with_reducible first | refine W ?_ | refine Z0 ?_ | ((first | refine Wo fun K hK => ?_ | refine Wq ?_ | refine Wr ?_); (try simp only [go_sem, fN, seval, eT, iR, hSa, n4, n6, n7, d4, d6, d7, e4, e6, e7]); (repeat refine Ai ?_); (try (refine hK _ ?_; clear hK K)))
  with_reducible refine Wp ?_
  simp only [go_sem, fN, seval, true_implies, false_implies, implies_true, dT, dF, nL]
  (try with_reducible refine iC ?_)
  repeat' with_reducible first | refine W ?_ | refine Z0 ?_ | ((first | refine Wo fun K hK => ?_ | refine Wq ?_ | refine Wr ?_); (try simp only [go_sem, fN, seval, eT, iR, hSa, n4, n6, n7, n9, d4, d6, d7, d9, e4, e6, e7, e9]); (repeat refine Ai ?_); (try (refine hK _ ?_; clear hK K)))
 case' true =>
  have hln := hl rfl
  repeat' with_reducible first | refine W ?_ | refine Z0 ?_ | ((first | refine Wo fun K hK => ?_ | refine Wq ?_ | refine Wr ?_); (try simp only [go_sem, fN, seval, eT, iR, hSa, n4, n6, n7, d4, d6, d7, e4, e6, e7]); (repeat refine Ai ?_); (try (refine hK _ ?_; clear hK K)))
  with_reducible refine Wp ?_
  simp only [go_sem, fN, seval, true_implies, false_implies, implies_true, dT, dF, nL]
  (try with_reducible refine iC ?_)
  repeat' with_reducible first | refine W ?_ | refine Z0 ?_ | ((first | refine Wo fun K hK => ?_ | refine Wq ?_ | refine Wr ?_); (try simp only [go_sem, fN, seval, eT, iR, hSa, n4, n6, n7, d4, d6, d7, e4, e6, e7]); (repeat refine Ai ?_); (try (refine hK _ ?_; clear hK K)))
  refine ⟨_, [(r, BL s)], C4 (by (simp only [go_sem, fN, seval, eT, iR, f4, f6, f7, hSr])), fun T hT => Rx s h40 ho t.name (up1 r) (Ar r) (upS T) (by rw [As, hT _ (List.mem_singleton.2 rfl)]; rfl), ?_⟩
  repeat' with_reducible first | refine W ?_ | refine Z0 ?_ | ((first | refine Wo fun K hK => ?_ | refine Wq ?_ | refine Wr ?_); (try simp only [go_sem, fN, seval, eT, iR, hln, n7]); (repeat refine Ai ?_); (try (refine hK _ ?_; clear hK K)))
  with_reducible refine Wp ?_
  simp only [go_sem, fN, seval, true_implies, false_implies, implies_true, dT, dF, nL]
  (try with_reducible refine iC ?_)
  repeat' with_reducible first | refine W ?_ | refine Z0 ?_ | ((first | refine Wo fun K hK => ?_ | refine Wq ?_ | refine Wr ?_); (try simp only [go_sem, fN, seval, eT, iR, hSa, n4, n6, n7, n9, d4, d6, d7, d9, e4, e6, e7, e9]); (repeat refine Ai ?_); (try (refine hK _ ?_; clear hK K)))
 all_goals
  by_cases hz : left = 0
  ·subst hz
   have hno : ¬ ((Tm.mk t.name (t.args.map f)).size : Int) ≤ 0 := by rw [hu]; omega
   rw [DN hno]
   with_reducible refine Wp ?_
   simp only [go_sem, fN, seval, true_implies, false_implies, implies_true, dT, dF, nL]
   (try with_reducible refine iC ?_)
   repeat' with_reducible first | refine W ?_ | refine Z0 ?_ | ((first | refine Wo fun K hK => ?_ | refine Wq ?_ | refine Wr ?_); (try simp only [go_sem, fN, seval, eT, iR, hSa, n4, n6, n7, n9, d4, d6, d7, d9, e4, e6, e7, e9]); (repeat refine Ai ?_); (try (refine hK _ ?_; clear hK K)))
   refine BV (.agg [.st (.str ⟨#[]⟩), .full []]) hS ha0 (hhigh _) trivial ?_ ?_ ?_ fun i hi hne => ?_
   ·simp only [go_sem, fN, seval, eT, iR, AB, AD, AI, e4, e6, e7, e9, d4, d6, d7, d9]
   ·simp only [go_sem, fN, seval, eT, iR, Tm.nil]
    rfl
   ·simp only [go_sem, fN, seval, eT, iR, e4, e6, e7, e9]
   ·have i4 : ¬ i = 4 := by omega
    have i6 : ¬ i = 6 := by omega
    have i7 : ¬ i = 7 := by omega
    simp only [go_sem, fN, seval, eT, iR, i4, i6, i7, hne]
  have hz' : ¬ left - 1 < 0 := by omega
  with_reducible refine Wp ?_
  simp only [go_sem, fN, seval, true_implies, false_implies, implies_true, dT, dF, nL, hz']
  (try with_reducible refine iC ?_)
  repeat' with_reducible first | refine W ?_ | refine Z0 ?_ | ((first | refine Wo fun K hK => ?_ | refine Wq ?_ | refine Wr ?_); (try simp only [go_sem, fN, seval, eT, iR, hSa, n4, n6, n7, n9, d4, d6, d7, d9, e4, e6, e7, e9]); (repeat refine Ai ?_); (try (refine hK _ ?_; clear hK K)))
  refine IWP.ghost (Ae.ownC 9 1 900 32 2 (xs := ([] : List Tm).map Ay) (by simp only [go_sem, fN, seval, eT, iR, d9, d4, d6, d7, e9]; rfl) rfl (by simp only [go_sem, fN, seval, eT, iR, n900, d900]) C8) ?_
  refine IWP.loopD [11] (fun m x => ∃ k, k ≤ t.args.length ∧ m = t.args.length - k ∧ (Tm.sizes ((t.args.take k).map f) : Int) ≤ left - 1 ∧ x.env 0 = .one (.ptr a0 1 0 0) ∧ x.env 2 = Af _ ∧ x.env 6 = .one (.ptr 6 1 0 0) ∧ x.env 9 = .one (.ptr 9 1 0 0) ∧ x.env 44 = .one (.st (.list (t.args.map Ay))) ∧ x.env 45 = AR t.args.length ∧ x.env 46 = AR k ∧
    x.S 6 = some (.box 32 [.st (.str ⟨#[]⟩), .full []]) ∧ x.S 9 = some (.box 32 [.st (.str t.name), .row 900 k]) ∧ x.S 900 = some (.arow 32 2 (((t.args.take k).map f).map Ay)) ∧ x.S 11 = none ∧ x.S a0 = some (Dp r s.length (left - 1 - Tm.sizes ((t.args.take k).map f))) ∧ ∀ i, 1000 ≤ i → i ≠ a0 → x.S i = S i)
   t.args.length ⟨0, Nat.zero_le _, rfl, by show (0 : Int) ≤ _; omega, rfl, rfl, rfl, rfl, rfl, rfl, rfl, by simp only [go_sem, fN, seval, eT, iR, d6, d4, d7, d9, e6], by (simp only [go_sem, fN, seval, eT, iR, d9]); rfl, by simp only [go_sem, fN, seval, eT, iR, e9], by simp only [go_sem, fN, seval, eT, iR, n11, d11], by (simp only [go_sem, fN, seval, eT, iR, e9, e900]); simp [Tm.sizes], fun i hi hne => ?_⟩ ?_
  ·have i4 : ¬ i = 4 := by omega
   have i6 : ¬ i = 6 := by omega
   have i7 : ¬ i = 7 := by omega
   have i9 : ¬ i = 9 := by omega
   have i900 : ¬ i = 900 := by omega
   simp only [go_sem, fN, seval, eT, iR, i4, i6, i7, i9, i900, hne]
  rintro m ⟨env, S1⟩ ⟨k, hk, rfl, hsz, e0, e2, e6', e9', e44, e45, e46, s6, s9, s900, s11, sa, hrest⟩
  simp only at e0 e2 e6' e9' e44 e45 e46 s6 s9 s900 s11 sa hrest
  have hlk : (t.args.take k).length = k := by rw [List.length_take]; omega
  have hle := Tm.sizes_take_le (t.args.map f) k
  rw [← List.map_take] at hle
  have hkl := Tm.length_le ((t.args.take k).map f)
  rw [List.length_map, hlk] at hkl
  have hSr1 : S1 r = some (BL s) := (hrest r hr0 hra).trans hSr
  by_cases hlt : (k : Int) < t.args.length
  ·obtain ⟨a, ha⟩ := Ao (show k < t.args.length by omega)
   have ha' : (t.args.map f)[k]? = some (f a) := by rw [List.getElem?_map, ha]; rfl
   have z1 := Tm.sizes_take ha'
   have z2 := Tm.sizes_take_le (t.args.map f) (k + 1)
   rw [← List.map_take, ← List.map_take] at z1
   rw [← List.map_take] at z2
   repeat' with_reducible first | refine W ?_ | refine Z0 ?_ | ((first | refine Wo fun K hK => ?_ | refine Wq ?_ | refine Wr ?_); (try simp only [go_sem, fN, seval, eT, iR, e0, e2, e6', e9', e44, e45, e46, s6, s9, s900, s11, sa, hlt]); (repeat refine Ai ?_); (try (refine hK _ ?_; clear hK K)))
   with_reducible refine Wp ?_
   simp only [go_sem, fN, seval, true_implies, false_implies, implies_true, dT, dF, nL, hlt]
   (try with_reducible refine iC ?_)
   repeat' with_reducible first | refine W ?_ | refine Z0 ?_ | ((first | refine Wo fun K hK => ?_ | refine Wq ?_ | refine Wr ?_); (try simp only [go_sem, fN, seval, eT, iR, e0, e2, e6', e9', e44, e45, e46, s6, s9, s900, s11, sa, d11, d9, e11, ha]); (repeat refine Ai ?_); (try (refine hK _ ?_; clear hK K)))
   have hcall := ih a (AW ha) (up1 a0) (up1 r) (left - 1 - Tm.sizes ((t.args.take k).map f)) (upS (AH (AH S1 11 (some (.box 32 [.st (.str ⟨#[]⟩), .full []]))) 11 (some (.box 32 [.st (.str a.name), .st (.list (a.args.map Ay))])))) (Ar a0) (Ar r) (by unfold up1; omega) (by omega) (by omega) (by rw [As, AK _ e11, AK _ e11, sa]; rfl) (by rw [As, AK _ f11, AK _ f11, hSr1]; rfl)
   by_cases hfit : ((f a).size : Int) ≤ left - 1 - Tm.sizes ((t.args.take k).map f)
   ·rw [Df hfit] at hcall
    refine ⟨_, _, hcall, ?_⟩
    have hge : ¬ left - 1 - Tm.sizes ((t.args.take k).map f) - (f a).size < 0 := by omega
    repeat' with_reducible first | refine W ?_ | refine Z0 ?_ | ((first | refine Wo fun K hK => ?_ | refine Wq ?_ | refine Wr ?_); (try simp only [go_sem, fN, seval, eT, iR, e0, e2, e6', e9', e44, e45, e46, s6, s9, s900, s11, d11, d9, e11, e9, e900, d900, hlk]); (repeat refine Ai ?_); (try (refine hK _ ?_; clear hK K)))
    with_reducible refine Wp ?_
    simp only [go_sem, fN, seval, true_implies, false_implies, implies_true, dT, dF, nL, hge]
    (try with_reducible refine iC ?_)
    repeat' with_reducible first | refine W ?_ | refine Z0 ?_ | ((first | refine Wo fun K hK => ?_ | refine Wq ?_ | refine Wr ?_); (try simp only [go_sem, fN, seval, eT, iR, e0, e2, e6', e9', e44, e45, e46, s6, s9, s900, s11, d11, d9, e11]); (repeat refine Ai ?_); (try (refine hK _ ?_; clear hK K)))
    refine AG ⟨t.args.length - (k + 1), by omega, k + 1, by omega, rfl, ?_⟩
    have hib : (a0 == 11) = false := by simp; omega
    have hrb : (r == 11) = false := by simp; omega
    have hzz : ((Tm.sizes ((t.args.take (k + 1)).map f) : Nat) : Int) = Tm.sizes ((t.args.take k).map f) + (f a).size := by omega
    refine ⟨by omega, ?_⟩
    simp only [go_sem, fN, seval, AS.drop, Ap, AC.clears, AC.clear, AC.highs, AC.high, Bool.not_false, Bool.true_and, Bool.and_self, AV.purge, AV.purges, AC.purge, AJ.purge, List.contains_cons, List.contains_nil, Nat.reduceBEq, Bool.or_self, Bool.or_false, Bool.false_or, Bool.or_true, eT, iR, e0, e2, e6', e9', e44, e45, s6, s9, s900, d11, d9, e11, e9, e900, d900, d6, hib, hrb]
    refine ⟨by congr 3, by rw [Aq ha, List.map_append, List.map_append, List.map_cons, List.map_nil, List.map_cons, List.map_nil, CS], ?_, fun i hi hne => ?_⟩
    ·congr 5
     omega
    ·have i9 : ¬ i = 9 := by omega
     have i11 : ¬ i = 11 := by omega
     have i900 : ¬ i = 900 := by omega
     have i11b : (i == 11) = false := by simp; omega
     simp only [go_sem, fN, seval, AS.drop, Ap, AC.clears, AC.clear, AC.highs, AC.high, Bool.not_false, Bool.true_and, Bool.and_self, AV.purge, AV.purges, AC.purge, AJ.purge, List.contains_cons, List.contains_nil, Nat.reduceBEq, Bool.or_self, Bool.or_false, Bool.false_or, Bool.or_true, eT, iR, i9, i11, i11b, i900, hne]
     rw [hrest i hi hne]
     exact OJ (by decide) fun b hb => (hS i b hb).2
   ·have hno : ¬ ((Tm.mk t.name (t.args.map f)).size : Int) ≤ left := by rw [hu]; omega
    rw [DN hfit] at hcall
    refine ⟨_, _, hcall, ?_⟩
    repeat' with_reducible first | refine W ?_ | refine Z0 ?_ | ((first | refine Wo fun K hK => ?_ | refine Wq ?_ | refine Wr ?_); (try simp only [go_sem, fN, seval, eT, iR, e0, e2, e6', e9', e44, e45, e46, s6, s9, s900, s11, d11, d9, e11, e9, e900, d900, hlk]); (repeat refine Ai ?_); (try (refine hK _ ?_; clear hK K)))
    with_reducible refine Wp ?_
    simp only [go_sem, fN, seval, true_implies, false_implies, implies_true, dT, dF, nL]
    (try with_reducible refine iC ?_)
    repeat' with_reducible first | refine W ?_ | refine Z0 ?_ | ((first | refine Wo fun K hK => ?_ | refine Wq ?_ | refine Wr ?_); (try simp only [go_sem, fN, seval, eT, iR, e0, e2, e6', e9', e44, e45, e46, s6, s9, s900, s11, d11, d9, e11, e6, d6, d900, e900]); (repeat refine Ai ?_); (try (refine hK _ ?_; clear hK K)))
    rw [DN hno]
    refine BV (.agg [.st (.str ⟨#[]⟩), .full []]) hS ha0 (hhigh _) trivial ?_ ?_ ?_ fun i hi hne => ?_
    ·simp only [go_sem, fN, seval, eT, iR, AB, AD, AI, e6', s6, e6, e9, e11, e900, d6, d9, d11, d900]
    ·simp only [go_sem, fN, seval, eT, iR, Tm.nil]
     rfl
    ·simp only [go_sem, fN, seval, eT, iR, e6, e9, e11, e900]
    ·have i6 : ¬ i = 6 := by omega
     have i9 : ¬ i = 9 := by omega
     have i11 : ¬ i = 11 := by omega
     have i900 : ¬ i = 900 := by omega
     simp only [go_sem, fN, seval, eT, iR, i6, i9, i11, i900, hne]
     exact hrest i hi hne
  ·have hall : t.args.take k = t.args := List.take_of_length_le (by omega)
   rw [hall] at hlk s900 hsz sa
   have hyes : ((Tm.mk t.name (t.args.map f)).size : Int) ≤ left := by rw [hu]; omega
   repeat' with_reducible first | refine W ?_ | refine Z0 ?_ | ((first | refine Wo fun K hK => ?_ | refine Wq ?_ | refine Wr ?_); (try simp only [go_sem, fN, seval, eT, iR, e0, e2, e6', e9', e44, e45, e46, s6, s9, s900, s11, sa, hlt]); (repeat refine Ai ?_); (try (refine hK _ ?_; clear hK K)))
   with_reducible refine Wp ?_
   simp only [go_sem, fN, seval, true_implies, false_implies, implies_true, dT, dF, nL, hlt]
   (try with_reducible refine iC ?_)
   repeat' with_reducible first | refine W ?_ | refine Z0 ?_ | ((first | refine Wo fun K hK => ?_ | refine Wq ?_ | refine Wr ?_); (try simp only [go_sem, fN, seval, eT, iR, e0, e2, e6', e9', e44, e45, e46, s6, s9, s900, s11, sa, d6]); (repeat refine Ai ?_); (try (refine hK _ ?_; clear hK K)))
   rw [Df hyes]
   refine BV (.agg [.st (.str t.name), .row 900 k]) hS ha0 (hhigh _) trivial ?_ ?_ ?_ fun i hi hne => ?_
   ·simp only [go_sem, fN, seval, eT, iR, AB, AD, AI, e6', s6]
   ·simp only [go_sem, fN, seval, eT, iR, s900, hlk]
    rfl
   ·simp only [go_sem, fN, seval, eT, iR, e6, sa, hu]
    rw [show left - 1 - (Tm.sizes (t.args.map f) : Int) = left - ((1 + Tm.sizes (t.args.map f) : Nat) : Int) by omega]
   ·have i6 : ¬ i = 6 := by omega
    simp only [go_sem, fN, seval, eT, iR, i6]
    exact hrest i hi hne
theorem Td (s : List Bd) (h40 : s.length ≤ 100000) (ho : BB s) (t : Tm) : ∀ (a0 r : Nat) (left : Int) (S : AA), 1000 ≤ a0 → 1000 ≤ r → ¬ r = a0 → 0 ≤ left → left ≤ 1000000 → S a0 = some (Dp r s.length left) → S r = some (BL s) →
  Am Tryd.prog 49 [.one (.ptr a0 1 0 0), aTm t, Af false] S (aTm (Cr t left).1) (AH S a0 (some (Dp r s.length (Cr t left).2))) := by
 induction h : SizeOf.sizeOf t using Nat.strongRecOn generalizing t with
 | _ N ih =>
 subst h
 intro a0 r left S h1 h1' h1'' h2 h3 h4 h5
 have := Iq s h40 ho false id t (fun h => by cases h) (fun a ha => ih _ (Tm.lt_of_arg ha) a rfl) a0 r left S h1 h1' h1'' h2 h3 h4 h5
 rw [List.map_id, Tm.eta] at this
 exact this
theorem TR (s : List Bd) (h40 : s.length ≤ 100000) (ho : BB s) (t : Tm) (hv : ∀ b ∈ s, AQ b.1 = true) (hchk : t.chk = 0) : ∀ (a0 r : Nat) (left : Int) (S : AA), 1000 ≤ a0 → 1000 ≤ r → ¬ r = a0 → 0 ≤ left → left ≤ 1000000 → S a0 = some (Dp r s.length left) → S r = some (BL s) →
  Am Tryd.prog 49 [.one (.ptr a0 1 0 0), aTm t, Af true] S (aTm (Cr (t.on s) left).1) (AH S a0 (some (Dp r s.length (Cr (t.on s) left).2))) := by
 induction h : SizeOf.sizeOf t using Nat.strongRecOn generalizing t with
 | _ N ih =>
 subst h
 intro a0 r left S ha0 hr0 hra h0 h1 hSa hSr
 obtain ⟨c1, c2⟩ := Tm.chk_args hchk
 cases hl : lookup s t.name with
 | none =>
  have := Iq s h40 ho true (Tm.on s) t (fun _ => hl) (fun a ha => ih _ (Tm.lt_of_arg ha) a (c2 a ha) rfl) a0 r left S ha0 hr0 hra h0 h1 hSa hSr
  rw [← Tm.on_knot (.inl hl)] at this
  exact this
 | some x =>
  obtain ⟨b, hb, hbn, _⟩ := Cl hl
  have hargs := c1 (by rw [← hbn]; exact hv b hb)
  rw [Tm.on_leaf hl hargs]
  refine B0.acS fun hS C hC => ?_
  have n4 : S 4 = none := AM hS (by omega)
  have n6 : S 6 = none := AM hS (by omega)
  have n7 : S 7 = none := AM hS (by omega)
  have e4 : ¬ a0 = 4 := by omega
  have e6 : ¬ a0 = 6 := by omega
  have e7 : ¬ a0 = 7 := by omega
  have d4 : ¬ 4 = a0 := by omega
  have d6 : ¬ 6 = a0 := by omega
  have d7 : ¬ 7 = a0 := by omega
  have f4 : ¬ r = 4 := by omega
  have f6 : ¬ r = 6 := by omega
  have f7 : ¬ r = 7 := by omega
  have hhigh : ∀ left, (Dp r s.length left).high = true := fun left => by
   show ((AC.row r s.length).high && AC.highs [.st (.int .i64 left)]) = true
   rw [Gf hr0]
   rfl
  unfold BO
  repeat' with_reducible first | refine W ?_ | refine Z0 ?_ | ((first | refine Wo fun K hK => ?_ | refine Wq ?_ | refine Wr ?_); (try simp only [go_sem, fN, seval, eT, iR, hSa, n4, n6, n7, d4, d6, d7, e4, e6, e7]); (repeat refine Ai ?_); (try (refine hK _ ?_; clear hK K)))
  with_reducible refine Wp ?_
  simp only [go_sem, fN, seval, true_implies, false_implies, implies_true, dT, dF, nL]
  (try with_reducible refine iC ?_)
  repeat' with_reducible first | refine W ?_ | refine Z0 ?_ | ((first | refine Wo fun K hK => ?_ | refine Wq ?_ | refine Wr ?_); (try simp only [go_sem, fN, seval, eT, iR, hSa, n4, n6, n7, d4, d6, d7, e4, e6, e7]); (repeat refine Ai ?_); (try (refine hK _ ?_; clear hK K)))
  refine ⟨_, [(r, BL s)], C4 (by (simp only [go_sem, fN, seval, eT, iR, f4, f6, f7, hSr])), fun T hT => Rx s h40 ho t.name (up1 r) (Ar r) (upS T) (by rw [As, hT _ (List.mem_singleton.2 rfl)]; rfl), ?_⟩
  repeat' with_reducible first | refine W ?_ | refine Z0 ?_ | ((first | refine Wo fun K hK => ?_ | refine Wq ?_ | refine Wr ?_); (try simp only [go_sem, fN, seval, eT, iR, hl, n7]); (repeat refine Ai ?_); (try (refine hK _ ?_; clear hK K)))
  with_reducible refine Wp ?_
  simp only [go_sem, fN, seval, true_implies, false_implies, implies_true, dT, dF, nL]
  (try with_reducible refine iC ?_)
  repeat' with_reducible first | refine W ?_ | refine Z0 ?_ | ((first | refine Wo fun K hK => ?_ | refine Wq ?_ | refine Wr ?_); (try simp only [go_sem, fN, seval, eT, iR, hSa, n4, n6, n7, d4, d6, d7, e4, e6, e7]); (repeat refine Ai ?_); (try (refine hK _ ?_; clear hK K)))
  have hcall := fun S' h h' => Td s h40 ho x (up1 a0) (up1 r) left S' (Ar a0) (Ar r) (by unfold up1; omega) h0 h1 h h'
  refine ⟨_, _, hcall _ (by rw [As]; (simp only [go_sem, fN, seval, eT, iR, e4, e6, e7, hSa])) (by rw [As]; (simp only [go_sem, fN, seval, eT, iR, f4, f6, f7, hSr])), ?_⟩
  repeat' with_reducible first | refine W ?_ | refine Z0 ?_ | ((first | refine Wo fun K hK => ?_ | refine Wq ?_ | refine Wr ?_); (try simp only [go_sem, fN, seval, eT, iR, e4, e6, e7, d4, d6, d7]); (repeat refine Ai ?_); (try (refine hK _ ?_; clear hK K)))
  refine BV (aTm (Cr x left).1) hS ha0 (hhigh _) trivial ?_ ?_ ?_ fun i hi hne => ?_
  ·simp only [go_sem, fN, seval, eT, iR, AB, AD, AI, e4, e6, e7, d4, d6, d7]
  ·simp only [go_sem, fN, seval, eT, iR]
  ·simp only [go_sem, fN, seval, eT, iR, e4, e6, e7]
  ·have i4 : ¬ i = 4 := by omega
   have i6 : ¬ i = 6 := by omega
   have i7 : ¬ i = 7 := by omega
   simp only [go_sem, fN, seval, eT, iR, i4, i6, i7, hne]
theorem Up (s : List Bd) (h40 : s.length ≤ 100000) (ho : BB s) (t : Tm) (hv : ∀ b ∈ s, AQ b.1 = true) (hchk : t.chk = 0) (r : Nat) (hr : 1000 ≤ r) (S : AA) (sr : S r = some (BL s)) :
  Am Tryd.prog 30 [.one (.row r s.length), aTm t] S (.tup [aTm (BH s t).1, Af (BH s t).2]) S := by
 refine L0.acS fun hS C hC => ?_
 unfold Gs
 have n3 : S 3 = none := AM hS (by omega)
 have n4 : S 4 = none := AM hS (by omega)
 have n7 : S 7 = none := AM hS (by omega)
 have n10 : S 10 = none := AM hS (by omega)
 have r3 : ¬ r = 3 := by omega
 have r4 : ¬ r = 4 := by omega
 have r7 : ¬ r = 7 := by omega
 have r10 : ¬ r = 10 := by omega
 repeat' with_reducible first | refine W ?_ | refine Z0 ?_ | ((first | refine Wo fun K hK => ?_ | refine Wq ?_ | refine Wr ?_); (try simp only [go_sem, fN, seval, eT, iR, n3, n4, n7, n10]); (repeat refine Ai ?_); (try (refine hK _ ?_; clear hK K)))
 have hcall := fun S' h h' => TR s h40 ho t hv hchk (up1 10) (up1 r) 2000 S' (Ar 10) (Ar r) (by unfold up1; omega) (by omega) (by omega) h h'
 refine ⟨_, _, hcall _ (by rw [As]; rfl) (by rw [As]; (simp only [go_sem, fN, seval, eT, iR, r3, r4, r10, sr])), ?_⟩
 by_cases hfit : ((t.on s).size : Int) ≤ 2000
 ·have e : BH s t = (t.on s, true) := by
   unfold BH
   rw [if_pos (by omega)]
  rw [Df hfit]
  have hge : (0 : Int) ≤ 2000 - (t.on s).size := by omega
  repeat' with_reducible first | refine W ?_ | refine Z0 ?_ | ((first | refine Wo fun K hK => ?_ | refine Wq ?_ | refine Wr ?_); (try simp only [go_sem, fN, seval, eT, iR, hge, n7]); (repeat refine Ai ?_); (try (refine hK _ ?_; clear hK K)))
  rw [e]
  refine CD (.tup [aTm (t.on s), Af true]) hS trivial ?_ ?_ fun k hk => ?_
  ·simp only [go_sem, fN, seval, eT, iR, AB, AD, AI]
  ·simp only [go_sem, fN, seval, eT, iR]
  ·have k3 : ¬ k = 3 := by omega
   have k4 : ¬ k = 4 := by omega
   have k7 : ¬ k = 7 := by omega
   have k10 : ¬ k = 10 := by omega
   simp only [go_sem, fN, seval, eT, iR, k3, k4, k7, k10]
 ·have e : BH s t = (Tm.nil, false) := by
   unfold BH
   rw [if_neg (by omega)]
  rw [DN hfit]
  repeat' with_reducible first | refine W ?_ | refine Z0 ?_ | ((first | refine Wo fun K hK => ?_ | refine Wq ?_ | refine Wr ?_); (try simp only [go_sem, fN, seval, eT, iR, n7]); (repeat refine Ai ?_); (try (refine hK _ ?_; clear hK K)))
  rw [e]
  refine CD (.tup [aTm Tm.nil, Af false]) hS trivial ?_ ?_ fun k hk => ?_
  ·simp only [go_sem, fN, seval, eT, iR, AB, AD, AI]
  ·simp only [go_sem, fN, seval, eT, iR]
  ·have k3 : ¬ k = 3 := by omega
   have k4 : ¬ k = 4 := by omega
   have k7 : ¬ k = 7 := by omega
   have k10 : ¬ k = 10 := by omega
   simp only [go_sem, fN, seval, eT, iR, k3, k4, k7, k10]

open Go.Proofs Go.Shelf
def Tryd.laysM171_ren : Go.Shelf.Ren := ⟨fun | 171 => 46 | 243 => 59 | 246 => 67 | 283 => 74 | 284 => 75 | 285 => 76 | 286 => 77 | 129 => 87 | 317 => 89 | 318 => 90 | 319 => 91 | 320 => 92 | 337 => 98 | 338 => 99 | n => n, fun | 3 => 3 | 9 => 9 | 2 => 2 | 4 => 4 | 171 => 109 | 0 => 0 | 53 => 110 | 37 => 113 | 5 => 5 | 173 => 114 | 212 => 129 | 51 => 124 | 20 => 20 | 213 => 130 | 46 => 103 | 232 => 141 | 233 => 142 | n => n, fun | 17 => 0 | 18 => 1 | 19 => 2 | n => n⟩
theorem Tryd.laysM171 : Go.Proofs.LaysM.n171 Tryd.prog Tryd.laysM171_ren := {
 mixed := by kernel_rfl
 f129 := Tryd.func87.trans (congrArg some (by kernel_rfl))
 f171 := Tryd.func46.trans (congrArg some (by kernel_rfl))
 f243 := Tryd.func59.trans (congrArg some (by kernel_rfl))
 f246 := Tryd.func67.trans (congrArg some (by kernel_rfl))
 f283 := Tryd.func74.trans (congrArg some (by kernel_rfl))
 f284 := Tryd.func75.trans (congrArg some (by kernel_rfl))
 f285 := Tryd.func76.trans (congrArg some (by kernel_rfl))
 f286 := Tryd.func77.trans (congrArg some (by kernel_rfl))
 f317 := Tryd.func89.trans (congrArg some (by kernel_rfl))
 f318 := Tryd.func90.trans (congrArg some (by kernel_rfl))
 f319 := Tryd.func91.trans (congrArg some (by kernel_rfl))
 f320 := Tryd.func92.trans (congrArg some (by kernel_rfl))
 f337 := Tryd.func98.trans (congrArg some (by kernel_rfl))
 f338 := Tryd.func99.trans (congrArg some (by kernel_rfl))
 t0 := Tryd.underlying0
 a0 := Tryd.isAgg0
 z0 := Tryd.sizeOf0
 v0 := Tryd.zeroValue0
 t2 := Tryd.underlying2
 a2 := Tryd.isAgg2
 z2 := Tryd.sizeOf2
 v2 := Tryd.zeroValue2
 t3 := Tryd.underlying3
 a3 := Tryd.isAgg3
 z3 := Tryd.sizeOf3
 v3 := Tryd.zeroValue3
 t4 := Tryd.underlying4
 a4 := Tryd.isAgg4
 z4 := Tryd.sizeOf4
 v4 := Tryd.zeroValue4
 t5 := Tryd.underlying5
 a5 := Tryd.isAgg5
 z5 := Tryd.sizeOf5
 v5 := Tryd.zeroValue5
 t9 := Tryd.underlying9
 a9 := Tryd.isAgg9
 z9 := Tryd.sizeOf9
 v9 := Tryd.zeroValue9
 t20 := Tryd.underlying20
 a20 := Tryd.isAgg20
 z20 := Tryd.sizeOf20
 v20 := Tryd.zeroValue20
 t37 := Tryd.underlying113
 a37 := Tryd.isAgg113
 z37 := Tryd.sizeOf113
 v37 := Tryd.zeroValue113
 t46 := Tryd.underlying103
 a46 := Tryd.isAgg103
 z46 := Tryd.sizeOf103
 v46 := Tryd.zeroValue103
 t51 := Tryd.underlying124
 a51 := Tryd.isAgg124
 z51 := Tryd.sizeOf124
 v51 := Tryd.zeroValue124
 t53 := Tryd.underlying110
 a53 := Tryd.isAgg110
 z53 := Tryd.sizeOf110
 v53 := Tryd.zeroValue110
 t171 := Tryd.underlying109
 a171 := Tryd.isAgg109
 z171 := Tryd.sizeOf109
 v171 := Tryd.zeroValue109
 t173 := Tryd.underlying114
 a173 := Tryd.isAgg114
 z173 := Tryd.sizeOf114
 v173 := Tryd.zeroValue114
 t212 := Tryd.underlying129
 a212 := Tryd.isAgg129
 z212 := Tryd.sizeOf129
 v212 := Tryd.zeroValue129
 t213 := Tryd.underlying130
 a213 := Tryd.isAgg130
 z213 := Tryd.sizeOf130
 t232 := Tryd.underlying141
 a232 := Tryd.isAgg141
 z232 := Tryd.sizeOf141
 v232 := Tryd.zeroValue141
 t233 := Tryd.underlying142
 a233 := Tryd.isAgg142
 z233 := Tryd.sizeOf142
 v233 := Tryd.zeroValue142
 g17 := by kernel_rfl
 g18 := by kernel_rfl
 g19 := by kernel_rfl
 i0 := by kernel_rfl
 i2 := by kernel_rfl
 i3 := by kernel_rfl
 i4 := by kernel_rfl
 i5 := by kernel_rfl
 i9 := by kernel_rfl
 i20 := by kernel_rfl
 i37 := by kernel_rfl
 i46 := by kernel_rfl
 i51 := by kernel_rfl
 i53 := by kernel_rfl
 i171 := by kernel_rfl
 i173 := by kernel_rfl
 i212 := by kernel_rfl
 i232 := by kernel_rfl
 i233 := by kernel_rfl
 m17 := by kernel_rfl
 m18 := by kernel_rfl
 m19 := by kernel_rfl }
def Tryd.sortBd_ren : Go.Shelf.Ren := ⟨fun | 6 => 60 | 15 => 69 | 14 => 68 | 28 => 86 | 29 => 87 | 20 => 78 | 21 => 79 | 22 => 80 | 23 => 81 | 24 => 82 | 25 => 83 | 26 => 84 | 27 => 85 | 46 => 93 | 47 => 94 | 48 => 95 | 49 => 96 | 50 => 97 | 57 => 100 | n => n, fun | 22 => 47 | 24 => 51 | 25 => 98 | 3 => 3 | 39 => 103 | 0 => 0 | 53 => 124 | 55 => 110 | 4 => 4 | 46 => 118 | 45 => 117 | 50 => 104 | 5 => 5 | 9 => 9 | 66 => 132 | 70 => 136 | 76 => 138 | 77 => 139 | n => n, fun | n => n⟩
theorem Tryd.sortBd : Go.Proofs.SlLaysF0.n6 Tryd.prog Tryd.sortBd_ren := {
 mixed := by kernel_rfl
 f6 := ⟨Tryd.f60.name, by decide, Tryd.func60.trans (congrArg some (by kernel_rfl))⟩
 f14 := ⟨Tryd.f68.name, by decide, Tryd.func68.trans (congrArg some (by kernel_rfl))⟩
 f15 := Tryd.func69.trans (congrArg some (by kernel_rfl))
 f20 := ⟨Tryd.f78.name, by decide, Tryd.func78.trans (congrArg some (by kernel_rfl))⟩
 f21 := ⟨Tryd.f79.name, by decide, Tryd.func79.trans (congrArg some (by kernel_rfl))⟩
 f22 := ⟨Tryd.f80.name, by decide, Tryd.func80.trans (congrArg some (by kernel_rfl))⟩
 f23 := ⟨Tryd.f81.name, by decide, Tryd.func81.trans (congrArg some (by kernel_rfl))⟩
 f24 := ⟨Tryd.f82.name, by decide, Tryd.func82.trans (congrArg some (by kernel_rfl))⟩
 f25 := ⟨Tryd.f83.name, by decide, Tryd.func83.trans (congrArg some (by kernel_rfl))⟩
 f26 := ⟨Tryd.f84.name, by decide, Tryd.func84.trans (congrArg some (by kernel_rfl))⟩
 f27 := ⟨Tryd.f85.name, by decide, Tryd.func85.trans (congrArg some (by kernel_rfl))⟩
 f28 := Tryd.func86.trans (congrArg some (by kernel_rfl))
 f29 := Tryd.func87.trans (congrArg some (by kernel_rfl))
 f46 := ⟨Tryd.f93.name, by decide, Tryd.func93.trans (congrArg some (by kernel_rfl))⟩
 f47 := Tryd.func94.trans (congrArg some (by kernel_rfl))
 f48 := Tryd.func95.trans (congrArg some (by kernel_rfl))
 f49 := ⟨Tryd.f96.name, by decide, Tryd.func96.trans (congrArg some (by kernel_rfl))⟩
 f50 := ⟨Tryd.f97.name, by decide, Tryd.func97.trans (congrArg some (by kernel_rfl))⟩
 f57 := ⟨Tryd.f100.name, by decide, Tryd.func100.trans (congrArg some (by kernel_rfl))⟩
 t0 := Tryd.underlying0
 a0 := Tryd.isAgg0
 z0 := Tryd.sizeOf0
 v0 := Tryd.zeroValue0
 t3 := Tryd.underlying3
 a3 := Tryd.isAgg3
 z3 := Tryd.sizeOf3
 v3 := Tryd.zeroValue3
 t4 := Tryd.underlying4
 a4 := Tryd.isAgg4
 z4 := Tryd.sizeOf4
 v4 := Tryd.zeroValue4
 t5 := Tryd.underlying5
 a5 := Tryd.isAgg5
 z5 := Tryd.sizeOf5
 v5 := Tryd.zeroValue5
 t9 := Tryd.underlying9
 a9 := Tryd.isAgg9
 z9 := Tryd.sizeOf9
 v9 := Tryd.zeroValue9
 t22 := Tryd.underlying47
 a22 := Tryd.isAgg47
 z22 := Tryd.sizeOf47
 v22 := Tryd.zeroValue47
 t25 := Tryd.underlying98
 a25 := Tryd.isAgg98
 z25 := Tryd.sizeOf98
 v25 := Tryd.zeroValue98
 t39 := Tryd.underlying103
 a39 := Tryd.isAgg103
 z39 := Tryd.sizeOf103
 v39 := Tryd.zeroValue103
 t45 := Tryd.underlying117
 a45 := Tryd.isAgg117
 z45 := Tryd.sizeOf117
 v45 := Tryd.zeroValue117
 t46 := Tryd.underlying118
 a46 := Tryd.isAgg118
 z46 := Tryd.sizeOf118
 v46 := Tryd.zeroValue118
 t50 := Tryd.underlying104
 a50 := Tryd.isAgg104
 z50 := Tryd.sizeOf104
 v50 := Tryd.zeroValue104
 t53 := Tryd.underlying124
 a53 := Tryd.isAgg124
 z53 := Tryd.sizeOf124
 v53 := Tryd.zeroValue124
 t55 := Tryd.underlying110
 a55 := Tryd.isAgg110
 z55 := Tryd.sizeOf110
 v55 := Tryd.zeroValue110
 t66 := Tryd.underlying132
 a66 := Tryd.isAgg132
 z66 := Tryd.sizeOf132
 v66 := Tryd.zeroValue132
 t70 := Tryd.underlying136
 a70 := Tryd.isAgg136
 z70 := Tryd.sizeOf136
 v70 := Tryd.zeroValue136
 t76 := Tryd.underlying138
 a76 := Tryd.isAgg138
 z76 := Tryd.sizeOf138
 v76 := Tryd.zeroValue138
 t77 := Tryd.underlying139
 a77 := Tryd.isAgg139
 z77 := Tryd.sizeOf139
 v77 := Tryd.zeroValue139 }

def E5 : IR :=
 (.seq (.ops [.i 2 (.mov (.c (.one (.full []))))]) (.seq (.ops [.m 3 0, .i 4 (.callS 60 [.t 3, .c (.one (.fn 61 []))])]) (.seq (.ops [.m 5 0, .m 2 5]) .ret)))
theorem I5 : OkF Tryd.prog 47 6 [4] E5 [.t 2] := .of Tryd.func47 rfl rfl (by kernel_rfl) rfl

open Go.Lib Go.Sort
set_option maxHeartbeats 1000000
theorem Tr {P : Program} {w : World} (t : TypeId) (x y : ByteArray) : (binOp .gtr t (.string x) (.string y)).run P w = .ok (.bool (!(sLt x y || decide (x = y)))) w := by
 simp only [binOp, Op.stringOp, Ca]
 rfl
attribute [go_sem] Tr
theorem Tq (s : ByteArray) (W : World) : Calls Tryd.prog 70 #[.string s] W fun e w' => e = .returned (.bool false) ∧ w' = W := by
 go_enter Tryd.func70, Tryd.ntmps70
 go_wp2_with fail
 go_ret
 exact ⟨rfl, rfl⟩
theorem Qn (a b : ByteArray) (W : World) : Calls Tryd.prog 62 #[.string a, .string b] W fun e w' => e = .returned (.int .i64 (Ep a b)) ∧ w' = W := by
 have h1 := Tq
 have hl : sLt a b = Op.bytesLess a.toList b.toList := rfl
 have hc : Ep a b = if sLt a b = true then -1 else if a = b then 0 else 1 := rfl
 generalize Ep a b = r at hc ⊢
 go_enter Tryd.func62, Tryd.ntmps62
 go_wp2_with (go_at_call 70; refine (h1 _ _).mono ?_; rintro e w' ⟨rfl, rfl⟩)
 all_goals go_ret
 all_goals refine ⟨?_, rfl⟩
 all_goals simp_all
abbrev D0 := ByteArray × ByteArray × Option Addr × Nat × Nat
def CH (x : D0) : List Value := [.string x.1, .string x.2.1, .slice x.2.2.1 x.2.2.2.1 x.2.2.2.2]
theorem Tf (x y : D0) (W : World) : Calls Tryd.prog 61 #[.agg (CH x).toArray, .agg (CH y).toArray] W fun e w' => e = .returned (.int .i64 (Ep x.1 y.1)) ∧ ∃ q os', w' = grow (W.drewN q) os' := by
 have hcon := fun W' => Qn x.1 y.1 W'
 generalize Ep x.1 y.1 = r at hcon ⊢
 unfold CH
 go_enter Tryd.func61, Tryd.ntmps61
 go_wp2_with (go_at_call 62; refine (hcon _).mono ?_; rintro e w' ⟨rfl, rfl⟩)
 go_ret
 exact ⟨rfl, 0, _, by rw [alloc_eq_grow, alloc_eq_grow, grow_grow]; rfl⟩
theorem P1 : SWO (ltOf fun x y : D0 => Ep x.1 y.1) where
 irrefl x := by
  simp only [ltOf, decide_eq_false_iff_not]
  intro h
  have := CA.1 h
  rw [DE] at this
  cases this
 trans x y z h k := by
  simp only [ltOf, decide_eq_true_eq] at *
  exact CA.2 (EE (CA.1 h) (CA.1 k))
 ntrans x y z h k := by
  simp only [ltOf, decide_eq_false_iff_not] at *
  intro e
  have e := CA.1 e
  have h : sLt x.1 y.1 = false := by
   cases hx : sLt x.1 y.1 with
   | false => rfl
   | true => exact absurd (CA.2 hx) h
  have k : sLt y.1 z.1 = false := by
   cases hx : sLt y.1 z.1 with
   | false => rfl
   | true => exact absurd (CA.2 hx) k
  rcases HZ y.1 z.1 with q | q | q
  ·rw [q] at k; cases k
  ·rw [q] at h; rw [e] at h; cases h
  ·have := EE e q
   rw [this] at h
   cases h
def Q2 (σ : Sto) (x : D0) (b : Bd) : Prop := x.1 = b.1 ∧ Ab (Ax σ) (CH x) (CX b)
theorem QM {α β : Type} {R : α → β → Prop} {l1 l2 : List α} (hp : l1.Perm l2) : ∀ {m1 : List β}, Ab R l1 m1 → ∃ m2, Ab R l2 m2 ∧ m1.Perm m2 := by
 induction hp with
 | nil => intro m1 h; exact ⟨m1, h, List.Perm.refl _⟩
 | cons x _ ih =>
  intro m1 h
  cases h with
  | cons h1 h2 =>
   obtain ⟨m2, q1, q2⟩ := ih h2
   exact ⟨_ :: m2, .cons h1 q1, q2.cons _⟩
 | swap x y l =>
  intro m1 h
  cases h with
  | cons h1 h2 =>
   cases h2 with
   | cons h2 h3 => exact ⟨_, .cons h2 (.cons h1 h3), List.Perm.swap _ _ _⟩
 | trans _ _ ih1 ih2 =>
  intro m1 h
  obtain ⟨m2, q1, q2⟩ := ih1 h
  obtain ⟨m3, q3, q4⟩ := ih2 q1
  exact ⟨m3, q3, q2.trans q4⟩
theorem TZ {σ : Sto} {b : Bd} {v1 v2 v3 : Value} (h1 : Ax σ v1 (.str b.1)) (h2 : Ax σ v2 (.str b.2.name)) (h3 : Ax σ v3 (.list (b.2.args.map Ay))) : ∃ x : D0, [v1, v2, v3] = CH x ∧ Q2 σ x b := by
 have e1 := (Dr (S := noS) (ι := noH) (.one (.st h1))).1
 have e2 := (Dr (S := noS) (ι := noH) (.one (.st h2))).1
 obtain ⟨p, cap, e3, _⟩ := CK h3
 subst e1 e2 e3
 exact ⟨(b.1, b.2.name, p, _, cap), rfl, rfl, .cons h1 (.cons h2 (.cons h3 .nil))⟩
theorem Ig {σ : Sto} {vs : Array Value} : ∀ (l : List Bd) (base : Nat), (∀ k b, l[k]? = some b → ∀ j a, (CX b)[j]? = some a → ∃ v, vs[base + k * 3 + j]? = some v ∧ Ax σ v a) →
  ∃ d : List D0, Ab (Q2 σ) d l ∧ ∀ k x j v, d[k]? = some x → (CH x)[j]? = some v → vs[base + k * 3 + j]? = some v
 | [], base, _ => ⟨[], .nil, by simp⟩
 | b :: l, base, h => by
  obtain ⟨d, d1, d2⟩ := Ig l (base + 3) (fun k c hc j a ha => by
   obtain ⟨v, v1, v2⟩ := h (k + 1) c (by simpa using hc) j a ha
   exact ⟨v, by rw [← v1]; congr 1; omega, v2⟩)
  obtain ⟨u1, p1, q1⟩ := h 0 b rfl 0 _ rfl
  obtain ⟨u2, p2, q2⟩ := h 0 b rfl 1 _ rfl
  obtain ⟨u3, p3, q3⟩ := h 0 b rfl 2 _ rfl
  obtain ⟨x, x1, x2⟩ := TZ q1 q2 q3
  refine ⟨x :: d, .cons x2 d1, fun k y j v hy hv => ?_⟩
  cases k with
  | zero =>
   simp only [List.getElem?_cons_zero, Option.some.injEq] at hy
   subst hy
   rw [← x1] at hv
   match j, hv with
   | 0, hv => cases hv; exact p1
   | 1, hv => cases hv; exact p2
   | 2, hv => cases hv; exact p3
   | j + 3, hv => simp at hv
  | succ k =>
   have := d2 k y j v (by simpa using hy) hv
   rw [← this]
   congr 1
   omega
theorem HL (x : D0) : (CH x).length = 3 := rfl
theorem NP {d : Array D0} {t : Nat} (h : t < d.size * 3) : ∃ x v, d[t / 3]? = some x ∧ (CH x)[t % 3]? = some v ∧ (flatK CH 3 d)[t]! = v := by
 have hk : t / 3 < d.size := by omega
 have hj : t % 3 < (CH d[t / 3]).length := by rw [HL]; omega
 refine ⟨d[t / 3], (CH d[t / 3])[t % 3], Array.getElem?_eq_getElem hk, List.getElem?_eq_getElem hj, ?_⟩
 rw [get_flatK _ _ _ _ h, getElem!_pos d (t / 3) hk, getElem!_pos (CH d[t / 3]) (t % 3) hj]
theorem Pp (w : World) (g n : Nat) (d : Array D0) (os : Array Obj) (vs : Array Value) (e : TypeId) (hg : w.heap[g]? = some (.cells vs e (0, 0))) :
  (sortWorldK CH 3 w g 0 n d os).heap[g]? = some (.cells (putCells id 0 (flatK CH 3 d) vs) e (0, 0)) ∧ (∀ k, k < w.heap.size → k ≠ g → (sortWorldK CH 3 w g 0 n d os).heap[k]? = w.heap[k]?) ∧ w.heap.size ≤ (sortWorldK CH 3 w g 0 n d os).heap.size := by
 have hlt := (Array.getElem?_eq_some_iff.1 hg).1
 have hsz : (putRowK CH 3 (Sort.ahead w n) g 0 d).heap.size = w.heap.size := by simp [putRowK, putRow, mapBlock, Sort.ahead]
 refine ⟨?_, fun k hk hne => ?_, ?_⟩
 ·unfold sortWorldK
  rw [heap_grow_old _ _ (by rw [hsz]; exact hlt)]
  simp [putRowK, putRow, mapBlock, Sort.ahead, Array.getElem?_modify, hg, onCells]
 ·unfold sortWorldK
  rw [heap_grow_old _ _ (by rw [hsz]; exact hk)]
  simp [putRowK, putRow, mapBlock, Sort.ahead, Array.getElem?_modify, Ne.symm hne]
 ·unfold sortWorldK
  rw [Go.Sort.size_grow, hsz]
  omega
theorem Tw {d : Array D0} {vs : Array Value} (hs : d.size * 3 ≤ vs.size) {k : Nat} {x : D0} {j : Nat} {v : Value} (hx : d[k]? = some x) (hv : (CH x)[j]? = some v) : (putCells id 0 (flatK CH 3 d) vs)[k * 3 + j]? = some v := by
 have hk := (Array.getElem?_eq_some_iff.1 hx).1
 have hj : j < 3 := by have := (List.getElem?_eq_some_iff.1 hv).1; rw [HL] at this; exact this
 have hlt : k * 3 + j < d.size * 3 := by omega
 obtain ⟨y, u, h1, h2, h3⟩ := NP hlt
 have e1 : (k * 3 + j) / 3 = k := by omega
 have e2 : (k * 3 + j) % 3 = j := by omega
 rw [e1, hx] at h1
 cases h1
 rw [e2, hv] at h2
 cases h2
 unfold putCells
 rw [Array.getElem?_mapIdx, Array.getElem?_eq_getElem (by omega), Option.map_some, if_pos (by rw [size_flatK]; omega)]
 simp only [Nat.sub_zero, id, h3]
theorem Sj (d : Array D0) (vs : Array Value) : (putCells id 0 (flatK CH 3 d) vs).size = vs.size := by simp [putCells]
theorem TJ {S : AA} {r : Nat} {b : AJ} (h : S r = some b) : AH S r (some b) = S := by
 funext k
 unfold AH
 split
 ·rename_i e; rw [e, h]
 ·rfl
theorem P6 {d : Array D0} {vs : Array Value} {t : Nat} (h : d.size * 3 ≤ t) : (putCells id 0 (flatK CH 3 d) vs)[t]? = vs[t]? := by
 unfold putCells
 rw [Array.getElem?_mapIdx]
 cases hv : vs[t]? with
 | none => rfl
 | some v => rw [Option.map_some, if_neg (by rw [size_flatK]; omega)]
abbrev Ev (l : List Bd) (ys : List (List SV)) : AJ := .mrow 51 3 (l.map CX ++ ys)
theorem Pd (l : List Bd) (ys : List (List SV)) (hys : ∀ y ∈ ys, y.length = 3) (hn : Ba l) (hl : l.length ≤ 100000) (r : Nat) (hr : 1000 ≤ r) (S : AA) (sr : S r = some (Ev l ys)) (hS : At S) (σ : Sto) (w : World) (ι : Au) (hF : Fit σ w) (hO : C2 σ S ι w) :
  Calls Tryd.prog 60 #[.slice (ι r).p l.length (ι r).cap, .func (.func 61) #[] #[]] w fun e w' => ∃ v σ' ι', e = .returned v ∧ At (AH S r (some (Ev (BQ l) ys))) ∧ Upd S ι (AH S r (some (Ev (BQ l) ys))) ι' ∧ C2 σ' (AH S r (some (Ev (BQ l) ys))) ι' w' ∧ AN σ' (AH S r (some (Ev (BQ l) ys))) ι' v (.tup []) ∧ Fit σ' w' ∧ (∀ p x, σ p = some x → σ' p = some x) ∧
   (∀ p : Addr, p.block < w.heap.size → Bn S ι p.block → σ' p = σ p) ∧ (w'.os = w.os ∧ w'.tape = w.tape ∧ w'.output = w.output) ∧ w.heap.size ≤ w'.heap.size ∧
   (∀ g, g < w.heap.size → Bn S ι g → w'.heap[g]? = w.heap[g]?) ∧ (∀ id b g, AH S r (some (Ev (BQ l) ys)) id = some b → (ι' id).g = some g → w.heap.size ≤ g ∨ ¬ Bn S ι g) := by
 have hS' : At (AH S r (some (Ev (BQ l) ys))) := CT hS hr rfl
 have hb : Bv σ S ι w (ι r) (.mrow 51 3 (l.map CX ++ ys)) := hO.1 r _ sr
 generalize hxs : l.map CX ++ ys = xs at hb
 have hlen : xs.length = l.length + ys.length := by rw [← hxs, List.length_append, List.length_map]
 generalize hh : ι r = hd at hb
 cases hb with
 | mnil k1 k2 =>
  obtain ⟨hl0, hy0⟩ : l = [] ∧ ys = [] := by simpa using hxs
  subst hl0 hy0
  refine (AnyF.slices_SortFunc_none Tryd.sortBd hd.p hd.cap _ w).mono fun e w' ⟨he, hw⟩ => ?_
  subst hw
  have hid : AH S r (some (Ev (BQ []) [])) = S := TJ sr
  rw [hid]
  exact ⟨_, σ, ι, he, hS, Upd.refl _ _, hO, .tup (fun _ => undef) rfl (by simp) (by simp), hF, fun _ _ h => h, fun _ _ _ => rfl, ⟨rfl, rfl, rfl⟩, Nat.le_refl _, fun _ _ _ => rfl, fun id b g h1 h2 => .inr fun hno => hno id b h1 h2⟩
 | @mrow _ _ _ g cs k1 k2 k3 k4 k5 k6 k7 k8 k9 =>
  subst hxs
  obtain ⟨d, d1, d2⟩ := Ig (σ := σ) (vs := cs) l 0 (fun k b hb j a ha => by
   obtain ⟨v, v1, v2⟩ := k8 k (CX b) j a (by rw [List.getElem?_append_left (by rw [List.length_map]; exact CP hb), List.getElem?_map, hb]; rfl) ha
   exact ⟨v, by rw [Nat.zero_add]; exact v1, v2⟩)
  have dlen : d.length = l.length := d1.len
  have hcap : l.length ≤ hd.cap := by omega
  have hfits : d.toArray.size * 3 ≤ cs.size := by
   rw [k6]
   simp only [List.size_toArray, dlen]
   exact Nat.mul_le_mul_right 3 hcap
  have hH : HoldsK CH 3 w g 0 d.toArray := fun j hj => by
   rw [size_flatK] at hj
   obtain ⟨x, v, q1, q2, q3⟩ := NP hj
   have q1 : d[j / 3]? = some x := by simpa using q1
   have hc := d2 _ _ _ _ q1 q2
   have e : 0 + j / 3 * 3 + j % 3 = j := by omega
   rw [e] at hc
   refine ⟨?_, ?_⟩
   ·rw [cell_of_row w g _ _ _ _ k3, Nat.zero_add, hc, q3]
    rfl
   ·exact Blk.frozen k3 _
  have eg : ∀ args w, (callFunc 61 args).run Tryd.prog w = .ok (.enter 61 args) w := enters_of Tryd.func61 (by kernel_rfl) rfl
  have hgl : g < w.heap.size := (Array.getElem?_eq_some_iff.1 k3).1
  have hcon := AnyQ.slices_SortFunc Tryd.sortBd 3 Tryd.isAgg51 Tryd.sizeOf51 CH HL (fun x v hv => by simp [CH] at hv; rcases hv with rfl | rfl | rfl <;> rfl) (fun x y : D0 => Ep x.1 y.1) P1 61 #[] g 0 hd.cap d.toArray w eg (fun _ _ _ _ x y => Tf x y _) hH hgl (by simp [dlen]; omega)
  rw [show d.toArray.size = l.length by simp [dlen]] at hcon
  rw [k2, show (l.length) = l.length from rfl]
  refine Calls.mono hcon fun e w' ⟨he, d', n, os, hp, hs, hw⟩ => ?_
  obtain ⟨hp1, hp2, hp3⟩ := hp
  have hd'l : d'.size = l.length := by rw [hp1]; simp [dlen]
  have hperm : d.Perm d'.toList := by
   have e1 : d'.extract 0 l.length = d' := by rw [← hd'l]; exact Array.extract_size
   have e2 : d.toArray.extract 0 l.length = d.toArray := by
    rw [show l.length = d.toArray.size by simp [dlen]]
    exact Array.extract_size
   rw [e1, e2] at hp3
   exact hp3.symm
  obtain ⟨l', l1, l2⟩ := QM hperm d1
  have hl'len : l'.length = l.length := l2.length_eq.symm
  have hord : BB l' := by
   unfold BB
   rw [List.pairwise_iff_getElem]
   intro i j hi hj hij
   obtain ⟨x, x1, x2, _⟩ := l1.get (List.getElem?_eq_getElem hi)
   obtain ⟨y, y1, y2, _⟩ := l1.get (List.getElem?_eq_getElem hj)
   have hso := hs i j (Nat.zero_le _) hij (by omega)
   have e1 : d'[i]! = x := by
    rw [Array.getElem?_toList] at x1
    rw [getElem!_def, x1]
   have e2 : d'[j]! = y := by
    rw [Array.getElem?_toList] at y1
    rw [getElem!_def, y1]
   rw [e1, e2] at hso
   simp only [ltOf, decide_eq_false_iff_not] at hso
   have hno : sLt l'[j].1 l'[i].1 = false := by
    cases hx : sLt l'[j].1 l'[i].1 with
    | false => rfl
    | true => exact absurd (CA.2 (by rw [x2, y2]; exact hx)) hso
   have hdiff : l'[i].1 ≠ l'[j].1 := by
    have hn' := Dm l2 hn
    unfold Ba at hn'
    rw [List.nodup_iff_pairwise_ne, List.pairwise_map, List.pairwise_iff_getElem] at hn'
    exact hn' i j hi hj hij
   rcases HZ l'[i].1 l'[j].1 with q | q | q
   ·exact q
   ·exact absurd q hdiff
   ·rw [q] at hno; cases hno
  have hl' : l' = BQ l := Dq hord (Bh hn) ((l2.symm).trans (CI l).symm)
  subst hl'
  obtain ⟨w1, w2, w3⟩ := Pp w g n d' os cs _ k3
  rw [← hw] at w1 w2 w3
  have hfits' : d'.size * 3 ≤ cs.size := by rw [hd'l]; rw [← dlen]; simpa using hfits
  have hupd : Upd S ι (AH S r (some (Ev (BQ l) ys))) ι := fun id b hb => by
   by_cases e : id = r
   ·subst e
    rw [sr] at hb
    cases hb
    exact ⟨_, AE _ _ _, by simp [AJ.len, BS], fun _ => ⟨rfl, rfl⟩⟩
   ·exact ⟨b, by rw [AK _ e]; exact hb, Nat.le_refl _, fun _ => ⟨rfl, rfl⟩⟩
  have hotherg : ∀ id b g', id ≠ r → S id = some b → (ι id).g = some g' → g' ≠ g := fun id b g' hne hb hg' e => by
   subst e
   exact hne (hO.2 id r b _ g' hb sr hg' (by rw [hh]; exact k1))
  have hFit : Fit σ w' := fun p x hp => by
   have hlt := hF.lt hp
   by_cases e : p.block = g
   ·rw [k9 p e] at hp; cases hp
   ·exact (Cd (w2 _ hlt e)).trans (hF p x hp)
  refine ⟨_, σ, ι, he, hS', hupd, ⟨fun id b hb => ?_, fun id id' b b' g' q1 q2 q3 q4 => ?_⟩, .tup (fun _ => undef) rfl (by simp) (by simp), hFit, fun _ _ h => h, fun _ _ _ => rfl, ?_, w3, fun g' q1 q2 => ?_, fun id b g' q1 q2 => ?_⟩
  ·by_cases e : id = r
   ·subst e
    rw [AE] at hb
    cases hb
    rw [hh]
    have hlen' : ((BQ l).map CX ++ ys).length = l.length + ys.length := by rw [List.length_append, List.length_map, BS]
    refine .mrow k1 k2 w1 (by rw [hlen', ← hlen]; exact k4) k5 (by rw [Sj]; exact k6) (fun x hx => ?_) (fun k x j a hx ha => ?_) k9
    ·rcases List.mem_append.1 hx with hx | hx
     ·exact Py x hx
     ·exact hys x hx
    rcases Nat.lt_or_ge k l.length with hk | hk
    ·rw [List.getElem?_append_left (by rw [List.length_map, BS]; exact hk), List.getElem?_map, Option.map_eq_some_iff] at hx
     obtain ⟨b, hb, rfl⟩ := hx
     obtain ⟨y, y1, y2, y3⟩ := l1.get hb
     obtain ⟨v, v1, v2⟩ := y3.get ha
     exact ⟨v, Tw hfits' (by simpa using y1) v1, v2⟩
    ·rw [List.getElem?_append_right (by rw [List.length_map, BS]; exact hk), List.length_map, BS] at hx
     obtain ⟨v, v1, v2⟩ := k8 k x j a (by rw [List.getElem?_append_right (by rw [List.length_map]; exact hk), List.length_map]; exact hx) ha
     exact ⟨v, by rw [P6 (by rw [hd'l]; omega)]; exact v1, v2⟩
   ·rw [AK _ e] at hb
    refine (hO.1 id b hb).mono (fun _ _ h => h) hupd (fun g' hg' => w2 g' ((hO.1 id b hb).gsome hg') (hotherg id b g' e hb hg')) (fun _ _ _ _ => rfl)
  ·have back : ∀ i c, AH S r (some (Ev (BQ l) ys)) i = some c → ∃ c', S i = some c' := fun i c hc => by
    by_cases e : i = r
    ·subst e; exact ⟨_, sr⟩
    ·rw [AK _ e] at hc; exact ⟨c, hc⟩
   obtain ⟨c1, c1'⟩ := back _ _ q1
   obtain ⟨c2, c2'⟩ := back _ _ q2
   exact hO.2 _ _ _ _ _ c1' c2' q3 q4
  ·rw [hw]
   exact ⟨rfl, rfl, rfl⟩
  ·exact w2 g' q1 fun e => q2 r _ sr (by rw [hh, e]; exact k1)
  ·refine .inr fun hno => ?_
   by_cases e : id = r
   ·subst e; exact hno id _ sr q2
   ·rw [AK _ e] at q1; exact hno id _ q1 q2
theorem Nr (l : List Bd) (hn : Ba l) (hl : l.length ≤ 100000) (r : Nat) (hr : 1000 ≤ r) (S : AA) (sr : S r = some (BL l)) :
  Am Tryd.prog 60 [.one (.row r l.length), .one (.fn 61 [])] S (.tup []) (AH S r (some (BL (BQ l)))) := by
 intro hS σ w vs ι hG hF hO hv
 cases hv with
 | @cons v1 _ _ _ h1 hv =>
 cases hv with
 | @cons v2 _ _ _ h2 hv =>
 cases hv
 obtain ⟨b, b1, b2, b3⟩ := CY (AZ h1)
 rw [sr] at b1
 cases b1
 have hv1 := b3 (by simp [AJ.len])
 subst hv1
 have hv2 : v2 = .func (.func 61) #[] #[] := by
  cases AZ h2 with
  | @fn _ vs _ c q1 q2 q3 =>
   have e : vs = #[] := Array.eq_empty_of_size_eq_zero (by simpa using q1)
   rw [e]
 subst hv2
 have e : ∀ m : List Bd, BL m = Ev m [] := fun m => by rw [Ev, List.append_nil]
 rw [e] at sr ⊢
 exact Pd l [] (by simp) hn hl r hr S sr hS σ w ι hF hO
theorem Nm (l : List Bd) (hn : Ba l) (hl : l.length ≤ 100000) (r : Nat) (hr : 1000 ≤ r) (S : AA) (sr : S r = some (BL l)) :
  Am Tryd.prog 47 [.one (.row r l.length)] S (.one (.row r l.length)) (AH S r (some (BL (BQ l)))) := by
 refine I5.acS fun hS C hC => ?_
 unfold E5
 repeat' with_reducible first | refine W ?_ | refine Z0 ?_ | ((first | refine Wo fun K hK => ?_ | refine Wq ?_ | refine Wr ?_); (try simp only [go_sem, fN, seval, eT, iR]); (repeat refine Ai ?_); (try (refine hK _ ?_; clear hK K)))
 refine ⟨_, _, Nr l hn hl (up1 r) (Ar r) (upS S) (by rw [As, sr]; rfl), ?_⟩
 repeat' with_reducible first | refine W ?_ | refine Z0 ?_ | ((first | refine Wo fun K hK => ?_ | refine Wq ?_ | refine Wr ?_); (try simp only [go_sem, fN, seval, eT, iR]); (repeat refine Ai ?_); (try (refine hK _ ?_; clear hK K)))
 have hc := CT (b := BL (BQ l)) hS hr rfl
 refine Pl trivial ?_ (Gf (n := l.length) hr) (fun i b _ h => (hc i b h).2) (GG hc) hc
 simp only [go_sem, fN, seval, eT, iR, AB, AD, AI]



def FA : IR :=
 (.seq (.ops [.i 2 (.mov (.n 0))]) (.seq (.seq (.ops [.m 8 0, .i 9 (.len false (.t 8)), .i 10 (.bin .gtr (.t 9) (.n 40))]) (.cond (.t 10) (.seq (.ops [.i 2 (.mov (.n 3))]) .ret) .skip)) (.seq (.seq (.ops [.m 11 0, .i 12 (.len false (.t 11)), .i 13 (.mov (.n 0))]) (.block 0 (.loop (.seq (.ops [.i 14 (.bin .lss (.t 13) (.t 12))]) (.seq (.cond (.t 14) .skip (.exit 0)) (.seq (.block 1 (.seq (.ops [.i 15 (.indexAddr 4 (.t 11) (.t 13)), .L 16 4 15, .i 4 (.alloc 34 [.st (.str (ByteArray.mk (#[]))), .full [], .st (.str (ByteArray.mk (#[]))), .full []]), .s 4 4 16]) (.seq (.ops [.f 17 0 4, .L 18 2 17, .f 19 2 4, .L 20 2 19, .i 21 (.buildSlice false 32 2 [.t 18, .t 20]), .i 22 (.len false (.t 21)), .i 23 (.mov (.n 0))]) (.block 2 (.loop (.seq (.ops [.i 24 (.bin .lss (.t 23) (.t 22))]) (.seq (.cond (.t 24) .skip (.exit 2)) (.seq (.block 3 (.seq (.ops [.i 25 (.indexAddr 2 (.t 21) (.t 23)), .L 26 2 25, .i 6 (.alloc 32 [.st (.str (ByteArray.mk (#[]))), .full []]), .s 2 6 26]) (.seq (.ops [.L 27 2 6, .i 28 (.call 15 [.t 27]), .m 7 28]) (.seq (.ops [.m 29 7, .i 30 (.bin .neq (.t 29) (.n 0))]) (.cond (.t 30) (.seq (.ops [.m 31 7, .m 2 31]) .ret) .skip))))) (.ops [.i 32 (.bin .add (.t 23) (.n 1)), .m 23 32]))))))))) (.ops [.i 33 (.bin .add (.t 13) (.n 1)), .m 13 33]))))))) (.seq (.ops [.i 2 (.mov (.n 0))]) .ret))))
theorem JR : OkF Tryd.prog 39 34 [] FA [.t 2] := .of Tryd.func39 rfl rfl (by kernel_rfl) rfl
def Ey : IR :=
 (.seq (.ops [.i 3 (.box 32 (.t 1)), .i 4 (.mov (.c (.one (.st (.bool false)))))]) (.seq (.seq (.ops [.f 7 0 3, .l 8 7, .m 9 0, .i 10 (.bin .eql (.t 8) (.t 9))]) (.cond (.t 10) (.seq (.ops [.i 4 (.mov (.c (.one (.st (.bool true)))))]) .ret) .skip)) (.seq (.seq (.ops [.f 11 1 3, .l 12 11, .i 13 (.len false (.t 12)), .i 14 (.mov (.n 0))]) (.block 0 (.loop (.seq (.ops [.i 15 (.bin .lss (.t 14) (.t 13))]) (.seq (.cond (.t 15) .skip (.exit 0)) (.seq (.block 1 (.seq (.ops [.i 16 (.indexAddr 2 (.t 12) (.t 14)), .L 17 2 16, .i 6 (.alloc 32 [.st (.str (ByteArray.mk (#[]))), .full []]), .s 2 6 17]) (.seq (.ops [.m 18 0, .L 19 2 6, .i 20 (.call 48 [.t 18, .t 19])]) (.cond (.t 20) (.seq (.ops [.i 4 (.mov (.c (.one (.st (.bool true)))))]) .ret) .skip)))) (.ops [.i 21 (.bin .add (.t 14) (.n 1)), .m 14 21]))))))) (.seq (.ops [.i 4 (.mov (.c (.one (.st (.bool false)))))]) .ret))))
theorem H3 : OkF Tryd.prog 48 22 [] Ey [.t 4] := .of Tryd.func48 rfl rfl (by kernel_rfl) rfl
def FN : IR :=
 (.seq (.ops [.i 2 (.mov (.c (.one (.full [])))), .i 3 (.mov (.n 0))]) (.seq (.ops [.i 4 (.mov (.c (.one (.full []))))]) (.seq (.ops [.i 5 (.mov (.c (.one (.full []))))]) (.seq (.seq (.ops [.m 15 0, .i 16 (.len false (.t 15)), .i 17 (.bin .sub (.t 16) (.n 1)), .m 6 17]) (.block 0 (.loop (.seq (.seq (.ops [.m 18 6, .i 19 (.bin .geq (.t 18) (.n 0))]) (.cond (.t 19) .skip (.exit 0))) (.seq (.block 1 (.ops [.m 22 5, .m 23 0, .m 24 6, .i 25 (.indexAddr 4 (.t 23) (.t 24)), .L 26 4 25, .i 27 (.buildSlice false 34 4 [.t 26]), .i 28 (.appP 34 4 80 (.t 22) (.t 27)), .m 5 28])) (.ops [.m 20 6, .i 21 (.bin .sub (.t 20) (.n 1)), .m 6 21])))))) (.seq (.block 2 (.loop (.seq (.seq (.ops [.m 29 5, .i 30 (.len false (.t 29)), .i 31 (.bin .gtr (.t 30) (.n 0))]) (.cond (.t 31) .skip (.exit 2))) (.block 3 (.seq (.ops [.m 32 5, .m 33 5, .i 34 (.len false (.t 33)), .i 35 (.bin .sub (.t 34) (.n 1)), .i 36 (.indexP 4 (.t 32) (.t 35)), .L 37 4 36, .i 7 (.alloc 34 [.st (.str (ByteArray.mk (#[]))), .full [], .st (.str (ByteArray.mk (#[]))), .full []]), .s 4 7 37]) (.seq (.ops [.m 38 5, .m 39 5, .i 40 (.len false (.t 39)), .i 41 (.bin .sub (.t 40) (.n 1)), .i 42 (.cutP 4 (.t 38) (.t 41)), .m 5 42]) (.seq (.ops [.m 44 4, .f 45 0 7, .L 46 2 45, .i 47 (.callR 30 [.t 44, .t 46]), .m 43 47, .i 48 (.extract 0 (.t 43)), .i 49 (.extract 1 (.t 43)), .i 8 (.alloc 32 [.st (.str (ByteArray.mk (#[]))), .full []]), .s 2 8 48, .m 9 49]) (.seq (.ops [.m 51 4, .f 52 2 7, .L 53 2 52, .i 54 (.callR 30 [.t 51, .t 53]), .m 50 54, .i 55 (.extract 0 (.t 50)), .i 56 (.extract 1 (.t 50)), .i 10 (.alloc 32 [.st (.str (ByteArray.mk (#[]))), .full []]), .s 2 10 55, .m 11 56]) (.seq (.seq (.ops [.m 57 9, .i 58 (.un .not (.t 57)), .m 59 58, .mk (some 60) (some (59, false)) (.mov (.t 11)) .no, .mk (some 61) (some (59, false)) (.un .not (.t 60)) .no, .i 62 (.pick (.t 59) (.c (.one (.st (.bool true)))) (.t 61))]) (.cond (.t 62) (.seq (.ops [.i 2 (.mov (.c (.one (.full [])))), .i 3 (.mov (.n 8))]) .ret) .skip)) (.block 4 (.seq (.ops [.f 86 0 8, .l 87 86, .i 88 (.call 21 [.t 87]), .m 89 88, .mk (some 90) (some (89, true)) (.fieldAddr 0 (.t 8)) .no, .mk (some 91) (some (89, true)) (.load false 1 (.t 90)) .no, .mk (some 92) (some (89, true)) (.fieldAddr 0 (.t 10)) .no, .mk (some 93) (some (89, true)) (.load false 1 (.t 92)) .no, .mk (some 94) (some (89, true)) (.bin .eql (.t 91) (.t 93)) .no, .i 95 (.pick (.t 89) (.t 94) (.c (.one (.st (.bool false))))), .m 85 95]) (.cond (.t 85) .skip (.seq (.ops [.f 97 0 8, .l 98 97, .i 99 (.call 21 [.t 98]), .m 100 99, .mk (some 101) (some (100, false)) (.fieldAddr 0 (.t 10)) .no, .mk (some 102) (some (100, false)) (.load false 1 (.t 101)) .no, .mk (some 103) (some (100, false)) (.call 21 [.t 102]) .no, .i 104 (.pick (.t 100) (.c (.one (.st (.bool true)))) (.t 103)), .m 96 104]) (.cond (.t 96) (.seq (.seq (.ops [.f 105 0 8, .l 106 105, .i 107 (.call 21 [.t 106]), .i 108 (.un .not (.t 107))]) (.cond (.t 108) (.ops [.L 109 2 10, .L 110 2 8, .s 2 8 109, .s 2 10 110]) .skip)) (.seq (.seq (.ops [.f 111 0 8, .l 112 111, .L 113 2 10, .i 114 (.call 48 [.t 112, .t 113])]) (.cond (.t 114) (.seq (.ops [.i 2 (.mov (.c (.one (.full [])))), .i 3 (.mov (.n 6))]) .ret) .skip)) (.seq (.ops [.f 115 0 8, .l 116 115, .L 117 2 10, .i 118 (.build [.st (.str (ByteArray.mk (#[]))), .st (.str (ByteArray.mk (#[]))), .full []] [(0, 1, .t 116), (1, 2, .t 117)]), .i 119 (.buildSlice false 51 3 [.t 118]), .m 12 119]) (.seq (.seq (.ops [.m 120 4, .i 121 (.len false (.t 120)), .i 122 (.mov (.n 0))]) (.block 7 (.loop (.seq (.ops [.i 123 (.bin .lss (.t 122) (.t 121))]) (.seq (.cond (.t 123) .skip (.exit 7)) (.seq (.block 8 (.seq (.ops [.m 124 122, .m 13 124]) (.seq (.ops [.m 126 4, .m 127 13, .m 128 12, .m 129 4, .m 130 13, .i 131 (.indexAddr 3 (.t 129) (.t 130)), .f 132 1 131, .L 133 2 132, .i 134 (.call 30 [.t 128, .t 133]), .m 125 134, .i 135 (.extract 0 (.t 125)), .i 136 (.extract 1 (.t 125)), .i 137 (.indexAddr 3 (.t 126) (.t 127)), .f 138 1 137, .s 2 138 135, .m 9 136]) (.seq (.ops [.m 139 9, .i 140 (.un .not (.t 139))]) (.cond (.t 140) (.seq (.ops [.i 2 (.mov (.c (.one (.full [])))), .i 3 (.mov (.n 8))]) .ret) .skip))))) (.ops [.i 141 (.bin .add (.t 122) (.n 1)), .m 122 141]))))))) (.ops [.m 142 4, .m 143 12, .i 144 (.indexAddr 3 (.t 143) (.n 0)), .L 145 3 144, .i 146 (.buildSlice false 51 3 [.t 145]), .i 147 (.append false 51 3 56 (.t 142) (.t 146)), .i 148 (.callS 47 [.t 147]), .m 4 148]))))) (.seq (.ops [.f 150 0 8, .l 151 150, .f 152 0 10, .l 153 152, .i 154 (.bin .neq (.t 151) (.t 153)), .m 155 154, .mk (some 156) (some (155, false)) (.fieldAddr 1 (.t 8)) .no, .mk (some 157) (some (155, false)) (.load false 1 (.t 156)) .no, .mk (some 158) (some (155, false)) (.len false (.t 157)) .no, .mk (some 159) (some (155, false)) (.fieldAddr 1 (.t 10)) .no, .mk (some 160) (some (155, false)) (.load false 1 (.t 159)) .no, .mk (some 161) (some (155, false)) (.len false (.t 160)) .no, .mk (some 162) (some (155, false)) (.bin .neq (.t 158) (.t 161)) .no, .i 163 (.pick (.t 155) (.c (.one (.st (.bool true)))) (.t 162)), .m 149 163]) (.cond (.t 149) (.seq (.ops [.i 2 (.mov (.c (.one (.full [])))), .i 3 (.mov (.n 5))]) .ret) (.seq (.ops [.f 63 1 8, .l 64 63, .i 65 (.len false (.t 64)), .i 66 (.bin .sub (.t 65) (.n 1)), .m 14 66]) (.block 5 (.loop (.seq (.seq (.ops [.m 67 14, .i 68 (.bin .geq (.t 67) (.n 0))]) (.cond (.t 68) .skip (.exit 5))) (.seq (.block 6 (.ops [.m 71 5, .f 72 1 8, .l 73 72, .m 74 14, .i 75 (.indexAddr 2 (.t 73) (.t 74)), .L 76 2 75, .f 77 1 10, .l 78 77, .m 79 14, .i 80 (.indexAddr 2 (.t 78) (.t 79)), .L 81 2 80, .i 82 (.build [.st (.str (ByteArray.mk (#[]))), .full [], .st (.str (ByteArray.mk (#[]))), .full []] [(0, 2, .t 76), (2, 2, .t 81)]), .i 83 (.buildSlice false 34 4 [.t 82]), .i 84 (.appP 34 4 80 (.t 71) (.t 83)), .m 5 84])) (.ops [.m 69 14, .i 70 (.bin .sub (.t 69) (.n 1)), .m 14 70])))))))))))))))))))))) (.seq (.ops [.m 164 4, .m 2 164, .i 3 (.mov (.n 0))]) .ret))))))
theorem JC : OkF Tryd.prog 29 165 [30000028, 30000036, 30000042, 30000084, 40000047, 40000054, 148] FN [.t 2, .t 3] := .of Tryd.func29 rfl rfl (by kernel_rfl) rfl
def FF : IR :=
 (.seq (.ops [.i 2 (.mov (.c (.one (.full [])))), .i 3 (.mov (.n 0))]) (.seq (.seq (.ops [.m 5 0, .i 6 (.call 39 [.t 5]), .m 4 6]) (.seq (.ops [.m 7 4, .i 8 (.bin .neq (.t 7) (.n 0))]) (.cond (.t 8) (.seq (.ops [.m 9 4, .i 2 (.mov (.c (.one (.full [])))), .m 3 9]) .ret) .skip))) (.seq (.ops [.m 10 0, .i 11 (.call 29 [.t 10]), .i 12 (.extract 0 (.t 11)), .i 13 (.extract 1 (.t 11)), .m 2 12, .m 3 13]) .ret)))
theorem Jb : OkF Tryd.prog 18 14 [] FF [.t 2, .t 3] := .of Tryd.func18 rfl rfl (by kernel_rfl) rfl



theorem RA (x : ByteArray) (t : Tm) : Aa Tryd.prog 48 [Bg x, aTm t] (Af (occ x t)) := by
 induction h : SizeOf.sizeOf t using Nat.strongRecOn generalizing t with
 | _ N ih =>
 subst h
 rw [OO]
 refine H3.ac fun C hC => ?_
 unfold Ey
 refine IWP.learn 1 (by omega) fun hkn => ?_
 have hkn := JO hkn
 by_cases hn : t.name = x
 ·repeat' with_reducible first | refine W ?_ | refine Z0 ?_ | ((first | refine Wo fun K hK => ?_ | refine Wp ?_ | refine Wq ?_ | refine Wr ?_); (try simp only [go_sem, fN, seval, eT, iR, hn, dT, dF, nL]); (repeat refine Ai ?_); (try (refine hK _ ?_; clear hK K)); try refine iC ?_)
  simp only [go_sem, fN, seval, AO, AS.result, AB, AD, AI]
  rw [Bool.true_or]
 rw [decide_eq_false hn, Bool.false_or]
 repeat' with_reducible first | refine W ?_ | refine Z0 ?_ | ((first | refine Wo fun K hK => ?_ | refine Wp ?_ | refine Wq ?_ | refine Wr ?_); (try simp only [go_sem, fN, seval, eT, iR, hn, dT, dF, nL]); (repeat refine Ai ?_); (try (refine hK _ ?_; clear hK K)); try refine iC ?_)
 refine IWP.loopD [6] (fun m s => ∃ k, k ≤ t.args.length ∧ m = t.args.length - k ∧ (t.args.take k).any (occ x) = false ∧ s.env 0 = Bg x ∧ s.env 12 = .one (.st (.list (t.args.map Ay))) ∧ s.env 13 = AR t.args.length ∧ s.env 14 = AR k ∧ s.S 6 = none) t.args.length ⟨0, Nat.zero_le _, rfl, rfl, rfl, rfl, rfl, rfl, rfl⟩ ?_
 rintro m ⟨env, S⟩ ⟨k, hk, rfl, h0, e0, e12, e13, e14, s6⟩
 simp only at e0 e12 e13 e14 s6
 by_cases hlt : (k : Int) < t.args.length
 ·obtain ⟨a, ha⟩ := Ao (show k < t.args.length by omega)
  repeat' with_reducible first | refine W ?_ | refine Z0 ?_ | ((first | refine Wo fun K hK => ?_ | refine Wp ?_ | refine Wq ?_ | refine Wr ?_); (try simp only [go_sem, fN, seval, eT, iR, e0, e12, e13, e14, s6, hlt, ha, dT, dF, nL]); (repeat refine Ai ?_); (try (refine hK _ ?_; clear hK K)); try refine iC ?_)
  refine ⟨_, ih _ (Tm.lt_of_arg (AW ha)) a rfl, ?_⟩
  cases hc : occ x a with
  | true =>
   repeat' with_reducible first | refine W ?_ | refine Z0 ?_ | ((first | refine Wo fun K hK => ?_ | refine Wp ?_ | refine Wq ?_ | refine Wr ?_); (try simp only [go_sem, fN, seval, eT, iR, hc, dT, dF, nL]); (repeat refine Ai ?_); (try (refine hK _ ?_; clear hK K)); try refine iC ?_)
   simp only [go_sem, fN, seval, AO, AS.result, AB, AD, AI]
   have : t.args.any (occ x) = true := List.any_eq_true.2 ⟨a, AW ha, hc⟩
   rw [this]
  | false =>
   repeat' with_reducible first | refine W ?_ | refine Z0 ?_ | ((first | refine Wo fun K hK => ?_ | refine Wp ?_ | refine Wq ?_ | refine Wr ?_); (try simp only [go_sem, fN, seval, eT, iR, hc, e0, e12, e13, e14, s6, dT, dF, nL]); (repeat refine Ai ?_); (try (refine hK _ ?_; clear hK K)); try refine iC ?_)
   refine AG ⟨t.args.length - (k + 1), by omega, k + 1, by omega, rfl, by rw [Aq ha, List.any_append, h0]; simp [hc], ?_⟩
   simp only [go_sem, fN, seval, AS.drop, Ap, AC.clears, AC.clear, AC.highs, AC.high, Bool.not_false, Bool.true_and, Bool.and_self, AV.purge, AV.purges, AC.purge, AJ.purge, List.contains_cons, List.contains_nil, Nat.reduceBEq, Bool.or_self, Bool.or_false, Bool.false_or, Bool.or_true, eT, iR, e0, e12, e13, e14, s6]
   congr 3
 ·repeat' with_reducible first | refine W ?_ | refine Z0 ?_ | ((first | refine Wo fun K hK => ?_ | refine Wp ?_ | refine Wq ?_ | refine Wr ?_); (try simp only [go_sem, fN, seval, eT, iR, e0, e12, e13, e14, s6, hlt, dT, dF, nL]); (repeat refine Ai ?_); (try (refine hK _ ?_; clear hK K)); try refine iC ?_)
  simp only [go_sem, fN, seval, AO, AS.result, AB, AD, AI]
  rw [List.take_of_length_le (by omega)] at h0
  rw [h0]
def BD : List Pr → Int
 | [] => 0
 | p :: l => if Bm p.1 p.2 = 0 then BD l else Bm p.1 p.2
def B_ (l : List Pr) : Int := if 40 < l.length then 3 else BD l
theorem DQ : ∀ (xs ys : List Pr), BD (xs ++ ys) = if BD xs = 0 then BD ys else BD xs
 | [], ys => by simp [BD]
 | p :: xs, ys => by
  simp only [List.cons_append, BD]
  by_cases h : Bm p.1 p.2 = 0
  ·simp only [h, if_true, DQ]
  ·simp only [h, if_false]
theorem Lx {xs : List Pr} {k : Nat} {p : Pr} (h : xs[k]? = some p) (h0 : BD (xs.take k) = 0) : (Bm p.1 p.2 = 0 → BD (xs.take (k + 1)) = 0) ∧ (Bm p.1 p.2 ≠ 0 → BD xs = Bm p.1 p.2) := by
 constructor
 ·intro hb
  rw [Aq h, DQ, if_pos h0]
  simp [BD, hb]
 ·intro hb
  have e : BD xs = BD (xs.take k ++ xs.drop k) := by rw [List.take_append_drop]
  rw [e, DQ, if_pos h0, Bl h]
  simp [BD, hb]
theorem Ju {l : List Pr} (h : B_ l = 0) : l.length ≤ 40 ∧ ∀ p ∈ l, p.1.may = 0 ∧ p.2.may = 0 := by
 unfold B_ at h
 split at h
 ·cases h
 ·refine ⟨by omega, ?_⟩
  have key : ∀ {l : List Pr}, BD l = 0 → ∀ p ∈ l, p.1.may = 0 ∧ p.2.may = 0 := by
   intro l
   induction l with
   | nil => simp
   | cons p l ih =>
    intro h q hq
    simp only [BD] at h
    split at h
    ·rename_i h2
     rcases List.mem_cons.1 hq with rfl | hq
     ·unfold Bm at h2
      split at h2
      ·exact ⟨by assumption, h2⟩
      ·rename_i h3; exact absurd h2 h3
     ·exact ih h q hq
    ·rename_i h2; exact absurd h h2
  exact key h
theorem L5 (l : List Pr) : Aa Tryd.prog 39 [CG l] (AR (B_ l)) := by
 have hm : B_ l = if 40 < l.length then 3 else BD l := rfl
 refine JR.ac fun C hC => ?_
 unfold FA
 by_cases h40 : (40 : Int) < l.length
 ·repeat' with_reducible first | refine W ?_ | refine Z0 ?_ | ((first | refine Wo fun K hK => ?_ | refine Wp ?_ | refine Wq ?_ | refine Wr ?_); (try simp only [go_sem, fN, seval, eT, iR, h40, dT, dF, nL]); (repeat refine Ai ?_); (try (refine hK _ ?_; clear hK K)); try refine iC ?_)
  simp only [go_sem, fN, seval, AO, AS.result, AB, AD, AI]
  rw [hm, if_pos (by omega)]
 rw [if_neg (by omega)] at hm
 repeat' with_reducible first | refine W ?_ | refine Z0 ?_ | ((first | refine Wo fun K hK => ?_ | refine Wp ?_ | refine Wq ?_ | refine Wr ?_); (try simp only [go_sem, fN, seval, eT, iR, h40, dT, dF, nL]); (repeat refine Ai ?_); (try (refine hK _ ?_; clear hK K)); try refine iC ?_)
 refine IWP.loopD [4, 6] (fun m s => ∃ k, k ≤ l.length ∧ m = l.length - k ∧ BD (l.take k) = 0 ∧ s.env 11 = CG l ∧ s.env 12 = AR l.length ∧ s.env 13 = AR k ∧ s.S 4 = none ∧ s.S 6 = none) l.length ⟨0, Nat.zero_le _, rfl, rfl, rfl, rfl, rfl, rfl, rfl⟩ ?_
 rintro m ⟨env, S⟩ ⟨k, hk, rfl, h0, e11, e12, e13, s4, s6⟩
 simp only at e11 e12 e13 s4 s6
 by_cases hlt : (k : Int) < l.length
 ·obtain ⟨p, hp⟩ := Ao (show k < l.length by omega)
  obtain ⟨g1, g2⟩ := Lx hp h0
  repeat' with_reducible first | refine W ?_ | refine Z0 ?_ | ((first | refine Wo fun K hK => ?_ | refine Wp ?_ | refine Wq ?_ | refine Wr ?_); (try simp only [go_sem, fN, seval, eT, iR, e11, e12, e13, s4, s6, hlt, hp, BR, dT, dF, nL]); (repeat refine Ai ?_); (try (refine hK _ ?_; clear hK K)); try refine iC ?_)
  refine IWP.loopD [6] (fun m s => ∃ i, i ≤ 2 ∧ m = 2 - i ∧ (0 < i → p.1.may = 0) ∧ (1 < i → p.2.may = 0) ∧ s.env 11 = CG l ∧ s.env 12 = AR l.length ∧ s.env 13 = AR k ∧ s.env 21 = .one (.full [Ay p.1, Ay p.2]) ∧ s.env 22 = AR 2 ∧ s.env 23 = AR i ∧ s.S 6 = none) 2 ⟨0, by omega, rfl, by simp, by simp, ?_⟩ ?_
  ·simp only [go_sem, fN, seval, eT, iR, e11, e12, e13, s4, s6]
  rintro m ⟨env2, S2⟩ ⟨i, hi, rfl, q1, q2, e11, e12, e13, e21, e22, e23, s6⟩
  simp only at e11 e12 e13 e21 e22 e23 s6
  match i, hi, q1, q2, e23 with
  | 0, _, _, _, e23 =>
   repeat' with_reducible first | refine W ?_ | refine Z0 ?_ | ((first | refine Wo fun K hK => ?_ | refine Wp ?_ | refine Wq ?_ | refine Wr ?_); (try simp only [go_sem, fN, seval, eT, iR, e21, e22, e23, s6, dT, dF, nL]); (repeat refine Ai ?_); (try (refine hK _ ?_; clear hK K)); try refine iC ?_)
   refine ⟨_, Cv p.1, ?_⟩
   by_cases hz : p.1.may = 0
   ·repeat' with_reducible first | refine W ?_ | refine Z0 ?_ | ((first | refine Wo fun K hK => ?_ | refine Wp ?_ | refine Wq ?_ | refine Wr ?_); (try simp only [go_sem, fN, seval, eT, iR, hz, e11, e12, e13, e21, e22, e23, s6, dT, dF, nL]); (repeat refine Ai ?_); (try (refine hK _ ?_; clear hK K)); try refine iC ?_)
    refine AG ⟨1, by omega, 1, by omega, rfl, ?_⟩
    simp only [go_sem, fN, seval, AS.drop, Ap, AC.clears, AC.clear, AC.highs, AC.high, Bool.not_false, Bool.true_and, Bool.and_self, AV.purge, AV.purges, AC.purge, AJ.purge, List.contains_cons, List.contains_nil, Nat.reduceBEq, Bool.or_self, Bool.or_false, Bool.false_or, Bool.or_true, eT, iR, e11, e12, e13, e21, e22, e23, s6]
   ·repeat' with_reducible first | refine W ?_ | refine Z0 ?_ | ((first | refine Wo fun K hK => ?_ | refine Wp ?_ | refine Wq ?_ | refine Wr ?_); (try simp only [go_sem, fN, seval, eT, iR, hz, dT, dF, nL]); (repeat refine Ai ?_); (try (refine hK _ ?_; clear hK K)); try refine iC ?_)
    simp only [go_sem, fN, seval, AO, AS.result, AB, AD, AI]
    have ht : Bm p.1 p.2 = p.1.may := if_neg hz
    rw [hm, g2 (by rw [ht]; exact hz), ht]
  | 1, _, q1, _, e23 =>
   have q1 := q1 (by omega)
   have ht : Bm p.1 p.2 = p.2.may := if_pos q1
   repeat' with_reducible first | refine W ?_ | refine Z0 ?_ | ((first | refine Wo fun K hK => ?_ | refine Wp ?_ | refine Wq ?_ | refine Wr ?_); (try simp only [go_sem, fN, seval, eT, iR, e21, e22, e23, s6, dT, dF, nL]); (repeat refine Ai ?_); (try (refine hK _ ?_; clear hK K)); try refine iC ?_)
   refine ⟨_, Cv p.2, ?_⟩
   by_cases hz : p.2.may = 0
   ·repeat' with_reducible first | refine W ?_ | refine Z0 ?_ | ((first | refine Wo fun K hK => ?_ | refine Wp ?_ | refine Wq ?_ | refine Wr ?_); (try simp only [go_sem, fN, seval, eT, iR, hz, e11, e12, e13, e21, e22, e23, s6, dT, dF, nL]); (repeat refine Ai ?_); (try (refine hK _ ?_; clear hK K)); try refine iC ?_)
    refine AG ⟨0, by omega, 2, by omega, rfl, ?_⟩
    simp only [go_sem, fN, seval, AS.drop, Ap, AC.clears, AC.clear, AC.highs, AC.high, Bool.not_false, Bool.true_and, Bool.and_self, AV.purge, AV.purges, AC.purge, AJ.purge, List.contains_cons, List.contains_nil, Nat.reduceBEq, Bool.or_self, Bool.or_false, Bool.false_or, Bool.or_true, eT, iR, e11, e12, e13, e21, e22, e23, s6]
    exact q1
   ·repeat' with_reducible first | refine W ?_ | refine Z0 ?_ | ((first | refine Wo fun K hK => ?_ | refine Wp ?_ | refine Wq ?_ | refine Wr ?_); (try simp only [go_sem, fN, seval, eT, iR, hz, dT, dF, nL]); (repeat refine Ai ?_); (try (refine hK _ ?_; clear hK K)); try refine iC ?_)
    simp only [go_sem, fN, seval, AO, AS.result, AB, AD, AI]
    rw [hm, g2 (by rw [ht]; exact hz), ht]
  | 2, _, q1, q2, e23 =>
   have hz : Bm p.1 p.2 = 0 := by unfold Bm; rw [if_pos (q1 (by omega))]; exact q2 (by omega)
   repeat' with_reducible first | refine W ?_ | refine Z0 ?_ | ((first | refine Wo fun K hK => ?_ | refine Wp ?_ | refine Wq ?_ | refine Wr ?_); (try simp only [go_sem, fN, seval, eT, iR, e11, e12, e13, e21, e22, e23, s6, dT, dF, nL]); (repeat refine Ai ?_); (try (refine hK _ ?_; clear hK K)); try refine iC ?_)
   refine AG ⟨l.length - (k + 1), by omega, k + 1, by omega, rfl, g1 hz, ?_⟩
   simp only [go_sem, fN, seval, AS.drop, Ap, AC.clears, AC.clear, AC.highs, AC.high, Bool.not_false, Bool.true_and, Bool.and_self, AV.purge, AV.purges, AC.purge, AJ.purge, List.contains_cons, List.contains_nil, Nat.reduceBEq, Bool.or_self, Bool.or_false, Bool.false_or, Bool.or_true, eT, iR, e11, e12, e13, s6]
   congr 3
  | i + 3, hi, _, _, _ => omega
 ·repeat' with_reducible first | refine W ?_ | refine Z0 ?_ | ((first | refine Wo fun K hK => ?_ | refine Wp ?_ | refine Wq ?_ | refine Wr ?_); (try simp only [go_sem, fN, seval, eT, iR, e11, e12, e13, hlt, dT, dF, nL]); (repeat refine Ai ?_); (try (refine hK _ ?_; clear hK K)); try refine iC ?_)
  simp only [go_sem, fN, seval, AO, AS.result, AB, AD, AI]
  rw [List.take_of_length_le (by omega)] at h0
  rw [hm, h0]

theorem QL {m : Nat} {s : List Bd} {p : Pr} {l : List Pr} {r : List Bd × Int} (h : Cq m s (p :: l) r) : (∃ e, CB s p = .err e ∧ r = ([], e)) ∨ ∃ s' ps n, CB s p = .go s' ps ∧ n < m ∧ Cq n s' (ps ++ l) r := by
 cases h with
 | err h => exact .inl ⟨_, h, rfl⟩
 | go h1 h2 => exact .inr ⟨_, _, _, h1, by omega, h2⟩
structure Mt (U : List ByteArray) (s : List Bd) (t : Tm) : Prop where
 chk : t.chk = 0
 siz : t.size ≤ 2000
 free : It s t
 inU : ∀ y, occ y t = true → y ∈ U
abbrev TK (t : Tm) : AJ := .box 32 [.st (.str t.name), .st (.list (t.args.map Ay))]
def Lo (U : List ByteArray) (s : List Bd) (p : Pr) (u t : Tm) : Prop := Mt U s u ∧ Mt U s t ∧
 ((AQ u.name = true ∧ CB s p = DX s u.name t) ∨ (AQ u.name = false ∧ CB s p = if u.name = t.name ∧ u.args.length = t.args.length then .go s (u.args.zip t.args) else .err 5))
theorem RB {U : List ByteArray} {s : List Bd} {p : Pr} (ha : Mt U s (p.1.on s)) (hb : Mt U s (p.2.on s)) (hne : ¬ (AQ (p.1.on s).name = true ∧ (p.1.on s).name = (p.2.on s).name)) (hv : AQ (p.1.on s).name = true ∨ AQ (p.2.on s).name = false) : Lo U s p (p.1.on s) (p.2.on s) := by
 have h0 : ¬ (2000 < (p.1.on s).size ∨ 2000 < (p.2.on s).size) := by have := ha.siz; have := hb.siz; omega
 refine ⟨ha, hb, ?_⟩
 cases h1 : AQ (p.1.on s).name with
 | true =>
  refine .inl ⟨rfl, ?_⟩
  unfold CB
  rw [if_neg h0, if_neg hne, if_pos h1]
 | false =>
  have h2 : AQ (p.2.on s).name = false := hv.resolve_left (by rw [h1]; simp)
  refine .inr ⟨rfl, ?_⟩
  unfold CB
  rw [if_neg h0, if_neg hne, if_neg (by rw [h1]; simp), if_neg (by rw [h2]; simp)]
theorem RY {U : List ByteArray} {s : List Bd} {p : Pr} (ha : Mt U s (p.1.on s)) (hb : Mt U s (p.2.on s)) (h1 : AQ (p.1.on s).name = false) (h2 : AQ (p.2.on s).name = true) : Lo U s p (p.2.on s) (p.1.on s) := by
 have h0 : ¬ (2000 < (p.1.on s).size ∨ 2000 < (p.2.on s).size) := by have := ha.siz; have := hb.siz; omega
 refine ⟨hb, ha, .inl ⟨h2, ?_⟩⟩
 unfold CB
 rw [if_neg h0, if_neg (by rw [h1]; simp), if_neg (by rw [h1]; simp), if_pos h2]

end Go.Proofs.YtiaopkfapnajaaaDoor
