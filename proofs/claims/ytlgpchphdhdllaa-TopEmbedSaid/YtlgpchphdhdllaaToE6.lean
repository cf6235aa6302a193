/-
  Part 6 of the texts. Conditions: none.
-/
import Derived.Test.YtlgpchphdhdllaaToE5
namespace Go.Proofs.Ytlgpchphdhdllaa
open Go
set_option linter.unusedVariables false
theorem QF {n : ByteArray} {xs : List Tm} {k : Nat} {y : Tm} (h : (Tm.mk n xs).chk = 0) (hk : k < xs.length) (hy : y.chk = 0) : (Tm.mk n (xs.set k y)).chk = 0 := by
 refine PT h (by simp) fun z hz => ?_
 rcases List.mem_or_eq_of_mem_set hz with hz | rfl
 ·exact (Tm.chk_args h).2 z hz
 ·exact hy
theorem JM : ∀ {xs : List Tm} {k : Nat} {a : Tm} (y : Tm), xs[k]? = some a → Tm.sizes (xs.set k y) + a.size = Tm.sizes xs + y.size
 | [], k, a, y, h => by simp at h
 | x :: xs, 0, a, y, h => by
  simp at h
  subst h
  simp only [List.set_cons_zero, Tm.sizes]
  omega
 | x :: xs, k + 1, a, y, h => by
  have := JM (xs := xs) (k := k) y (by simpa using h)
  simp only [List.set_cons_succ, Tm.sizes]
  omega

mutual
theorem I7 : ∀ (t : Tm) (p : List Int), p ∈ t.places → ∃ x, t.atP p = some x ∧ x ∈ t.knots
 | .mk n xs, p, h => by
  rw [Tm.places] at h
  rcases List.mem_cons.1 h with rfl | h
  ·exact ⟨_, rfl, by rw [Tm.knots]; exact List.mem_cons_self⟩
  ·obtain ⟨x, h1, h2⟩ := FS n xs 0 xs p (by simp) h
   exact ⟨x, h1, by rw [Tm.knots]; exact List.mem_cons_of_mem _ h2⟩
theorem FS (n : ByteArray) (all : List Tm) : ∀ (k : Nat) (xs : List Tm) (p : List Int), all.drop k = xs → p ∈ Tm.placesFrom k xs → ∃ x, (Tm.mk n all).atP p = some x ∧ x ∈ Tm.knotsL xs
 | _, [], p, _, h => by simp [Tm.placesFrom] at h
 | k, x :: xs, p, hd, h => by
  have hk : all[k]? = some x := by
   have := congrArg (fun l => l[0]?) hd
   simpa using this
  rw [Tm.placesFrom] at h
  rcases List.mem_append.1 h with h | h
  ·obtain ⟨q, hq, rfl⟩ := List.mem_map.1 h
   obtain ⟨y, h1, h2⟩ := I7 x q hq
   exact ⟨y, by rw [Tm.atP_at (t := .mk n all) hk]; exact h1, by rw [Tm.knotsL]; exact List.mem_append_left _ h2⟩
  ·obtain ⟨y, h1, h2⟩ := FS n all (k + 1) xs p (by rw [← List.tail_drop, hd]; rfl) h
   exact ⟨y, h1, by rw [Tm.knotsL]; exact List.mem_append_right _ h2⟩
end

theorem Iq : ∀ (p : List Int) (t y : Tm), (t.putP p y).size ≤ t.size + y.size
 | [], t, y => by rw [Tm.putP_nil]; omega
 | i :: p, t, y => by
  rw [Tm.putP_cons]
  split
  ·rename_i a ha
   have h1 := JM (a.putP p y) ha
   have h2 := Iq p a y
   have h3 := Tm.size_eq t
   simp only [Tm.size]
   omega
  ·omega

theorem JI : ∀ (p : List Int) (t x : Tm), t.chk = 0 → x.chk = 0 → (t.putP p x).chk = 0
 | [], t, x, _, hx => by rw [Tm.putP_nil]; exact hx
 | i :: p, t, x, ht, hx => by
  rw [Tm.putP_cons]
  split
  ·rename_i a ha
   have hl := (List.getElem?_eq_some_iff.1 ha).1
   refine QF (n := t.name) (xs := t.args) (by cases t; exact ht) hl ?_
   exact JI p a x ((Tm.chk_args ht).2 a (List.mem_of_getElem? ha)) hx
  ·exact ht

open Go.RowKit
def Hw : List ByteArray → ByteArray → Int → Int
 | [], _, _ => -1
 | x :: xs, s, i => if x = s then i else Hw xs s (i + 1)
def Bs (row : List ByteArray) (s : ByteArray) : Int := Hw row s 0
def Di (x y : Int) : Int := if x < y then -1 else if y < x then 1 else 0
def Be (row : List ByteArray) (a b : Tm) : Int :=
 if Di (Bs row a.name) (Bs row b.name) ≠ 0 then Di (Bs row a.name) (Bs row b.name) else if CP a.name b.name ≠ 0 then CP a.name b.name else Di a.args.length b.args.length
theorem Ov {x y : Int} : Di x y < 0 ↔ x < y := by unfold Di; split <;> (try split) <;> omega
theorem KU {x y : Int} : 0 < Di x y ↔ y < x := by unfold Di; split <;> (try split) <;> omega
theorem Dl {x y : Int} : Di x y = 0 ↔ x = y := by unfold Di; split <;> (try split) <;> omega
theorem QV {a b : ByteArray} : CP a b < 0 ↔ sLt a b = true := by
 unfold CP
 split
 ·rename_i h; simp [h]
 ·rename_i h
  split <;> simp [h]
theorem Jg {a b : ByteArray} : CP a b = 0 ↔ a = b := by
 unfold CP
 split
 ·rename_i h
  constructor
  ·intro h'; cases h'
  ·intro e; subst e; rw [BP] at h; cases h
 ·split <;> simp_all
theorem Qe {a b : ByteArray} : 0 < CP a b ↔ sLt b a = true := by
 unfold CP
 split
 ·rename_i h
  rw [JP h]
  simp
 ·rename_i h
  split
  ·rename_i e
   subst e
   rw [BP]
   simp
  ·rename_i e
   rcases Dk a b with h1 | h1 | h1
   ·exact absurd h1 h
   ·exact absurd h1 e
   ·simp [h1]
theorem PP {row : List ByteArray} {a b : Tm} : 0 < Be row a b ↔ Bs row b.name < Bs row a.name ∨ (Bs row a.name = Bs row b.name ∧ (sLt b.name a.name = true ∨ (a.name = b.name ∧ b.args.length < a.args.length))) := by
 unfold Be
 rcases Int.lt_trichotomy (Bs row a.name) (Bs row b.name) with h | h | h
 ·have h1 := Ov.2 h
  rw [if_pos (by omega)]
  constructor
  ·intro h2; omega
  ·intro h2; omega
 ·have h1 := Dl.2 h
  rw [if_neg (by omega)]
  rcases Dk a.name b.name with h2 | h2 | h2
  ·have h3 := QV.2 h2
   rw [if_pos (by omega)]
   constructor
   ·intro h4; omega
   ·rintro (h4 | ⟨_, h4 | ⟨h4, _⟩⟩)
    ·omega
    ·rw [JP h2] at h4; cases h4
    ·rw [h4, BP] at h2; cases h2
  ·have h3 := Jg.2 h2
   rw [if_neg (by omega), KU]
   constructor
   ·intro h4; exact .inr ⟨h, .inr ⟨h2, by omega⟩⟩
   ·rintro (h4 | ⟨_, h4 | ⟨_, h4⟩⟩)
    ·omega
    ·rw [h2, BP] at h4; cases h4
    ·omega
  ·have h3 := Qe.2 h2
   rw [if_pos (by omega)]
   exact ⟨fun _ => .inr ⟨h, .inl h2⟩, fun _ => h3⟩
 ·have h1 := KU.2 h
  rw [if_pos (by omega)]
  exact ⟨fun _ => .inl h, fun _ => h1⟩
theorem DA {row : List ByteArray} {a b : Tm} : Be row a b = 0 ↔ a.name = b.name ∧ a.args.length = b.args.length := by
 unfold Be
 constructor
 ·intro h
  by_cases h1 : Di (Bs row a.name) (Bs row b.name) ≠ 0
  ·rw [if_pos h1] at h; exact absurd h h1
  rw [if_neg h1] at h
  by_cases h2 : CP a.name b.name ≠ 0
  ·rw [if_pos h2] at h; exact absurd h h2
  rw [if_neg h2, Dl] at h
  exact ⟨Jg.1 (by omega), by omega⟩
 ·rintro ⟨h1, h2⟩
  rw [if_neg (by rw [h1, Classical.not_not]; exact Dl.2 rfl), if_neg (by rw [Classical.not_not]; exact Jg.2 h1), h2]
  exact Dl.2 rfl
theorem L7 {row : List ByteArray} {a b c : Tm} (h : 0 < Be row a b) (k : 0 < Be row b c) : 0 < Be row a c := by
 rw [PP] at h k ⊢
 rcases h with h1 | ⟨h1, h2 | ⟨h2, h3⟩⟩ <;> rcases k with k1 | ⟨k1, k2 | ⟨k2, k3⟩⟩
 ·exact .inl (by omega)
 ·exact .inl (by omega)
 ·exact .inl (by omega)
 ·exact .inl (by omega)
 ·exact .inr ⟨by omega, .inl (Cd k2 h2)⟩
 ·exact .inr ⟨by omega, .inl (by rw [← k2]; exact h2)⟩
 ·exact .inl (by omega)
 ·exact .inr ⟨by omega, .inl (by rw [h2]; exact k2)⟩
 ·exact .inr ⟨by omega, .inr ⟨h2.trans k2, by omega⟩⟩
theorem H6 {row : List ByteArray} {a a' b b' : Tm} (h1 : a.name = a'.name) (h2 : a.args.length = a'.args.length) (h3 : b.name = b'.name) (h4 : b.args.length = b'.args.length) : Be row a b = Be row a' b' := by
 unfold Be
 rw [h1, h2, h3, h4]
mutual
def Tm.occN (v : ByteArray) : Tm → Nat
 | .mk n xs => (if n = v then 1 else 0) + Tm.occNs v xs
def Tm.occNs (v : ByteArray) : List Tm → Nat
 | [] => 0
 | t :: ts => t.occN v + Tm.occNs v ts
end
def okV (a b : Tm) : Prop := ∀ v, AU v = true → b.occN v ≤ a.occN v
theorem okV.trans {a b c : Tm} (h : okV a b) (k : okV b c) : okV a c := fun v hv => Nat.le_trans (k v hv) (h v hv)
inductive Lex (R : Tm → Tm → Prop) : List Tm → List Tm → Prop
 | here {x y xs ys} : x ≠ y → R x y → xs.length = ys.length → Lex R (x :: xs) (y :: ys)
 | on {x xs ys} : Lex R xs ys → Lex R (x :: xs) (x :: ys)
theorem Lex.len {R : Tm → Tm → Prop} {xs ys : List Tm} (h : Lex R xs ys) : xs.length = ys.length := by
 induction h with
 | here _ _ h => simp [h]
 | on _ ih => simp [ih]
theorem Lex.irrefl {R : Tm → Tm → Prop} : ∀ {xs : List Tm}, ¬ Lex R xs xs
 | [], h => by cases h
 | x :: xs, h => by
  cases h with
  | here h _ _ => exact h rfl
  | on h => exact Lex.irrefl h
theorem Lex.trans {R : Tm → Tm → Prop} : ∀ {xs ys zs : List Tm}, (∀ x ∈ xs, ∀ y ∈ ys, ∀ z ∈ zs, R x y → R y z → R x z ∧ x ≠ z) → Lex R xs ys → Lex R ys zs → Lex R xs zs := by
 intro xs ys zs ht h k
 induction h generalizing zs with
 | here hne hr hl =>
  cases k with
  | here hne2 hr2 hl2 =>
   obtain ⟨h1, h2⟩ := ht _ (by simp) _ (by simp) _ (by simp) hr hr2
   exact .here h2 h1 (hl.trans hl2)
  | on k => exact .here hne hr (hl.trans k.len)
 | on h ih =>
  cases k with
  | here hne2 hr2 hl2 => exact .here hne2 hr2 (h.len.trans hl2)
  | on k => exact .on (ih (fun x hx y hy z hz => ht x (by simp [hx]) y (by simp [hy]) z (by simp [hz])) k)
section
variable {s : List Bd} {a b : Tm} {row : List ByteArray}
theorem Lex.map {R : Tm → Tm → Prop} {f : Tm → Tm} : ∀ {xs ys : List Tm}, (∀ x ∈ xs, ∀ y ∈ ys, R x y → R (f x) (f y) ∧ f x ≠ f y) → Lex R xs ys → Lex R (xs.map f) (ys.map f) := by
 intro xs ys h k
 induction k with
 | here hne hr hl =>
  obtain ⟨h1, h2⟩ := h _ (by simp) _ (by simp) hr
  exact .here h2 h1 (by simp [hl])
 | on k ih => exact .on (ih fun x hx y hy => h x (by simp [hx]) y (by simp [hy]))
theorem Lex.at {R : Tm → Tm → Prop} {x y : Tm} (hne : x ≠ y) (h : R x y) : ∀ (xs ys : List Tm), Lex R (xs ++ x :: ys) (xs ++ y :: ys)
 | [], ys => .here hne h rfl
 | z :: xs, ys => .on (Lex.at hne h xs ys)
end

inductive Pa (row : List ByteArray) : Tm → Tm → Prop
 | is {a x : Tm} : AU a.name = false → x ∈ a.args → Pa row a x
 | sub {a b x : Tm} : AU a.name = false → x ∈ a.args → Pa row x b → Pa row a b
 | gt {a b : Tm} : AU a.name = false → AU b.name = false → 0 < Be row a b → (∀ y ∈ b.args, Pa row a y) → Pa row a b
 | lex {a b x y : Tm} {p xs ys : List Tm} : AU a.name = false → AU b.name = false → Be row a b = 0 → (∀ y ∈ b.args, Pa row a y) → a.args = p ++ x :: xs → b.args = p ++ y :: ys → x ≠ y → Pa row x y → Pa row a b
theorem Lex.split {R : Tm → Tm → Prop} {xs ys : List Tm} (h : Lex R xs ys) : ∃ p x y us vs, xs = p ++ x :: us ∧ ys = p ++ y :: vs ∧ x ≠ y ∧ R x y := by
 induction h with
 | here hne hr hl => exact ⟨[], _, _, _, _, rfl, rfl, hne, hr⟩
 | on k ih =>
  obtain ⟨p, x, y, us, vs, e1, e2, h1, h2⟩ := ih
  exact ⟨_ :: p, x, y, us, vs, by rw [e1]; rfl, by rw [e2]; rfl, h1, h2⟩
theorem Lex.at2 {R : Tm → Tm → Prop} {x y : Tm} (hne : x ≠ y) (h : R x y) {us vs : List Tm} (hl : us.length = vs.length) : ∀ p : List Tm, Lex R (p ++ x :: us) (p ++ y :: vs)
 | [] => .here hne h hl
 | z :: p => .on (Lex.at2 hne h hl p)
theorem D4 {row : List ByteArray} {a b : Tm} : Pa row a b ↔ AU a.name = false ∧ ((∃ x ∈ a.args, x = b ∨ Pa row x b) ∨ (AU b.name = false ∧ ¬ Be row a b < 0 ∧ (∀ y ∈ b.args, Pa row a y) ∧ (0 < Be row a b ∨ Lex (Pa row) a.args b.args))) := by
 constructor
 ·intro h
  cases h with
  | is h1 h2 => exact ⟨h1, .inl ⟨_, h2, .inl rfl⟩⟩
  | sub h1 h2 h3 => exact ⟨h1, .inl ⟨_, h2, .inr h3⟩⟩
  | gt h1 h2 h3 h4 => exact ⟨h1, .inr ⟨h2, by omega, h4, .inl h3⟩⟩
  | lex h1 h2 h3 h4 e1 e2 hne h5 =>
   refine ⟨h1, .inr ⟨h2, by omega, h4, .inr ?_⟩⟩
   have hl := (DA.1 h3).2
   rw [e1, e2] at hl ⊢
   exact Lex.at2 hne h5 (by simpa using hl) _
 ·rintro ⟨h1, ⟨x, hx, rfl | h⟩ | ⟨h2, h3, h4, h5⟩⟩
  ·exact .is h1 hx
  ·exact .sub h1 hx h
  ·by_cases h6 : 0 < Be row a b
   ·exact .gt h1 h2 h6 h4
   ·rcases h5 with h5 | h5
    ·exact absurd h5 h6
    ·obtain ⟨p, x, y, us, vs, e1, e2, hne, h7⟩ := h5.split
     exact .lex h1 h2 (by omega) h4 e1 e2 hne h7
variable {row : List ByteArray} {a b c : Tm}
theorem Pa.fn (h : Pa row a b) : AU a.name = false := (D4.1 h).1
theorem FY (h : ¬ Be row a b < 0) (k : ¬ Be row b c < 0) : (0 < Be row a c) ∨ (Be row a b = 0 ∧ Be row b c = 0 ∧ Be row a c = 0) := by
 rcases Int.lt_trichotomy (Be row a b) 0 with h1 | h1 | h1
 ·exact absurd h1 h
 ·obtain ⟨e1, e2⟩ := DA.1 h1
  have e : Be row a c = Be row b c := H6 e1 e2 rfl rfl
  rcases Int.lt_trichotomy (Be row b c) 0 with k1 | k1 | k1
  ·exact absurd k1 k
  ·exact .inr ⟨h1, k1, e.trans k1⟩
  ·exact .inl (by omega)
 ·rcases Int.lt_trichotomy (Be row b c) 0 with k1 | k1 | k1
  ·exact absurd k1 k
  ·obtain ⟨e1, e2⟩ := DA.1 k1
   have e : Be row a b = Be row a c := H6 rfl rfl e1 e2
   exact .inl (by omega)
  ·exact .inl (L7 h1 k1)
theorem Tm.lt_args {x : Tm} (h : x ∈ a.args) : SizeOf.sizeOf x < SizeOf.sizeOf a := Tm.lt_of_arg h
theorem BK : ∀ N : Nat, ∀ a b c : Tm, SizeOf.sizeOf a + SizeOf.sizeOf b + SizeOf.sizeOf c < N → (Pa row a b → Pa row b c → Pa row a c) ∧ (a = c → Pa row a b → Pa row b c → False)
 | 0, _, _, _, h => absurd h (Nat.not_lt_zero _)
 | N + 1, a, b, c, hN => by
  have step : Pa row a b → Pa row b c → Pa row a c := fun h k => by
   have hv := h.fn
   have hw := k.fn
   obtain ⟨_, ⟨x, hx, hxb⟩ | ⟨_, hs, hall, hor⟩⟩ := D4.1 h
   ·have hlt := Tm.lt_args hx
    rcases hxb with rfl | hxb
    ·exact .sub hv hx k
    ·exact .sub hv hx ((BK N x b c (by omega)).1 hxb k)
   ·obtain ⟨_, ⟨y, hy, hyc⟩ | ⟨hvc, ks, kall, kor⟩⟩ := D4.1 k
    ·have hlt := Tm.lt_args hy
     rcases hyc with rfl | hyc
     ·exact hall y hy
     ·exact (BK N a y c (by omega)).1 (hall y hy) hyc
    ·have call : ∀ z ∈ c.args, Pa row a z := fun z hz => by
      have hlt := Tm.lt_args hz
      exact (BK N a b z (by omega)).1 h (kall z hz)
     rcases FY hs ks with hg | ⟨z1, z2, z3⟩
     ·exact .gt hv hvc hg call
     ·rcases hor with hor | hor
      ·omega
      ·rcases kor with kor | kor
       ·omega
       ·refine D4.2 ⟨hv, .inr ⟨hvc, by omega, call, .inr ?_⟩⟩
        refine Lex.trans (fun x hx y hy z hz h1 h2 => ?_) hor kor
        have l1 := Tm.lt_args hx
        have l2 := Tm.lt_args hy
        have l3 := Tm.lt_args hz
        have := BK N x y z (by omega)
        exact ⟨this.1 h1 h2, fun e => this.2 e h1 h2⟩
  refine ⟨step, fun e h k => ?_⟩
  subst e
  have hv := h.fn
  have haa := step h k
  obtain ⟨_, ⟨x, hx, hxb⟩ | ⟨_, hs, hall, hor⟩⟩ := D4.1 h
  ·have hlt := Tm.lt_args hx
   rcases hxb with rfl | hxb
   ·obtain ⟨_, ⟨y, hy, hyc⟩ | ⟨_, ks, kall, kor⟩⟩ := D4.1 k
    ·have hl2 := Tm.lt_args hy
     rcases hyc with rfl | hyc
     ·omega
     ·exact (BK N x y x (by omega)).2 rfl (.is k.fn hy) ((BK N y a x (by omega)).1 hyc (.is hv hx))
    ·exact (BK N x x x (by omega)).2 rfl (kall x hx) (kall x hx)
   ·have hxx : Pa row x a := (BK N x b a (by omega)).1 hxb k
    have := Tm.lt_args hx
    exact (BK N x b x (by omega)).2 rfl hxb ((BK N b a x (by omega)).1 k (.is hv hx))
  ·obtain ⟨_, ⟨y, hy, hyc⟩ | ⟨_, ks, kall, kor⟩⟩ := D4.1 k
   ·have hl2 := Tm.lt_args hy
    rcases hyc with rfl | hyc
    ·exact (BK N y y y (by omega)).2 rfl (hall y hy) (hall y hy)
    ·exact (BK N a y a (by omega)).2 rfl (hall y hy) hyc
   ·rcases FY hs ks with hg | ⟨z1, z2, z3⟩
    ·have := (DA (row := row) (a := a) (b := a)).2 ⟨rfl, rfl⟩
     omega
    ·rcases hor with hor | hor
     ·omega
     ·rcases kor with kor | kor
      ·omega
      ·refine absurd (Lex.trans (fun x hx y hy z hz h1 h2 => ?_) hor kor) Lex.irrefl
       have l1 := Tm.lt_args hx
       have l2 := Tm.lt_args hy
       have l3 := Tm.lt_args hz
       have := BK N x y z (by omega)
       exact ⟨this.1 h1 h2, fun e => this.2 e h1 h2⟩
theorem LN (h : Pa row a b) : ¬ Pa row b a := fun k => (BK _ a b a (Nat.lt_succ_self _)).2 rfl h k
theorem OC (a : Tm) : ¬ Pa row a a := fun h => LN h h
theorem RB {n : ByteArray} (hn : AU n = false) {xs : List Tm} {x : Tm} (h : x ∈ xs) : Pa row (.mk n xs) x := .is hn h
theorem Q_ {n : ByteArray} (hn : AU n = false) (xs ys : List Tm) (h : Pa row a b) : Pa row (.mk n (xs ++ a :: ys)) (.mk n (xs ++ b :: ys)) := by
 have hne : a ≠ b := fun e => by subst e; exact OC a h
 refine .lex hn hn (DA.2 ⟨rfl, by simp [Tm.args_mk]⟩) (fun y hy => ?_) rfl rfl hne h
 rw [Tm.args_mk, List.mem_append, List.mem_cons] at hy
 rcases hy with hy | rfl | hy
 ·exact .is hn (by rw [Tm.args_mk]; simp [hy])
 ·exact .sub hn (by rw [Tm.args_mk]; simp) h
 ·exact .is hn (by rw [Tm.args_mk]; simp [hy])

open Classical in
noncomputable def paB (row : List ByteArray) (a b : Tm) : Bool := decide (Pa row a b)
theorem DZ {row : List ByteArray} {a b : Tm} : paB row a b = true ↔ Pa row a b := by unfold paB; simp
theorem EY {row : List ByteArray} {a b : Tm} : paB row a b = false ↔ ¬ Pa row a b := by unfold paB; simp
theorem QL {row : List ByteArray} {a b : Tm} (h : AU a.name = true) : paB row a b = false := EY.2 fun k => by have := k.fn; rw [h] at this; cases this
theorem Mu {row : List ByteArray} {a b x : Tm} (h : AU a.name = false) (hx : x ∈ a.args) (k : x = b ∨ paB row x b = true) : paB row a b = true :=
 DZ.2 (D4.2 ⟨h, .inl ⟨x, hx, k.imp id DZ.1⟩⟩)
theorem Hl {row : List ByteArray} {a b : Tm} (h : AU a.name = false) (hno : ∀ x ∈ a.args, x ≠ b ∧ paB row x b = false) : Pa row a b ↔ (AU b.name = false ∧ ¬ Be row a b < 0 ∧ (∀ y ∈ b.args, Pa row a y) ∧ (0 < Be row a b ∨ Lex (Pa row) a.args b.args)) := by
 rw [D4]
 constructor
 ·rintro ⟨_, ⟨x, hx, e | k⟩ | h⟩
  ·exact absurd e (hno x hx).1
  ·exact absurd k (EY.1 (hno x hx).2)
  ·exact h
 ·exact fun k => ⟨h, .inr k⟩
theorem Hd {row : List ByteArray} {a b : Tm} (h : AU a.name = false) (hno : ∀ x ∈ a.args, x ≠ b ∧ paB row x b = false) (hs : AU b.name = true ∨ Be row a b < 0 ∨ ∃ y ∈ b.args, paB row a y = false) : paB row a b = false := by
 rw [EY, Hl h hno]
 rintro ⟨h1, h2, h3, _⟩
 rcases hs with hs | hs | ⟨y, hy, k⟩
 ·rw [h1] at hs; cases hs
 ·exact h2 hs
 ·exact EY.1 k (h3 y hy)
theorem RA {row : List ByteArray} {a b : Tm} (h : AU a.name = false) (hb : AU b.name = false) (hs : 0 < Be row a b) (hall : ∀ y ∈ b.args, paB row a y = true) : paB row a b = true :=
 DZ.2 (.gt h hb hs fun y hy => DZ.1 (hall y hy))
theorem Lex.tail {R : Tm → Tm → Prop} : ∀ {xs ys : List Tm} {x y : Tm}, x ≠ y → Lex R (x :: xs) (y :: ys) → R x y
 | _, _, _, _, hne, .here _ h _ => h
 | _, _, _, _, hne, .on _ => absurd rfl hne
theorem Lex.same {R : Tm → Tm → Prop} : ∀ {xs ys : List Tm} {x : Tm}, Lex R (x :: xs) (x :: ys) → Lex R xs ys
 | _, _, _, .here hne _ _ => absurd rfl hne
 | _, _, _, .on h => h
theorem Lex.first {R : Tm → Tm → Prop} {x y : Tm} {us vs : List Tm} (hne : x ≠ y) : ∀ {p q : List Tm}, p = q → Lex R (p ++ x :: us) (q ++ y :: vs) → R x y
 | [], _, rfl, h => Lex.tail hne h
 | z :: p, _, rfl, h => Lex.first hne rfl (Lex.same h)
theorem Em {xs : List Tm} {k : Nat} {x : Tm} (h : xs[k]? = some x) : xs = xs.take k ++ x :: xs.drop (k + 1) := by
 have hm : k < xs.length := (List.getElem?_eq_some_iff.1 h).1
 have h1 := (List.getElem?_eq_some_iff.1 h).2
 conv => lhs; rw [← List.take_append_drop k xs, List.drop_eq_getElem_cons hm, h1]
theorem Nu {row : List ByteArray} {a b x y : Tm} {k : Nat} (h : AU a.name = false) (hb : AU b.name = false) (hno : ∀ x ∈ a.args, x ≠ b ∧ paB row x b = false) (hs : Be row a b = 0) (hall : ∀ y ∈ b.args, paB row a y = true) (hp : a.args.take k = b.args.take k) (hx : a.args[k]? = some x) (hy : b.args[k]? = some y) (hne : x ≠ y) : paB row a b = paB row x y := by
 cases hxy : paB row x y with
 | true => exact DZ.2 (.lex h hb hs (fun y hy => DZ.1 (hall y hy)) (Em hx) ((Em hy).trans (by rw [hp])) hne (DZ.1 hxy))
 | false =>
  rw [EY, Hl h hno]
  rintro ⟨_, _, _, k1 | k1⟩
  ·omega
  ·refine EY.1 hxy ?_
   rw [Em hx, Em hy] at k1
   exact Lex.first hne hp k1
theorem Oa {row : List ByteArray} {a b : Tm} (h : AU a.name = false) (hno : ∀ x ∈ a.args, x ≠ b ∧ paB row x b = false) (hs : Be row a b = 0) (he : a.args = b.args) : paB row a b = false := by
 rw [EY, Hl h hno]
 rintro ⟨_, _, _, k1 | k1⟩
 ·omega
 ·rw [he] at k1
  exact Lex.irrefl k1

theorem M0 {t : Tm} (h : t.chk = 0) (ha : 0 < t.args.length) : AU t.name = false := by
 rw [Tm.chk_eq] at h
 cases hv : AU t.name with
 | false => rfl
 | true =>
  split at h
  ·rename_i h0
   unfold Bn at h0
   split at h0
   ·rw [if_pos ⟨hv, ha⟩] at h0
    cases h0
   ·cases h0
  ·rename_i h0
   exact absurd h h0
theorem Px {row : List ByteArray} {a b : Tm} (hab : Pa row a b) : ∀ (p : List Int) (t : Tm), t.chk = 0 → t.atP p = some a → Pa row t (t.putP p b)
 | [], t, _, h => by
  have : t = a := by cases t; simpa [Tm.atP] using h
  rw [Tm.putP_nil, this]
  exact hab
 | i :: p, t, hc, h => by
  rw [Tm.atP_cons] at h
  split at h
  ·cases h
  ·split at h
   ·rename_i x hx
    rw [Tm.putP_cons, hx]
    simp only
    have hl := (List.getElem?_eq_some_iff.1 hx).1
    have ih := Px hab p x ((Tm.chk_args hc).2 x (List.mem_of_getElem? hx)) h
    have e1 := Em hx
    have e2 : t.args.set i.toNat (x.putP p b) = t.args.take i.toNat ++ x.putP p b :: t.args.drop (i.toNat + 1) := by
     rw [List.set_eq_take_append_cons_drop, if_pos hl]
    have hk := Q_ (n := t.name) (M0 hc (by omega)) (t.args.take i.toNat) (t.args.drop (i.toNat + 1)) ih
    rw [e2]
    rw [← e1] at hk
    cases t with
    | mk n xs => exact hk
   ·cases h

set_option maxHeartbeats 400000
theorem Ak.memoWeak {C : Ctx} {s : AS} {id : Nat} {f f' : List SV → List SV → SV → Prop} (hS : s.S id = some (.memo f)) (hf : ∀ cs ds x, f cs ds x → f' cs ds x) : Ak C s (s.set id (.memo f')) := fun a w ⟨σ, ι, R⟩ => by
 have hb := R.blk _ _ hS
 cases hb with
 | @memo _ g ents h1 h2 h3 h4 =>
  obtain ⟨hu, R'⟩ := R.turn (w' := w) hS (.memo f') (ι id) (σ' := σ) (fun _ _ h => h) (fun _ _ _ => rfl) R.fit (Nat.le_refl _) (fun _ => ⟨rfl, rfl⟩) ⟨rfl, rfl, rfl⟩ (Nat.le_refl _) (fun _ _ _ => rfl) (fun g h => .inl h) (fun hu => .memo h1 h2 (h3.weak hf) h4)
  exact ⟨σ, _, R'⟩
theorem Ak.freeze {C : Ctx} {s : AS} (id : Nat) (ts : List Nat) {ty : TypeId} {xs : List SV} (hS : s.S id = some (.box ty (xs.map .st))) (hl : 0 < xs.length) (ht : ∀ t ∈ ts, s.env t = .one (.ptr id 1 0 0)) :
  Ak C s ⟨fun t => if t ∈ ts then .one (.eptr xs) else s.env t, AK s.S id (some (.dead 1 0))⟩ := fun a w ⟨σ, ι, R⟩ => by
 have hb := R.blk _ _ hS
 cases hb with
 | @box _ _ g vs h1 h2 h3 h4 h5 =>
  have hkeep := E1 (σ := σ) (w' := w) (g := g) (k := xs.length) (fun p x e hx => by rw [h5 _ e] at hx; cases hx)
  obtain ⟨hu, R'⟩ := R.turn (w' := w) hS (.dead 1 0) (ι id) (σ' := DT σ w g xs.length) hkeep (fun p hp _ => EZ (fun e => hp (by rw [e]; exact h1))) (Dz R.fit) (Nat.le_refl _) (fun _ => ⟨rfl, rfl⟩) ⟨rfl, rfl, rfl⟩ (Nat.le_refl _) (fun _ _ _ => rfl) (fun g h => .inl h)
   (fun hu => .dead fun g' hg' => by rw [h1] at hg'; cases hg'; exact ⟨_, h3, rfl⟩)
  refine ⟨_, _, R'.size, fun i hi => ?_, R'.nod, R'.fit, R'.blk, R'.inj, R'.base, R'.ext, R'.old, R'.os, R'.grown, R'.same, R'.upd⟩
  show AH _ _ _ _ (if i ∈ ts then .one (.eptr xs) else s.env i)
  split
  ·rename_i hm
   have re := R.env i hi
   rw [ht i hm] at re
   obtain ⟨b, q1, q2, q3⟩ := Dy (AO re)
   rw [hS] at q1
   cases q1
   obtain ⟨g', e1, e2⟩ := q3 rfl
   rw [h1] at e1
   cases e1
   rw [e2]
   have cell : ∀ j x, xs[j]? = some x → ∃ v, vs[j]? = some v ∧ Al σ v x := fun j x hx => by
    obtain ⟨v, v1, v2⟩ := h4.get (j := j) (b := .st x) (by rw [List.getElem?_map, hx]; rfl)
    exact ⟨v, by simpa using v1, CE v2⟩
   refine .one (.eptr (fun j => (vs[j]?).getD undef) (fun j x hx => ?_) (fun j x hx => ?_) (fun _ _ => ?_))
   ·obtain ⟨v, v1, v2⟩ := cell j x hx
    have hj := (List.getElem?_eq_some_iff.1 hx).1
    rw [show (0 * (AL.box ty (xs.map AC.st)).wid + 0 + j) = j by omega, KB hj, cell_of_row w g _ _ _ _ h3, v1]
    rfl
   ·obtain ⟨v, v1, v2⟩ := cell j x hx
    rw [v1]
    exact v2.mono hkeep
   ·rw [GQ hl, FD h3]
  ·exact R'.env i hi

set_option maxRecDepth 100000
def Br : IR :=
 (.seq (.ops [.i 6 (.mov (.c (.one (.st (.bool false)))))]) (.seq (.seq (.ops [.m 11 1, .i 12 (.nilCheck (.t 11)), .f 13 1 12, .l 14 13, .i 15 (.len false (.t 14)), .i 16 (.mov (.n 0))]) (.block 0 (.loop (.seq (.ops [.i 17 (.bin .lss (.t 16) (.t 15))]) (.seq (.cond (.t 17) .skip (.exit 0)) (.seq (.block 1 (.seq (.ops [.m 18 16, .m 7 18]) (.seq (.ops [.m 19 1, .i 20 (.nilCheck (.t 19)), .f 21 1 20, .l 22 21, .m 23 7, .i 24 (.indexAddr 2 (.t 22) (.t 23)), .L 25 2 24, .m 26 2, .i 27 (.nilCheck (.t 26)), .L 28 2 27, .i 29 (.call 47 [.t 25, .t 28]), .m 30 29, .mk (some 31) (some (30, false)) (.mov (.t 0)) .no, .mk (some 32) (some (30, false)) (.mov (.t 1)) .no, .mk (some 33) (some (30, false)) (.nilCheck (.t 32)) .no, .mk (some 34) (some (30, false)) (.fieldAddr 1 (.t 33)) .no, .mk (some 35) (some (30, false)) (.load false 1 (.t 34)) .no, .mk (some 36) (some (30, false)) (.mov (.t 7)) .no, .mk (some 37) (some (30, false)) (.indexAddr 2 (.t 35) (.t 36)) .no, .mk (some 38) (some (30, false)) (.mov (.t 2)) .no, .mk (some 39) (some (30, false)) (.callR 31 [.t 31, .t 37, .t 38]) .no, .i 40 (.pick (.t 30) (.c (.one (.st (.bool true)))) (.t 39))]) (.cond (.t 40) (.seq (.ops [.i 6 (.mov (.c (.one (.st (.bool true)))))]) .ret) .skip)))) (.ops [.i 41 (.bin .add (.t 16) (.n 1)), .m 16 41]))))))) (.seq (.seq (.ops [.m 42 2, .i 43 (.nilCheck (.t 42)), .f 44 0 43, .l 45 44, .i 46 (.call 33 [.t 45])]) (.cond (.t 46) (.seq (.ops [.i 6 (.mov (.c (.one (.st (.bool false)))))]) .ret) .skip)) (.seq (.ops [.m 47 0, .i 48 (.nilCheck (.t 47)), .f 49 0 48, .l 50 49, .m 51 1, .i 52 (.nilCheck (.t 51)), .L 53 2 52, .m 54 2, .i 55 (.nilCheck (.t 54)), .L 56 2 55, .i 57 (.call 48 [.t 50, .t 53, .t 56]), .m 8 57]) (.seq (.seq (.ops [.m 58 8, .i 59 (.bin .lss (.t 58) (.n 0))]) (.cond (.t 59) (.seq (.ops [.i 6 (.mov (.c (.one (.st (.bool false)))))]) .ret) .skip)) (.seq (.seq (.ops [.m 60 2, .i 61 (.nilCheck (.t 60)), .f 62 1 61, .l 63 62, .i 64 (.len false (.t 63)), .i 65 (.mov (.n 0))]) (.block 2 (.loop (.seq (.ops [.i 66 (.bin .lss (.t 65) (.t 64))]) (.seq (.cond (.t 66) .skip (.exit 2)) (.seq (.block 3 (.seq (.ops [.m 67 65, .m 9 67]) (.seq (.ops [.m 68 0, .m 69 1, .m 70 2, .i 71 (.nilCheck (.t 70)), .f 72 1 71, .l 73 72, .m 74 9, .i 75 (.indexAddr 2 (.t 73) (.t 74)), .i 76 (.callR 31 [.t 68, .t 69, .t 75]), .i 77 (.un .not (.t 76))]) (.cond (.t 77) (.seq (.ops [.i 6 (.mov (.c (.one (.st (.bool false)))))]) .ret) .skip)))) (.ops [.i 78 (.bin .add (.t 65) (.n 1)), .m 65 78]))))))) (.seq (.seq (.ops [.m 79 8, .i 80 (.bin .gtr (.t 79) (.n 0))]) (.cond (.t 80) (.seq (.ops [.i 6 (.mov (.c (.one (.st (.bool true)))))]) .ret) .skip)) (.seq (.seq (.ops [.m 81 1, .i 82 (.nilCheck (.t 81)), .f 83 1 82, .l 84 83, .i 85 (.len false (.t 84)), .i 86 (.mov (.n 0))]) (.block 4 (.loop (.seq (.ops [.i 87 (.bin .lss (.t 86) (.t 85))]) (.seq (.cond (.t 87) .skip (.exit 4)) (.seq (.block 5 (.seq (.ops [.m 88 86, .m 10 88]) (.seq (.ops [.m 89 1, .i 90 (.nilCheck (.t 89)), .f 91 1 90, .l 92 91, .m 93 10, .i 94 (.indexAddr 2 (.t 92) (.t 93)), .L 95 2 94, .m 96 2, .i 97 (.nilCheck (.t 96)), .f 98 1 97, .l 99 98, .m 100 10, .i 101 (.indexAddr 2 (.t 99) (.t 100)), .L 102 2 101, .i 103 (.call 47 [.t 95, .t 102]), .i 104 (.un .not (.t 103))]) (.cond (.t 104) (.seq (.ops [.m 105 0, .m 106 1, .i 107 (.nilCheck (.t 106)), .f 108 1 107, .l 109 108, .m 110 10, .i 111 (.indexAddr 2 (.t 109) (.t 110)), .m 112 2, .i 113 (.nilCheck (.t 112)), .f 114 1 113, .l 115 114, .m 116 10, .i 117 (.indexAddr 2 (.t 115) (.t 116)), .i 118 (.callR 31 [.t 105, .t 111, .t 117]), .m 6 118]) .ret) .skip)))) (.ops [.i 119 (.bin .add (.t 86) (.n 1)), .m 86 119]))))))) (.seq (.ops [.i 6 (.mov (.c (.one (.st (.bool false)))))]) .ret)))))))))
theorem Cx : OkF Try.prog 40 120 [40000039, 40000076, 40000118] Br [.t 6] := .of Try.func40 rfl rfl (by kernel_rfl) rfl
def Bc : IR :=
 (.seq (.ops [.i 6 (.mov (.c (.one (.st (.bool false)))))]) (.seq (.seq (.ops [.m 11 1, .i 12 (.nilCheck (.t 11)), .f 13 0 12, .l 14 13, .i 15 (.call 33 [.t 14])]) (.cond (.t 15) (.seq (.ops [.i 6 (.mov (.c (.one (.st (.bool false)))))]) .ret) .skip)) (.seq (.ops [.m 16 1, .m 17 2, .i 18 (.buildArr [.t 16, .t 17]), .i 7 (.alloc 84 [.st (.lit (.pointer none)), .st (.lit (.pointer none))]), .s 2 7 18]) (.seq (.seq (.ops [.m 20 0, .i 21 (.nilCheck (.t 20)), .f 22 1 21, .l 23 22, .L 24 2 7, .i 25 (.memoGet true (.one (.st (.bool false))) (.t 23) (.t 24)), .m 19 25, .i 26 (.extract 0 (.t 19)), .i 27 (.extract 1 (.t 19)), .m 8 26, .m 9 27]) (.seq (.ops [.m 28 9]) (.cond (.t 28) (.seq (.ops [.m 29 8, .m 6 29]) .ret) .skip))) (.seq (.ops [.m 30 0, .m 31 1, .m 32 2, .i 33 (.callR 40 [.t 30, .t 31, .t 32]), .m 10 33]) (.seq (.ops [.m 34 0, .i 35 (.nilCheck (.t 34)), .f 36 1 35, .l 37 36, .L 38 2 7, .m 39 10, .mk none none (.memoSet (.t 37) (.t 38) (.t 39)) .no]) (.seq (.ops [.m 40 10, .m 6 40]) .ret)))))))
theorem Cb : OkF Try.prog 31 41 [40000033] Bc [.t 6] := .of Try.func31 rfl rfl (by kernel_rfl) rfl
def Ef : IR :=
 (.seq (.ops [.i 4 (.box 25 (.t 1)), .i 5 (.box 25 (.t 2)), .i 6 (.mov (.c (.one (.st (.bool false)))))]) (.seq (.ops [.m 8 0, .i 9 .makeMemo, .i 10 (.build [.full [], .st (.lit (.map none))] [(0, 1, .t 8), (1, 1, .t 9)]), .i 11 (.box 74 (.t 10)), .m 7 11]) (.seq (.ops [.m 12 7, .i 13 (.callR 31 [.t 12, .t 4, .t 5]), .m 6 13]) .ret)))
theorem Hg : OkF Try.prog 20 14 [40000013] Ef [.t 6] := .of Try.func20 rfl rfl (by kernel_rfl) rfl
def FV : IR :=
 (.seq (.ops [.i 4 (.box 25 (.t 1)), .i 5 (.box 25 (.t 2)), .i 6 (.mov (.c (.one (.st (.bool false))))), .i 7 (.mov (.n 0))]) (.seq (.seq (.ops [.m 9 0, .L 10 2 4, .L 11 2 5, .i 12 (.call 19 [.t 9, .t 10, .t 11]), .m 8 12]) (.seq (.ops [.m 13 8, .i 14 (.bin .neq (.t 13) (.n 0))]) (.cond (.t 14) (.seq (.ops [.m 15 8, .i 6 (.mov (.c (.one (.st (.bool false))))), .m 7 15]) .ret) .skip))) (.seq (.ops [.m 16 0, .L 17 2 4, .L 18 2 5, .i 19 (.call 20 [.t 16, .t 17, .t 18]), .m 6 19, .i 7 (.mov (.n 0))]) .ret)))
theorem IQ : OkF Try.prog 10 20 [] FV [.t 6, .t 7] := .of Try.func10 rfl rfl (by kernel_rfl) rfl

theorem J3 {σ : Sto} {v : Value} {s s' : ByteArray} (h : Al σ v (.str s)) (h' : Al σ v (.str s')) : s = s' := by
 cases h with
 | str _ => cases h' with
  | str _ => rfl
theorem NB {σ : Sto} {v : Value} {xs ys : List (List SV)} (h : Al σ v (.list xs)) (h' : Al σ v (.list ys)) (w : Nat) (hx : ∀ x ∈ xs, x.length = w) (hy : ∀ y ∈ ys, y.length = w) :
  xs.length = ys.length ∧ ∀ (k : Nat) (x y : List SV), xs[k]? = some x → ys[k]? = some y → ∃ c : Nat → Value, (∀ j u, x[j]? = some u → Al σ (c j) u) ∧ ∀ j u, y[j]? = some u → Al σ (c j) u := by
 cases h with
 | @list p len cap b o w1 _ c h1 h2 h3 h4 h5 h6 hh h7 h8 =>
 cases h' with
 | @list _ _ _ b' o' w2 _ c' k1 k2 k3 k4 k5 k6 kh k7 k8 =>
 refine ⟨by omega, fun k x y ex ey => ⟨c k, fun j u hu => h8 k x j u ex hu, fun j u hu => ?_⟩⟩
 have m1 := List.mem_of_getElem? ex
 have m2 := List.mem_of_getElem? ey
 have hl := (List.getElem?_eq_some_iff.1 ex).1
 have e1 := h5 (by omega)
 have e2 := k5 (by omega)
 rw [e1] at e2
 cases e2
 have w1e : w1 = w := (h6 x m1).symm.trans (hx x m1)
 have w2e : w2 = w := (k6 y m2).symm.trans (hy y m2)
 have hj : j < x.length := by
  rw [hx x m1, ← hy y m2]
  exact (List.getElem?_eq_some_iff.1 hu).1
 have q1 := h7 k x j _ ex (List.getElem?_eq_getElem hj)
 have q2 := k7 k y j u ey hu
 rw [w1e] at q1
 rw [w2e, q1] at q2
 rw [Option.some.inj q2]
 exact k8 k y j u ey hu
theorem LI : ∀ (N : Nat) (a b : Tm) (σ : Sto) (c : Nat → Value), SizeOf.sizeOf a < N → (∀ j x, (Ay a)[j]? = some x → Al σ (c j) x) → (∀ j x, (Ay b)[j]? = some x → Al σ (c j) x) → a = b
 | 0, _, _, _, _, h, _, _ => absurd h (Nat.not_lt_zero _)
 | N + 1, a, b, σ, c, hN, ha, hb => by
  rw [Ac] at ha hb
  have hn := J3 (ha 0 _ rfl) (hb 0 _ rfl)
  have hlen : ∀ {l : List Tm}, ∀ x ∈ l.map Ay, x.length = 2 := fun x hx => by
   obtain ⟨t, _, rfl⟩ := List.mem_map.1 hx
   exact KJ t
  obtain ⟨hl, hr⟩ := NB (ha 1 _ rfl) (hb 1 _ rfl) 2 hlen hlen
  rw [List.length_map, List.length_map] at hl
  have hargs : a.args = b.args := by
   apply List.ext_getElem?
   intro k
   by_cases hk : k < a.args.length
   ·have e1 : a.args[k]? = some a.args[k] := List.getElem?_eq_getElem hk
    have e2 : b.args[k]? = some (b.args[k]'(by omega)) := List.getElem?_eq_getElem (by omega)
    obtain ⟨c', q1, q2⟩ := hr k (Ay a.args[k]) (Ay (b.args[k]'(by omega))) (by rw [List.getElem?_map, e1]; rfl) (by rw [List.getElem?_map, e2]; rfl)
    have hlt := Tm.lt_of_arg (List.mem_of_getElem? e1)
    rw [e1, e2, LI N _ _ σ c' (by omega) q1 q2]
   ·rw [List.getElem?_eq_none (by omega), List.getElem?_eq_none (by omega)]
  cases a
  cases b
  simp only [Tm.name, Tm.args] at hn hargs
  rw [hn, hargs]
theorem M1 {a b : Tm} (h : Nb (Ay a) (Ay b)) : a = b := by
 obtain ⟨σ, c, h1, h2⟩ := h
 exact LI _ a b σ c (Nat.lt_succ_self _) h1 h2

def FP : IR :=
 (.seq (.ops [.i 2 (.box 25 (.t 0)), .i 3 (.box 25 (.t 1)), .i 4 (.mov (.n 0))]) (.seq (.seq (.ops [.L 6 2 2, .i 7 (.call 13 [.t 6]), .m 5 7]) (.seq (.ops [.m 8 5, .i 9 (.bin .neq (.t 8) (.n 0))]) (.cond (.t 9) (.seq (.ops [.m 10 5, .m 4 10]) .ret) .skip))) (.seq (.ops [.L 11 2 3, .i 12 (.call 13 [.t 11]), .m 4 12]) .ret)))
theorem IX : OkF Try.prog 30 13 [] FP [.t 4] := .of Try.func30 rfl rfl (by kernel_rfl) rfl

set_option linter.unusedSimpArgs false
set_option maxHeartbeats 800000
theorem Q9 (a b : Tm) : AW Try.prog 30 [aTm a, aTm b] (Ab (Bx a b)) := by
 refine IX.ac fun C hC => ?_
 unfold FP
 repeat' with_reducible first | refine W ?_ | refine Z0 ?_ | ((first | refine Wo fun K hK => ?_ | refine Wp ?_ | refine Wq ?_ | refine Wr ?_); (try simp only [go_sem, fN, seval, eT, iR, dT, dF, nL]); (repeat refine Ai ?_); (try (refine hK _ ?_; clear hK K)); try refine iC ?_)
 refine ⟨_, DM a, ?_⟩
 by_cases h : a.may = 0
 ·repeat' (first | (with_reducible first | refine W ?_ | refine Z0 ?_ | ((first | refine Wo fun K hK => ?_ | refine Wp ?_ | refine Wq ?_ | refine Wr ?_); (try simp only [go_sem, fN, seval, eT, iR, h, dT, dF, nL]); (repeat refine Ai ?_); (try (refine hK _ ?_; clear hK K)); try refine iC ?_)) | refine Cg _ (DM b) ?_)
  simp only [go_sem, fN, seval, AZ, AS.result, AB, AF, AP]
  unfold Bx
  rw [if_pos h]
 ·repeat' with_reducible first | refine W ?_ | refine Z0 ?_ | ((first | refine Wo fun K hK => ?_ | refine Wp ?_ | refine Wq ?_ | refine Wr ?_); (try simp only [go_sem, fN, seval, eT, iR, h, dT, dF, nL]); (repeat refine Ai ?_); (try (refine hK _ ?_; clear hK K)); try refine iC ?_)
  simp only [go_sem, fN, seval, AZ, AS.result, AB, AF, AP]
  unfold Bx
  rw [if_neg h]

def Bf : IR :=
 (.seq (.ops [.i 4 (.mov (.n 0))]) (.seq (.seq (.ops [.m 6 0, .i 7 (.len false (.t 6)), .i 8 (.mov (.n 0))]) (.block 0 (.loop (.seq (.ops [.i 9 (.bin .lss (.t 8) (.t 7))]) (.seq (.cond (.t 9) .skip (.exit 0)) (.seq (.block 1 (.seq (.ops [.m 10 8, .m 5 10]) (.seq (.ops [.m 11 1, .m 12 0, .m 13 5, .i 14 (.indexAddr 1 (.t 12) (.t 13)), .l 15 14, .i 16 (.bin .eql (.t 11) (.t 15))]) (.cond (.t 16) (.seq (.ops [.m 17 5, .m 4 17]) .ret) .skip)))) (.ops [.i 18 (.bin .add (.t 8) (.n 1)), .m 8 18]))))))) (.seq (.ops [.i 4 (.mov (.c (.one (.st (.int .i64 (-1))))))]) .ret)))
theorem Ch : OkF Try.prog 46 19 [] Bf [.t 4] := .of Try.func46 rfl rfl (by kernel_rfl) rfl
def Dj : IR :=
 (.seq (.ops [.i 2 (.mov (.c (.one (.st (.bool false)))))]) (.seq (.ops [.m 3 0, .m 4 0, .i 5 (.bin .neq (.t 3) (.t 4)), .m 2 5]) .ret))
theorem GL : OkF Try.prog 68 6 [] Dj [.t 2] := .of Try.func68 rfl rfl (by kernel_rfl) rfl
def DL : IR :=
 (.seq (.ops [.i 4 (.mov (.n 0))]) (.seq (.ops [.m 7 0, .i 8 (.call 68 [.t 7]), .m 5 8]) (.seq (.ops [.m 9 1, .i 10 (.call 68 [.t 9]), .m 6 10]) (.seq (.seq (.ops [.m 11 5]) (.cond (.t 11) (.seq (.seq (.ops [.m 12 6]) (.cond (.t 12) (.seq (.ops [.i 4 (.mov (.n 0))]) .ret) .skip)) (.seq (.ops [.i 4 (.mov (.c (.one (.st (.int .i64 (-1))))))]) .ret)) .skip)) (.seq (.seq (.ops [.m 13 6]) (.cond (.t 13) (.seq (.ops [.i 4 (.mov (.n 1))]) .ret) .skip)) (.seq (.seq (.ops [.m 14 0, .m 15 1, .i 16 (.bin .lss (.t 14) (.t 15))]) (.cond (.t 16) (.seq (.ops [.i 4 (.mov (.c (.one (.st (.int .i64 (-1))))))]) .ret) .skip)) (.seq (.seq (.ops [.m 17 0, .m 18 1, .i 19 (.bin .gtr (.t 17) (.t 18))]) (.cond (.t 19) (.seq (.ops [.i 4 (.mov (.n 1))]) .ret) .skip)) (.seq (.ops [.i 4 (.mov (.n 0))]) .ret))))))))
theorem Fn : OkF Try.prog 55 20 [] DL [.t 4] := .of Try.func55 rfl rfl (by kernel_rfl) rfl
def FM : IR :=
 (.seq (.ops [.i 2 (.mov (.n 0))]) (.seq (.ops [.i 3 (.mov (.n 0))]) (.seq (.seq (.ops [.m 6 0, .i 7 (.len false (.t 6)), .i 8 (.mov (.n 0))]) (.block 0 (.loop (.seq (.ops [.i 9 (.bin .lss (.t 8) (.t 7))]) (.seq (.cond (.t 9) .skip (.exit 0)) (.seq (.block 1 (.seq (.ops [.i 10 (.indexAddr 1 (.t 6) (.t 8)), .l 11 10, .m 5 11]) (.seq (.ops [.m 12 5, .m 13 3, .i 14 (.bin .neq (.t 12) (.t 13))]) (.cond (.t 14) (.seq (.ops [.m 15 5, .m 2 15]) .ret) .skip)))) (.ops [.i 16 (.bin .add (.t 8) (.n 1)), .m 8 16]))))))) (.seq (.ops [.m 17 3, .m 2 17]) .ret))))
theorem Ic : OkF Try.prog 54 18 [] FM [.t 2] := .of Try.func54 rfl rfl (by kernel_rfl) rfl
def Ds : IR :=
 (.seq (.ops [.i 4 (.box 25 (.t 1)), .i 5 (.box 25 (.t 2)), .i 6 (.mov (.n 0))]) (.seq (.ops [.m 7 0, .f 8 0 4, .l 9 8, .i 10 (.call 46 [.t 7, .t 9]), .m 11 0, .f 12 0 5, .l 13 12, .i 14 (.call 46 [.t 11, .t 13]), .i 15 (.call 55 [.t 10, .t 14]), .f 16 0 4, .l 17 16, .f 18 0 5, .l 19 18, .i 20 (.call 45 [.t 17, .t 19]), .f 21 1 4, .l 22 21, .i 23 (.len false (.t 22)), .f 24 1 5, .l 25 24, .i 26 (.len false (.t 25)), .i 27 (.call 55 [.t 23, .t 26]), .i 28 (.buildFlat [.t 15, .t 20, .t 27]), .i 29 (.call 54 [.t 28]), .m 6 29]) .ret))
theorem GT : OkF Try.prog 48 30 [] Ds [.t 6] := .of Try.func48 rfl rfl (by kernel_rfl) rfl
def Ei : IR :=
 (.seq (.ops [.i 2 (.mov (.n 0))]) (.seq (.seq (.ops [.m 5 0, .i 6 (.len false (.t 5)), .i 7 (.bin .gtr (.t 6) (.n 40))]) (.cond (.t 7) (.seq (.ops [.i 2 (.mov (.n 3))]) .ret) .skip)) (.seq (.seq (.ops [.m 8 0, .i 9 (.len false (.t 8)), .i 10 (.mov (.n 0))]) (.block 0 (.loop (.seq (.ops [.i 11 (.bin .lss (.t 10) (.t 9))]) (.seq (.cond (.t 11) .skip (.exit 0)) (.seq (.block 1 (.seq (.ops [.m 12 10, .i 13 (.indexAddr 1 (.t 8) (.t 10)), .l 14 13, .m 3 12, .m 4 14]) (.seq (.seq (.ops [.m 15 4, .i 16 (.call 32 [.t 15]), .i 17 (.un .not (.t 16)), .m 18 17, .mk (some 19) (some (18, false)) (.mov (.t 4)) .no, .mk (some 20) (some (18, false)) (.call 33 [.t 19]) .no, .i 21 (.pick (.t 18) (.c (.one (.st (.bool true)))) (.t 20))]) (.cond (.t 21) (.seq (.ops [.i 2 (.mov (.n 1))]) .ret) .skip)) (.seq (.ops [.m 22 0, .m 23 3, .i 24 (.sliceL 1 (.t 22) none (some (.t 23))), .m 25 4, .i 26 (.call 39 [.t 24, .t 25])]) (.cond (.t 26) (.seq (.ops [.i 2 (.mov (.n 4))]) .ret) .skip))))) (.ops [.i 27 (.bin .add (.t 10) (.n 1)), .m 10 27]))))))) (.seq (.ops [.i 2 (.mov (.n 0))]) .ret))))
theorem HP : OkF Try.prog 29 28 [] Ei [.t 2] := .of Try.func29 rfl rfl (by kernel_rfl) rfl
def FU : IR :=
 (.seq (.ops [.i 4 (.box 25 (.t 1)), .i 5 (.box 25 (.t 2)), .i 6 (.mov (.n 0))]) (.seq (.seq (.ops [.m 8 0, .i 9 (.call 29 [.t 8]), .m 7 9]) (.seq (.ops [.m 10 7, .i 11 (.bin .neq (.t 10) (.n 0))]) (.cond (.t 11) (.seq (.ops [.m 12 7, .m 6 12]) .ret) .skip))) (.seq (.ops [.L 13 2 4, .L 14 2 5, .i 15 (.call 30 [.t 13, .t 14]), .m 6 15]) .ret)))
theorem Ii : OkF Try.prog 19 16 [] FU [.t 6] := .of Try.func19 rfl rfl (by kernel_rfl) rfl

def DV : List Int → Int
 | [] => 0
 | x :: xs => if x ≠ 0 then x else DV xs
theorem MV (row : List ByteArray) (a b : Tm) : Be row a b = DV [Di (Bs row a.name) (Bs row b.name), CP a.name b.name, Di a.args.length b.args.length] := by
 unfold Be
 simp only [DV]
 split
 ·rfl
 ·split
  ·rfl
  ·split
   ·rfl
   ·omega
def It : List ByteArray → List ByteArray → Int
 | _, [] => 0
 | seen, x :: xs => if BN x = true ∧ AU x = false then (if Ig x seen = true then 4 else It (seen ++ [x]) xs) else 1
def DR (row : List ByteArray) : Int := if 40 < row.length then 3 else It [] row


theorem Pl {ds : List Nat} (hds : ∀ d ∈ ds, d < 1000) {x : Option AL} (hb : ∀ b, x = some b → b.high = true) : x.map (AL.purge ds) = x := by
 cases h : x with
 | none => rfl
 | some b => rw [Option.map_some, AL.purge_high hds (hb b h)]
theorem Mg {S S1 : AA} {a0 : Nat} {b : AL} (hS : Aq S) (ha : 1000 ≤ a0) (h1 : S1 a0 = some b) (h2 : ∀ i, 1000 ≤ i → i ≠ a0 → S1 i = S i) : CS S1 = AK S a0 (some b) := by
 funext i
 show (if i < 1000 then none else S1 i) = _
 by_cases e : i = a0
 ·subst e
  rw [if_neg (by omega), AE, h1]
 ·rw [AM _ e]
  by_cases hi : i < 1000
  ·rw [if_pos hi, AQ hS hi]
  ·rw [if_neg hi, h2 i (by omega) e]
theorem Kw {S S1 : AA} {a0 : Nat} {b : AL} (hS : Aq S) (hb : b.high = true) (h1 : S1 a0 = some b) (h2 : ∀ i, 1000 ≤ i → i ≠ a0 → S1 i = S i) : ∀ i c, 1000 ≤ i → S1 i = some c → c.high = true := fun i c hi hc => by
 by_cases e : i = a0
 ·subst e
  rw [h1] at hc
  cases hc
  exact hb
 ·rw [h2 i hi e] at hc
  exact (hS i c hc).2
theorem CX {C : Ctx} {rs : List RV} {r : AV} {e : AX} {s : AS} {S : AA} {a0 : Nat} {b : AL} (r0 : AV) (hS : Aq S) (ha : 1000 ≤ a0) (hb : b.high = true) (he : match e with | .normal => True | .ret => True | _ => False)
  (h1 : (AB s rs).map AP = some r0) (h2 : outV s.S r0 = some r) (h3 : s.S a0 = some b) (h4 : ∀ i, 1000 ≤ i → i ≠ a0 → s.S i = S i) : K1 C rs r (AK S a0 (some b)) e s :=
 Kj he r0 h1 h2 (Kw hS hb h3 h4) (Mg hS ha h3 h4) (Ci hS ha hb)

def AR : IR :=
 (.seq (.ops [.i 6 (.mov (.c (.one (.st (.bool false)))))]) (.seq (.seq (.ops [.m 10 0, .i 11 (.len false (.t 10)), .m 12 1, .i 13 (.len false (.t 12)), .i 14 (.bin .neq (.t 11) (.t 13))]) (.cond (.t 14) (.seq (.ops [.i 6 (.mov (.c (.one (.st (.bool false)))))]) .ret) .skip)) (.seq (.seq (.ops [.m 15 0, .i 16 (.len false (.t 15)), .i 17 (.mov (.n 0))]) (.block 0 (.loop (.seq (.ops [.i 18 (.bin .lss (.t 17) (.t 16))]) (.seq (.cond (.t 18) .skip (.exit 0)) (.seq (.block 1 (.seq (.ops [.m 19 17, .i 20 (.indexAddr 2 (.t 15) (.t 17)), .L 21 2 20, .i 8 (.alloc 25 [.st (.str (ByteArray.mk (#[]))), .full []]), .m 7 19, .s 2 8 21]) (.seq (.ops [.m 22 1, .m 23 7, .i 24 (.indexAddr 2 (.t 22) (.t 23)), .L 25 2 24, .i 9 (.alloc 25 [.st (.str (ByteArray.mk (#[]))), .full []]), .s 2 9 25]) (.seq (.ops [.m 26 2, .L 27 2 8, .L 28 2 9, .i 29 (.callV (.t 26) [.t 27, .t 28]), .i 30 (.un .not (.t 29))]) (.cond (.t 30) (.seq (.ops [.i 6 (.mov (.c (.one (.st (.bool false)))))]) .ret) .skip))))) (.ops [.i 31 (.bin .add (.t 17) (.n 1)), .m 17 31]))))))) (.seq (.ops [.i 6 (.mov (.c (.one (.st (.bool true)))))]) .ret))))
theorem Am : OkF Try.prog 53 32 [] AR [.t 6] := .of Try.func53 rfl rfl (by kernel_rfl) rfl
def F0 : IR :=
 (.seq (.ops [.i 2 (.box 25 (.t 0)), .i 3 (.box 25 (.t 1)), .i 4 (.mov (.c (.one (.st (.bool false)))))]) (.seq (.ops [.f 5 0 2, .l 6 5, .f 7 0 3, .l 8 7, .i 9 (.bin .eql (.t 6) (.t 8)), .m 10 9, .mk (some 11) (some (10, true)) (.fieldAddr 1 (.t 2)) .no, .mk (some 12) (some (10, true)) (.load false 1 (.t 11)) .no, .mk (some 13) (some (10, true)) (.fieldAddr 1 (.t 3)) .no, .mk (some 14) (some (10, true)) (.load false 1 (.t 13)) .no, .mk (some 15) (some (10, true)) (.call 53 [.t 12, .t 14, .c (.one (.fn 47 []))]) .no, .i 16 (.pick (.t 10) (.t 15) (.c (.one (.st (.bool false))))), .m 4 16]) .ret))
theorem Jy : OkF Try.prog 47 17 [] F0 [.t 4] := .of Try.func47 rfl rfl (by kernel_rfl) rfl

theorem Tm.beqL_no {xs ys : List Tm} (h : xs ≠ ys) : Tm.beqL xs ys = false := by
 rw [← Bool.not_eq_true, Tm.beqL_iff]
 exact h
theorem LA (xs ys : List Tm) (ih : ∀ x ∈ xs, ∀ y, AW Try.prog 47 [aTm x, aTm y] (Aj (x.beq y))) :
  AW Try.prog 53 [Qm xs, Qm ys, .one (.fn 47 [])] (Aj (Tm.beqL xs ys)) := by
 have hplain : Bo Try.prog 47 = true := by kernel_rfl
 refine Am.ac fun C hC => ?_
 unfold AR
 refine IWP.learn 0 (by omega) fun hkn => ?_
 have hkx := Dt hkn
 rw [List.length_map] at hkx
 by_cases hl : xs.length = ys.length
 ·have hl' : (xs.length : Int) = ys.length := by omega
  repeat' with_reducible first | refine W ?_ | refine Z0 ?_ | ((first | refine Wo fun K hK => ?_ | refine Wp ?_ | refine Wq ?_ | refine Wr ?_); (try simp only [go_sem, fN, seval, eT, iR, hl', dT, dF, nL]); (repeat refine Ai ?_); (try (refine hK _ ?_; clear hK K)); try refine iC ?_)
  refine IWP.loopD [8, 9] (fun n s => ∃ k, k ≤ xs.length ∧ n = xs.length - k ∧ xs.take k = ys.take k ∧ s.env 1 = Qm ys ∧ s.env 2 = .one (.fn 47 []) ∧ s.env 15 = Qm xs ∧ s.env 16 = Ab xs.length ∧ s.env 17 = Ab k ∧ s.S 8 = none ∧ s.S 9 = none) xs.length ⟨0, Nat.zero_le _, rfl, rfl, rfl, rfl, rfl, by simp only [go_sem, fN, seval, eT, iR, hl'], rfl, rfl, rfl⟩ ?_
  rintro n ⟨env, S⟩ ⟨k, hk, rfl, h0, e1, e2, e15, e16, e17, s8, s9⟩
  simp only at e1 e2 e15 e16 e17 s8 s9
  by_cases hlt : (k : Int) < xs.length
  ·obtain ⟨x, hx⟩ := Ar (show k < xs.length by omega)
   obtain ⟨y, hy⟩ := Ar (show k < ys.length by omega)
   repeat' with_reducible first | refine W ?_ | refine Z0 ?_ | ((first | refine Wo fun K hK => ?_ | refine Wp ?_ | refine Wq ?_ | refine Wr ?_); (try simp only [go_sem, fN, seval, eT, iR, e1, e2, e15, e16, e17, s8, s9, hlt, hx, hy, hplain, dT, dF, nL]); (repeat refine Ai ?_); (try (refine hK _ ?_; clear hK K)); try refine iC ?_)
   refine ⟨_, _, (ih x (Ae hx) y).toS rfl, ?_⟩
   cases hxy : x.beq y with
   | false =>
    repeat' with_reducible first | refine W ?_ | refine Z0 ?_ | ((first | refine Wo fun K hK => ?_ | refine Wp ?_ | refine Wq ?_ | refine Wr ?_); (try simp only [go_sem, fN, seval, eT, iR, hxy, dT, dF, nL]); (repeat refine Ai ?_); (try (refine hK _ ?_; clear hK K)); try refine iC ?_)
    simp only [go_sem, fN, seval, AZ, AS.result, AB, AF, AP]
    rw [Tm.beqL_no fun e => by
     subst e
     rw [hx] at hy
     cases hy
     rw [Tm.beq_refl] at hxy
     cases hxy]
   | true =>
    have hxy' := (Tm.beq_iff x y).1 hxy
    repeat' with_reducible first | refine W ?_ | refine Z0 ?_ | ((first | refine Wo fun K hK => ?_ | refine Wp ?_ | refine Wq ?_ | refine Wr ?_); (try simp only [go_sem, fN, seval, eT, iR, hxy, e1, e2, e15, e16, e17, s8, s9, dT, dF, nL]); (repeat refine Ai ?_); (try (refine hK _ ?_; clear hK K)); try refine iC ?_)
    refine AI ⟨xs.length - (k + 1), by omega, k + 1, by omega, rfl, ?_, ?_⟩
    ·rw [Au hx, Au hy, h0, hxy']
    ·simp only [go_sem, fN, seval, AS.drop, BW, AC.clears, AC.clear, AC.highs, AC.high, Bool.not_false, Bool.true_and, Bool.and_self, AV.purge, AV.purges, AC.purge, AL.purge, List.contains_cons, List.contains_nil, Nat.reduceBEq, Bool.or_self, Bool.or_false, Bool.false_or, Bool.or_true, eT, iR, e1, e2, e15, e16, e17, s8, s9]
     congr 3
  ·repeat' with_reducible first | refine W ?_ | refine Z0 ?_ | ((first | refine Wo fun K hK => ?_ | refine Wp ?_ | refine Wq ?_ | refine Wr ?_); (try simp only [go_sem, fN, seval, eT, iR, e1, e2, e15, e16, e17, hlt, dT, dF, nL]); (repeat refine Ai ?_); (try (refine hK _ ?_; clear hK K)); try refine iC ?_)
   simp only [go_sem, fN, seval, AZ, AS.result, AB, AF, AP]
   rw [List.take_of_length_le (by omega), List.take_of_length_le (by omega)] at h0
   rw [(Tm.beqL_iff xs ys).2 h0]
 ·have hl' : ¬ (xs.length : Int) = ys.length := by omega
  repeat' with_reducible first | refine W ?_ | refine Z0 ?_ | ((first | refine Wo fun K hK => ?_ | refine Wp ?_ | refine Wq ?_ | refine Wr ?_); (try simp only [go_sem, fN, seval, eT, iR, hl', dT, dF, nL]); (repeat refine Ai ?_); (try (refine hK _ ?_; clear hK K)); try refine iC ?_)
  simp only [go_sem, fN, seval, AZ, AS.result, AB, AF, AP]
  rw [Tm.beqL_no fun e => hl (by rw [e])]
theorem Lg (a b : Tm) : AW Try.prog 47 [aTm a, aTm b] (Aj (a.beq b)) := by
 induction h : SizeOf.sizeOf a using Nat.strongRecOn generalizing a b with
 | _ N ih =>
 subst h
 have hE := LA a.args b.args fun x hx y => ih _ (Tm.lt_of_arg hx) x y rfl
 have he : a.beq b = (decide (a.name = b.name) && Tm.beqL a.args b.args) := by cases a; cases b; rfl
 refine Jy.ac fun C hC => ?_
 unfold F0
 by_cases hn : a.name = b.name
 ·repeat' (first | (with_reducible first | refine W ?_ | refine Z0 ?_ | ((first | refine Wo fun K hK => ?_ | refine Wp ?_ | refine Wq ?_ | refine Wr ?_); (try simp only [go_sem, fN, seval, eT, iR, hn, dT, dF, nL]); (repeat refine Ai ?_); (try (refine hK _ ?_; clear hK K)); try refine iC ?_)) | refine Cg _ (hE) ?_)
  simp only [go_sem, fN, seval, AZ, AS.result, AB, AF, AP]
  rw [he, decide_eq_true hn]
  rfl
 ·repeat' with_reducible first | refine W ?_ | refine Z0 ?_ | ((first | refine Wo fun K hK => ?_ | refine Wp ?_ | refine Wq ?_ | refine Wr ?_); (try simp only [go_sem, fN, seval, eT, iR, hn, dT, dF, nL]); (repeat refine Ai ?_); (try (refine hK _ ?_; clear hK K)); try refine iC ?_)
  simp only [go_sem, fN, seval, AZ, AS.result, AB, AF, AP]
  rw [he, decide_eq_false hn]
  rfl



set_option maxHeartbeats 1000000
theorem Ko (l : List ByteArray) (x : ByteArray) : AW Try.prog 46 [Cr l, CO x] (Ab (Bs l x)) := by
 refine Ch.ac fun C hC => ?_
 unfold Bf
 refine IWP.learn 0 (by omega) fun hkn => ?_
 have hkn := Dt hkn
 rw [List.length_map] at hkn
 repeat' with_reducible first | refine W ?_ | refine Z0 ?_ | ((first | refine Wo fun K hK => ?_ | refine Wp ?_ | refine Wq ?_ | refine Wr ?_); (try simp only [go_sem, fN, seval, eT, iR, dT, dF, nL]); (repeat refine Ai ?_); (try (refine hK _ ?_; clear hK K)); try refine iC ?_)
 refine IWP.loop (fun n s => ∃ k, k ≤ l.length ∧ n = l.length - k ∧ Bs l x = Hw (l.drop k) x k ∧ s.env 0 = Cr l ∧ s.env 1 = CO x ∧ s.env 7 = Ab l.length ∧ s.env 8 = Ab k) l.length ⟨0, Nat.zero_le _, rfl, rfl, rfl, rfl, rfl, rfl⟩ ?_
 rintro n ⟨env, S⟩ ⟨k, hk, rfl, hr, e0, e1, e7, e8⟩
 simp only at e0 e1 e7 e8
 by_cases hlt : (k : Int) < l.length
 ·obtain ⟨a, ha⟩ := Ar (show k < l.length by omega)
  rw [Bz ha, Hw] at hr
  by_cases he : x = a
  ·subst he
   rw [if_pos rfl] at hr
   repeat' with_reducible first | refine W ?_ | refine Z0 ?_ | ((first | refine Wo fun K hK => ?_ | refine Wp ?_ | refine Wq ?_ | refine Wr ?_); (try simp only [go_sem, fN, seval, eT, iR, e0, e1, e7, e8, hlt, ha, dT, dF, nL]); (repeat refine Ai ?_); (try (refine hK _ ?_; clear hK K)); try refine iC ?_)
   simp only [go_sem, fN, seval, AZ, AS.result, AB, AF, AP]
   rw [hr]
  ·rw [if_neg fun e => he e.symm] at hr
   repeat' with_reducible first | refine W ?_ | refine Z0 ?_ | ((first | refine Wo fun K hK => ?_ | refine Wp ?_ | refine Wq ?_ | refine Wr ?_); (try simp only [go_sem, fN, seval, eT, iR, e0, e1, e7, e8, hlt, ha, he, dT, dF, nL]); (repeat refine Ai ?_); (try (refine hK _ ?_; clear hK K)); try refine iC ?_)
   refine AI ⟨l.length - (k + 1), by omega, k + 1, by omega, rfl, by rw [hr]; rfl, ?_⟩
   simp only [go_sem, fN, seval, eT, iR, e0, e1, e7, e8]
   congr 3
 ·rw [List.drop_of_length_le (by omega), Hw] at hr
  repeat' with_reducible first | refine W ?_ | refine Z0 ?_ | ((first | refine Wo fun K hK => ?_ | refine Wp ?_ | refine Wq ?_ | refine Wr ?_); (try simp only [go_sem, fN, seval, eT, iR, e0, e1, e7, e8, hlt, dT, dF, nL]); (repeat refine Ai ?_); (try (refine hK _ ?_; clear hK K)); try refine iC ?_)
  simp only [go_sem, fN, seval, AZ, AS.result, AB, AF, AP]
  rw [hr]
theorem Dn (x : Int) : AW Try.prog 68 [Ab x] (Aj false) := by
 refine GL.ac fun C hC => ?_
 unfold Dj
 repeat' with_reducible first | refine W ?_ | refine Z0 ?_ | ((first | refine Wo fun K hK => ?_ | refine Wp ?_ | refine Wq ?_ | refine Wr ?_); (try simp only [go_sem, fN, seval, eT, iR, dT, dF, nL]); (repeat refine Ai ?_); (try (refine hK _ ?_; clear hK K)); try refine iC ?_)
 simp only [go_sem, fN, seval, AZ, AS.result, AB, AF, AP]
theorem Lf (x y : Int) : AW Try.prog 55 [Ab x, Ab y] (Ab (Di x y)) := by
 refine Fn.ac fun C hC => ?_
 unfold DL
 rcases Int.lt_trichotomy x y with h | h | h
 ·have hc : Di x y = -1 := by unfold Di; rw [if_pos h]
  rw [hc]
  repeat' (first | (with_reducible first | refine W ?_ | refine Z0 ?_ | ((first | refine Wo fun K hK => ?_ | refine Wp ?_ | refine Wq ?_ | refine Wr ?_); (try simp only [go_sem, fN, seval, eT, iR, h, dT, dF, nL]); (repeat refine Ai ?_); (try (refine hK _ ?_; clear hK K)); try refine iC ?_)) | refine Cg _ (Dn x) ?_ | refine Cg _ (Dn y) ?_)
  simp only [go_sem, fN, seval, AZ, AS.result, AB, AF, AP]
 ·have hc : Di x y = 0 := Dl.2 h
  have h1 : ¬ y < y := by omega
  rw [hc]
  repeat' (first | (with_reducible first | refine W ?_ | refine Z0 ?_ | ((first | refine Wo fun K hK => ?_ | refine Wp ?_ | refine Wq ?_ | refine Wr ?_); (try simp only [go_sem, fN, seval, eT, iR, h, h1, dT, dF, nL]); (repeat refine Ai ?_); (try (refine hK _ ?_; clear hK K)); try refine iC ?_)) | refine Cg _ (Dn x) ?_ | refine Cg _ (Dn y) ?_)
  simp only [go_sem, fN, seval, AZ, AS.result, AB, AF, AP]
 ·have hc : Di x y = 1 := by unfold Di; rw [if_neg (by omega), if_pos h]
  have h1 : ¬ x < y := by omega
  rw [hc]
  repeat' (first | (with_reducible first | refine W ?_ | refine Z0 ?_ | ((first | refine Wo fun K hK => ?_ | refine Wp ?_ | refine Wq ?_ | refine Wr ?_); (try simp only [go_sem, fN, seval, eT, iR, h, h1, dT, dF, nL]); (repeat refine Ai ?_); (try (refine hK _ ?_; clear hK K)); try refine iC ?_)) | refine Cg _ (Dn x) ?_ | refine Cg _ (Dn y) ?_)
  simp only [go_sem, fN, seval, AZ, AS.result, AB, AF, AP]
theorem Rg (l : List Int) : AW Try.prog 54 [EK l] (Ab (DV l)) := by
 refine Ic.ac fun C hC => ?_
 unfold FM
 refine IWP.learn 0 (by omega) fun hkn => ?_
 have hkn := Dt hkn
 rw [List.length_map] at hkn
 repeat' with_reducible first | refine W ?_ | refine Z0 ?_ | ((first | refine Wo fun K hK => ?_ | refine Wp ?_ | refine Wq ?_ | refine Wr ?_); (try simp only [go_sem, fN, seval, eT, iR, dT, dF, nL]); (repeat refine Ai ?_); (try (refine hK _ ?_; clear hK K)); try refine iC ?_)
 refine IWP.loop (fun n s => ∃ k, k ≤ l.length ∧ n = l.length - k ∧ DV l = DV (l.drop k) ∧ s.env 3 = Ab 0 ∧ s.env 6 = EK l ∧ s.env 7 = Ab l.length ∧ s.env 8 = Ab k) l.length ⟨0, Nat.zero_le _, rfl, rfl, rfl, rfl, rfl, rfl⟩ ?_
 rintro n ⟨env, S⟩ ⟨k, hk, rfl, hr, e3, e6, e7, e8⟩
 simp only at e3 e6 e7 e8
 by_cases hlt : (k : Int) < l.length
 ·obtain ⟨a, ha⟩ := Ar (show k < l.length by omega)
  rw [Bz ha, DV] at hr
  by_cases he : a = 0
  ·rw [if_neg (by omega)] at hr
   repeat' with_reducible first | refine W ?_ | refine Z0 ?_ | ((first | refine Wo fun K hK => ?_ | refine Wp ?_ | refine Wq ?_ | refine Wr ?_); (try simp only [go_sem, fN, seval, eT, iR, e3, e6, e7, e8, hlt, ha, he, dT, dF, nL]); (repeat refine Ai ?_); (try (refine hK _ ?_; clear hK K)); try refine iC ?_)
   refine AI ⟨l.length - (k + 1), by omega, k + 1, by omega, rfl, hr, ?_⟩
   simp only [go_sem, fN, seval, eT, iR, e3, e6, e7, e8]
   congr 3
  ·rw [if_pos he] at hr
   repeat' with_reducible first | refine W ?_ | refine Z0 ?_ | ((first | refine Wo fun K hK => ?_ | refine Wp ?_ | refine Wq ?_ | refine Wr ?_); (try simp only [go_sem, fN, seval, eT, iR, e3, e6, e7, e8, hlt, ha, he, dT, dF, nL]); (repeat refine Ai ?_); (try (refine hK _ ?_; clear hK K)); try refine iC ?_)
   simp only [go_sem, fN, seval, AZ, AS.result, AB, AF, AP]
   rw [hr]
 ·rw [List.drop_of_length_le (by omega), DV] at hr
  repeat' with_reducible first | refine W ?_ | refine Z0 ?_ | ((first | refine Wo fun K hK => ?_ | refine Wp ?_ | refine Wq ?_ | refine Wr ?_); (try simp only [go_sem, fN, seval, eT, iR, e3, e6, e7, e8, hlt, dT, dF, nL]); (repeat refine Ai ?_); (try (refine hK _ ?_; clear hK K)); try refine iC ?_)
  simp only [go_sem, fN, seval, AZ, AS.result, AB, AF, AP]
  rw [hr]
theorem Nq (row : List ByteArray) (a b : Tm) : AW Try.prog 48 [Cr row, aTm a, aTm b] (Ab (Be row a b)) := by
 have h := MV row a b
 have ho := Rg [Di (Bs row a.name) (Bs row b.name), CP a.name b.name, Di a.args.length b.args.length]
 rw [← h] at ho
 refine GT.ac fun C hC => ?_
 unfold Ds
 repeat' (first | (with_reducible first | refine W ?_ | refine Z0 ?_ | ((first | refine Wo fun K hK => ?_ | refine Wp ?_ | refine Wq ?_ | refine Wr ?_); (try simp only [go_sem, fN, seval, eT, iR, dT, dF, nL]); (repeat refine Ai ?_); (try (refine hK _ ?_; clear hK K)); try refine iC ?_)) | refine Cg _ (Ko row a.name) ?_ | refine Cg _ (Ko row b.name) ?_ | refine Cg _ (Lf _ _) ?_ | refine Cg _ (JU a.name b.name) ?_ | refine Cg _ (ho) ?_)
 simp only [go_sem, fN, seval, AZ, AS.result, AB, AF, AP]
theorem HX (row : List ByteArray) : AW Try.prog 29 [Cr row] (Ab (DR row)) := by
 refine HP.ac fun C hC => ?_
 unfold Ei
 by_cases h40 : 40 < row.length
 ·have h40' : (40 : Int) < row.length := by omega
  repeat' with_reducible first | refine W ?_ | refine Z0 ?_ | ((first | refine Wo fun K hK => ?_ | refine Wp ?_ | refine Wq ?_ | refine Wr ?_); (try simp only [go_sem, fN, seval, eT, iR, h40', dT, dF, nL]); (repeat refine Ai ?_); (try (refine hK _ ?_; clear hK K)); try refine iC ?_)
  simp only [go_sem, fN, seval, AZ, AS.result, AB, AF, AP]
  unfold DR
  rw [if_pos h40]
 ·have h40' : ¬ (40 : Int) < row.length := by omega
  have hm : DR row = It [] row := by unfold DR; rw [if_neg h40]
  repeat' with_reducible first | refine W ?_ | refine Z0 ?_ | ((first | refine Wo fun K hK => ?_ | refine Wp ?_ | refine Wq ?_ | refine Wr ?_); (try simp only [go_sem, fN, seval, eT, iR, h40', dT, dF, nL]); (repeat refine Ai ?_); (try (refine hK _ ?_; clear hK K)); try refine iC ?_)
  refine IWP.loop (fun n s => ∃ k, k ≤ row.length ∧ n = row.length - k ∧ DR row = It (row.take k) (row.drop k) ∧ s.env 0 = Cr row ∧ s.env 8 = Cr row ∧ s.env 9 = Ab row.length ∧ s.env 10 = Ab k) row.length ⟨0, Nat.zero_le _, rfl, hm, rfl, rfl, rfl, rfl⟩ ?_
  rintro n ⟨env, S⟩ ⟨k, hk, rfl, hr, e0, e8, e9, e10⟩
  simp only at e0 e8 e9 e10
  by_cases hlt : (k : Int) < row.length
  ·obtain ⟨a, ha⟩ := Ar (show k < row.length by omega)
   rw [Bz ha, It] at hr
   have htk : (row.map Kc).take k = (row.take k).map Kc := (List.map_take).symm
   have hw1 : ∀ x ∈ row.map Kc, x.length = 1 := Nm
   repeat' with_reducible first | refine W ?_ | refine Z0 ?_ | ((first | refine Wo fun K hK => ?_ | refine Wp ?_ | refine Wq ?_ | refine Wr ?_); (try simp only [go_sem, fN, seval, eT, iR, e0, e8, e9, e10, hlt, ha, dT, dF, nL]); (repeat refine Ai ?_); (try (refine hK _ ?_; clear hK K)); try refine iC ?_)
   refine ⟨_, Fd a, ?_⟩
   cases h1 : BN a with
   | false =>
    rw [if_neg (by rw [h1]; simp)] at hr
    repeat' with_reducible first | refine W ?_ | refine Z0 ?_ | ((first | refine Wo fun K hK => ?_ | refine Wp ?_ | refine Wq ?_ | refine Wr ?_); (try simp only [go_sem, fN, seval, eT, iR, h1, e0, e8, e9, e10, dT, dF, nL]); (repeat refine Ai ?_); (try (refine hK _ ?_; clear hK K)); try refine iC ?_)
    simp only [go_sem, fN, seval, AZ, AS.result, AB, AF, AP]
    rw [hr]
   | true =>
    repeat' with_reducible first | refine W ?_ | refine Z0 ?_ | ((first | refine Wo fun K hK => ?_ | refine Wp ?_ | refine Wq ?_ | refine Wr ?_); (try simp only [go_sem, fN, seval, eT, iR, h1, e0, e8, e9, e10, dT, dF, nL]); (repeat refine Ai ?_); (try (refine hK _ ?_; clear hK K)); try refine iC ?_)
    refine ⟨_, Ax a, ?_⟩
    cases h2 : AU a with
    | true =>
     rw [if_neg (by rw [h2]; simp)] at hr
     repeat' with_reducible first | refine W ?_ | refine Z0 ?_ | ((first | refine Wo fun K hK => ?_ | refine Wp ?_ | refine Wq ?_ | refine Wr ?_); (try simp only [go_sem, fN, seval, eT, iR, h1, h2, e0, e8, e9, e10, dT, dF, nL]); (repeat refine Ai ?_); (try (refine hK _ ?_; clear hK K)); try refine iC ?_)
     simp only [go_sem, fN, seval, AZ, AS.result, AB, AF, AP]
     rw [hr]
    | false =>
     rw [if_pos ⟨h1, h2⟩] at hr
     repeat' with_reducible first | refine W ?_ | refine Z0 ?_ | ((first | refine Wo fun K hK => ?_ | refine Wp ?_ | refine Wq ?_ | refine Wr ?_); (try simp only [go_sem, fN, seval, eT, iR, h1, h2, e0, e8, e9, e10, dT, dF, nL]); (repeat refine Ai ?_); (try (refine hK _ ?_; clear hK K)); try refine iC ?_)
     have hcon : AW Try.prog 39 [.one (.st (.list ((row.map Kc).take k))), CO a] (Aj (Ig a (row.take k))) := by
      rw [htk]
      exact MA _ _
     refine ⟨_, hcon, ?_⟩
     cases h3 : Ig a (row.take k) with
     | true =>
      rw [if_pos h3] at hr
      repeat' with_reducible first | refine W ?_ | refine Z0 ?_ | ((first | refine Wo fun K hK => ?_ | refine Wp ?_ | refine Wq ?_ | refine Wr ?_); (try simp only [go_sem, fN, seval, eT, iR, h3, e0, e8, e9, e10, dT, dF, nL]); (repeat refine Ai ?_); (try (refine hK _ ?_; clear hK K)); try refine iC ?_)
      simp only [go_sem, fN, seval, AZ, AS.result, AB, AF, AP]
      rw [hr]
     | false =>
      rw [if_neg (by rw [h3]; simp), ← Au ha] at hr
      repeat' with_reducible first | refine W ?_ | refine Z0 ?_ | ((first | refine Wo fun K hK => ?_ | refine Wp ?_ | refine Wq ?_ | refine Wr ?_); (try simp only [go_sem, fN, seval, eT, iR, h3, e0, e8, e9, e10, dT, dF, nL]); (repeat refine Ai ?_); (try (refine hK _ ?_; clear hK K)); try refine iC ?_)
      refine AI ⟨row.length - (k + 1), by omega, k + 1, by omega, rfl, hr, ?_⟩
      simp only [go_sem, fN, seval, eT, iR, e0, e8, e9, e10]
      congr 3
  ·rw [List.drop_of_length_le (by omega), It] at hr
   repeat' with_reducible first | refine W ?_ | refine Z0 ?_ | ((first | refine Wo fun K hK => ?_ | refine Wp ?_ | refine Wq ?_ | refine Wr ?_); (try simp only [go_sem, fN, seval, eT, iR, e0, e8, e9, e10, hlt, dT, dF, nL]); (repeat refine Ai ?_); (try (refine hK _ ?_; clear hK K)); try refine iC ?_)
   simp only [go_sem, fN, seval, AZ, AS.result, AB, AF, AP]
   rw [hr]
def C7 (row : List ByteArray) (a b : Tm) : Int := if DR row = 0 then Bx a b else DR row
theorem Gp (row : List ByteArray) (a b : Tm) : AW Try.prog 19 [Cr row, aTm a, aTm b] (Ab (C7 row a b)) := by
 unfold C7
 refine Ii.ac fun C hC => ?_
 unfold FU
 by_cases h : DR row = 0
 ·repeat' (first | (with_reducible first | refine W ?_ | refine Z0 ?_ | ((first | refine Wo fun K hK => ?_ | refine Wp ?_ | refine Wq ?_ | refine Wr ?_); (try simp only [go_sem, fN, seval, eT, iR, h, dT, dF, nL]); (repeat refine Ai ?_); (try (refine hK _ ?_; clear hK K)); try refine iC ?_)) | refine Cg _ (HX row) ?_ | refine Cg _ (Q9 a b) ?_)
  simp only [go_sem, fN, seval, AZ, AS.result, AB, AF, AP, h]
 ·repeat' (first | (with_reducible first | refine W ?_ | refine Z0 ?_ | ((first | refine Wo fun K hK => ?_ | refine Wp ?_ | refine Wq ?_ | refine Wr ?_); (try simp only [go_sem, fN, seval, eT, iR, h, dT, dF, nL]); (repeat refine Ai ?_); (try (refine hK _ ?_; clear hK K)); try refine iC ?_)) | refine Cg _ (HX row) ?_)
  simp only [go_sem, fN, seval, AZ, AS.result, AB, AF, AP, h]
theorem Jc {row : List ByteArray} {a b : Tm} (h : C7 row a b = 0) : DR row = 0 ∧ a.may = 0 ∧ b.may = 0 := by
 unfold C7 Bx at h
 split at h
 ·rename_i h1
  split at h
  ·rename_i h2
   exact ⟨h1, h2, h⟩
  ·rename_i h2
   exact absurd h h2
 ·rename_i h1
  exact absurd h h1

def Eu (row : List ByteArray) (cs ds : List SV) (x : SV) : Prop := ∃ a b, cs = Ay a ∧ ds = Ay b ∧ x = .bool (paB row a b)
def GO (row : List ByteArray) (m : Nat) : AL := .box 74 [.st (.list (row.map Kc)), .mptr m]
abbrev Gz (t : Tm) : AV := .one (.eptr [.str t.name, .list (t.args.map Ay)])
theorem Og {row : List ByteArray} {a b : Tm} {cs ds : List SV} {x : SV} (h1 : Nb (Ay a) cs) (h2 : Nb (Ay b) ds) (h : Eu row cs ds x) : x = .bool (paB row a b) := by
 obtain ⟨a', b', rfl, rfl, rfl⟩ := h
 rw [M1 h1, M1 h2]
def GU (row : List ByteArray) (a b : Tm) : Prop := ∀ (p m : Nat) (S : AA), 1000 ≤ p → 1000 ≤ m → S p = some (GO row m) → S m = some (.memo (Eu row)) →
 An Try.prog 31 [.one (.ptr p 1 0 0), Gz a, Gz b] S (Aj (paB row a b)) S
def RL (row : List ByteArray) (a b : Tm) : Prop := ∀ (p m : Nat) (S : AA), 1000 ≤ p → 1000 ≤ m → S p = some (GO row m) → S m = some (.memo (Eu row)) →
 An Try.prog 40 [.one (.ptr p 1 0 0), Gz a, Gz b] S (Aj (paB row a b)) S
theorem Qn {row : List ByteArray} {a b : Tm} (hask : AU a.name = false → RL row a b) : GU row a b := fun p m S hp hm sp sm => by
 refine Cb.acS fun hS C hC => ?_
 unfold Bc
 have n7 : S 7 = none := AQ hS (by omega)
 have p7 : ¬ p = 7 := by omega
 have m7 : ¬ m = 7 := by omega
 unfold GO at sp
 cases hv : AU a.name with
 | true =>
  repeat' (first | (with_reducible first | refine W ?_ | refine Z0 ?_ | ((first | refine Wo fun K hK => ?_ | refine Wp ?_ | refine Wq ?_ | refine Wr ?_); (try simp only [go_sem, fN, seval, eT, iR, hv, dT, dF, nL]); (repeat refine Ai ?_); (try (refine hK _ ?_; clear hK K)); try refine iC ?_)) | refine Cg _ (Ax a.name) ?_)
  refine A3 (Aj false) hS trivial ?_ ?_ fun _ _ => rfl
  ·simp only [go_sem, fN, seval, eT, iR, AB, AF, AP]
  ·simp only [go_sem, fN, seval, eT, iR]
   rw [QL hv]
 | false =>
  repeat' (first | (with_reducible first | refine W ?_ | refine Z0 ?_ | ((first | refine Wo fun K hK => ?_ | refine Wp ?_ | refine Wq ?_ | refine Wr ?_); (try simp only [go_sem, fN, seval, eT, iR, hv, n7, p7, m7, sp, sm, AS.caps, De, GN, Mf, dT, dF, nL]); (repeat refine Ai ?_); (try (refine hK _ ?_; clear hK K)); try refine iC ?_)) | refine Cg _ (Ax a.name) ?_)
  refine ⟨rfl, ?_, fun cs' ds' x t1 t2 hf => ?_⟩
  ·refine hK _ ?_
   clear hK K
   refine Wb ?_
   repeat' with_reducible first | refine W ?_ | refine Z0 ?_ | ((first | refine Wo fun K hK => ?_ | refine Wp ?_ | refine Wq ?_ | refine Wr ?_); (try simp only [go_sem, fN, seval, eT, iR, hv, n7, p7, m7, sp, sm, dT, dF, nL]); (repeat refine Ai ?_); (try (refine hK _ ?_; clear hK K)); try refine iC ?_)
   refine ⟨_, [(p, GO row m), (m, .memo (Eu row))], fun q hq => ?_, fun T hT => hask hv (up1 p) (up1 m) (upS T) (A5 p) (A5 m) (by rw [A7, hT (p, GO row m) (by simp)]; rfl) (by rw [A7, hT (m, .memo (Eu row)) (by simp)]; rfl), ?_⟩
   ·simp only [List.mem_cons, List.not_mem_nil, or_false] at hq
    rcases hq with rfl | rfl
    ·simp only [go_sem, fN, seval, eT, iR, p7, sp, GO]
    ·simp only [go_sem, fN, seval, eT, iR, m7, sm]
   repeat' with_reducible first | refine W ?_ | refine Z0 ?_ | ((first | refine Wo fun K hK => ?_ | refine Wp ?_ | refine Wq ?_ | refine Wr ?_); (try simp only [go_sem, fN, seval, eT, iR, hv, n7, p7, m7, sp, sm, AS.caps, De, GN, dT, dF, nL]); (repeat refine Ai ?_); (try (refine hK _ ?_; clear hK K)); try refine iC ?_)
   refine ⟨rfl, ⟨a, b, (Ac a).symm, (Ac b).symm, rfl⟩, ?_⟩
   refine hK _ ?_
   clear hK K
   refine Wb ?_
   repeat' with_reducible first | refine W ?_ | refine Z0 ?_ | ((first | refine Wo fun K hK => ?_ | refine Wp ?_ | refine Wq ?_ | refine Wr ?_); (try simp only [go_sem, fN, seval, eT, iR, n7, dT, dF, nL]); (repeat refine Ai ?_); (try (refine hK _ ?_; clear hK K)); try refine iC ?_)
   refine A3 (Aj (paB row a b)) hS trivial ?_ ?_ fun k hk => ?_
   ·simp only [go_sem, fN, seval, eT, iR, AB, AF, AP]
   ·rfl
   ·have k7 : ¬ k = 7 := by omega
    simp only [go_sem, fN, seval, eT, iR, k7]
  ·have hx := Og (a := a) (b := b) (by rw [Ac]; exact t1) (by rw [Ac]; exact t2) hf
   subst hx
   refine hK _ ?_
   clear hK K
   refine Wb ?_
   repeat' with_reducible first | refine W ?_ | refine Z0 ?_ | ((first | refine Wo fun K hK => ?_ | refine Wp ?_ | refine Wq ?_ | refine Wr ?_); (try simp only [go_sem, fN, seval, eT, iR, hv, n7, p7, m7, sp, sm, dT, dF, nL]); (repeat refine Ai ?_); (try (refine hK _ ?_; clear hK K)); try refine iC ?_)
   refine A3 (Aj (paB row a b)) hS trivial ?_ ?_ fun k hk => ?_
   ·simp only [go_sem, fN, seval, eT, iR, AB, AF, AP]
   ·rfl
   ·have k7 : ¬ k = 7 := by omega
    simp only [go_sem, fN, seval, eT, iR, k7]
theorem KD {a b : Tm} : a.beq b = true ↔ a = b := Tm.beq_iff a b
theorem RY {row : List ByteArray} {a b : Tm} (hv : AU a.name = false) (ha : a.size ≤ 1000000) (hb : b.size ≤ 1000000) (ih1 : ∀ x ∈ a.args, GU row x b) (ih2 : ∀ y ∈ b.args, GU row a y) (ih3 : ∀ x ∈ a.args, ∀ y ∈ b.args, GU row x y) : RL row a b := fun p m S hp hm sp sm => by
 refine Cx.acS fun hS C hC => ?_
 unfold Br
 have hla := Tm.length_le a.args
 have hlb := Tm.length_le b.args
 have hsa := Tm.size_eq a
 have hsb := Tm.size_eq b
 have sp0 := sp
 unfold GO at sp
 have rows : ∀ q ∈ [(p, GO row m), (m, AL.memo (Eu row))], S q.1 = some q.2 := fun q hq => by
  simp only [List.mem_cons, List.not_mem_nil, or_false] at hq
  rcases hq with rfl | rfl
  ·exact sp0
  ·exact sm
 have call : ∀ x y : Tm, GU row x y → ∀ T : AA, (∀ q ∈ [(p, GO row m), (m, AL.memo (Eu row))], T q.1 = some q.2) → An Try.prog 31 [.one (.ptr (up1 p) 1 0 0), Gz x, Gz y] (upS T) (Aj (paB row x y)) (upS T) := fun x y h T hT =>
  h (up1 p) (up1 m) (upS T) (A5 p) (A5 m) (by rw [A7, hT (p, GO row m) (by simp)]; rfl) (by rw [A7, hT (m, .memo (Eu row)) (by simp)]; rfl)
 repeat' with_reducible first | refine W ?_ | refine Z0 ?_ | ((first | refine Wo fun K hK => ?_ | refine Wp ?_ | refine Wq ?_ | refine Wr ?_); (try simp only [go_sem, fN, seval, eT, iR, dT, dF, nL]); (repeat refine Ai ?_); (try (refine hK _ ?_; clear hK K)); try refine iC ?_)
 refine IWP.loop (fun n s => ∃ k, k ≤ a.args.length ∧ n = a.args.length - k ∧ (∀ x ∈ a.args.take k, x ≠ b ∧ paB row x b = false) ∧ s.env 0 = .one (.ptr p 1 0 0) ∧ s.env 1 = Gz a ∧ s.env 2 = Gz b ∧ s.env 6 = Aj false ∧ s.env 15 = Ab a.args.length ∧ s.env 16 = Ab k ∧ s.S = S) a.args.length ⟨0, Nat.zero_le _, rfl, by simp, by (simp only [go_sem, fN, seval, eT, iR]), by (simp only [go_sem, fN, seval, eT, iR]), by (simp only [go_sem, fN, seval, eT, iR]), by (simp only [go_sem, fN, seval, eT, iR]), by (simp only [go_sem, fN, seval, eT, iR]), by (simp only [go_sem, fN, seval, eT, iR]), rfl⟩ ?_
 rintro n ⟨env, S1⟩ ⟨k, hk, rfl, hno, e0, e1, e2, e6, e15, e16, hS1⟩
 simp only at e0 e1 e2 e6 e15 e16 hS1
 subst hS1
 by_cases hlt : (k : Int) < a.args.length
 ·obtain ⟨x, hx⟩ := Ar (show k < a.args.length by omega)
  have hxm := Ae hx
  cases hxb : x.beq b with
  | true =>
   repeat' (first | (with_reducible first | refine W ?_ | refine Z0 ?_ | ((first | refine Wo fun K hK => ?_ | refine Wp ?_ | refine Wq ?_ | refine Wr ?_); (try simp only [go_sem, fN, seval, eT, iR, e0, e1, e2, e6, e15, e16, hlt, hx, hxb, Ac, dT, dF, nL]); (repeat refine Ai ?_); (try (refine hK _ ?_; clear hK K)); try refine iC ?_)) | refine Cg _ (Lg x b) ?_)
   refine A3 (Aj true) hS trivial ?_ ?_ fun _ _ => rfl
   ·simp only [go_sem, fN, seval, eT, iR, AB, AF, AP]
   ·simp only [go_sem, fN, seval, eT, iR]
    rw [Mu hv hxm (.inl (KD.1 hxb))]
  | false =>
   repeat' (first | (with_reducible first | refine W ?_ | refine Z0 ?_ | ((first | refine Wo fun K hK => ?_ | refine Wp ?_ | refine Wq ?_ | refine Wr ?_); (try simp only [go_sem, fN, seval, eT, iR, e0, e1, e2, e6, e15, e16, hlt, hx, hxb, Ac, dT, dF, nL]); (repeat refine Ai ?_); (try (refine hK _ ?_; clear hK K)); try refine iC ?_)) | refine Cg _ (Lg x b) ?_)
   refine ⟨_, _, rows, call x b (ih1 x hxm), ?_⟩
   cases hp1 : paB row x b with
   | true =>
    repeat' with_reducible first | refine W ?_ | refine Z0 ?_ | ((first | refine Wo fun K hK => ?_ | refine Wp ?_ | refine Wq ?_ | refine Wr ?_); (try simp only [go_sem, fN, seval, eT, iR, e0, e1, e2, e6, e15, e16, hlt, hx, hxb, hp1, Ac, dT, dF, nL]); (repeat refine Ai ?_); (try (refine hK _ ?_; clear hK K)); try refine iC ?_)
    refine A3 (Aj true) hS trivial ?_ ?_ fun _ _ => rfl
    ·simp only [go_sem, fN, seval, eT, iR, AB, AF, AP]
    ·simp only [go_sem, fN, seval, eT, iR]
     rw [Mu hv hxm (.inr hp1)]
   | false =>
    repeat' with_reducible first | refine W ?_ | refine Z0 ?_ | ((first | refine Wo fun K hK => ?_ | refine Wp ?_ | refine Wq ?_ | refine Wr ?_); (try simp only [go_sem, fN, seval, eT, iR, e0, e1, e2, e6, e15, e16, hlt, hx, hxb, hp1, Ac, dT, dF, nL]); (repeat refine Ai ?_); (try (refine hK _ ?_; clear hK K)); try refine iC ?_)
    refine AI ⟨a.args.length - (k + 1), by omega, k + 1, by omega, rfl, fun y hy => ?_, ?_⟩
    ·rw [Au hx, List.mem_append, List.mem_singleton] at hy
     rcases hy with hy | rfl
     ·exact hno y hy
     ·exact ⟨fun e => (by rw [KD.2 e] at hxb; cases hxb), hp1⟩
    ·simp only [go_sem, fN, seval, eT, iR, e0, e1, e2, e6, e15, e16]
     congr 3
 ·rw [List.take_of_length_le (by omega)] at hno
  repeat' with_reducible first | refine W ?_ | refine Z0 ?_ | ((first | refine Wo fun K hK => ?_ | refine Wp ?_ | refine Wq ?_ | refine Wr ?_); (try simp only [go_sem, fN, seval, eT, iR, e0, e1, e2, e6, e15, e16, hlt, Ac, dT, dF, nL]); (repeat refine Ai ?_); (try (refine hK _ ?_; clear hK K)); try refine iC ?_)
  refine ⟨_, Ax b.name, ?_⟩
  cases hvb : AU b.name with
  | true =>
   repeat' with_reducible first | refine W ?_ | refine Z0 ?_ | ((first | refine Wo fun K hK => ?_ | refine Wp ?_ | refine Wq ?_ | refine Wr ?_); (try simp only [go_sem, fN, seval, eT, iR, e0, e1, e2, e6, hvb, Ac, dT, dF, nL]); (repeat refine Ai ?_); (try (refine hK _ ?_; clear hK K)); try refine iC ?_)
   refine A3 (Aj false) hS trivial ?_ ?_ fun _ _ => rfl
   ·simp only [go_sem, fN, seval, eT, iR, AB, AF, AP]
   ·simp only [go_sem, fN, seval, eT, iR]
    rw [Hd hv hno (.inl hvb)]
  | false =>
   repeat' with_reducible first | refine W ?_ | refine Z0 ?_ | ((first | refine Wo fun K hK => ?_ | refine Wp ?_ | refine Wq ?_ | refine Wr ?_); (try simp only [go_sem, fN, seval, eT, iR, e0, e1, e2, e6, hvb, sp, Ac, dT, dF, nL]); (repeat refine Ai ?_); (try (refine hK _ ?_; clear hK K)); try refine iC ?_)
   refine ⟨_, Nq row a b, ?_⟩
   by_cases hsy : Be row a b < 0
   ·repeat' with_reducible first | refine W ?_ | refine Z0 ?_ | ((first | refine Wo fun K hK => ?_ | refine Wp ?_ | refine Wq ?_ | refine Wr ?_); (try simp only [go_sem, fN, seval, eT, iR, e0, e1, e2, e6, hvb, hsy, Ac, dT, dF, nL]); (repeat refine Ai ?_); (try (refine hK _ ?_; clear hK K)); try refine iC ?_)
    refine A3 (Aj false) hS trivial ?_ ?_ fun _ _ => rfl
    ·simp only [go_sem, fN, seval, eT, iR, AB, AF, AP]
    ·simp only [go_sem, fN, seval, eT, iR]
     rw [Hd hv hno (.inr (.inl hsy))]
   ·repeat' with_reducible first | refine W ?_ | refine Z0 ?_ | ((first | refine Wo fun K hK => ?_ | refine Wp ?_ | refine Wq ?_ | refine Wr ?_); (try simp only [go_sem, fN, seval, eT, iR, e0, e1, e2, e6, hvb, hsy, Ac, dT, dF, nL]); (repeat refine Ai ?_); (try (refine hK _ ?_; clear hK K)); try refine iC ?_)
    refine IWP.loop (fun n s => ∃ j, j ≤ b.args.length ∧ n = b.args.length - j ∧ (∀ y ∈ b.args.take j, paB row a y = true) ∧ s.env 0 = .one (.ptr p 1 0 0) ∧ s.env 1 = Gz a ∧ s.env 2 = Gz b ∧ s.env 6 = Aj false ∧ s.env 8 = Ab (Be row a b) ∧ s.env 64 = Ab b.args.length ∧ s.env 65 = Ab j ∧ s.S = S1) b.args.length ⟨0, Nat.zero_le _, rfl, by simp, by (simp only [go_sem, fN, seval, eT, iR, e0]), by (simp only [go_sem, fN, seval, eT, iR, e1]), by (simp only [go_sem, fN, seval, eT, iR, e2]), by (simp only [go_sem, fN, seval, eT, iR, e6]), by (simp only [go_sem, fN, seval, eT, iR]), by (simp only [go_sem, fN, seval, eT, iR]), by (simp only [go_sem, fN, seval, eT, iR]), rfl⟩ ?_
    clear e0 e1 e2 e6 e15 e16 hlt
    rintro n ⟨env, S2⟩ ⟨j, hj, rfl, hall, e0, e1, e2, e6, e8, e64, e65, hS2⟩
    simp only at e0 e1 e2 e6 e8 e64 e65 hS2
    subst hS2
    by_cases hlt : (j : Int) < b.args.length
    ·obtain ⟨y, hy⟩ := Ar (show j < b.args.length by omega)
     have hym := Ae hy
     repeat' with_reducible first | refine W ?_ | refine Z0 ?_ | ((first | refine Wo fun K hK => ?_ | refine Wp ?_ | refine Wq ?_ | refine Wr ?_); (try simp only [go_sem, fN, seval, eT, iR, e0, e1, e2, e6, e8, e64, e65, hlt, hy, Ac, dT, dF, nL]); (repeat refine Ai ?_); (try (refine hK _ ?_; clear hK K)); try refine iC ?_)
     refine ⟨_, _, rows, call a y (ih2 y hym), ?_⟩
     cases hq : paB row a y with
     | false =>
      repeat' with_reducible first | refine W ?_ | refine Z0 ?_ | ((first | refine Wo fun K hK => ?_ | refine Wp ?_ | refine Wq ?_ | refine Wr ?_); (try simp only [go_sem, fN, seval, eT, iR, e0, e1, e2, e6, e8, e64, e65, hlt, hy, hq, Ac, dT, dF, nL]); (repeat refine Ai ?_); (try (refine hK _ ?_; clear hK K)); try refine iC ?_)
      refine A3 (Aj false) hS trivial ?_ ?_ fun _ _ => rfl
      ·simp only [go_sem, fN, seval, eT, iR, AB, AF, AP]
      ·simp only [go_sem, fN, seval, eT, iR]
       rw [Hd hv hno (.inr (.inr ⟨y, hym, hq⟩))]
     | true =>
      repeat' with_reducible first | refine W ?_ | refine Z0 ?_ | ((first | refine Wo fun K hK => ?_ | refine Wp ?_ | refine Wq ?_ | refine Wr ?_); (try simp only [go_sem, fN, seval, eT, iR, e0, e1, e2, e6, e8, e64, e65, hlt, hy, hq, Ac, dT, dF, nL]); (repeat refine Ai ?_); (try (refine hK _ ?_; clear hK K)); try refine iC ?_)
      refine AI ⟨b.args.length - (j + 1), by omega, j + 1, by omega, rfl, fun u hu => ?_, ?_⟩
      ·rw [Au hy, List.mem_append, List.mem_singleton] at hu
       rcases hu with hu | rfl
       ·exact hall u hu
       ·exact hq
      ·simp only [go_sem, fN, seval, eT, iR, e0, e1, e2, e6, e8, e64, e65]
       congr 3
    ·rw [List.take_of_length_le (by omega)] at hall
     by_cases hgt : 0 < Be row a b
     ·repeat' with_reducible first | refine W ?_ | refine Z0 ?_ | ((first | refine Wo fun K hK => ?_ | refine Wp ?_ | refine Wq ?_ | refine Wr ?_); (try simp only [go_sem, fN, seval, eT, iR, e0, e1, e2, e6, e8, e64, e65, hlt, hgt, Ac, dT, dF, nL]); (repeat refine Ai ?_); (try (refine hK _ ?_; clear hK K)); try refine iC ?_)
      refine A3 (Aj true) hS trivial ?_ ?_ fun _ _ => rfl
      ·simp only [go_sem, fN, seval, eT, iR, AB, AF, AP]
      ·simp only [go_sem, fN, seval, eT, iR]
       rw [RA hv hvb hgt hall]
     ·have hz : Be row a b = 0 := by omega
      have hll := (DA.1 hz).2
      repeat' with_reducible first | refine W ?_ | refine Z0 ?_ | ((first | refine Wo fun K hK => ?_ | refine Wp ?_ | refine Wq ?_ | refine Wr ?_); (try simp only [go_sem, fN, seval, eT, iR, e0, e1, e2, e6, e8, e64, e65, hlt, hgt, Ac, dT, dF, nL]); (repeat refine Ai ?_); (try (refine hK _ ?_; clear hK K)); try refine iC ?_)
      refine IWP.loop (fun n s => ∃ i, i ≤ a.args.length ∧ n = a.args.length - i ∧ a.args.take i = b.args.take i ∧ s.env 0 = .one (.ptr p 1 0 0) ∧ s.env 1 = Gz a ∧ s.env 2 = Gz b ∧ s.env 6 = Aj false ∧ s.env 85 = Ab a.args.length ∧ s.env 86 = Ab i ∧ s.S = S2) a.args.length ⟨0, Nat.zero_le _, rfl, by simp, by (simp only [go_sem, fN, seval, eT, iR, e0]), by (simp only [go_sem, fN, seval, eT, iR, e1]), by (simp only [go_sem, fN, seval, eT, iR, e2]), by (simp only [go_sem, fN, seval, eT, iR, e6]), by (simp only [go_sem, fN, seval, eT, iR]), by (simp only [go_sem, fN, seval, eT, iR]), rfl⟩ ?_
      clear e0 e1 e2 e6 e8 e64 e65 hlt
      rintro n ⟨env, S3⟩ ⟨i, hi, rfl, hpre, e0, e1, e2, e6, e85, e86, hS3⟩
      simp only at e0 e1 e2 e6 e85 e86 hS3
      subst hS3
      by_cases hlt : (i : Int) < a.args.length
      ·obtain ⟨x, hx⟩ := Ar (show i < a.args.length by omega)
       obtain ⟨y, hy⟩ := Ar (show i < b.args.length by omega)
       repeat' with_reducible first | refine W ?_ | refine Z0 ?_ | ((first | refine Wo fun K hK => ?_ | refine Wp ?_ | refine Wq ?_ | refine Wr ?_); (try simp only [go_sem, fN, seval, eT, iR, e0, e1, e2, e6, e85, e86, hlt, hx, hy, Ac, dT, dF, nL]); (repeat refine Ai ?_); (try (refine hK _ ?_; clear hK K)); try refine iC ?_)
       refine ⟨_, Lg x y, ?_⟩
       cases hxy : x.beq y with
       | true =>
        repeat' with_reducible first | refine W ?_ | refine Z0 ?_ | ((first | refine Wo fun K hK => ?_ | refine Wp ?_ | refine Wq ?_ | refine Wr ?_); (try simp only [go_sem, fN, seval, eT, iR, e0, e1, e2, e6, e85, e86, hlt, hx, hy, hxy, Ac, dT, dF, nL]); (repeat refine Ai ?_); (try (refine hK _ ?_; clear hK K)); try refine iC ?_)
        refine AI ⟨a.args.length - (i + 1), by omega, i + 1, by omega, rfl, ?_, ?_⟩
        ·rw [Au hx, Au hy, hpre, KD.1 hxy]
        ·simp only [go_sem, fN, seval, eT, iR, e0, e1, e2, e6, e85, e86]
         congr 3
       | false =>
        repeat' with_reducible first | refine W ?_ | refine Z0 ?_ | ((first | refine Wo fun K hK => ?_ | refine Wp ?_ | refine Wq ?_ | refine Wr ?_); (try simp only [go_sem, fN, seval, eT, iR, e0, e1, e2, e6, e85, e86, hlt, hx, hy, hxy, Ac, dT, dF, nL]); (repeat refine Ai ?_); (try (refine hK _ ?_; clear hK K)); try refine iC ?_)
        refine ⟨_, _, rows, call x y (ih3 x (Ae hx) y (Ae hy)), ?_⟩
        repeat' with_reducible first | refine W ?_ | refine Z0 ?_ | ((first | refine Wo fun K hK => ?_ | refine Wp ?_ | refine Wq ?_ | refine Wr ?_); (try simp only [go_sem, fN, seval, eT, iR, e0, e1, e2, e6, e85, e86, hlt, hx, hy, hxy, Ac, dT, dF, nL]); (repeat refine Ai ?_); (try (refine hK _ ?_; clear hK K)); try refine iC ?_)
        refine A3 (Aj (paB row x y)) hS trivial ?_ ?_ fun _ _ => rfl
        ·simp only [go_sem, fN, seval, eT, iR, AB, AF, AP]
        ·rw [Nu hv hvb hno hz hall hpre hx hy fun e => by rw [KD.2 e] at hxy; cases hxy]
         rfl
      ·have hae : a.args = b.args := by
        rw [List.take_of_length_le (by omega), List.take_of_length_le (by omega)] at hpre
        exact hpre
       repeat' with_reducible first | refine W ?_ | refine Z0 ?_ | ((first | refine Wo fun K hK => ?_ | refine Wp ?_ | refine Wq ?_ | refine Wr ?_); (try simp only [go_sem, fN, seval, eT, iR, e0, e1, e2, e6, e85, e86, hlt, Ac, dT, dF, nL]); (repeat refine Ai ?_); (try (refine hK _ ?_; clear hK K)); try refine iC ?_)
       refine A3 (Aj false) hS trivial ?_ ?_ fun _ _ => rfl
       ·simp only [go_sem, fN, seval, eT, iR, AB, AF, AP, e6]
       ·simp only [go_sem, fN, seval, eT, iR]
        rw [Oa hv hno hz hae]
theorem E7 (row : List ByteArray) : ∀ (N : Nat) (a b : Tm), SizeOf.sizeOf a + SizeOf.sizeOf b < N → a.size ≤ 1000000 → b.size ≤ 1000000 → GU row a b
 | 0, _, _, h, _, _ => absurd h (Nat.not_lt_zero _)
 | N + 1, a, b, h, ha, hb => Qn fun hv => RY hv ha hb
   (fun x hx => E7 row N x b (by have := Tm.lt_of_arg hx; omega) (by have := Tm.size_mem hx; have := Tm.size_eq a; omega) hb)
   (fun y hy => E7 row N a y (by have := Tm.lt_of_arg hy; omega) ha (by have := Tm.size_mem hy; have := Tm.size_eq b; omega))
   (fun x hx y hy => E7 row N x y (by have := Tm.lt_of_arg hx; have := Tm.lt_of_arg hy; omega) (by have := Tm.size_mem hx; have := Tm.size_eq a; omega) (by have := Tm.size_mem hy; have := Tm.size_eq b; omega))
def Mn (t : Tm) : AL := .box 25 ([SV.str t.name, SV.list (t.args.map Ay)].map .st)
theorem PM (row : List ByteArray) (a b : Tm) (ha : a.size ≤ 1000000) (hb : b.size ≤ 1000000) : AW Try.prog 20 [Cr row, aTm a, aTm b] (Aj (paB row a b)) := by
 refine Hg.ac fun C hC => ?_
 unfold Ef
 refine IWP.mid (fun x => x.env 0 = Cr row ∧ x.env 4 = .one (.ptr 4 1 0 0) ∧ x.env 5 = .one (.ptr 5 1 0 0) ∧ x.S = AK (AK noS 4 (some (Mn a))) 5 (some (Mn b))) ?_ ?_
 ·repeat' with_reducible first | refine W ?_ | refine Z0 ?_ | ((first | refine Wo fun K hK => ?_ | refine Wq ?_ | refine Wr ?_); (try simp only [go_sem, fN, seval, eT, iR, Ac]); (repeat refine Ai ?_); (try (refine hK _ ?_; clear hK K)))
  exact ⟨rfl, rfl, rfl, rfl, rfl⟩
 rintro ⟨env, S⟩ ⟨e0, e4, e5, hS⟩
 simp only at e0 e4 e5 hS
 subst hS
 refine IWP.mid (fun x => x.env 4 = .one (.ptr 4 1 0 0) ∧ x.env 5 = .one (.ptr 5 1 0 0) ∧ x.env 7 = .one (.ptr 11 1 0 0) ∧ x.S = AK (AK (AK (AK noS 4 (some (Mn a))) 5 (some (Mn b))) 9 (some (.memo fun _ _ _ => False))) 11 (some (GO row 9))) ?_ ?_
 ·repeat' with_reducible first | refine W ?_ | refine Z0 ?_ | ((first | refine Wo fun K hK => ?_ | refine Wq ?_ | refine Wr ?_); (try simp only [go_sem, fN, seval, eT, iR, e0, e4, e5, Ac]); (repeat refine Ai ?_); (try (refine hK _ ?_; clear hK K)))
  exact ⟨rfl, e4, e5, rfl, rfl⟩
 rintro ⟨env, S⟩ ⟨e4, e5, e7, hS⟩
 simp only at e4 e5 e7 hS
 subst hS
 refine IWP.ghost (Ak.memoWeak (id := 9) (f' := Eu row) rfl fun _ _ _ h => h.elim) ?_
 refine IWP.ghost (Ak.freeze 4 [4] (ty := 25) (xs := [SV.str a.name, SV.list (a.args.map Ay)]) rfl (Nat.succ_pos _) (fun t ht => by rw [List.mem_singleton] at ht; subst ht; exact e4)) ?_
 refine IWP.ghost (Ak.freeze 5 [5] (ty := 25) (xs := [SV.str b.name, SV.list (b.args.map Ay)]) rfl (Nat.succ_pos _) (fun t ht => by rw [List.mem_singleton] at ht; subst ht; exact e5)) ?_
 repeat' with_reducible first | refine W ?_ | refine Z0 ?_ | ((first | refine Wo fun K hK => ?_ | refine Wp ?_ | refine Wq ?_ | refine Wr ?_); (try simp only [go_sem, fN, seval, eT, iR, e4, e5, e7, AS.set, List.mem_singleton, dT, dF, nL]); (repeat refine Ai ?_); (try (refine hK _ ?_; clear hK K)); try refine iC ?_)
 refine ⟨_, [(11, GO row 9), (9, .memo (Eu row))], fun q hq => ?_, fun T hT => E7 row _ a b (Nat.lt_succ_self _) ha hb (up1 11) (up1 9) (upS T) (A5 _) (A5 _) (by rw [A7, hT (11, GO row 9) (by simp)]; rfl) (by rw [A7, hT (9, .memo (Eu row)) (by simp)]; rfl), ?_⟩
 ·simp only [List.mem_cons, List.not_mem_nil, or_false] at hq
  rcases hq with rfl | rfl <;> rfl
 repeat' with_reducible first | refine W ?_ | refine Z0 ?_ | ((first | refine Wo fun K hK => ?_ | refine Wp ?_ | refine Wq ?_ | refine Wr ?_); (try simp only [go_sem, fN, seval, eT, iR, e4, e5, e7, AS.set, List.mem_singleton, dT, dF, nL]); (repeat refine Ai ?_); (try (refine hK _ ?_; clear hK K)); try refine iC ?_)
 simp only [go_sem, fN, seval, AZ, AS.result, AB, AF, AP]
noncomputable def Lr (row : List ByteArray) (a b : Tm) : Bool := if C7 row a b = 0 then paB row a b else false
theorem Kf (row : List ByteArray) (a b : Tm) : AW Try.prog 10 [Cr row, aTm a, aTm b] (.tup [Aj (Lr row a b), Ab (C7 row a b)]) := by
 unfold Lr
 refine IQ.ac fun C hC => ?_
 unfold FV
 by_cases h : C7 row a b = 0
 ·obtain ⟨_, h1, h2⟩ := Jc h
  have z1 := (Tm.may_chk h1).2
  have z2 := (Tm.may_chk h2).2
  repeat' (first | (with_reducible first | refine W ?_ | refine Z0 ?_ | ((first | refine Wo fun K hK => ?_ | refine Wp ?_ | refine Wq ?_ | refine Wr ?_); (try simp only [go_sem, fN, seval, eT, iR, h, dT, dF, nL]); (repeat refine Ai ?_); (try (refine hK _ ?_; clear hK K)); try refine iC ?_)) | refine Cg _ (Gp row a b) ?_ | refine Cg _ (PM row a b (by omega) (by omega)) ?_)
  simp only [go_sem, fN, seval, AZ, AS.result, AB, AF, AP, h]
  try rfl
 ·repeat' (first | (with_reducible first | refine W ?_ | refine Z0 ?_ | ((first | refine Wo fun K hK => ?_ | refine Wp ?_ | refine Wq ?_ | refine Wr ?_); (try simp only [go_sem, fN, seval, eT, iR, h, dT, dF, nL]); (repeat refine Ai ?_); (try (refine hK _ ?_; clear hK K)); try refine iC ?_)) | refine Cg _ (Gp row a b) ?_)
  simp only [go_sem, fN, seval, AZ, AS.result, AB, AF, AP, h]
  try rfl

def FK : IR :=
 (.seq (.ops [.i 2 (.box 25 (.t 0)), .i 4 (.alloc 25 [.st (.str (ByteArray.mk (#[]))), .full []]), .i 5 (.mov (.c (.one (.st (.bool false)))))]) (.seq (.seq (.ops [.m 8 1, .i 9 (.len false (.t 8)), .i 10 (.mov (.n 0))]) (.block 0 (.loop (.seq (.ops [.i 11 (.bin .lss (.t 10) (.t 9))]) (.seq (.cond (.t 11) .skip (.exit 0)) (.seq (.block 1 (.seq (.ops [.i 12 (.indexAddr 1 (.t 8) (.t 10)), .l 13 12, .m 7 13]) (.seq (.seq (.ops [.m 14 7, .i 15 (.bin .lss (.t 14) (.n 0)), .m 16 15, .mk (some 17) (some (16, false)) (.mov (.t 7)) .no, .mk (some 18) (some (16, false)) (.fieldAddr 1 (.t 2)) .no, .mk (some 19) (some (16, false)) (.load false 1 (.t 18)) .no, .mk (some 20) (some (16, false)) (.len false (.t 19)) .no, .mk (some 21) (some (16, false)) (.bin .geq (.t 17) (.t 20)) .no, .i 22 (.pick (.t 16) (.c (.one (.st (.bool true)))) (.t 21))]) (.cond (.t 22) (.seq (.ops [.i 23 (.build [.st (.str (ByteArray.mk (#[]))), .full []] []), .s 2 4 23, .i 5 (.mov (.c (.one (.st (.bool false)))))]) .ret) .skip)) (.ops [.f 24 1 2, .l 25 24, .m 26 7, .i 27 (.indexAddr 2 (.t 25) (.t 26)), .L 28 2 27, .s 2 2 28])))) (.ops [.i 29 (.bin .add (.t 10) (.n 1)), .m 10 29]))))))) (.seq (.ops [.L 30 2 2, .s 2 4 30, .i 5 (.mov (.c (.one (.st (.bool true)))))]) .ret)))
theorem IW : OkF Try.prog 14 31 [] FK [.cell 4 true 2, .t 5] := .of Try.func14 rfl rfl (by kernel_rfl) rfl
def D2 : IR :=
 (.seq (.ops [.i 3 (.box 25 (.t 0)), .i 5 (.box 25 (.t 2)), .i 6 (.alloc 25 [.st (.str (ByteArray.mk (#[]))), .full []])]) (.seq (.seq (.ops [.m 7 1, .i 8 (.len false (.t 7)), .i 9 (.bin .eql (.t 8) (.n 0))]) (.cond (.t 9) (.seq (.ops [.L 10 2 5, .i 11 (.call 15 [.t 10]), .s 2 6 11]) .ret) .skip)) (.seq (.ops [.L 12 2 3, .i 13 (.callS 15 [.t 12]), .s 2 3 13]) (.seq (.ops [.f 14 1 3, .l 15 14, .m 16 1, .i 17 (.indexAddr 1 (.t 16) (.n 0)), .l 18 17, .f 19 1 3, .l 20 19, .m 21 1, .i 22 (.indexAddr 1 (.t 21) (.n 0)), .l 23 22, .i 24 (.indexAddr 2 (.t 20) (.t 23)), .L 25 2 24, .m 26 1, .i 27 (.sliceL 1 (.t 26) (some (.n 1)) none), .L 28 2 5, .i 29 (.call 18 [.t 25, .t 27, .t 28]), .i 30 (.indexAddr 2 (.t 15) (.t 18)), .s 2 30 29]) (.seq (.ops [.L 31 2 3, .s 2 6 31]) .ret)))))
theorem F2 : OkF Try.prog 18 32 [13] D2 [.cell 6 true 2] := .of Try.func18 rfl rfl (by kernel_rfl) rfl
def FT : IR :=
 (.seq (.ops [.i 1 (.box 25 (.t 0)), .i 2 (.alloc 25 [.st (.str (ByteArray.mk (#[]))), .full []])]) (.seq (.ops [.f 6 0 1, .l 7 6, .i 8 (.build [.st (.str (ByteArray.mk (#[]))), .full []] [(0, 1, .t 7)]), .i 3 (.alloc 25 [.st (.str (ByteArray.mk (#[]))), .full []]), .s 2 3 8]) (.seq (.seq (.ops [.f 9 1 1, .l 10 9, .i 11 (.len false (.t 10)), .i 12 (.mov (.n 0))]) (.block 0 (.loop (.seq (.ops [.i 13 (.bin .lss (.t 12) (.t 11))]) (.seq (.cond (.t 13) .skip (.exit 0)) (.seq (.block 1 (.seq (.ops [.i 14 (.indexAddr 2 (.t 10) (.t 12)), .L 15 2 14, .i 5 (.alloc 25 [.st (.str (ByteArray.mk (#[]))), .full []]), .s 2 5 15]) (.ops [.f 16 1 3, .l 17 16, .L 18 2 5, .i 19 (.call 15 [.t 18]), .i 20 (.buildSlice false 25 2 [.t 19]), .i 21 (.append true 25 2 40 (.t 17) (.t 20)), .f 22 1 3, .s 1 22 21]))) (.ops [.i 23 (.bin .add (.t 12) (.n 1)), .m 12 23]))))))) (.seq (.ops [.L 24 2 3, .s 2 2 24]) .ret))))
theorem Ik : OkF Try.prog 15 25 [21] FT [.cell 2 true 2] := .of Try.func15 rfl rfl (by kernel_rfl) rfl

def FJ : IR :=
 (.seq (.ops [.i 1 (.box 25 (.t 0)), .i 2 (.mov (.c (.one (.full []))))]) (.seq (.ops [.i 7 (.buildSlice false 22 1 [.c (.one (.full []))]), .m 3 7]) (.seq (.seq (.ops [.i 4 (.mov (.n 0))]) (.block 0 (.loop (.seq (.seq (.ops [.m 8 4, .f 9 1 1, .l 10 9, .i 11 (.len false (.t 10)), .i 12 (.bin .lss (.t 8) (.t 11))]) (.cond (.t 12) .skip (.exit 0))) (.seq (.block 1 (.seq (.ops [.f 15 1 1, .l 16 15, .m 17 4, .i 18 (.indexAddr 2 (.t 16) (.t 17)), .L 19 2 18, .i 20 (.call 6 [.t 19]), .m 5 20]) (.seq (.ops [.i 6 (.mov (.n 0))]) (.block 2 (.loop (.seq (.seq (.ops [.m 21 6, .m 22 5, .i 23 (.len false (.t 22)), .i 24 (.bin .lss (.t 21) (.t 23))]) (.cond (.t 24) .skip (.exit 2))) (.seq (.block 3 (.ops [.m 27 3, .m 28 4, .i 29 (.buildFlat [.t 28]), .m 30 5, .m 31 6, .i 32 (.indexAddr 1 (.t 30) (.t 31)), .l 33 32, .i 34 (.append false 3 1 8 (.t 29) (.t 33)), .i 35 (.buildSlice false 22 1 [.t 34]), .i 36 (.append false 22 1 24 (.t 27) (.t 35)), .m 3 36])) (.ops [.m 25 6, .i 26 (.bin .add (.t 25) (.n 1)), .m 6 26])))))))) (.ops [.m 13 4, .i 14 (.bin .add (.t 13) (.n 1)), .m 4 14])))))) (.seq (.ops [.m 37 3, .m 2 37]) .ret))))
theorem IM : OkF Try.prog 6 38 [] FJ [.t 2] := .of Try.func6 rfl rfl (by kernel_rfl) rfl

theorem N1 (t : Tm) (hz : t.size ≤ 1000000) : AW Try.prog 6 [aTm t] (RS t.places) := by
 induction h : SizeOf.sizeOf t using Nat.strongRecOn generalizing t with
 | _ N ih =>
 subst h
 have hs := Tm.size_eq t
 have hkn := Tm.length_le t.args
 refine IM.ac fun C hC => ?_
 unfold FJ
 repeat' with_reducible first | refine W ?_ | refine Z0 ?_ | ((first | refine Wo fun K hK => ?_ | refine Wp ?_ | refine Wq ?_ | refine Wr ?_); (try simp only [go_sem, fN, seval, eT, iR, dT, dF, nL]); (repeat refine Ai ?_); (try (refine hK _ ?_; clear hK K)); try refine iC ?_)
 refine IWP.ghost (Ak.own 3 60 22 1 (xs := ([[]] : List (List Int)).map Mq) (by simp only [go_sem, fN, seval, eT, iR]; rfl) rfl (by simp) (by omega)) ?_
 refine IWP.loop (fun m s => ∃ k, k ≤ t.args.length ∧ m = t.args.length - k ∧ s.env 1 = .one (.ptr 1 1 0 0) ∧ s.S 1 = some (.box 25 [.st (.str t.name), .st (.list (t.args.map Ay))]) ∧ s.env 3 = .one (.row 60 (t.placesTo k).length) ∧ s.S 60 = some (.arow 22 1 ((t.placesTo k).map Mq)) ∧ s.env 4 = Ab k ∧ s.S 34 = none)
  t.args.length ⟨0, Nat.zero_le _, rfl, rfl, rfl, rfl, rfl, rfl, rfl⟩ ?_
 rintro m ⟨env, S⟩ ⟨k, hk, rfl, e1, s1, e3, s60, e4, s34⟩
 simp only at e1 s1 e3 s60 e4 s34
 by_cases hlt : (k : Int) < t.args.length
 ·obtain ⟨a, ha⟩ := Ar (show k < t.args.length by omega)
  have hsz := Tm.size_mem (Ae ha)
  have hpl := Tm.places_length a
  have hto := Tm.placesTo_length t k
  have hst := Tm.sizes_take ha
  have hst2 := Tm.sizes_take_le t.args (k + 1)
  repeat' (first | (with_reducible first | refine W ?_ | refine Z0 ?_ | ((first | refine Wo fun K hK => ?_ | refine Wp ?_ | refine Wq ?_ | refine Wr ?_); (try simp only [go_sem, fN, seval, eT, iR, e1, s1, e3, s60, e4, hlt, ha, dT, dF, nL]); (repeat refine Ai ?_); (try (refine hK _ ?_; clear hK K)); try refine iC ?_)) | refine Cg _ (ih _ (Tm.lt_of_arg (Ae ha)) a (by omega) rfl) ?_)
  refine IWP.loopD [34] (fun m s => ∃ i, i ≤ a.places.length ∧ m = a.places.length - i ∧ s.env 1 = .one (.ptr 1 1 0 0) ∧ s.S 1 = some (.box 25 [.st (.str t.name), .st (.list (t.args.map Ay))]) ∧ s.env 3 = .one (.row 60 (t.placesTo k ++ (a.places.take i).map fun p => (k : Int) :: p).length) ∧ s.S 60 = some (.arow 22 1 ((t.placesTo k ++ (a.places.take i).map fun p => (k : Int) :: p).map Mq)) ∧ s.env 4 = Ab k ∧ s.env 5 = RS a.places ∧ s.env 6 = Ab i ∧ s.S 34 = none)
   a.places.length ⟨0, Nat.zero_le _, rfl, ?_⟩ ?_
  ·simp only [go_sem, fN, seval, eT, iR, e1, s1, e3, s60, e4, s34]
  rintro m ⟨env, S⟩ ⟨i, hi, rfl, e1, s1, e3, s60, e4, e5, e6, s34⟩
  simp only at e1 s1 e3 s60 e4 e5 e6 s34
  have hlen : (t.placesTo k ++ (a.places.take i).map fun p => (k : Int) :: p).length ≤ 1000000 := by
   rw [List.length_append, List.length_map, List.length_take]
   omega
  by_cases hli : (i : Int) < a.places.length
  ·obtain ⟨p, hp⟩ := Ar (show i < a.places.length by omega)
   have hd := Tm.places_deep a p (Ae hp)
   repeat' with_reducible first | refine W ?_ | refine Z0 ?_ | ((first | refine Wo fun K hK => ?_ | refine Wp ?_ | refine Wq ?_ | refine Wr ?_); (try simp only [go_sem, fN, seval, eT, iR, e1, s1, e3, s60, e4, e5, e6, s34, hli, hp, dT, dF, nL]); (repeat refine Ai ?_); (try (refine hK _ ?_; clear hK K)); try refine iC ?_)
   refine AI ⟨a.places.length - (i + 1), by omega, i + 1, by omega, rfl, ?_⟩
   simp only [go_sem, fN, seval, AS.drop, BW, AC.clears, AC.clear, AC.highs, AC.high, Bool.not_false, Bool.true_and, Bool.and_self, AV.purge, AV.purges, AC.purge, AL.purge, List.contains_cons, List.contains_nil, Nat.reduceBEq, Bool.or_self, Bool.or_false, Bool.false_or, Bool.or_true, eT, iR, e1, s1, e3, s60, e4, e5, e6, s34]
   rw [Au hp]
   refine ⟨?_, ?_, rfl⟩
   ·simp
    omega
   ·simp
  ·repeat' with_reducible first | refine W ?_ | refine Z0 ?_ | ((first | refine Wo fun K hK => ?_ | refine Wp ?_ | refine Wq ?_ | refine Wr ?_); (try simp only [go_sem, fN, seval, eT, iR, e1, s1, e3, s60, e4, e5, e6, s34, hli, dT, dF, nL]); (repeat refine Ai ?_); (try (refine hK _ ?_; clear hK K)); try refine iC ?_)
   refine AI ⟨t.args.length - (k + 1), by omega, k + 1, by omega, rfl, ?_⟩
   have e9 : (t.placesTo k ++ (a.places.take i).map fun p => (k : Int) :: p) = t.placesTo (k + 1) := by
    rw [List.take_of_length_le (by omega), Tm.placesTo_succ ha]
   rw [e9] at e3 s60
   exact ⟨e1, s1, e3, s60, rfl, s34⟩
 ·repeat' with_reducible first | refine W ?_ | refine Z0 ?_ | ((first | refine Wo fun K hK => ?_ | refine Wp ?_ | refine Wq ?_ | refine Wr ?_); (try simp only [go_sem, fN, seval, eT, iR, e1, s1, e3, s60, e4, hlt, dT, dF, nL]); (repeat refine Ai ?_); (try (refine hK _ ?_; clear hK K)); try refine iC ?_)
  simp only [go_sem, fN, seval, AZ, AS.result, AB, AF, AP, e3, s60]
  rw [Tm.placesTo_all (by omega)]

theorem LG (t : Tm) (p : List Int) (hp : p.length ≤ 1000000) : AW Try.prog 14 [aTm t, EK p] (.tup [aTm ((t.atP p).getD Tm.nil), Aj (t.atP p).isSome]) := by
 refine IW.ac fun C hC => ?_
 unfold FK
 repeat' with_reducible first | refine W ?_ | refine Z0 ?_ | ((first | refine Wo fun K hK => ?_ | refine Wp ?_ | refine Wq ?_ | refine Wr ?_); (try simp only [go_sem, fN, seval, eT, iR, dT, dF, nL]); (repeat refine Ai ?_); (try (refine hK _ ?_; clear hK K)); try refine iC ?_)
 refine IWP.loop (fun m s => ∃ k x, k ≤ p.length ∧ m = p.length - k ∧ t.atP p = x.atP (p.drop k) ∧ s.env 2 = .one (.ptr 2 1 0 0) ∧ s.env 4 = .one (.ptr 4 1 0 0) ∧ s.env 8 = EK p ∧ s.env 9 = Ab p.length ∧ s.env 10 = Ab k ∧ s.S 2 = some (.box 25 [.st (.str x.name), .st (.list (x.args.map Ay))]) ∧ s.S 4 = some (.box 25 [.st (.str ⟨#[]⟩), .full []])) p.length ⟨0, t, Nat.zero_le _, rfl, rfl, rfl, rfl, rfl, rfl, rfl, rfl, rfl⟩ ?_
 rintro m ⟨env, S⟩ ⟨k, x, hk, rfl, hx, e2, e4, e8, e9, e10, s2, s4⟩
 simp only at e2 e4 e8 e9 e10 s2 s4
 rw [hx]
 by_cases hlt : (k : Int) < p.length
 ·obtain ⟨i, hi⟩ := Ar (show k < p.length by omega)
  have hd := Bz hi
  rw [hd, Tm.atP_cons] at hx ⊢
  by_cases h0 : i < 0
  ·rw [if_pos h0]
   repeat' with_reducible first | refine W ?_ | refine Z0 ?_ | ((first | refine Wo fun K hK => ?_ | refine Wp ?_ | refine Wq ?_ | refine Wr ?_); (try simp only [go_sem, fN, seval, eT, iR, e2, e4, e8, e9, e10, s2, s4, hlt, hi, h0, dT, dF, nL]); (repeat refine Ai ?_); (try (refine hK _ ?_; clear hK K)); try refine iC ?_)
   simp only [go_sem, fN, seval, AZ, AS.result, AB, AF, AP, e4, s4]
   try rfl
  ·rw [if_neg h0] at hx ⊢
   by_cases h1 : i < x.args.length
   ·obtain ⟨a, ha⟩ := Ar (show i.toNat < x.args.length by omega)
    rw [ha] at hx ⊢
    obtain ⟨n, rfl⟩ : ∃ n : Nat, i = n := ⟨i.toNat, by omega⟩
    rw [Int.toNat_natCast] at ha
    have h2 : ¬ (x.args.length : Int) ≤ (n : Int) := by omega
    repeat' with_reducible first | refine W ?_ | refine Z0 ?_ | ((first | refine Wo fun K hK => ?_ | refine Wp ?_ | refine Wq ?_ | refine Wr ?_); (try simp only [go_sem, fN, seval, eT, iR, e2, e4, e8, e9, e10, s2, s4, hlt, hi, h0, h2, ha, dT, dF, nL]); (repeat refine Ai ?_); (try (refine hK _ ?_; clear hK K)); try refine iC ?_)
    refine AI ⟨p.length - (k + 1), by omega, k + 1, a, by omega, rfl, rfl, ?_⟩
    simp only [go_sem, fN, seval, eT, iR, e2, e4, e8, e9, s4]
    congr 3
   ·rw [List.getElem?_eq_none (by omega)]
    have h2 : (x.args.length : Int) ≤ i := by omega
    repeat' with_reducible first | refine W ?_ | refine Z0 ?_ | ((first | refine Wo fun K hK => ?_ | refine Wp ?_ | refine Wq ?_ | refine Wr ?_); (try simp only [go_sem, fN, seval, eT, iR, e2, e4, e8, e9, e10, s2, s4, hlt, hi, h0, h2, dT, dF, nL]); (repeat refine Ai ?_); (try (refine hK _ ?_; clear hK K)); try refine iC ?_)
    simp only [go_sem, fN, seval, AZ, AS.result, AB, AF, AP, e4, s4]
    try rfl
 ·have hd : p.drop k = [] := List.drop_of_length_le (by omega)
  rw [hd, Tm.atP_nil]
  repeat' with_reducible first | refine W ?_ | refine Z0 ?_ | ((first | refine Wo fun K hK => ?_ | refine Wp ?_ | refine Wq ?_ | refine Wr ?_); (try simp only [go_sem, fN, seval, eT, iR, e2, e4, e8, e9, e10, s2, s4, hlt, dT, dF, nL]); (repeat refine Ai ?_); (try (refine hK _ ?_; clear hK K)); try refine iC ?_)
  simp only [go_sem, fN, seval, AZ, AS.result, AB, AF, AP, e4, s4]
  try rfl
section
variable {C : Ctx} {s : AS}
theorem Ak.ownCW (id j nid : Nat) (e : TypeId) (wd : Nat) {ty : TypeId} {cs : List AC} (hb : s.S id = some (.box ty cs)) (hc : cs[j]? = some (.full [])) (hn : s.S nid = none) :
  Ak C s ((s.set nid (.mrow e wd [])).set id (.box ty (cs.set j (.row nid 0)))) := fun a w ⟨σ, ι, R⟩ => by
 have hbk := R.blk id _ hb
 have hne : id ≠ nid := fun e => by subst e; rw [hb] at hn; cases hn
 cases hbk with
 | @box _ _ g vs h1 h2 h3 h4 h5 =>
  obtain ⟨v, hv, hr⟩ := h4.get hc
  cases hr with
  | @full p len _ hs =>
   have hl : len = 0 := by
    obtain ⟨p', cap', e1, _⟩ := By hs
    cases e1
    rfl
   subst hl
   obtain ⟨hu, R'⟩ := R.fresh (w' := w) hn (.mrow e wd []) ⟨p, 0, none⟩ (Ext.refl _ _) R.fit (Below.refl _ _) (by simp) (fun S' ι' hu => .mnil rfl rfl)
   have hb' : (s.set nid (.mrow e wd [])).S id = some (.box ty cs) := by simp [AS.set, AM _ hne, hb]
   have hι : AK ι nid ⟨p, 0, none⟩ id = ι id := AM _ hne _
   obtain ⟨hu2, R2⟩ := R'.turn (w' := w) hb' (.box ty (cs.set j (.row nid 0))) (AK ι nid ⟨p, 0, none⟩ id) (σ' := σ) (fun _ _ h => h) (fun _ _ _ => rfl) R.fit (Nat.le_refl _) (fun _ => ⟨by simp [AL.wid], rfl⟩) ⟨rfl, rfl, rfl⟩ (Nat.le_refl _) (fun _ _ _ => rfl) (fun g h => .inl h) (fun hu2 => by
    refine .box (by rw [hι]; exact h1) (by rw [hι]; exact h2) h3 (AT.of_get (by rw [List.length_set]; exact h4.len) fun k u c hu' hck => ?_) h5
    by_cases hk : k = j
    ·subst hk
     rw [hv] at hu'
     cases hu'
     have hlt : k < cs.length := (List.getElem?_eq_some_iff.1 hc).1
     rw [List.getElem?_set_self hlt] at hck
     cases hck
     exact .row (b := .mrow e wd []) (by simp [AS.set, AK, hne.symm]) (Nat.le_refl _) rfl fun _ => by simp [AK, hne.symm]
    ·rw [List.getElem?_set_ne (fun e => hk e.symm)] at hck
     obtain ⟨u', q1, q2⟩ := h4.get hck
     rw [hu'] at q1
     cases q1
     exact (q2.mono (fun _ _ h => h) hu).mono (fun _ _ h => h) hu2)
   exact ⟨_, _, R2⟩
end
theorem QA (t : Tm) (hz : t.size ≤ 1000000) (a0 : Nat) (S : AA) (ha : 1000 ≤ a0) (hSa : S a0 = none) : An Try.prog 15 [aTm t] S (.agg [.st (.str t.name), .row a0 t.args.length]) (AK S a0 (some (.mrow 25 2 (t.args.map Ay)))) := by
 have hs := Tm.size_eq t
 have hkn := Tm.length_le t.args
 refine Ik.acS fun hS C hC => ?_
 unfold FT
 have k1 : S 1 = none := AQ hS (by omega)
 have k2 : S 2 = none := AQ hS (by omega)
 have k3 : S 3 = none := AQ hS (by omega)
 have k5 : S 5 = none := AQ hS (by omega)
 have k21 : S 21 = none := AQ hS (by omega)
 repeat' with_reducible first | refine W ?_ | refine Z0 ?_ | ((first | refine Wo fun K hK => ?_ | refine Wq ?_ | refine Wr ?_); (try simp only [go_sem, fN, seval, eT, iR, AS.startS, k1, k2, k3]); (repeat refine Ai ?_); (try (refine hK _ ?_; clear hK K)))
 refine IWP.ghost (Ak.ownCW 3 1 21 25 2 (by rfl) (by rfl) (by simp only [go_sem, fN, seval, eT, iR, k21])) ?_
 refine IWP.loopD [5] (fun m s => ∃ k, k ≤ t.args.length ∧ m = t.args.length - k ∧ s.env 2 = .one (.ptr 2 1 0 0) ∧ s.env 3 = .one (.ptr 3 1 0 0) ∧ s.S 2 = some (.box 25 [.st (.str ⟨#[]⟩), .full []]) ∧ s.S 3 = some (.box 25 [.st (.str t.name), .row 21 k]) ∧ s.S 21 = some (.mrow 25 2 ((t.args.take k).map Ay)) ∧ s.env 10 = .one (.st (.list (t.args.map Ay))) ∧ s.env 11 = Ab t.args.length ∧ s.env 12 = Ab k ∧ s.S 5 = none ∧ ∀ i, 1000 ≤ i → s.S i = S i)
  t.args.length ⟨0, Nat.zero_le _, rfl, rfl, rfl, by simp only [go_sem, fN, seval, eT, iR], by (simp only [go_sem, fN, seval, eT, iR]; rfl), by simp only [go_sem, fN, seval, eT, iR], rfl, rfl, rfl, by simp only [go_sem, fN, seval, eT, iR, k5], fun i hi => ?_⟩ ?_
 ·have i1 : ¬ i = 1 := by omega
  have i2 : ¬ i = 2 := by omega
  have i3 : ¬ i = 3 := by omega
  have i21 : ¬ i = 21 := by omega
  simp only [go_sem, fN, seval, eT, iR, i1, i2, i3, i21]
 rintro m ⟨env, S1⟩ ⟨k, hk, rfl, e2, e3, s2, s3, s21, e10, e11, e12, s5, hrest⟩
 simp only at e2 e3 s2 s3 s21 e10 e11 e12 s5 hrest
 have hlk : (t.args.take k).length = k := by rw [List.length_take]; omega
 by_cases hlt : (k : Int) < t.args.length
 ·obtain ⟨a, ha'⟩ := Ar (show k < t.args.length by omega)
  repeat' (first | (with_reducible first | refine W ?_ | refine Z0 ?_ | ((first | refine Wo fun K hK => ?_ | refine Wp ?_ | refine Wq ?_ | refine Wr ?_); (try simp only [go_sem, fN, seval, eT, iR, e2, e3, s2, s3, s21, e10, e11, e12, s5, hlt, ha', hlk, dT, dF, nL]); (repeat refine Ai ?_); (try (refine hK _ ?_; clear hK K)); try refine iC ?_)) | refine Cg _ (Lu a (by have := Tm.size_mem (Ae ha'); omega)) ?_)
  refine AI ⟨t.args.length - (k + 1), by omega, k + 1, by omega, rfl, ?_⟩
  simp only [go_sem, fN, seval, AS.drop, BW, AC.clears, AC.clear, AC.highs, AC.high, Bool.not_false, Bool.true_and, Bool.and_self, AV.purge, AV.purges, AC.purge, AL.purge, List.contains_cons, List.contains_nil, Nat.reduceBEq, Bool.or_self, Bool.or_false, Bool.false_or, Bool.or_true, eT, iR, e2, e3, s2, s3, s21, e10, e11, e12, s5]
  refine ⟨by rw [Au ha']; simp [Ac], by congr 3, fun i hi => ?_⟩
  have i3 : ¬ i = 3 := by omega
  have i5 : ¬ i = 5 := by omega
  have i5b : (i == 5) = false := by simp; omega
  have i21 : ¬ i = 21 := by omega
  simp only [go_sem, fN, seval, AS.drop, BW, AC.clears, AC.clear, AC.highs, AC.high, Bool.not_false, Bool.true_and, Bool.and_self, AV.purge, AV.purges, AC.purge, AL.purge, List.contains_cons, List.contains_nil, Nat.reduceBEq, Bool.or_self, Bool.or_false, Bool.false_or, Bool.or_true, eT, iR, i3, i5, i5b, i21]
  rw [hrest i hi]
  cases hb : S i with
  | none => rfl
  | some b => simp [AL.purge_high (ds := [5]) (by decide) (hS i b hb).2]
 ·obtain rfl : k = t.args.length := by omega
  rw [List.take_of_length_le (by omega)] at s21
  repeat' with_reducible first | refine W ?_ | refine Z0 ?_ | ((first | refine Wo fun K hK => ?_ | refine Wp ?_ | refine Wq ?_ | refine Wr ?_); (try simp only [go_sem, fN, seval, eT, iR, e2, e3, s2, s3, s21, e10, e11, e12, s5, hlt, dT, dF, nL]); (repeat refine Ai ?_); (try (refine hK _ ?_; clear hK K)); try refine iC ?_)
  rw [show (.agg [.st (.str t.name), .row a0 t.args.length] : AV) = AV.ren (BO 21 a0) (.agg [.st (.str t.name), .row 21 t.args.length]) by simp [AV.ren, AC.ren, AC.rens, BO]]
  have n2 : ¬ a0 = 2 := by omega
  have n2' : ∀ i, 1000 ≤ i → ¬ i = 2 := fun i hi => by omega
  refine NS trivial 21 a0 _ (b0 := .mrow 25 2 (t.args.map Ay)) (by omega) ha ?_ ?_ rfl ?_ ?_ ?_ ?_ (Ci hS ha rfl)
  ·simp [AK, n2, hrest a0 ha, hSa]
  ·simp [AK, s21]
  ·intro i b hi hb
   have hb : AK S1 2 _ i = some b := hb
   rw [AM _ (n2' i hi), hrest i hi] at hb
   exact (hS i b hb).2
  ·simp [AB, AF, AP, AK, e2, B4, LX]
  ·simp [AV.ren, AC.ren, AC.rens, AV.high, AC.high, AC.highs, BO, ha]
  ·rw [O0 _ (by omega)]
   congr 1
   funext i
   show (if i < 1000 then none else S1 i) = S i
   by_cases hi : i < 1000
   ·rw [if_pos hi, AQ hS hi]
   ·rw [if_neg hi, hrest i (by omega)]
theorem M9 (x : Tm) (hx : x.size ≤ 1000000) : ∀ (p : List Int) (t : Tm), p.length ≤ 1000000 → t.atP p ≠ none → t.size ≤ 1000000 → AW Try.prog 18 [aTm t, EK p, aTm x] (aTm (t.putP p x))
 | [], t, _, _, _ => by
  rw [Tm.putP_nil]
  refine F2.ac fun C hC => ?_
  unfold D2
  repeat' (first | (with_reducible first | refine W ?_ | refine Z0 ?_ | ((first | refine Wo fun K hK => ?_ | refine Wp ?_ | refine Wq ?_ | refine Wr ?_); (try simp only [go_sem, fN, seval, eT, iR, dT, dF, nL]); (repeat refine Ai ?_); (try (refine hK _ ?_; clear hK K)); try refine iC ?_)) | refine Cg _ (Lu x hx) ?_)
  simp only [go_sem, fN, seval, AZ, AS.result, AB, AF, AP]
 | i :: p, t, hpl, hp, hz => by
  rw [Tm.atP_cons] at hp
  have h0 : ¬ i < 0 := fun h => hp (by rw [if_pos h])
  rw [if_neg h0] at hp
  obtain ⟨a, ha⟩ : ∃ a, t.args[i.toNat]? = some a := by
   cases h : t.args[i.toNat]? with
   | none => rw [h] at hp; exact absurd rfl hp
   | some a => exact ⟨a, rfl⟩
  rw [ha] at hp
  obtain ⟨n, rfl⟩ : ∃ n : Nat, i = n := ⟨i.toNat, by omega⟩
  rw [Int.toNat_natCast] at ha
  rw [Tm.putP_at ha]
  have hlt : n < t.args.length := (List.getElem?_eq_some_iff.1 ha).1
  have hlt' : (n : Int) < t.args.length := by omega
  have hsz := Tm.size_mem (List.mem_of_getElem? ha)
  have hszq := Tm.size_eq t
  have ih := M9 x hx p a (by simp at hpl; omega) hp (by omega)
  have hl0 : ¬ (((p.length + 1 : Nat) : Int) = 0) := by omega
  have hseq := Tm.size_eq t
  refine F2.ac fun C hC => ?_
  unfold D2
  repeat' with_reducible first | refine W ?_ | refine Z0 ?_ | ((first | refine Wo fun K hK => ?_ | refine Wp ?_ | refine Wq ?_ | refine Wr ?_); (try simp only [go_sem, fN, seval, eT, iR, hl0, dT, dF, nL]); (repeat refine Ai ?_); (try (refine hK _ ?_; clear hK K)); try refine iC ?_)
  refine ⟨_, _, QA t hz (up1 13) _ (A5 13) (by rw [A7]; rfl), ?_⟩
  have htk : List.take p.length (List.map LM p) = List.map LM p := List.take_of_length_le (by simp)
  have hl1 : (t.args.set n (a.putP p x)).length = t.args.length := by simp
  refine Wr ?_
  simp only [go_sem, fN, seval, eT, iR]
  refine hK _ ?_
  clear hK K
  refine Wb ?_
  refine IWP.mid (fun y => y.env 3 = .one (.ptr 3 1 0 0) ∧ y.env 6 = .one (.ptr 6 1 0 0) ∧ y.S 3 = some (.box 25 [.st (.str t.name), .row 13 t.args.length]) ∧ y.S 6 = some (.box 25 [.st (.str ⟨#[]⟩), .full []]) ∧ y.S 13 = some (.mrow 25 2 ((t.args.set n (a.putP p x)).map Ay))) ?_ ?_
  ·repeat' (first | (with_reducible first | refine W ?_ | refine Z0 ?_ | ((first | refine Wo fun K hK => ?_ | refine Wp ?_ | refine Wq ?_ | refine Wr ?_); (try simp only [go_sem, fN, seval, eT, iR, ha, hlt', htk, dT, dF, nL]); (repeat refine Ai ?_); (try (refine hK _ ?_; clear hK K)); try refine iC ?_)) | refine Cg _ (ih) ?_)
   refine ⟨rfl, ?_⟩
   simp only [go_sem, fN, seval, eT, iR, ha, hlt']
   rw [List.map_set, Ac]
  rintro ⟨env, S⟩ ⟨e3, e6, s3, s6, s13⟩
  simp only at e3 e6 s3 s6 s13
  refine IWP.ghost (Ak.share (id := 13) s13) ?_
  repeat' with_reducible first | refine W ?_ | refine Z0 ?_ | ((first | refine Wo fun K hK => ?_ | refine Wp ?_ | refine Wq ?_ | refine Wr ?_); (try simp only [go_sem, fN, seval, eT, iR, e3, e6, s3, s6, hl1, dT, dF, nL]); (repeat refine Ai ?_); (try (refine hK _ ?_; clear hK K)); try refine iC ?_)
  simp only [go_sem, fN, seval, AZ, AS.result, AB, AF, AP, e6, s6, hl1]
  try rfl

end Go.Proofs.Ytlgpchphdhdllaa
