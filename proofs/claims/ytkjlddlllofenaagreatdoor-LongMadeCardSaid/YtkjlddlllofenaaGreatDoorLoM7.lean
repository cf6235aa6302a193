/-
  Part 7 of the texts. Conditions: none.
-/
import Derived.Test.YtkjlddlllofenaaGreatDoorLoM6
import Derived.Lib.FrozenHead2
import Derived.Lib.OthersKept
import Derived.Shelf.Strings.BuilderK
namespace Go.Proofs.YtkjlddlllofenaaGreatDoor
open Go Go.RowKit
set_option linter.unusedVariables false
def posN : List ByteArray → ByteArray → Nat
 | [], _ => 0
 | x :: l, n => if x = n then 0 else posN l n + 1
def addN (l : List ByteArray) (n : ByteArray) : List ByteArray := if posN l n < l.length then l else l ++ [n]
theorem posN_le (l : List ByteArray) (n : ByteArray) : posN l n ≤ l.length := by
 induction l with
 | nil => exact Nat.le_refl _
 | cons p l ih => rw [posN]; split <;> simp; omega
theorem posN_iff {l : List ByteArray} {n : ByteArray} : posN l n < l.length ↔ n ∈ l := by
 induction l with
 | nil => simp [posN]
 | cons x l ih =>
  rw [posN]
  by_cases e : x = n
  ·rw [if_pos e]; simp [e]
  ·rw [if_neg e, List.length_cons, List.mem_cons]
   constructor
   ·intro h; exact .inr (ih.1 (by omega))
   ·rintro (h | h)
    ·exact absurd h.symm e
    ·have := ih.2 h; omega
theorem posN_append {l m : List ByteArray} {n : ByteArray} (h : posN l n < l.length) : posN (l ++ m) n = posN l n := by
 induction l with
 | nil => simp [posN] at h
 | cons x l ih =>
  rw [posN] at h
  rw [List.cons_append, posN, posN]
  by_cases e : x = n
  ·rw [if_pos e, if_pos e]
  ·rw [if_neg e] at h
   rw [if_neg e, if_neg e, ih (by simpa using h)]
theorem posN_snoc {l : List ByteArray} {n : ByteArray} (h : ¬ posN l n < l.length) : posN (l ++ [n]) n = l.length := by
 induction l with
 | nil => simp [posN]
 | cons x l ih =>
  rw [posN] at h
  rw [List.cons_append, posN]
  by_cases e : x = n
  ·rw [if_pos e] at h; simp at h
  ·rw [if_neg e] at h
   rw [if_neg e, ih (by simpa using h), List.length_cons]
theorem addN_var {l : List ByteArray} {n : ByteArray} (hv : isVar n = true) : addN l n = addVar l n := by
 unfold addN
 by_cases h : n ∈ l
 ·rw [if_pos (posN_iff.2 h), addVar_in (isIn_iff.2 h)]
 ·rw [if_neg (fun k => h (posN_iff.1 k)), addVar_yes hv (isIn_no.2 h)]
def GoesN (l m : List ByteArray) : Prop := ∃ r, m = l ++ r
theorem GoesN.trans {a b c : List ByteArray} (h : GoesN a b) (k : GoesN b c) : GoesN a c := by
 obtain ⟨r, rfl⟩ := h
 obtain ⟨q, rfl⟩ := k
 exact ⟨r ++ q, by simp⟩
theorem goesN_add (l : List ByteArray) (n : ByteArray) : GoesN l (addN l n) := by
 unfold addN
 split
 ·exact ⟨[], by simp⟩
 ·exact ⟨_, rfl⟩
theorem goesN_pos {l m : List ByteArray} {n : ByteArray} (hg : GoesN (addN l n) m) : posN m n = posN l n ∧ posN m n < m.length := by
 obtain ⟨r, rfl⟩ := hg
 unfold addN
 by_cases h : posN l n < l.length
 ·rw [if_pos h, posN_append h, List.length_append]
  exact ⟨rfl, by omega⟩
 ·rw [if_neg h, posN_append (by rw [posN_snoc h]; simp), posN_snoc h]
  have := posN_le l n
  refine ⟨by omega, by rw [List.length_append, List.length_append, List.length_singleton]; omega⟩

def occ (x : ByteArray) (t : Tm) : Bool := t.knots.any fun k => decide (k.name = x)
theorem knotsL_any (p : Tm → Bool) : ∀ xs : List Tm, (Tm.knotsL xs).any p = xs.any fun t => t.knots.any p
 | [] => rfl
 | t :: ts => by rw [Tm.knotsL, List.any_append, knotsL_any p ts, List.any_cons]
theorem occ_eq (x : ByteArray) (t : Tm) : occ x t = (decide (t.name = x) || t.args.any (occ x)) := by
 unfold occ
 rw [Tm.knots_eq, List.any_cons, knotsL_any]
theorem occ_iff {x : ByteArray} {t : Tm} : occ x t = true ↔ t.name = x ∨ ∃ a ∈ t.args, occ x a = true := by
 rw [occ_eq, Bool.or_eq_true, decide_eq_true_eq, List.any_eq_true]
theorem occ_arg {x : ByteArray} {t a : Tm} (ha : a ∈ t.args) (h : occ x a = true) : occ x t = true := occ_iff.2 (.inr ⟨a, ha, h⟩)
theorem occ_no {x : ByteArray} {t : Tm} (h : occ x t = false) : t.name ≠ x ∧ ∀ a ∈ t.args, occ x a = false := by
 rw [occ_eq, Bool.or_eq_false_iff, decide_eq_false_iff_not, List.any_eq_false] at h
 exact ⟨h.1, fun a ha => by simpa using h.2 a ha⟩
theorem addVars_mem {x : ByteArray} (hv : isVar x = true) : ∀ (ks : List Tm) (l : List ByteArray), x ∈ addVars l ks ↔ x ∈ l ∨ ∃ k ∈ ks, k.name = x
 | [], l => by simp [addVars]
 | t :: ks, l => by
  have e : addVars l (t :: ks) = addVars (addVar l t.name) ks := rfl
  rw [e, addVars_mem hv ks]
  have h1 : x ∈ addVar l t.name ↔ x ∈ l ∨ t.name = x := by
   unfold addVar
   split
   ·rename_i h
    rw [List.mem_append, List.mem_singleton]
    exact ⟨fun h => h.imp id Eq.symm, fun h => h.imp id Eq.symm⟩
   ·rename_i h
    refine ⟨.inl, fun h' => ?_⟩
    rcases h' with h' | h'
    ·exact h'
    ·subst h'
     rw [hv, Bool.true_and, Bool.not_eq_true'] at h
     have h : isIn t.name l = true := by
      cases hc : isIn t.name l with
      | true => rfl
      | false => exact absurd hc h
     exact isIn_iff.1 h
  rw [h1]
  simp only [List.mem_cons, exists_eq_or_imp]
  constructor
  ·rintro ((h | h) | h)
   ·exact .inl h
   ·exact .inr (.inl h)
   ·exact .inr (.inr h)
  ·rintro (h | h | h)
   ·exact .inl (.inl h)
   ·exact .inl (.inr h)
   ·exact .inr h
theorem isIn_varsOf {x : ByteArray} (hv : isVar x = true) (t : Tm) : isIn x t.varsOf = occ x t := by
 rw [Bool.eq_iff_iff, isIn_iff]
 unfold Tm.varsOf occ
 rw [addVars_mem hv]
 simp [List.any_eq_true]
def NoDom (s : List Bd) (t : Tm) : Prop := ∀ b ∈ s, occ b.1 t = false
theorem on_id {s : List Bd} {t : Tm} (h : NoDom s t) : t.on s = t := by
 induction hN : SizeOf.sizeOf t using Nat.strongRecOn generalizing t with
 | _ N ih =>
 subst hN
 have hl : lookup s t.name = none := lookup_none fun b hb e => (occ_no (h b hb)).1 e.symm
 rw [Tm.on_knot (.inl hl)]
 have hm : t.args.map (Tm.on s) = t.args := by
  conv => rhs; rw [← List.map_id t.args]
  exact List.map_congr_left fun a ha => ih _ (Tm.lt_of_arg ha) (fun b hb => (occ_no (h b hb)).2 a ha) rfl
 rw [hm]
 cases t; rfl
theorem lookup_dom {s : List Bd} {n : ByteArray} (h : lookup s n = none) : ∀ b ∈ s, b.1 ≠ n := by
 unfold lookup at h
 rw [Option.map_eq_none_iff, List.find?_eq_none] at h
 exact fun b hb e => h b hb (by simpa using e)
theorem occ_on {s : List Bd} (hv : ∀ b ∈ s, isVar b.1 = true) {t : Tm} (hc : t.chk = 0) {y : ByteArray} (h : occ y (t.on s) = true) : (occ y t = true ∧ ∀ b ∈ s, b.1 ≠ y) ∨ ∃ b ∈ s, occ y b.2 = true := by
 induction hN : SizeOf.sizeOf t using Nat.strongRecOn generalizing t with
 | _ N ih =>
 subst hN
 obtain ⟨c1, c2⟩ := Tm.chk_args hc
 cases hl : lookup s t.name with
 | some x =>
  obtain ⟨b, hb, hbn, hbx⟩ := lookup_mem hl
  rw [Tm.on_leaf hl (c1 (by rw [← hbn]; exact hv b hb)), ← hbx] at h
  exact .inr ⟨b, hb, h⟩
 | none =>
  rw [Tm.on_knot (.inl hl), occ_iff] at h
  rcases h with h | ⟨a, ha, h⟩
  ·simp only [Tm.name_mk] at h
   refine .inl ⟨occ_iff.2 (.inl h), fun b hb => ?_⟩
   rw [← h]
   exact lookup_dom hl b hb
  ·simp only [Tm.args_mk, List.mem_map] at ha
   obtain ⟨c, hc', rfl⟩ := ha
   rcases ih _ (Tm.lt_of_arg hc') (c2 c hc') h rfl with h | h
   ·exact .inl ⟨occ_arg hc' h.1, h.2⟩
   ·exact .inr h
theorem chk_mk {t : Tm} (h : chkOne t = 0) (ha : ∀ a ∈ t.args, a.chk = 0) : t.chk = 0 := by
 rw [Tm.chk_eq, if_pos h]
 have key : ∀ {xs : List Tm}, (∀ a ∈ xs, a.chk = 0) → Tm.chkL xs = 0 := by
  intro xs
  induction xs with
  | nil => intro _; rfl
  | cons x xs ih => intro hx; simp only [Tm.chkL]; rw [if_pos (hx x (by simp))]; exact ih fun a ha => hx a (by simp [ha])
 exact key ha
theorem chk_one {t : Tm} (h : t.chk = 0) : chkOne t = 0 := by
 rw [Tm.chk_eq] at h
 by_cases h1 : chkOne t = 0
 ·exact h1
 ·rw [if_neg h1] at h; exact h
theorem chk_on {s : List Bd} (hs : ∀ b ∈ s, b.2.chk = 0) {t : Tm} (hc : t.chk = 0) : (t.on s).chk = 0 := by
 induction hN : SizeOf.sizeOf t using Nat.strongRecOn generalizing t with
 | _ N ih =>
 subst hN
 obtain ⟨c1, c2⟩ := Tm.chk_args hc
 by_cases hleaf : (∃ x, lookup s t.name = some x) ∧ t.args = []
 ·obtain ⟨⟨x, hx⟩, h0⟩ := hleaf
  rw [Tm.on_leaf hx h0]
  obtain ⟨b, hb, _, rfl⟩ := lookup_mem hx
  exact hs b hb
 ·have hon : t.on s = .mk t.name (t.args.map (Tm.on s)) := Tm.on_knot (by
   cases hl : lookup s t.name with
   | none => exact .inl rfl
   | some x => exact .inr fun h0 => hleaf ⟨⟨x, hl⟩, h0⟩)
  rw [hon]
  refine chk_mk ?_ fun a ha => ?_
  ·have := chk_one hc
   unfold chkOne at this ⊢
   simpa only [Tm.name_mk, Tm.args_mk, List.length_map] using this
  ·simp only [Tm.args_mk, List.mem_map] at ha
   obtain ⟨c, hc', rfl⟩ := ha
   exact ih _ (Tm.lt_of_arg hc') (c2 c hc') rfl
inductive UOut where
 | err (e : Int)
 | go (s : List Bd) (ps : List Pr)
def bindV (s : List Bd) (x : ByteArray) (t : Tm) : UOut :=
 if occ x t = true then .err 6 else if (s.all fun b => decide ((b.2.on [(x, t)]).size ≤ 2000)) = true then .go (sortB (s.map (fun b => (b.1, b.2.on [(x, t)])) ++ [(x, t)])) [] else .err 8
def stepU (s : List Bd) (p : Pr) : UOut :=
 if 2000 < (p.1.on s).size ∨ 2000 < (p.2.on s).size then .err 8
 else if isVar (p.1.on s).name = true ∧ (p.1.on s).name = (p.2.on s).name then .go s []
 else if isVar (p.1.on s).name = true then bindV s (p.1.on s).name (p.2.on s)
 else if isVar (p.2.on s).name = true then bindV s (p.2.on s).name (p.1.on s)
 else if (p.1.on s).name = (p.2.on s).name ∧ (p.1.on s).args.length = (p.2.on s).args.length then .go s ((p.1.on s).args.zip (p.2.on s).args)
 else .err 5
inductive UEnds : Nat → List Bd → List Pr → List Bd × Int → Prop
 | nil {s} : UEnds 0 s [] (s, 0)
 | err {s p l e} : stepU s p = .err e → UEnds 1 s (p :: l) ([], e)
 | go {s p l s' ps n r} : stepU s p = .go s' ps → UEnds n s' (ps ++ l) r → UEnds (n + 1) s (p :: l) r
def Fits (C v : Nat) (s : List Bd) : List Pr → Prop
 | [] => True
 | p :: l => l.length + 2000 * min (p.1.on s).size 2000 + 4000000 * v ≤ C ∧ Fits C v s l
theorem Fits.less {C v v' : Nat} {s s' : List Bd} (hv : v' + 1 ≤ v) : ∀ {l : List Pr}, Fits C v s l → Fits C v' s' l
 | [], _ => trivial
 | p :: l, h => ⟨by have := h.1; have := Nat.min_le_right (p.1.on s').size 2000; omega, Fits.less hv h.2⟩
theorem Fits.more {C v m : Nat} {s : List Bd} {l : List Pr} (hm : m + 1 ≤ 2000) (hC : l.length + 2000 * (m + 1) + 4000000 * v ≤ C) (hl : Fits C v s l) : ∀ {ps : List Pr}, ps.length ≤ 2000 → (∀ c ∈ ps, (c.1.on s).size ≤ m) → Fits C v s (ps ++ l)
 | [], _, _ => hl
 | c :: ps, h1, h2 => by
  refine ⟨?_, Fits.more hm hC hl (by simp at h1; omega) fun c hc => h2 c (by simp [hc])⟩
  have h3 := h2 c (by simp)
  have h4 := Nat.min_le_left (c.1.on s).size 2000
  simp only [List.length_cons] at h1
  have e : (ps ++ l).length = ps.length + l.length := List.length_append
  show (ps ++ l).length + _ + _ ≤ C
  omega
structure UGood (U : List ByteArray) (C : Nat) (s : List Bd) (l : List Pr) : Prop where
 ord : Ordered s
 var : ∀ b ∈ s, isVar b.1 = true
 inU : ∀ b ∈ s, b.1 ∈ U
 chk : ∀ b ∈ s, b.2.chk = 0
 siz : ∀ b ∈ s, b.2.size ≤ 2000
 idem : ∀ b ∈ s, NoDom s b.2
 ranU : ∀ b ∈ s, ∀ y, occ y b.2 = true → y ∈ U
 lchk : ∀ p ∈ l, p.1.chk = 0 ∧ p.2.chk = 0
 lU : ∀ p ∈ l, ∀ y, (occ y p.1 = true → y ∈ U) ∧ (occ y p.2 = true → y ∈ U)
 lsiz : ∀ p ∈ l, p.1.size ≤ 2000 ∧ p.2.size ≤ 2000
 fits : Fits C (U.length - s.length) s l
theorem filter_less {x : ByteArray} : ∀ {m : List ByteArray}, x ∈ m → (m.filter fun y => !decide (y = x)).length + 1 ≤ m.length
 | y :: m, h => by
  have hle := List.length_filter_le (fun y => !decide (y = x)) m
  by_cases e : y = x
  ·rw [List.filter_cons_of_neg (by simp [e]), List.length_cons]
   omega
  ·rw [List.filter_cons_of_pos (by simp [e]), List.length_cons, List.length_cons]
   have := filter_less (x := x) (m := m) ((List.mem_cons.1 h).resolve_left fun h => e h.symm)
   omega
theorem nodup_sub : ∀ {l m : List ByteArray}, l.Nodup → (∀ x ∈ l, x ∈ m) → l.length ≤ m.length
 | [], m, _, _ => Nat.zero_le _
 | x :: l, m, hn, hs => by
  obtain ⟨n1, n2⟩ := List.nodup_cons.1 hn
  have h1 := nodup_sub (m := m.filter fun y => !decide (y = x)) n2 fun y hy => List.mem_filter.2 ⟨hs y (by simp [hy]), by
   have : y ≠ x := fun e => n1 (by rw [← e]; exact hy)
   simp [this]⟩
  have := filter_less (hs x (by simp))
  rw [List.length_cons]
  omega
theorem UGood.len {U : List ByteArray} {C : Nat} {s : List Bd} {l : List Pr} (h : UGood U C s l) : s.length ≤ U.length := by
 have := nodup_sub (l := s.map (fun b : Bd => b.1)) (m := U) (ordered_named h.ord) fun x hx => by
  obtain ⟨b, hb, rfl⟩ := List.mem_map.1 hx
  exact h.inU b hb
 simpa using this
theorem UGood.stack {U : List ByteArray} {C : Nat} {s : List Bd} {l : List Pr} (h : UGood U C s l) : l.length ≤ C + 1 := by
 cases l with
 | nil => simp
 | cons p l => have := h.fits.1; simp; omega
def sumL (s : List Bd) : List Pr → Nat
 | [] => 0
 | p :: l => (p.1.on s).size + sumL s l
theorem sumL_append (s : List Bd) : ∀ (ps l : List Pr), sumL s (ps ++ l) = sumL s ps + sumL s l
 | [], l => by simp [sumL]
 | p :: ps, l => by rw [List.cons_append, sumL, sumL_append s ps l, sumL]; omega
theorem zip_mem {α β : Type} {xs : List α} {ys : List β} {c : α × β} (h : c ∈ xs.zip ys) : c.1 ∈ xs ∧ c.2 ∈ ys := by
 obtain ⟨a, b⟩ := c
 exact ⟨(List.of_mem_zip h).1, (List.of_mem_zip h).2⟩
theorem UGood.tail {U : List ByteArray} {C : Nat} {s : List Bd} {p : Pr} {l : List Pr} (h : UGood U C s (p :: l)) : UGood U C s l :=
 { h with lchk := fun q hq => h.lchk q (by simp [hq]), lU := fun q hq => h.lU q (by simp [hq]), lsiz := fun q hq => h.lsiz q (by simp [hq]), fits := h.fits.2 }
theorem onU {U : List ByteArray} {C : Nat} {s : List Bd} {l : List Pr} (h : UGood U C s l) {t : Tm} (hc : t.chk = 0) (hU : ∀ y, occ y t = true → y ∈ U) : (t.on s).chk = 0 ∧ NoDom s (t.on s) ∧ ∀ y, occ y (t.on s) = true → y ∈ U := by
 refine ⟨chk_on h.chk hc, fun b hb => ?_, fun y hy => ?_⟩
 ·cases ho : occ b.1 (t.on s) with
  | false => rfl
  | true =>
   rcases occ_on h.var hc ho with ⟨_, k⟩ | ⟨c, hc', k⟩
   ·exact absurd rfl (k b hb)
   ·rw [h.idem c hc' b hb] at k; cases k
 ·rcases occ_on h.var hc hy with ⟨k, _⟩ | ⟨c, hc', k⟩
  ·exact hU y k
  ·exact h.ranU c hc' y k
theorem bindV_good {U : List ByteArray} {C : Nat} {s : List Bd} {l : List Pr} (h : UGood U C s l) {x : ByteArray} {t : Tm} (hx : isVar x = true) (hxU : x ∈ U) (hxs : ∀ b ∈ s, b.1 ≠ x) (htc : t.chk = 0) (hts : t.size ≤ 2000) (htn : NoDom s t) (htU : ∀ y, occ y t = true → y ∈ U) {s' : List Bd} {ps : List Pr} (hb : bindV s x t = .go s' ps) :
  ps = [] ∧ UGood U C s' l ∧ s.length < s'.length := by
 unfold bindV at hb
 split at hb
 ·cases hb
 rename_i ho
 have ho : occ x t = false := by simpa using ho
 split at hb
 ·rename_i hall
  cases hb
  have hone : ∀ b ∈ [(x, t)], isVar b.1 = true := by simp [hx]
  have honec : ∀ b ∈ ([(x, t)] : List Bd), b.2.chk = 0 := by simp [htc]
  have hmem : ∀ b, b ∈ s.map (fun b => (b.1, b.2.on [(x, t)])) ++ [(x, t)] ↔ (∃ c ∈ s, b = (c.1, c.2.on [(x, t)])) ∨ b = (x, t) := fun b => by
   simp only [List.mem_append, List.mem_map, List.mem_singleton]
   constructor
   ·rintro (⟨c, hc, rfl⟩ | h)
    ·exact .inl ⟨c, hc, rfl⟩
    ·exact .inr h
   ·rintro (⟨c, hc, rfl⟩ | h)
    ·exact .inl ⟨c, hc, rfl⟩
    ·exact .inr h
  have hnamed : Named (s.map (fun b => (b.1, b.2.on [(x, t)])) ++ [(x, t)]) := by
   have := ordered_named h.ord
   unfold Named at this ⊢
   rw [List.map_append, List.map_map, List.nodup_append]
   refine ⟨this, by simp, fun a ha b hb e => ?_⟩
   obtain ⟨c, hc, rfl⟩ := List.mem_map.1 ha
   simp only [List.map_cons, List.map_nil, List.mem_singleton] at hb
   exact hxs c hc (e.trans hb)
  have hoccr : ∀ c ∈ s, ∀ y, occ y (c.2.on [(x, t)]) = true → (occ y c.2 = true ∧ x ≠ y) ∨ occ y t = true := fun c hc y hy => by
   rcases occ_on hone (h.chk c hc) hy with ⟨k1, k2⟩ | ⟨b, hb, k⟩
   ·exact .inl ⟨k1, k2 (x, t) (by simp)⟩
   ·rw [List.mem_singleton] at hb
    subst hb
    exact .inr k
  have hfree : ∀ b ∈ s.map (fun b => (b.1, b.2.on [(x, t)])) ++ [(x, t)], ∀ c ∈ s.map (fun b => (b.1, b.2.on [(x, t)])) ++ [(x, t)], occ c.1 b.2 = false := fun b hb c hc => by
   cases hoc : occ c.1 b.2 with
   | false => rfl
   | true =>
    exfalso
    rcases (hmem b).1 hb with ⟨b', hb', rfl⟩ | rfl
    ·rcases hoccr b' hb' _ hoc with ⟨k1, k2⟩ | k
     ·rcases (hmem c).1 hc with ⟨c', hc', rfl⟩ | rfl
      ·have := h.idem b' hb' c' hc'
       rw [k1] at this
       cases this
      ·exact k2 rfl
     ·rcases (hmem c).1 hc with ⟨c', hc', rfl⟩ | rfl
      ·have := htn c' hc'
       rw [k] at this
       cases this
      ·rw [k] at ho; cases ho
    ·rcases (hmem c).1 hc with ⟨c', hc', rfl⟩ | rfl
     ·have := htn c' hc'
      rw [hoc] at this
      cases this
     ·rw [hoc] at ho; cases ho
  have hlen : (sortB (s.map (fun b => (b.1, b.2.on [(x, t)])) ++ [(x, t)])).length = s.length + 1 := by rw [sortB_length]; simp
  have hinU : ∀ b ∈ sortB (s.map (fun b => (b.1, b.2.on [(x, t)])) ++ [(x, t)]), b.1 ∈ U := fun b hb => by
   rcases (hmem b).1 (sortB_mem.1 hb) with ⟨c, hc, rfl⟩ | rfl
   ·exact h.inU c hc
   ·exact hxU
  have hle : s.length + 1 ≤ U.length := by
   have := nodup_sub (l := (sortB (s.map (fun b => (b.1, b.2.on [(x, t)])) ++ [(x, t)])).map (fun b : Bd => b.1)) (m := U) (ordered_named (sortB_ordered hnamed)) fun y hy => by
    obtain ⟨b, hb, rfl⟩ := List.mem_map.1 hy
    exact hinU b hb
   rw [List.length_map, hlen] at this
   exact this
  refine ⟨rfl, ⟨sortB_ordered hnamed, fun b hb => ?_, hinU, fun b hb => ?_, fun b hb => ?_, fun b hb c hc => hfree b (sortB_mem.1 hb) c (sortB_mem.1 hc), fun b hb y hy => ?_, h.lchk, h.lU, h.lsiz, Fits.less (by rw [hlen]; omega) h.fits⟩, by rw [hlen]; omega⟩
  ·rcases (hmem b).1 (sortB_mem.1 hb) with ⟨c, hc, rfl⟩ | rfl
   ·exact h.var c hc
   ·exact hx
  ·rcases (hmem b).1 (sortB_mem.1 hb) with ⟨c, hc, rfl⟩ | rfl
   ·exact chk_on honec (h.chk c hc)
   ·exact htc
  ·rcases (hmem b).1 (sortB_mem.1 hb) with ⟨c, hc, rfl⟩ | rfl
   ·have := List.all_eq_true.1 hall c hc
    simpa using this
   ·exact hts
  ·rcases (hmem b).1 (sortB_mem.1 hb) with ⟨c, hc, rfl⟩ | rfl
   ·rcases hoccr c hc y hy with k | k
    ·exact h.ranU c hc y k.1
    ·exact htU y k
   ·exact htU y hy
 ·cases hb
theorem step_good {U : List ByteArray} {C : Nat} {s : List Bd} {p : Pr} {l : List Pr} (h : UGood U C s (p :: l)) {s' : List Bd} {ps : List Pr} (hs : stepU s p = .go s' ps) :
  UGood U C s' (ps ++ l) ∧ (s.length < s'.length ∨ (s' = s ∧ sumL s (ps ++ l) < sumL s (p :: l))) := by
 obtain ⟨hc1, hc2⟩ := h.lchk p (by simp)
 have hU := h.lU p (by simp)
 obtain ⟨a1, a2, a3⟩ := onU h hc1 fun y => (hU y).1
 obtain ⟨b1, b2, b3⟩ := onU h hc2 fun y => (hU y).2
 have hpos := Tm.size_pos (p.1.on s)
 have nameNo : ∀ {t : Tm}, NoDom s t → ∀ b ∈ s, b.1 ≠ t.name := fun {t} hn b hb e => (occ_no (hn b hb)).1 e.symm
 have nameU : ∀ {t : Tm}, (∀ y, occ y t = true → y ∈ U) → t.name ∈ U := fun {t} ht => ht _ (occ_iff.2 (.inl rfl))
 unfold stepU at hs
 split at hs
 ·cases hs
 rename_i hz
 rw [not_or] at hz
 split at hs
 ·cases hs
  exact ⟨h.tail, .inr ⟨rfl, by simp only [List.nil_append, sumL]; omega⟩⟩
 split at hs
 ·rename_i hv
  obtain ⟨rfl, k1, k2⟩ := bindV_good h.tail hv (nameU a3) (nameNo a2) b1 (by omega) b2 b3 hs
  exact ⟨k1, .inl k2⟩
 split at hs
 ·rename_i hv
  obtain ⟨rfl, k1, k2⟩ := bindV_good h.tail hv (nameU b3) (nameNo b2) a1 (by omega) a2 a3 hs
  exact ⟨k1, .inl k2⟩
 split at hs
 ·rename_i heq
  cases hs
  have hsz := Tm.size_eq (p.1.on s)
  have hlen := Tm.length_le (p.1.on s).args
  have hid : ∀ a ∈ (p.1.on s).args, a.on s = a := fun a ha => on_id fun b hb => (occ_no (a2 b hb)).2 a ha
  have hsum : ∀ (xs ys : List Tm), (∀ a ∈ xs, a.on s = a) → sumL s (xs.zip ys) ≤ Tm.sizes xs := by
   intro xs
   induction xs with
   | nil => intro ys _; simp [sumL]
   | cons x xs ih =>
    intro ys hx
    cases ys with
    | nil => simp [sumL]
    | cons y ys =>
     have := ih ys fun a ha => hx a (by simp [ha])
     simp only [List.zip_cons_cons, sumL, Tm.sizes]
     rw [hx x (by simp)]
     omega
  have hzl : ((p.1.on s).args.zip (p.2.on s).args).length ≤ (p.1.on s).args.length := by rw [List.length_zip]; exact Nat.min_le_left _ _
  have hmin : min (p.1.on s).size 2000 = (p.1.on s).size := Nat.min_eq_left (by omega)
  have hf := h.fits.1
  rw [hmin] at hf
  have hszb := Tm.size_eq (p.2.on s)
  refine ⟨⟨h.ord, h.var, h.inU, h.chk, h.siz, h.idem, h.ranU, fun q hq => ?_, fun q hq => ?_, fun q hq => ?_, Fits.more (m := (p.1.on s).size - 1) (by omega) (by omega) h.fits.2 (by omega) fun c hc => ?_⟩, .inr ⟨rfl, ?_⟩⟩
  ·rcases List.mem_append.1 hq with hq | hq
   ·exact ⟨(Tm.chk_args a1).2 _ (zip_mem hq).1, (Tm.chk_args b1).2 _ (zip_mem hq).2⟩
   ·exact h.tail.lchk q hq
  ·rcases List.mem_append.1 hq with hq | hq
   ·exact fun y => ⟨fun hy => a3 y (occ_arg (zip_mem hq).1 hy), fun hy => b3 y (occ_arg (zip_mem hq).2 hy)⟩
   ·exact h.tail.lU q hq
  ·rcases List.mem_append.1 hq with hq | hq
   ·have h1 := Tm.size_mem (zip_mem hq).1
    have h2 := Tm.size_mem (zip_mem hq).2
    omega
   ·exact h.tail.lsiz q hq
  ·rw [hid _ (zip_mem hc).1]
   have h1 := Tm.size_mem (zip_mem hc).1
   omega
  ·rw [sumL_append]
   have h1 := hsum _ (p.2.on s).args hid
   simp only [sumL]
   omega
 ·cases hs
theorem uends_all {U : List ByteArray} {C : Nat} : ∀ (v m : Nat) (s : List Bd) (l : List Pr), UGood U C s l → U.length - s.length = v → sumL s l = m → ∃ n r, UEnds n s l r := by
 intro v
 induction v using Nat.strongRecOn with
 | _ v ihv =>
 intro m
 induction m using Nat.strongRecOn with
 | _ m ihm =>
 intro s l h hv hm
 cases l with
 | nil => exact ⟨0, _, .nil⟩
 | cons p l =>
  cases hs : stepU s p with
  | err e => exact ⟨1, _, .err hs⟩
  | go s' ps =>
   obtain ⟨h', hd⟩ := step_good h hs
   have hlen := h'.len
   rcases hd with hd | ⟨rfl, hd⟩
   ·obtain ⟨n, r, hr⟩ := ihv (U.length - s'.length) (by omega) _ s' _ h' rfl rfl
    exact ⟨n + 1, r, .go hs hr⟩
   ·obtain ⟨n, r, hr⟩ := ihm (sumL s' (ps ++ l)) (by omega) s' _ h' hv rfl
    exact ⟨n + 1, r, .go hs hr⟩

abbrev vT (x : ByteArray) : Tm := .mk x []
def Sol (s θ : List Bd) : Prop := ∀ b ∈ s, b.2.on θ = (vT b.1).on θ
theorem on_args {θ : List Bd} {t : Tm} (h : t.args ≠ []) : t.on θ = .mk t.name (t.args.map (Tm.on θ)) := Tm.on_knot (.inr h)
theorem tm_leaf {t : Tm} (h : t.args = []) : t = vT t.name := by
 cases t with
 | mk n xs =>
  change xs = [] at h
  subst h
  rfl
theorem sol_on {s θ : List Bd} (hv : ∀ b ∈ s, isVar b.1 = true) (hs : Sol s θ) {t : Tm} (hc : t.chk = 0) : (t.on s).on θ = t.on θ := by
 induction hN : SizeOf.sizeOf t using Nat.strongRecOn generalizing t with
 | _ N ih =>
 subst hN
 obtain ⟨c1, c2⟩ := Tm.chk_args hc
 cases hl : lookup s t.name with
 | some x =>
  obtain ⟨b, hb, hbn, hbx⟩ := lookup_mem hl
  have h0 := c1 (by rw [← hbn]; exact hv b hb)
  rw [Tm.on_leaf hl h0, ← hbx, hs b hb, hbn, ← tm_leaf h0]
 | none =>
  rw [Tm.on_knot (.inl hl)]
  by_cases h0 : t.args = []
  ·have : (Tm.mk t.name (t.args.map (Tm.on s))) = t := by
    cases t with
    | mk n xs =>
     change xs = [] at h0
     subst h0
     rfl
   rw [this]
  ·rw [on_args (t := Tm.mk t.name (t.args.map (Tm.on s))) (by rw [Tm.args_mk]; simpa using h0), on_args h0]
   congr 1
   rw [Tm.args_mk, List.map_map]
   exact List.map_congr_left fun a ha => ih _ (Tm.lt_of_arg ha) (c2 a ha) rfl
theorem name_on {θ : List Bd} (hv : ∀ b ∈ θ, isVar b.1 = true) {t : Tm} (hn : ¬ isVar t.name = true) : t.on θ = .mk t.name (t.args.map (Tm.on θ)) := by
 refine Tm.on_knot (.inl (lookup_none fun b hb e => hn ?_))
 rw [← e]
 exact hv b hb
theorem sol_bind {s θ : List Bd} {x : ByteArray} {t : Tm} (hv : ∀ b ∈ s, isVar b.1 = true) (hx : isVar x = true) (hc : ∀ b ∈ s, b.2.chk = 0) (h1 : t.on θ = (vT x).on θ) : Sol s θ ↔ Sol (s.map fun b => (b.1, b.2.on [(x, t)])) θ := by
 have hone : Sol [(x, t)] θ := fun b hb => by
  rw [List.mem_singleton] at hb
  subst hb
  exact h1
 have hvo : ∀ b ∈ ([(x, t)] : List Bd), isVar b.1 = true := by simp [hx]
 constructor
 ·intro hs b hb
  obtain ⟨c, hc', rfl⟩ := List.mem_map.1 hb
  show (c.2.on [(x, t)]).on θ = _
  rw [sol_on hvo hone (hc c hc')]
  exact hs c hc'
 ·intro hs b hb
  have := hs (b.1, b.2.on [(x, t)]) (List.mem_map.2 ⟨b, hb, rfl⟩)
  change (b.2.on [(x, t)]).on θ = (vT b.1).on θ at this
  rwa [sol_on hvo hone (hc b hb)] at this
theorem sol_sort {s θ : List Bd} {b : Bd} : Sol (sortB (s ++ [b])) θ ↔ Sol s θ ∧ b.2.on θ = (vT b.1).on θ := by
 constructor
 ·intro h
  exact ⟨fun c hc => h c (sortB_mem.2 (by simp [hc])), h b (sortB_mem.2 (by simp))⟩
 ·rintro ⟨h1, h2⟩ c hc
  rcases List.mem_append.1 (sortB_mem.1 hc) with h | h
  ·exact h1 c h
  ·rw [List.mem_singleton] at h
   subst h
   exact h2
theorem zip_map {f : Tm → Tm} : ∀ {xs ys : List Tm}, xs.length = ys.length → ((∀ p ∈ xs.zip ys, f p.1 = f p.2) ↔ xs.map f = ys.map f)
 | [], [], _ => by simp
 | x :: xs, y :: ys, h => by
  have := zip_map (f := f) (xs := xs) (ys := ys) (by simpa using h)
  simp only [List.zip_cons_cons, List.mem_cons, forall_eq_or_imp, List.map_cons, List.cons.injEq]
  rw [this]
theorem step_sol {U : List ByteArray} {C : Nat} {s : List Bd} {p : Pr} {l : List Pr} (h : UGood U C s (p :: l)) {θ : List Bd} (hθ : ∀ b ∈ θ, isVar b.1 = true) {s' : List Bd} {ps : List Pr} (hs : stepU s p = .go s' ps) : (Sol s θ ∧ p.1.on θ = p.2.on θ) ↔ (Sol s' θ ∧ ∀ q ∈ ps, q.1.on θ = q.2.on θ) := by
 obtain ⟨hc1, hc2⟩ := h.lchk p (by simp)
 have hU := h.lU p (by simp)
 obtain ⟨a1, a2, a3⟩ := onU h hc1 fun y => (hU y).1
 obtain ⟨b1, b2, b3⟩ := onU h hc2 fun y => (hU y).2
 have e1 := fun hsol => sol_on h.var (θ := θ) hsol hc1
 have e2 := fun hsol => sol_on h.var (θ := θ) hsol hc2
 have bind : ∀ {x t u : Tm}, isVar x.name = true → x.chk = 0 → bindV s x.name t = .go s' ps → (Sol s θ ∧ x.on θ = t.on θ ↔ Sol s' θ ∧ ∀ q ∈ ps, q.1.on θ = q.2.on θ) := by
  intro x t u hx hxc hb
  have hxl := tm_leaf ((Tm.chk_args hxc).1 hx)
  unfold bindV at hb
  split at hb
  ·cases hb
  split at hb
  ·cases hb
   rw [sol_sort]
   constructor
   ·rintro ⟨k1, k2⟩
    have k3 : t.on θ = (vT x.name).on θ := by rw [← hxl]; exact k2.symm
    exact ⟨⟨(sol_bind h.var hx h.chk k3).1 k1, k3⟩, fun q hq => by cases hq⟩
   ·rintro ⟨⟨k1, k3⟩, _⟩
    exact ⟨(sol_bind h.var hx h.chk k3).2 k1, by rw [hxl]; exact k3.symm⟩
  ·cases hb
 unfold stepU at hs
 split at hs
 ·cases hs
 split at hs
 ·rename_i hv
  cases hs
  have l1 := tm_leaf ((Tm.chk_args a1).1 hv.1)
  have l2 := tm_leaf ((Tm.chk_args b1).1 (by rw [← hv.2]; exact hv.1))
  constructor
  ·rintro ⟨k1, _⟩
   exact ⟨k1, fun q hq => by cases hq⟩
  ·rintro ⟨k1, _⟩
   refine ⟨k1, ?_⟩
   rw [← e1 k1, ← e2 k1, l1, l2, hv.2]
 split at hs
 ·rename_i hv
  rw [← bind (u := p.2.on s) hv a1 hs]
  constructor
  ·rintro ⟨k1, k2⟩
   exact ⟨k1, by rw [e1 k1, e2 k1]; exact k2⟩
  ·rintro ⟨k1, k2⟩
   exact ⟨k1, by rw [e1 k1, e2 k1] at k2; exact k2⟩
 split at hs
 ·rename_i hv
  rw [← bind (u := p.1.on s) hv b1 hs]
  constructor
  ·rintro ⟨k1, k2⟩
   exact ⟨k1, by rw [e1 k1, e2 k1]; exact k2.symm⟩
  ·rintro ⟨k1, k2⟩
   exact ⟨k1, by rw [e1 k1, e2 k1] at k2; exact k2.symm⟩
 rename_i hv1 hv2
 split at hs
 ·rename_i heq
  cases hs
  rw [zip_map heq.2]
  constructor
  ·rintro ⟨k1, k2⟩
   refine ⟨k1, ?_⟩
   rw [← e1 k1, ← e2 k1, name_on hθ hv1, name_on hθ hv2] at k2
   injection k2
  ·rintro ⟨k1, k2⟩
   refine ⟨k1, ?_⟩
   rw [← e1 k1, ← e2 k1, name_on hθ hv1, name_on hθ hv2, k2, heq.1]
 ·cases hs
theorem step_no {s : List Bd} {p : Pr} {e : Int} (h : stepU s p = .err e) : e ≠ 0 := by
 have hb : ∀ {x : ByteArray} {t : Tm}, bindV s x t = .err e → e ≠ 0 := by
  intro x t hb
  unfold bindV at hb
  split at hb
  ·cases hb; decide
  split at hb
  ·cases hb
  ·cases hb; decide
 unfold stepU at h
 split at h
 ·cases h; decide
 split at h
 ·cases h
 split at h
 ·exact hb h
 split at h
 ·exact hb h
 split at h
 ·cases h
 ·cases h; decide
theorem sol_self {s : List Bd} (hn : Named s) (hi : ∀ b ∈ s, NoDom s b.2) : Sol s s := fun b hb => by
 rw [on_id (hi b hb), Tm.on_leaf (t := vT b.1) ((lookup_iff hn).2 (by exact hb)) rfl]
theorem robin_unifies {U : List ByteArray} {C : Nat} {n : Nat} {s : List Bd} {l : List Pr} {r : List Bd × Int} (hr : UEnds n s l r) : UGood U C s l → r.2 = 0 → UGood U C r.1 [] ∧ Sol s r.1 ∧ ∀ p ∈ l, p.1.on r.1 = p.2.on r.1 := by
 induction hr with
 | nil => exact fun h _ => ⟨h, sol_self (ordered_named h.ord) h.idem, fun p hp => by cases hp⟩
 | err he => exact fun _ h0 => absurd h0 (step_no he)
 | @go s p l s' ps n r hst hr ih =>
  intro h h0
  obtain ⟨h', _⟩ := step_good h hst
  obtain ⟨q0, q1, q2⟩ := ih h' h0
  obtain ⟨k1, k2⟩ := (step_sol h q0.var hst).2 ⟨q1, fun q hq => q2 q (by simp [hq])⟩
  refine ⟨q0, k1, fun q hq => ?_⟩
  rcases List.mem_cons.1 hq with rfl | hq
  ·exact k2
  ·exact q2 q (by simp [hq])

mutual
def Tm.mt : Tm → Tm → List Bd → List Bd × Bool
 | .mk n xs, t, l => if isVar n = true then (match lookup l n with
   | some x => (l, x.beq t)
   | none => (l ++ [(n, t)], true))
  else if n = t.name ∧ xs.length = t.args.length then Tm.mtL xs t.args l else (l, false)
def Tm.mtL : List Tm → List Tm → List Bd → List Bd × Bool
 | x :: xs, y :: ys, l => if (x.mt y l).2 = true then Tm.mtL xs ys (x.mt y l).1 else ((x.mt y l).1, false)
 | _, _, l => (l, true)
end
section
variable {p t : Tm} {l : List Bd}
theorem Tm.mt_old (hv : isVar p.name = true) {x : Tm} (h : lookup l p.name = some x) : p.mt t l = (l, x.beq t) := by
 cases p with
 | mk n xs =>
  simp only [Tm.name_mk] at hv h
  rw [Tm.mt, if_pos hv, h]
theorem Tm.mt_new (hv : isVar p.name = true) (h : lookup l p.name = none) : p.mt t l = (l ++ [(p.name, t)], true) := by
 cases p with
 | mk n xs =>
  simp only [Tm.name_mk] at hv h
  rw [Tm.mt, if_pos hv, h]
  rfl
theorem Tm.mt_clash (hv : isVar p.name = false) (h : ¬ (p.name = t.name ∧ p.args.length = t.args.length)) : p.mt t l = (l, false) := by
 cases p with
 | mk n xs =>
  simp only [Tm.name_mk, Tm.args_mk] at hv h
  rw [Tm.mt, if_neg (by simp [hv]), if_neg h]
theorem Tm.mt_knot (hv : isVar p.name = false) (h1 : p.name = t.name) (h2 : p.args.length = t.args.length) : p.mt t l = Tm.mtL p.args t.args l := by
 cases p with
 | mk n xs =>
  simp only [Tm.name_mk, Tm.args_mk] at hv h1 h2
  rw [Tm.mt, if_neg (by simp [hv]), if_pos ⟨h1, h2⟩]
  rfl
end
theorem Tm.mtL_nil (ys : List Tm) (l : List Bd) : Tm.mtL [] ys l = (l, true) := by cases ys <;> simp [Tm.mtL]
theorem Tm.mtL_append : ∀ (xs ys xs' ys' : List Tm) (l : List Bd), xs.length = ys.length → Tm.mtL (xs ++ xs') (ys ++ ys') l = if (Tm.mtL xs ys l).2 = true then Tm.mtL xs' ys' (Tm.mtL xs ys l).1 else ((Tm.mtL xs ys l).1, false)
 | [], [], xs', ys', l, _ => by simp [Tm.mtL_nil]
 | x :: xs, y :: ys, xs', ys', l, h => by
  simp only [List.cons_append, Tm.mtL]
  by_cases hx : (x.mt y l).2 = true
  ·simp only [hx, if_true]
   exact Tm.mtL_append xs ys xs' ys' _ (by simpa using h)
  ·simp only [hx]
   simp
 | [], y :: ys, _, _, _, h => by simp at h
 | x :: xs, [], _, _, _, h => by simp at h
theorem Tm.mtL_take {xs ys : List Tm} {k : Nat} {x y : Tm} {l : List Bd} (hl : xs.length = ys.length) (hx : xs[k]? = some x) (hy : ys[k]? = some y) (h : (Tm.mtL (xs.take k) (ys.take k) l).2 = true) :
  Tm.mtL (xs.take (k + 1)) (ys.take (k + 1)) l = x.mt y (Tm.mtL (xs.take k) (ys.take k) l).1 := by
 rw [take_snoc hx, take_snoc hy, Tm.mtL_append _ _ _ _ _ (by simp [hl]), if_pos h]
 generalize Tm.mtL (xs.take k) (ys.take k) l = q
 simp only [Tm.mtL]
 split
 ·rename_i h1
  exact Prod.ext rfl h1.symm
 ·rename_i h1
  exact Prod.ext rfl (by simpa using h1)
theorem Tm.mtL_no {xs ys : List Tm} {k : Nat} {l : List Bd} (hl : xs.length = ys.length) (h : (Tm.mtL (xs.take k) (ys.take k) l).2 = false) : Tm.mtL xs ys l = ((Tm.mtL (xs.take k) (ys.take k) l).1, false) := by
 have e : Tm.mtL xs ys l = Tm.mtL (xs.take k ++ xs.drop k) (ys.take k ++ ys.drop k) l := by rw [List.take_append_drop, List.take_append_drop]
 rw [e, Tm.mtL_append _ _ _ _ _ (by simp [hl]), h]
 rfl
structure MtOk (l l' : List Bd) (many most : Nat) : Prop where
 named : Named l → Named l'
 len : l'.length ≤ l.length + many
 size : ∀ b ∈ l', b ∈ l ∨ b.2.size ≤ most
theorem MtOk.refl (l : List Bd) (n m : Nat) : MtOk l l n m := ⟨fun h => h, by omega, fun b hb => .inl hb⟩
theorem MtOk.trans {a b c : List Bd} {n m k n' m' : Nat} (h : MtOk a b n m) (h' : MtOk b c n' m') (hn : n + n' ≤ k) {M : Nat} (h1 : m ≤ M) (h2 : m' ≤ M) : MtOk a c k M := by
 refine ⟨fun q => h'.named (h.named q), by have := h.len; have := h'.len; omega, fun x hx => ?_⟩
 rcases h'.size x hx with h3 | h3
 ·rcases h.size x h3 with h4 | h4
  ·exact .inl h4
  ·exact .inr (by omega)
 ·exact .inr (by omega)
theorem lookup_names {l : List Bd} {n : ByteArray} (h : lookup l n = none) : n ∉ l.map (·.1) := by
 intro hm
 obtain ⟨b, hb, rfl⟩ := List.mem_map.1 hm
 unfold lookup at h
 rw [Option.map_eq_none_iff, List.find?_eq_none] at h
 exact h b hb (by simp)
theorem named_snoc {l : List Bd} {b : Bd} (h : lookup l b.1 = none) (hn : Named l) : Named (l ++ [b]) := by
 unfold Named at *
 rw [List.map_append, List.nodup_append]
 refine ⟨hn, by simp, fun x hx y hy e => ?_⟩
 simp only [List.map_cons, List.map_nil, List.mem_singleton] at hy
 subst hy
 subst e
 exact lookup_names h hx
mutual
theorem Tm.mt_ok : ∀ (p t : Tm) (l : List Bd), MtOk l (p.mt t l).1 p.size t.size
 | .mk n xs, t, l => by
  rw [Tm.mt]
  split
  ·split
   ·exact MtOk.refl _ _ _
   ·rename_i h
    refine ⟨fun hn => named_snoc h hn, ?_, fun b hb => ?_⟩
    ·have := Tm.size_pos (.mk n xs)
     rw [List.length_append, List.length_singleton]
     omega
    ·rcases List.mem_append.1 hb with hb | hb
     ·exact .inl hb
     ·rw [List.mem_singleton] at hb
      subst hb
      exact .inr (Nat.le_refl _)
  ·split
   ·have := Tm.mtL_ok xs t.args l
    have h1 := Tm.size_eq t
    exact ⟨this.named, by have := this.len; rw [Tm.size]; omega, fun b hb => (this.size b hb).imp_right (by omega)⟩
   ·exact MtOk.refl _ _ _
theorem Tm.mtL_ok : ∀ (xs ys : List Tm) (l : List Bd), MtOk l (Tm.mtL xs ys l).1 (Tm.sizes xs) (Tm.sizes ys)
 | [], ys, l => by rw [Tm.mtL_nil]; exact MtOk.refl _ _ _
 | x :: xs, [], l => by rw [Tm.mtL]; exact MtOk.refl _ _ _; simp
 | x :: xs, y :: ys, l => by
  rw [Tm.mtL]
  have h1 := Tm.mt_ok x y l
  split
  ·exact h1.trans (Tm.mtL_ok xs ys _) (by rw [Tm.sizes]; exact Nat.le_refl _) (by rw [Tm.sizes]; omega) (by rw [Tm.sizes]; omega)
  ·exact ⟨h1.named, by have := h1.len; rw [Tm.sizes]; show (x.mt y l).1.length ≤ _; omega, fun b hb => (h1.size b hb).imp_right (by rw [Tm.sizes]; omega)⟩
end
def caseOf (p t : Tm) : List Bd := if (p.mt t []).2 = true then sortB (p.mt t []).1 else []
def isCase (p t : Tm) : Bool := (p.mt t []).2
theorem named_nil : Named [] := List.nodup_nil
theorem mt_named (p t : Tm) : Named (p.mt t []).1 := (Tm.mt_ok p t []).named named_nil
theorem mt_len (p t : Tm) : (p.mt t []).1.length ≤ p.size := by have := (Tm.mt_ok p t []).len; simpa using this
theorem mt_size (p t : Tm) : ∀ b ∈ (p.mt t []).1, b.2.size ≤ t.size := fun b hb => ((Tm.mt_ok p t []).size b hb).resolve_left (by simp)

inductive Ty where
 | mk (base : Int) (subs : List Ty)
def Ty.base : Ty → Int | .mk k _ => k
def Ty.subs : Ty → List Ty | .mk _ xs => xs
theorem Ty.base_mk (k : Int) (xs : List Ty) : (Ty.mk k xs).base = k := rfl
theorem Ty.subs_mk (k : Int) (xs : List Ty) : (Ty.mk k xs).subs = xs := rfl
mutual
def encY : Ty → List SV
 | .mk k xs => [.int .i64 k, .list (encYs xs)]
def encYs : List Ty → List (List SV)
 | [] => []
 | t :: ts => encY t :: encYs ts
end
theorem encYs_eq : ∀ xs : List Ty, encYs xs = xs.map encY
 | [] => rfl
 | t :: ts => by rw [encYs, encYs_eq ts]; rfl
theorem encY_eq (t : Ty) : encY t = [.int .i64 t.base, .list (t.subs.map encY)] := by
 cases t
 rw [encY, encYs_eq]
 rfl
instance : Lens encY 2 := ⟨fun t => by rw [encY_eq]; rfl⟩
abbrev aTy (t : Ty) : AV := .agg [.st (.int .i64 t.base), .st (.list (t.subs.map encY))]
abbrev aTys (l : List Ty) : AV := .one (.st (.list (l.map encY)))
theorem known_ty {S : AStore} {t : Ty} (h : (aTy t).known S) : (-9223372036854775808 ≤ t.base ∧ t.base ≤ 9223372036854775807) ∧ t.subs.length ≤ 9223372036854775807 := by
 have h1 : inR .i64 t.base := by
  have := h (.st (.int .i64 t.base)) (by simp)
  simpa [AC.known, SV.known] using this
 have h3 : t.subs.length ≤ maxLen := by
  have := h (.st (.list (t.subs.map encY))) (by simp)
  simp only [AC.known, SV.known, List.length_map] at this
  exact this.1
 rw [inR_i64] at h1
 rw [maxLen_eq] at h3
 exact ⟨h1, h3⟩
theorem Ty.lt_of_mem {a : Ty} {k : Int} {xs : List Ty} (h : a ∈ xs) : SizeOf.sizeOf a < SizeOf.sizeOf (Ty.mk k xs) := by
 have := List.sizeOf_lt_of_mem h
 simp only [Ty.mk.sizeOf_spec]
 omega
theorem Ty.lt_of_sub {a t : Ty} (h : a ∈ t.subs) : SizeOf.sizeOf a < SizeOf.sizeOf t := by
 cases t
 exact Ty.lt_of_mem h
attribute [go_sem] Ty.base_mk Ty.subs_mk encY_eq
mutual
def Ty.size : Ty → Nat
 | .mk _ xs => 1 + Ty.sizes xs
def Ty.sizes : List Ty → Nat
 | [] => 0
 | t :: ts => t.size + Ty.sizes ts
end
theorem Ty.sizes_append (xs ys : List Ty) : Ty.sizes (xs ++ ys) = Ty.sizes xs + Ty.sizes ys := by
 induction xs with
 | nil => simp [Ty.sizes]
 | cons t ts ih => simp only [List.cons_append, Ty.sizes, ih]; omega
theorem Ty.sizes_take {xs : List Ty} {k : Nat} {a : Ty} (h : xs[k]? = some a) : Ty.sizes (xs.take (k+1)) = Ty.sizes (xs.take k) + a.size := by
 rw [take_snoc h, Ty.sizes_append]; simp [Ty.sizes]
theorem Ty.sizes_take_le (xs : List Ty) (k : Nat)  : Ty.sizes (xs.take k) ≤ Ty.sizes xs := by
 have := Ty.sizes_append (xs.take k) (xs.drop k)
 rw [List.take_append_drop] at this
 omega
theorem Ty.size_eq (t : Ty) : t.size = 1 + Ty.sizes t.subs := by cases t; rfl
theorem Ty.size_pos (t : Ty) : 1 ≤ t.size := by rw [Ty.size_eq]; omega
theorem Ty.size_mem {a : Ty} {xs : List Ty} (h : a ∈ xs) : a.size ≤ Ty.sizes xs := by
 induction xs with
 | nil => simp at h
 | cons t ts ih =>
  rcases List.mem_cons.1 h with rfl | h
  ·simp only [Ty.sizes]; omega
  ·have := ih h; simp only [Ty.sizes]; omega
theorem Ty.size_sub {a t : Ty} (h : a ∈ t.subs) : a.size + 1 ≤ t.size := by
 have := Ty.size_mem h
 rw [Ty.size_eq t]
 omega
theorem Ty.length_le (xs : List Ty) : xs.length ≤ Ty.sizes xs := by
 induction xs with
 | nil => simp [Ty.sizes]
 | cons t ts ih => have := Ty.size_pos t; simp only [Ty.sizes, List.length_cons]; omega
mutual
def Ty.chk : Ty → Int
 | .mk k xs => if xs.length = 0 ∨ (xs.length = 2 ∧ k = 0) then (if 0 ≤ k ∧ k ≤ 999 then Ty.chks xs else 10) else 2
def Ty.chks : List Ty → Int
 | [] => 0
 | t :: ts => if t.chk = 0 then Ty.chks ts else t.chk
end
theorem Ty.chk_eq (t : Ty) : t.chk = if t.subs.length = 0 ∨ (t.subs.length = 2 ∧ t.base = 0) then (if 0 ≤ t.base ∧ t.base ≤ 999 then Ty.chks t.subs else 10) else 2 := by cases t; rfl
theorem Ty.chks_append (xs ys : List Ty) : Ty.chks (xs ++ ys) = if Ty.chks xs = 0 then Ty.chks ys else Ty.chks xs := by
 induction xs with
 | nil => simp [Ty.chks]
 | cons t ts ih =>
  simp only [List.cons_append, Ty.chks]
  by_cases h : t.chk = 0
  ·simp only [h, if_true, ih]
  ·simp only [h, if_false]
theorem Ty.chks_take {xs : List Ty} {k : Nat} {a : Ty} (h : xs[k]? = some a) (h0 : Ty.chks (xs.take k) = 0) : Ty.chks (xs.take (k+1)) = a.chk := by
 rw [take_snoc h, Ty.chks_append, if_pos h0]
 simp only [Ty.chks]
 split <;> simp_all
theorem Ty.chks_bad {xs : List Ty} {k : Nat} (h0 : Ty.chks (xs.take k) ≠ 0) : Ty.chks xs = Ty.chks (xs.take k) := by
 have := Ty.chks_append (xs.take k) (xs.drop k)
 rw [List.take_append_drop, if_neg h0] at this
 exact this
def Ty.may (t : Ty) : Int := if 200 < t.size then 3 else t.chk
inductive BT where
 | b (n : Nat)
 | a (x y : BT)
 deriving DecidableEq
def BT.ty : BT → Ty
 | .b n => .mk n []
 | .a x y => .mk 0 [x.ty, y.ty]
def BT.low (m : Nat) : BT → Prop
 | .b n => n < m
 | .a x y => x.low m ∧ y.low m
def BT.sz : BT → Nat
 | .b _ => 1
 | .a x y => 1 + x.sz + y.sz
theorem BT.size_ty : ∀ x : BT, x.ty.size = x.sz
 | .b n => rfl
 | .a x y => by simp only [BT.ty, Ty.size, Ty.sizes, BT.sz, BT.size_ty x, BT.size_ty y]; omega
theorem bt_of {t : Ty} (h : t.chk = 0) : ∃ x : BT, t = x.ty ∧ x.low 1000 := by
 induction hN : SizeOf.sizeOf t using Nat.strongRecOn generalizing t with
 | _ N ih =>
 subst hN
 rw [Ty.chk_eq] at h
 split at h
 ·rename_i h1
  split at h
  ·rename_i h2
   rcases h1 with h1 | ⟨h1, h0⟩
   ·cases t with
    | mk k xs =>
     have hx : xs = [] := List.eq_nil_of_length_eq_zero h1
     have hk : 0 ≤ k ∧ k ≤ 999 := h2
     subst hx
     refine ⟨.b k.toNat, ?_, by show k.toNat < 1000; omega⟩
     show Ty.mk k [] = Ty.mk (k.toNat : Int) []
     rw [Int.toNat_of_nonneg hk.1]
   ·cases t with
    | mk k xs =>
     have hk : k = 0 := h0
     subst hk
     match xs, h1, h with
     | [x, y], _, h =>
      have h : Ty.chks [x, y] = 0 := h
      simp only [Ty.chks] at h
      split at h
      ·rename_i hx
       split at h
       ·rename_i hy
        obtain ⟨x', rfl, lx⟩ := ih _ (Ty.lt_of_mem (k := 0) (show x ∈ [x, y] by simp)) hx rfl
        obtain ⟨y', rfl, ly⟩ := ih _ (Ty.lt_of_mem (k := 0) (show y ∈ [x'.ty, y] by simp)) hy rfl
        exact ⟨.a x' y', rfl, lx, ly⟩
       ·rename_i hy; exact absurd h hy
      ·rename_i hx; exact absurd h hx
  ·omega
 ·omega
theorem BT.ty_b_base (n : Nat) : (BT.b n).ty.base = n := rfl
theorem BT.ty_b_subs (n : Nat) : (BT.b n).ty.subs = [] := rfl
theorem BT.ty_a_base (x y : BT) : (BT.a x y).ty.base = 0 := rfl
theorem BT.ty_a_subs (x y : BT) : (BT.a x y).ty.subs = [x.ty, y.ty] := rfl
attribute [go_sem] BT.ty_b_base BT.ty_b_subs BT.ty_a_base BT.ty_a_subs
def BT.sub : BT → List BT
 | .b _ => []
 | .a x y => [x, y]
theorem BT.ty_subs (x : BT) : x.ty.subs = x.sub.map BT.ty := by cases x <;> rfl
theorem BT.lt_sub {x y : BT} (h : y ∈ x.sub) : SizeOf.sizeOf y < SizeOf.sizeOf x := by
 cases x with
 | b n => simp [BT.sub] at h
 | a u v =>
  simp only [BT.sub, List.mem_cons, List.not_mem_nil, or_false] at h
  simp only [BT.a.sizeOf_spec]
  rcases h with rfl | rfl <;> omega
theorem BT.eq_of {x y : BT} (h1 : x.ty.base = y.ty.base) (h2 : x.sub = y.sub) : x = y := by
 cases x <;> cases y
 ·simp only [BT.ty_b_base, Int.natCast_inj] at h1; rw [h1]
 ·simp [BT.sub] at h2
 ·simp [BT.sub] at h2
 ·simp only [BT.sub, List.cons.injEq, and_true] at h2; rw [h2.1, h2.2]
def fS : ByteArray := ⟨#[102]⟩
def arrT (a b : Tm) : Tm := .mk fS [a, b]
def lName (c : UInt8) (n : Nat) : ByteArray := ⟨#[c]⟩ ++ decS n
def lLeaf (c : UInt8) (n : Nat) : Tm := .mk (lName c n) []
theorem lName_list (c : UInt8) (n : Nat) : (lName c n).data.toList = c :: Lib.decDigits n := by
 unfold lName decS
 simp
theorem lName_inj {c : UInt8} {m n : Nat} (h : lName c m = lName c n) : m = n := by
 have h1 := congrArg (fun b : ByteArray => b.data.toList) h
 simp only [lName_list] at h1
 have h2 := congrArg digV (List.cons.inj h1).2
 rwa [digV_dec, digV_dec] at h2
theorem lName_at (c : UInt8) (n : Nat) : byteAt (lName c n) 0 = (c.toNat : Int) := by
 unfold byteAt
 rw [lName_list]
 rfl
theorem lName_size (c : UInt8) (n : Nat) : (lName c n).size = 1 + Lib.nDigits n := by
 have : (lName c n).size = (lName c n).data.toList.length := by
  show (lName c n).data.size = _
  rw [Array.length_toList]
 rw [this, lName_list, List.length_cons, Lib.decDigits_length]
 omega
theorem lName_var {c : UInt8} (hc : 65 ≤ c.toNat ∧ c.toNat ≤ 90) (n : Nat) : isVar (lName c n) = true := by
 unfold isVar
 rw [lName_at, lName_size, decide_eq_true (by omega), decide_eq_true (show (65 : Int) ≤ (c.toNat : Int) by omega), decide_eq_true (show (c.toNat : Int) ≤ 90 by omega)]
 rfl
theorem lName_ok {c : UInt8} (hc : 65 ≤ c.toNat ∧ c.toNat ≤ 90) {n : Nat} (h : n < 1000000) : nameOk (lName c n) = true := by
 have h6 := nDig_le (u := n) (k := 6) (by omega) (by omega)
 unfold nameOk
 rw [lName_at, lName_size, decide_eq_true (show 1 ≤ 1 + Lib.nDigits n by omega), decide_eq_true (show 1 + Lib.nDigits n ≤ 8 by omega), decide_eq_true (show (48 : Int) ≤ (c.toNat : Int) by omega), decide_eq_false (show ¬ (c.toNat : Int) ≤ 57 by omega)]
 have : lettersTo (lName c n) (1 + Lib.nDigits n) = true := by
  unfold lettersTo
  rw [lName_list]
  refine List.all_eq_true.2 fun d hd => ?_
  have hd := List.mem_of_mem_take hd
  rcases List.mem_cons.1 hd with rfl | hd
  ·unfold letterI
   rw [decide_eq_true (show (65 : Int) ≤ (d.toNat : Int) ∧ (d.toNat : Int) ≤ 90 by omega), Bool.or_true, Bool.true_or]
  ·have := digits_letters _ d hd
   unfold letterI
   rw [decide_eq_true (show 48 ≤ (d.toNat : Int) ∧ (d.toNat : Int) ≤ 57 by omega), Bool.or_true]
 rw [this]
 rfl
def BT.tm (c : UInt8) : BT → Tm
 | .b n => lLeaf c n
 | .a x y => arrT (x.tm c) (y.tm c)
theorem arrT_size (a b : Tm) : (arrT a b).size = 1 + a.size + b.size := by simp only [arrT, Tm.size, Tm.sizes]; omega
theorem BT.tm_size (c : UInt8) : ∀ x : BT, (x.tm c).size = x.sz
 | .b n => rfl
 | .a x y => by rw [BT.tm, arrT_size, BT.tm_size c x, BT.tm_size c y]; rfl
theorem fS_var : isVar fS = false := by decide
theorem BT.tm_inj {c : UInt8} (hc : 65 ≤ c.toNat ∧ c.toNat ≤ 90) : ∀ {x y : BT}, x.tm c = y.tm c → x = y
 | .b m, .b n, h => by
  have h1 : lName c m = lName c n := congrArg Tm.name h
  rw [lName_inj h1]
 | .a x y, .a x' y', h => by
  have h1 := congrArg Tm.args h
  simp only [BT.tm, arrT, Tm.args_mk, List.cons.injEq, and_true] at h1
  rw [BT.tm_inj hc h1.1, BT.tm_inj hc h1.2]
 | .b m, .a x y, h => by
  have h1 := congrArg Tm.args h
  simp [BT.tm, arrT, lLeaf, Tm.args_mk] at h1
 | .a x y, .b m, h => by
  have h1 := congrArg Tm.args h
  simp [BT.tm, arrT, lLeaf, Tm.args_mk] at h1
inductive TT : Tm → Prop
 | v {n : ByteArray} : isVar n = true → nameOk n = true → TT (.mk n [])
 | f {a b : Tm} : TT a → TT b → TT (arrT a b)
theorem TT.chk {t : Tm} (h : TT t) : t.chk = 0 := by
 induction h with
 | @v n h1 h2 =>
  refine chk_mk ?_ fun a ha => by simp [Tm.args_mk] at ha
  unfold chkOne
  rw [Tm.name_mk, if_pos h2, if_neg (by simp [Tm.args_mk])]
 | @f a b _ _ ha hb =>
  refine chk_mk (by unfold chkOne arrT; rw [Tm.name_mk, if_pos (show nameOk fS = true by decide), if_neg (by rw [fS_var]; simp)]) fun c hc => ?_
  simp only [arrT, Tm.args_mk, List.mem_cons, List.not_mem_nil, or_false] at hc
  rcases hc with rfl | rfl
  ·exact ha
  ·exact hb
theorem lLeaf_tt {c : UInt8} (hc : 65 ≤ c.toNat ∧ c.toNat ≤ 90) {n : Nat} (h : n < 1000000) : TT (lLeaf c n) := .v (lName_var hc n) (lName_ok hc h)
theorem TT.on {s : List Bd} (hs : ∀ b ∈ s, TT b.2) {t : Tm} (h : TT t) (hv : ∀ b ∈ s, isVar b.1 = true) : TT (t.on s) := by
 induction h with
 | @v n h1 h2 =>
  cases hl : lookup s n with
  | some x =>
   rw [Tm.on_leaf (t := .mk n []) (by rw [Tm.name_mk]; exact hl) rfl]
   obtain ⟨b, hb, _, rfl⟩ := lookup_mem hl
   exact hs b hb
  | none =>
   rw [Tm.on_knot (t := .mk n []) (.inl (by rw [Tm.name_mk]; exact hl))]
   exact .v h1 h2
 | @f a b _ _ ha hb =>
  have hl : lookup s fS = none := lookup_none fun c hc e => by
   have := hv c hc
   rw [e, fS_var] at this
   cases this
  rw [arrT, Tm.on_knot (t := .mk fS [a, b]) (.inl (by rw [Tm.name_mk]; exact hl))]
  exact .f ha hb
theorem TT.args {t a : Tm} (h : TT t) (ha : a ∈ t.args) : TT a := by
 cases h with
 | v => simp [Tm.args_mk] at ha
 | @f x y hx hy =>
  simp only [arrT, Tm.args_mk, List.mem_cons, List.not_mem_nil, or_false] at ha
  rcases ha with rfl | rfl
  ·exact hx
  ·exact hy
def TTs (s : List Bd) : Prop := ∀ b ∈ s, TT b.2 ∧ isVar b.1 = true
theorem bindV_tt {s : List Bd} {x : ByteArray} {t : Tm} (hs : TTs s) (hx : isVar x = true) (ht : TT t) {s' : List Bd} {ps : List Pr} (h : bindV s x t = .go s' ps) : TTs s' ∧ ps = [] := by
 unfold bindV at h
 split at h
 ·cases h
 split at h
 ·cases h
  refine ⟨fun b hb => ?_, rfl⟩
  rcases List.mem_append.1 (sortB_mem.1 hb) with hb | hb
  ·obtain ⟨c, hc, rfl⟩ := List.mem_map.1 hb
   exact ⟨(hs c hc).1.on (s := [(x, t)]) (by simpa using ht) (by simpa using hx), (hs c hc).2⟩
  ·rw [List.mem_singleton] at hb
   subst hb
   exact ⟨ht, hx⟩
 ·cases h
theorem stepU_tt {s : List Bd} {p : Pr} (hs : TTs s) (h1 : TT p.1) (h2 : TT p.2) {s' : List Bd} {ps : List Pr} (h : stepU s p = .go s' ps) : TTs s' ∧ ∀ q ∈ ps, TT q.1 ∧ TT q.2 := by
 have a1 := h1.on (fun b hb => (hs b hb).1) fun b hb => (hs b hb).2
 have a2 := h2.on (fun b hb => (hs b hb).1) fun b hb => (hs b hb).2
 unfold stepU at h
 split at h
 ·cases h
 split at h
 ·cases h; exact ⟨hs, by simp⟩
 split at h
 ·rename_i hv
  obtain ⟨k1, rfl⟩ := bindV_tt hs hv a2 h
  exact ⟨k1, by simp⟩
 split at h
 ·rename_i hv
  obtain ⟨k1, rfl⟩ := bindV_tt hs hv a1 h
  exact ⟨k1, by simp⟩
 split at h
 ·cases h
  refine ⟨hs, fun q hq => ?_⟩
  have := zip_mem hq
  exact ⟨a1.args this.1, a2.args this.2⟩
 ·cases h
theorem uends_tt {n : Nat} {s : List Bd} {l : List Pr} {r : List Bd × Int} (h : UEnds n s l r) : TTs s → (∀ q ∈ l, TT q.1 ∧ TT q.2) → TTs r.1 := by
 induction h with
 | nil => exact fun h _ => h
 | err => exact fun _ _ b hb => by simp at hb
 | @go s p l s' ps n r hst hr ih =>
  intro hs hl
  obtain ⟨k1, k2⟩ := stepU_tt hs (hl p (by simp)).1 (hl p (by simp)).2 hst
  refine ih k1 fun q hq => ?_
  rcases List.mem_append.1 hq with hq | hq
  ·exact k2 q hq
  ·exact hl q (by simp [hq])
theorem stepU_err_tt {s : List Bd} {p : Pr} (hs : TTs s) (h1 : TT p.1) (h2 : TT p.2) {e : Int} (h : stepU s p = .err e) : e = 6 ∨ e = 8 := by
 have a1 := h1.on (fun b hb => (hs b hb).1) fun b hb => (hs b hb).2
 have a2 := h2.on (fun b hb => (hs b hb).1) fun b hb => (hs b hb).2
 have hb : ∀ x t, bindV s x t = .err e → e = 6 ∨ e = 8 := fun x t h => by
  unfold bindV at h
  split at h
  ·cases h; exact .inl rfl
  ·split at h
   ·cases h
   ·cases h; exact .inr rfl
 unfold stepU at h
 split at h
 ·cases h; exact .inr rfl
 split at h
 ·cases h
 split at h
 ·exact hb _ _ h
 split at h
 ·exact hb _ _ h
 rename_i n1 n2
 split at h
 ·cases h
 ·rename_i hne
  exfalso
  generalize p.1.on s = u at *
  generalize p.2.on s = v at *
  cases a1 with
  | v hv _ => exact n1 hv
  | f _ _ =>
   cases a2 with
   | v hv _ => exact n2 hv
   | f _ _ => exact hne ⟨rfl, rfl⟩
theorem uends_err_tt {n : Nat} {s : List Bd} {l : List Pr} {r : List Bd × Int} (h : UEnds n s l r) : TTs s → (∀ q ∈ l, TT q.1 ∧ TT q.2) → r.2 = 0 ∨ r.2 = 6 ∨ r.2 = 8 := by
 induction h with
 | nil => exact fun _ _ => .inl rfl
 | err he => exact fun hs hl => .inr (stepU_err_tt hs (hl _ (by simp)).1 (hl _ (by simp)).2 he)
 | @go s p l s' ps n r hst hr ih =>
  intro hs hl
  obtain ⟨k1, k2⟩ := stepU_tt hs (hl p (by simp)).1 (hl p (by simp)).2 hst
  refine ih k1 fun q hq => ?_
  rcases List.mem_append.1 hq with hq | hq
  ·exact k2 q hq
  ·exact hl q (by simp [hq])
def Tm.bk : Tm → List ByteArray → BT × List ByteArray
 | .mk n [], l => (.b (posN l n), addN l n)
 | .mk n [x], l => (.b 0, l)
 | .mk n (x :: y :: _), l => (.a (x.bk l).1 (y.bk (x.bk l).2).1, (y.bk (x.bk l).2).2)
theorem bk_leaf (n : ByteArray) (l : List ByteArray) : (Tm.mk n []).bk l = (.b (posN l n), addN l n) := by rw [Tm.bk]
theorem bk_arr (a b : Tm) (l : List ByteArray) : (arrT a b).bk l = (.a (a.bk l).1 (b.bk (a.bk l).2).1, (b.bk (a.bk l).2).2) := by rw [arrT, Tm.bk]
theorem bk_vars {t : Tm} (h : TT t) : ∀ l, (t.bk l).2 = addVars l t.knots := by
 induction h with
 | @v n h1 h2 =>
  intro l
  rw [bk_leaf, Tm.knots_eq]
  show addN l n = addVar l n
  exact addN_var h1
 | @f a b _ _ ha hb =>
  intro l
  rw [bk_arr, Tm.knots_eq]
  simp only [arrT, Tm.args_mk, Tm.knotsL, List.append_nil]
  rw [hb, ha]
  show _ = addVars (addVar l fS) (a.knots ++ b.knots)
  rw [addVar_no fS_var, addVars_append]
theorem bk_goes {t : Tm} (h : TT t) : ∀ l, GoesN l (t.bk l).2 := by
 induction h with
 | @v n h1 h2 => intro l; rw [bk_leaf]; exact goesN_add l n
 | @f a b _ _ ha hb => intro l; rw [bk_arr]; exact (ha l).trans (hb _)
def Tm.asB (m : List ByteArray) : Tm → BT
 | .mk n [] => .b (posN m n)
 | .mk n [x] => .b 0
 | .mk n (x :: y :: _) => .a (x.asB m) (y.asB m)
theorem asB_leaf (n : ByteArray) (l : List ByteArray) : (Tm.mk n []).asB l = .b (posN l n) := by rw [Tm.asB]
theorem asB_arr (a b : Tm) (l : List ByteArray) : (arrT a b).asB l = .a (a.asB l) (b.asB l) := by rw [arrT, Tm.asB]
theorem bk_asB {t : Tm} (h : TT t) : ∀ l m, GoesN (t.bk l).2 m → (t.bk l).1 = t.asB m := by
 induction h with
 | @v n h1 h2 =>
  intro l m hg
  rw [bk_leaf] at hg ⊢
  rw [asB_leaf, (goesN_pos hg).1]
 | @f a b ta tb ha hb =>
  intro l m hg
  rw [bk_arr] at hg ⊢
  rw [asB_arr]
  simp only
  rw [hb _ m hg, ha l m ((bk_goes tb _).trans hg)]
theorem bk_in {t : Tm} (h : TT t) : ∀ l m, GoesN (t.bk l).2 m → (t.asB m).low m.length := by
 induction h with
 | @v n h1 h2 =>
  intro l m hg
  rw [bk_leaf] at hg
  rw [asB_leaf]
  exact (goesN_pos hg).2
 | @f a b ta tb ha hb =>
  intro l m hg
  rw [bk_arr] at hg
  rw [asB_arr]
  exact ⟨ha l m ((bk_goes tb _).trans hg), hb _ m hg⟩
theorem asB_size {t : Tm} (h : TT t) (m : List ByteArray) : (t.asB m).sz = t.size := by
 induction h with
 | v => rw [asB_leaf]; rfl
 | @f a b ta tb ha hb => rw [asB_arr, arrT_size, BT.sz, ha, hb]
theorem vars_len (t : Tm) : t.varsOf.length ≤ t.size := by
 have := addVars_length t.knots []
 rw [Tm.knots_length] at this
 simpa [Tm.varsOf] using this
inductive UL where
 | v (i : Nat)
 | l (b : UL)
 | a (f x : UL)
def UL.lm : UL → Lm
 | .v i => .mk 1 i []
 | .l b => .mk 2 0 [b.lm]
 | .a f x => .mk 3 0 [f.lm, x.lm]
def UL.closed : UL → Nat → Prop
 | .v i, u => i < u
 | .l b, u => b.closed (u + 1)
 | .a f x, u => f.closed u ∧ x.closed u
def UL.sz : UL → Nat
 | .v _ => 1
 | .l b => 1 + b.sz
 | .a f x => 1 + f.sz + x.sz
theorem UL.size_lm : ∀ x : UL, x.lm.size = x.sz
 | .v i => rfl
 | .l b => by simp only [UL.lm, Lm.size, Lm.sizes, UL.sz, UL.size_lm b, Nat.add_zero]
 | .a f x => by simp only [UL.lm, Lm.size, Lm.sizes, UL.sz, UL.size_lm f, UL.size_lm x]; omega
theorem UL.sz_pos (x : UL) : 1 ≤ x.sz := by cases x <;> simp only [UL.sz] <;> omega
theorem ul_of {t : Lm} {u : Nat} (h : t.chk 0 u = 0) (hp : t.pure = true) : ∃ x : UL, t = x.lm ∧ x.closed u := by
 induction hN : SizeOf.sizeOf t using Nat.strongRecOn generalizing t u with
 | _ N ih =>
 subst hN
 cases t with
 | mk k i xs =>
 rw [Lm.chk] at h
 rw [Lm.pure, Bool.and_eq_true, Bool.not_eq_true', decide_eq_false_iff_not] at hp
 obtain ⟨h4, hp⟩ := hp
 split at h
 ·rename_i h1
  obtain ⟨h1, h5, h6⟩ := h1
  split at h
  ·rename_i h2
   have hk : k = 1 ∨ k = 2 ∨ k = 3 ∨ k = 5 := by omega
   rcases hk with rfl | rfl | rfl | rfl
   ·have hx : xs = [] := List.eq_nil_of_length_eq_zero (by simpa [nSubs] using h6)
    subst hx
    have h2 : 0 ≤ i ∧ i < u := by simpa [mostIdx] using h2
    refine ⟨.v i.toNat, ?_, by show i.toNat < u; omega⟩
    show Lm.mk 1 i [] = Lm.mk 1 (i.toNat : Int) []
    rw [Int.toNat_of_nonneg h2.1]
   ·have h6 : xs.length = 1 := by have : (xs.length : Int) = 1 := (by simpa [nSubs] using h6); omega
    have h2 : i = 0 := by have : 0 ≤ i ∧ i < 1 := (by simpa [mostIdx] using h2); omega
    subst h2
    match xs, h6, h, hp with
    | [x], _, h, hp =>
     simp only [Lm.chks, under, Int.reduceEq, ↓reduceIte] at h
     have hx : x.chk 0 ((u + 1 : Nat) : Int) = 0 := by
      rw [Int.natCast_add]
      split at h
      ·assumption
      ·exact h
     simp only [Lm.pures, Bool.and_true] at hp
     obtain ⟨x', rfl, c⟩ := ih _ (Lm.lt_of_mem (k := 2) (i := 0) (show x ∈ [x] by simp)) hx hp rfl
     exact ⟨.l x', rfl, c⟩
   ·have h6 : xs.length = 2 := by have : (xs.length : Int) = 2 := (by simpa [nSubs] using h6); omega
    have h2 : i = 0 := by have : 0 ≤ i ∧ i < 1 := (by simpa [mostIdx] using h2); omega
    subst h2
    match xs, h6, h, hp with
    | [x, y], _, h, hp =>
     simp only [Lm.chks, under, Int.reduceEq, ↓reduceIte] at h
     have hx : x.chk 0 u = 0 := by
      split at h
      ·assumption
      ·exact h
     have hy : y.chk 0 u = 0 := by
      rw [if_pos hx] at h
      split at h
      ·assumption
      ·exact h
     simp only [Lm.pures, Bool.and_true, Bool.and_eq_true] at hp
     obtain ⟨x', rfl, c⟩ := ih _ (Lm.lt_of_mem (k := 3) (i := 0) (show x ∈ [x, y] by simp)) hx hp.1 rfl
     obtain ⟨y', rfl, d⟩ := ih _ (Lm.lt_of_mem (k := 3) (i := 0) (show y ∈ [x'.lm, y] by simp)) hy hp.2 rfl
     exact ⟨.a x' y', rfl, c, d⟩
   ·have h2 : 0 ≤ i ∧ i < 0 := by simpa [mostIdx] using h2
    omega
  ·omega
 ·omega
def tvar (n : Nat) : Tm := lLeaf 84 n
def UL.ty : UL → List Tm → List Pr × Nat → Tm × (List Pr × Nat)
 | .v i, und, m => (und.getD (und.length - 1 - i) Tm.nil, m)
 | .l b, und, m => (arrT (tvar (m.2 + 1)) (b.ty (und ++ [tvar (m.2 + 1)]) (m.1, m.2 + 1)).1, (b.ty (und ++ [tvar (m.2 + 1)]) (m.1, m.2 + 1)).2)
 | .a f x, und, m => (tvar ((x.ty und (f.ty und m).2).2.2 + 1), ((x.ty und (f.ty und m).2).2.1 ++ [((f.ty und m).1, arrT (x.ty und (f.ty und m).2).1 (tvar ((x.ty und (f.ty und m).2).2.2 + 1)))], (x.ty und (f.ty und m).2).2.2 + 1))
def inT (n : Nat) (t : Tm) : Prop := TT t ∧ ∀ y, occ y t = true → y = fS ∨ ∃ k, 1 ≤ k ∧ k ≤ n ∧ y = lName 84 k
theorem inT.more {m n : Nat} {t : Tm} (h : inT m t) (hm : m ≤ n) : inT n t := ⟨h.1, fun y hy => (h.2 y hy).imp id fun ⟨k, k1, k2, k3⟩ => ⟨k, k1, by omega, k3⟩⟩
theorem inT_var {n k : Nat} (h1 : 1 ≤ k) (h2 : k ≤ n) (h3 : k < 1000000) : inT n (tvar k) := ⟨lLeaf_tt (by decide) h3, fun y hy => by
 rw [occ_iff] at hy
 rcases hy with hy | ⟨a, ha, _⟩
 ·exact .inr ⟨k, h1, h2, hy.symm⟩
 ·simp [tvar, lLeaf, Tm.args_mk] at ha⟩
theorem inT_arr {n : Nat} {a b : Tm} (ha : inT n a) (hb : inT n b) : inT n (arrT a b) := ⟨.f ha.1 hb.1, fun y hy => by
 rw [occ_iff] at hy
 rcases hy with hy | ⟨c, hc, hy⟩
 ·exact .inl hy.symm
 ·simp only [arrT, Tm.args_mk, List.mem_cons, List.not_mem_nil, or_false] at hc
  rcases hc with rfl | rfl
  ·exact ha.2 y hy
  ·exact hb.2 y hy⟩
structure TyOk (K : Nat) (m : List Pr × Nat) : Prop where
 eqs : ∀ p ∈ m.1, (inT m.2 p.1 ∧ p.1.size ≤ K) ∧ (inT m.2 p.2 ∧ p.2.size ≤ K)
theorem TyOk.more {K : Nat} {l : List Pr} {m n : Nat} (h : TyOk K (l, m)) (hm : m ≤ n) : TyOk K (l, n) := ⟨fun p hp => ⟨⟨(h.eqs p hp).1.1.more hm, (h.eqs p hp).1.2⟩, (h.eqs p hp).2.1.more hm, (h.eqs p hp).2.2⟩⟩
theorem ty_ok (K : Nat) : ∀ (x : UL) (und : List Tm) (m : List Pr × Nat), x.closed und.length → (∀ t ∈ und, inT m.2 t ∧ t.size = 1) → 2 * x.sz + 2 ≤ K → m.2 + x.sz < 1000000 → TyOk K m →
  TyOk K (x.ty und m).2 ∧ m.2 ≤ (x.ty und m).2.2 ∧ (x.ty und m).2.2 ≤ m.2 + x.sz ∧ inT (x.ty und m).2.2 (x.ty und m).1 ∧ (x.ty und m).1.size ≤ 2 * x.sz ∧ (x.ty und m).2.1.length ≤ m.1.length + x.sz
 | .v i, und, m, hc, hu, hK, hn, hm => by
  have hc : i < und.length := hc
  obtain ⟨t, ht⟩ := get_lt (show und.length - 1 - i < und.length by omega)
  have e : und.getD (und.length - 1 - i) Tm.nil = t := by rw [List.getD_eq_getElem?_getD, ht]; rfl
  have := hu t (mem_of_get ht)
  simp only [UL.ty, e, UL.sz]
  exact ⟨hm, by omega, by omega, this.1, by omega, by omega⟩
 | .l b, und, m, hc, hu, hK, hn, hm => by
  simp only [UL.sz] at hK hn ⊢
  have hv : inT (m.2 + 1) (tvar (m.2 + 1)) := inT_var (by omega) (by omega) (by omega)
  obtain ⟨h1, h2, h3, h4, h5, h6⟩ := ty_ok K b (und ++ [tvar (m.2 + 1)]) (m.1, m.2 + 1) (by rw [List.length_append]; exact hc) (fun t ht => by
   rcases List.mem_append.1 ht with ht | ht
   ·exact ⟨(hu t ht).1.more (by simp), (hu t ht).2⟩
   ·rw [List.mem_singleton] at ht
    subst ht
    exact ⟨hv, rfl⟩) (by omega) (by show m.2 + 1 + b.sz < _; omega) (TyOk.more (m := m.2) hm (by omega))
  simp only at h2 h3 h6
  simp only [UL.ty]
  refine ⟨h1, by omega, by omega, inT_arr (hv.more h2) h4, ?_, by omega⟩
  rw [arrT_size]
  have : (tvar (m.2 + 1)).size = 1 := rfl
  omega
 | .a f x, und, m, hc, hu, hK, hn, hm => by
  simp only [UL.sz] at hK hn ⊢
  obtain ⟨h1, h2, h3, h4, h5, h6⟩ := ty_ok K f und m hc.1 hu (by omega) (by omega) hm
  obtain ⟨k1, k2, k3, k4, k5, k6⟩ := ty_ok K x und (f.ty und m).2 hc.2 (fun t ht => ⟨(hu t ht).1.more h2, (hu t ht).2⟩) (by omega) (by omega) h1
  simp only [UL.ty]
  generalize hn' : (x.ty und (f.ty und m).2).2.2 = n' at *
  have hv : inT (n' + 1) (tvar (n' + 1)) := inT_var (by omega) (by omega) (by omega)
  have hv1 : (tvar (n' + 1)).size = 1 := rfl
  refine ⟨⟨fun p hp => ?_⟩, by omega, by omega, hv, by omega, by rw [List.length_append, List.length_singleton]; omega⟩
  rcases List.mem_append.1 hp with hp | hp
  ·have := k1.eqs p hp
   rw [hn'] at this
   exact ⟨⟨this.1.1.more (by simp), this.1.2⟩, this.2.1.more (by simp), this.2.2⟩
  ·rw [List.mem_singleton] at hp
   subst hp
   refine ⟨⟨h4.more (by simp only; omega), by simp only; omega⟩, inT_arr (k4.more (by simp)) hv, ?_⟩
   simp only
   rw [arrT_size]
   omega
def BT.cs : BT → BT → (Nat → Option BT) → Option (Nat → Option BT)
 | .b n, t, env => match env n with
  | some x => if x = t then some env else none
  | none => some fun i => if i = n then some t else env i
 | .a x y, .a x' y', env => match x.cs x' env with
  | some e => y.cs y' e
  | none => none
 | .a _ _, .b _, _ => none
def isCaseB (p t : BT) : Bool := (p.cs t fun _ => none).isSome
def Says (l : List Bd) (env : Nat → Option BT) : Prop := ∀ n, lookup l (lName 80 n) = (env n).map (BT.tm 81)
theorem mt_cs : ∀ (p t : BT) (l : List Bd) (env : Nat → Option BT), Says l env → match p.cs t env with
  | some e => ((p.tm 80).mt (t.tm 81) l).2 = true ∧ Says ((p.tm 80).mt (t.tm 81) l).1 e
  | none => ((p.tm 80).mt (t.tm 81) l).2 = false
 | .b n, t, l, env, h => by
  have hv : isVar ((BT.b n).tm 80).name = true := lName_var (by decide) n
  have hl := h n
  rw [BT.cs]
  cases he : env n with
  | some x =>
   rw [he] at hl
   have hm := Tm.mt_old (t := t.tm 81) hv hl
   by_cases e : x = t
   ·simp only [if_pos e]
    rw [hm]
    subst e
    exact ⟨(Tm.beq_iff _ _).2 rfl, h⟩
   ·simp only [if_neg e]
    rw [hm]
    cases hb : (x.tm 81).beq (t.tm 81) with
    | false => rfl
    | true => exact absurd (BT.tm_inj (by decide) ((Tm.beq_iff _ _).1 hb)) e
  | none =>
   rw [he] at hl
   have hm := Tm.mt_new (t := t.tm 81) hv hl
   simp only
   rw [hm]
   refine ⟨rfl, fun k => ?_⟩
   rw [lookup_append]
   have hn : ((BT.b n).tm 80).name = lName 80 n := rfl
   by_cases e : k = n
   ·subst e
    rw [h k, he, hn, lookup_cons, if_pos rfl]
    simp
   ·have : ¬ lName 80 n = lName 80 k := fun hh => e (lName_inj hh).symm
    rw [h k, hn, lookup_cons, if_neg this, lookup_nil]
    simp only [if_neg e]
    cases env k with
    | some x => rfl
    | none => rfl
 | .a x y, .a x' y', l, env, h => by
  have h1 := mt_cs x x' l env h
  have hk : ((BT.a x y).tm 80).mt ((BT.a x' y').tm 81) l = Tm.mtL [x.tm 80, y.tm 80] [x'.tm 81, y'.tm 81] l := Tm.mt_knot (by exact fS_var) rfl rfl
  rw [hk, BT.cs]
  simp only [Tm.mtL]
  cases hc : x.cs x' env with
  | none =>
   rw [hc] at h1
   simp only at h1 ⊢
   rw [h1]
   rfl
  | some e =>
   rw [hc] at h1
   simp only at h1 ⊢
   rw [h1.1, if_pos rfl]
   have h2 := mt_cs y y' _ e h1.2
   cases hc2 : y.cs y' e with
   | none =>
    rw [hc2] at h2
    simp only at h2 ⊢
    rw [h2]
    rfl
   | some e2 =>
    rw [hc2] at h2
    simp only at h2 ⊢
    rw [h2.1, if_pos rfl]
    exact ⟨rfl, h2.2⟩
 | .a x y, .b n, l, env, h => by
  have hk : ((BT.a x y).tm 80).mt ((BT.b n).tm 81) l = (l, false) := Tm.mt_clash (by exact fS_var) (fun hh => by
   have := hh.2
   simp [BT.tm, arrT, lLeaf, Tm.args_mk] at this)
  rw [hk, BT.cs]
theorem isCase_bt (p t : BT) : isCase (p.tm 80) (t.tm 81) = isCaseB p t := by
 have h := mt_cs p t [] (fun _ => none) (fun n => by simp [lookup_nil])
 unfold isCase isCaseB
 cases hc : p.cs t fun _ => none with
 | none => rw [hc] at h; exact h
 | some e => rw [hc] at h; exact h.1

set_option linter.unusedSimpArgs false
inductive Typ : List BT → Lm → BT → Prop
 | v {G : List BT} {i : Nat} {b : BT} : G[i]? = some b → Typ G (.mk 1 (i : Int) []) b
 | l {G : List BT} {t : Lm} {a b : BT} : Typ (a :: G) t b → Typ G (.mk 2 0 [t]) (.a a b)
 | a {G : List BT} {f x : Lm} {a b : BT} : Typ G f (.a a b) → Typ G x a → Typ G (.mk 3 0 [f, x]) b
theorem mv_l (b d : Int) (t : Lm) : Lm.mv b d (.mk 2 0 [t]) = .mk 2 0 [Lm.mv b (d + 1) t] := rfl
theorem mv_a (b d : Int) (f x : Lm) : Lm.mv b d (.mk 3 0 [f, x]) = .mk 3 0 [Lm.mv b d f, Lm.mv b d x] := rfl
theorem mv_v (b d i : Int) : Lm.mv b d (.mk 1 i []) = .mk 1 (if d ≤ i then i + b else i) [] := by
 rw [Lm.mv, Lm.mvs]
 by_cases h : d ≤ i
 ·rw [if_pos ⟨rfl, h⟩, if_pos h]
 ·rw [if_neg (fun e => h e.2), if_neg h]
theorem put_l (x : Lm) (d : Int) (t : Lm) : Lm.put x d (.mk 2 0 [t]) = .mk 2 0 [Lm.put x (d + 1) t] := rfl
theorem put_a (y : Lm) (d : Int) (f x : Lm) : Lm.put y d (.mk 3 0 [f, x]) = .mk 3 0 [Lm.put y d f, Lm.put y d x] := rfl
theorem put_v (x : Lm) (d i : Int) : Lm.put x d (.mk 1 i []) = if i = d then Lm.mv d 0 x else if d < i then .mk 1 (i - 1) [] else .mk 1 i [] := by
 rw [Lm.put, if_pos rfl]
theorem nth_mid {α : Type} (G1 D G2 : List α) (i : Nat) : (G1 ++ D ++ G2)[if G1.length ≤ i then i + D.length else i]? = (G1 ++ G2)[i]? := by
 by_cases h : G1.length ≤ i
 ·rw [if_pos h, List.append_assoc, List.getElem?_append_right (by omega), List.getElem?_append_right (by omega), List.getElem?_append_right h, show i + D.length - G1.length - D.length = i - G1.length by omega]
 ·rw [if_neg h, List.append_assoc, List.getElem?_append_left (by omega), List.getElem?_append_left (by omega)]
theorem typ_mv (D : List BT) {G : List BT} {t : Lm} {b : BT} (h : Typ G t b) : ∀ G1 G2, G = G1 ++ G2 → Typ (G1 ++ D ++ G2) (Lm.mv D.length G1.length t) b := by
 induction h with
 | @v G i b h =>
  rintro G1 G2 rfl
  rw [mv_v]
  have e : (if (G1.length : Int) ≤ (i : Int) then (i : Int) + (D.length : Int) else (i : Int)) = ((if G1.length ≤ i then i + D.length else i : Nat) : Int) := by
   by_cases hi : G1.length ≤ i
   ·rw [if_pos (by omega), if_pos hi]; omega
   ·rw [if_neg (by omega), if_neg hi]
  rw [e]
  exact .v (by rw [nth_mid]; exact h)
 | @l G t a b h ih =>
  rintro G1 G2 rfl
  rw [mv_l]
  have := ih (a :: G1) G2 rfl
  rw [List.length_cons, Int.natCast_add, Int.natCast_one] at this
  exact .l this
 | @a G f x a b hf hx ihf ihx =>
  rintro G1 G2 rfl
  rw [mv_a]
  exact .a (ihf G1 G2 rfl) (ihx G1 G2 rfl)
theorem typ_put {x : Lm} {a : BT} {G : List BT} {t : Lm} {b : BT} (h : Typ G t b) : ∀ G1 G2, G = G1 ++ a :: G2 → Typ G2 x a → Typ (G1 ++ G2) (Lm.put x G1.length t) b := by
 induction h with
 | @v G i b h =>
  rintro G1 G2 rfl hx
  rw [put_v]
  by_cases hi : (i : Int) = G1.length
  ·rw [if_pos hi]
   have hi : i = G1.length := by omega
   subst hi
   rw [List.getElem?_append_right (by omega), Nat.sub_self] at h
   obtain rfl : a = b := by simpa using h
   exact typ_mv G1 hx [] G2 rfl
  ·rw [if_neg hi]
   by_cases hl : (G1.length : Int) < i
   ·rw [if_pos hl]
    obtain ⟨j, rfl⟩ : ∃ j, i = j + 1 := ⟨i - 1, by omega⟩
    rw [show ((j + 1 : Nat) : Int) - 1 = (j : Int) by omega]
    refine .v ?_
    rw [List.getElem?_append_right (by omega)] at h ⊢
    rw [show j + 1 - G1.length = (j - G1.length) + 1 by omega, List.getElem?_cons_succ] at h
    exact h
   ·rw [if_neg hl]
    refine .v ?_
    rw [List.getElem?_append_left (by omega)] at h ⊢
    exact h
 | @l G t c b h ih =>
  rintro G1 G2 rfl hx
  rw [put_l]
  have := ih (c :: G1) G2 rfl hx
  rw [List.length_cons, Int.natCast_add, Int.natCast_one] at this
  exact .l this
 | @a G f y c b hf hy ihf ihy =>
  rintro G1 G2 rfl hx
  rw [put_a]
  exact .a (ihf G1 G2 rfl hx) (ihy G1 G2 rfl hx)
theorem typ_outer {G : List BT} {t : Lm} {b : BT} (h : Typ G t b) : ∀ y, t.outer = some y → Typ G y b := by
 induction h with
 | @v G i b h =>
  intro y hy
  rw [Lm.outer] at hy
  simp [Lm.top, Lm.outers] at hy
 | @l G t a b h ih =>
  intro y hy
  rw [Lm.outer] at hy
  simp only [Lm.top, Lm.outers] at hy
  cases ho : t.outer with
  | none => rw [ho] at hy; simp at hy
  | some z =>
   rw [ho] at hy
   simp only [Option.some.injEq] at hy
   subst hy
   exact .l (ih z ho)
 | @a G f x a b hf hx ihf ihx =>
  intro y hy
  rw [Lm.outer] at hy
  cases ht : Lm.top 3 [f, x] with
  | some z =>
   rw [ht] at hy
   simp only [Option.some.injEq] at hy
   subst hy
   cases hf with
   | @l _ t _ _ h => 
    simp only [Lm.top, Lm.kind, Lm.subs, and_self, if_true, Option.some.injEq] at ht
    subst ht
    exact typ_put h [] G rfl hx
   | v _ => simp [Lm.top, Lm.kind] at ht
   | a _ _ => simp [Lm.top, Lm.kind] at ht
  | none =>
   rw [ht] at hy
   simp only [Lm.outers] at hy
   cases h1 : f.outer with
   | some z =>
    rw [h1] at hy
    simp only [Option.some.injEq] at hy
    subst hy
    exact .a (ihf z h1) hx
   | none =>
    rw [h1] at hy
    cases h2 : x.outer with
    | some z =>
     rw [h2] at hy
     simp only [Option.some.injEq] at hy
     subst hy
     exact .a hf (ihx z h2)
    | none => rw [h2] at hy; simp at hy
theorem typ_run {G : List BT} {b : BT} : ∀ (left : Nat) (n : Int) (t : Lm), Typ G t b → (Lm.run left n t).2.2 = 0 → Typ G (Lm.run left n t).1 b ∧ (Lm.run left n t).1.outer = none
 | left, n, t => by
  intro h h0
  cases ho : t.outer with
  | none => rw [Lm.run_none ho]; exact ⟨h, ho⟩
  | some x =>
   cases left with
   | zero => rw [Lm.run_zero ho] at h0; cases h0
   | succ left =>
    rw [Lm.run_succ ho] at h0 ⊢
    split at h0
    ·cases h0
    ·rename_i hx
     rw [if_neg hx]
     exact typ_run left (n + 1) x (typ_outer h x ho) h0
theorem typ_ty (f : Tm → BT) (hf : ∀ a b, f (arrT a b) = .a (f a) (f b)) : ∀ (x : UL) (und : List Tm) (m : List Pr × Nat), x.closed und.length → (∀ p ∈ (x.ty und m).2.1, f p.1 = f p.2) → Typ (und.reverse.map f) x.lm (f (x.ty und m).1) ∧ (∀ p ∈ m.1, f p.1 = f p.2)
 | .v i, und, m, hc, he => by
  have hc : i < und.length := hc
  refine ⟨.v ?_, he⟩
  rw [List.getElem?_map, List.getElem?_reverse hc, UL.ty]
  simp only [List.getD_eq_getElem?_getD]
  rw [show und.length - 1 - i = und.length - 1 - i from rfl, List.getElem?_eq_getElem (by omega)]
  rfl
 | .l b, und, m, hc, he => by
  have hc : b.closed (und.length + 1) := hc
  obtain ⟨h1, h2⟩ := typ_ty f hf b (und ++ [tvar (m.2 + 1)]) (m.1, m.2 + 1) (by rw [List.length_append]; exact hc) he
  refine ⟨?_, h2⟩
  rw [UL.ty, hf]
  rw [List.reverse_append] at h1
  exact .l h1
 | .a g x, und, m, hc, he => by
  have hc : g.closed und.length ∧ x.closed und.length := hc
  rw [UL.ty] at he
  simp only at he
  obtain ⟨h1, h2⟩ := typ_ty f hf x und (g.ty und m).2 hc.2 fun p hp => he p (List.mem_append_left _ hp)
  obtain ⟨h3, h4⟩ := typ_ty f hf g und m hc.1 h2
  refine ⟨?_, h4⟩
  have h5 := he _ (List.mem_append_right _ (List.mem_singleton.2 rfl))
  simp only at h5
  rw [hf] at h5
  rw [h5] at h3
  rw [UL.ty]
  exact .a h3 h1
def BT.inst (E : Nat → BT) : BT → BT
 | .b n => E n
 | .a x y => .a (x.inst E) (y.inst E)
theorem cs_inst : ∀ (p t : BT) (env e : Nat → Option BT), p.cs t env = some e → (∀ n x, env n = some x → e n = some x) ∧ ∀ e' : Nat → Option BT, (∀ n x, e n = some x → e' n = some x) → t = p.inst fun n => (e' n).getD (.b 0)
 | .b n, t, env, e, h => by
  rw [BT.cs] at h
  cases he : env n with
  | some x =>
   rw [he] at h
   simp only at h
   split at h
   ·rename_i hx
    obtain rfl := Option.some.inj h
    refine ⟨fun _ _ h => h, fun e' h' => ?_⟩
    rw [BT.inst, h' n x he, Option.getD_some, hx]
   ·cases h
  | none =>
   rw [he] at h
   obtain rfl := Option.some.inj h
   refine ⟨fun k x hk => ?_, fun e' h' => ?_⟩
   ·simp only
    rw [if_neg (fun e => by rw [e, he] at hk; cases hk), hk]
   ·rw [BT.inst, h' n t (by simp only [if_true]), Option.getD_some]
 | .a x y, .a x' y', env, e, h => by
  rw [BT.cs] at h
  cases h1 : x.cs x' env with
  | none => rw [h1] at h; cases h
  | some e1 =>
   rw [h1] at h
   simp only at h
   obtain ⟨m1, i1⟩ := cs_inst x x' env e1 h1
   obtain ⟨m2, i2⟩ := cs_inst y y' e1 e h
   refine ⟨fun n z hz => m2 n z (m1 n z hz), fun e' h' => ?_⟩
   rw [BT.inst, ← i1 e' (fun n z hz => h' n z (m2 n z hz)), ← i2 e' h']
 | .a x y, .b n, env, e, h => by rw [BT.cs] at h; cases h
theorem isCaseB_inst {p t : BT} (h : isCaseB p t = true) : ∃ E, t = p.inst E := by
 unfold isCaseB at h
 cases hc : p.cs t fun _ => none with
 | none => rw [hc] at h; cases h
 | some e => exact ⟨_, (cs_inst p t _ e hc).2 e fun _ _ h => h⟩
theorem on_arrT (s : List Bd) (a b : Tm) : (arrT a b).on s = arrT (a.on s) (b.on s) := by
 rw [Tm.on_knot (.inr (by simp [arrT, Tm.args_mk]))]
 rfl
theorem typ_sol {x : UL} (hc : x.closed 0) {s : List Bd} (h : ∀ p ∈ (x.ty [] ([], 0)).2.1, p.1.on s = p.2.on s) (m : List ByteArray) (E : Nat → BT) : Typ [] x.lm ((((x.ty [] ([], 0)).1.on s).asB m).inst E) :=
 (typ_ty (fun t => ((t.on s).asB m).inst E) (fun a b => by simp only [on_arrT, asB_arr, BT.inst]) x [] ([], 0) hc fun p hp => by simp only [h p hp]).1
inductive LR : Bool → List BT → Lm → BT → Lm → Nat → Nat → Prop
 | lam {G : List BT} {t o : Lm} {a b : BT} {n d : Nat} : LR true (a :: G) t b o n d → LR true G (.mk 2 0 [t]) (.a a b) (.mk 2 0 [o]) (n + 1) (d + 1)
 | eta {G : List BT} {t o : Lm} {a b : BT} {n d : Nat} : t.kind ≠ 2 → LR true (a :: G) (.mk 3 0 [Lm.mv 1 0 t, .mk 1 0 []]) b o n d → LR true G t (.a a b) (.mk 2 0 [o]) (n + 1) (d + 1)
 | base {G : List BT} {t o : Lm} {k n d : Nat} : LR false G t (.b k) o n d → LR true G t (.b k) o n d
 | v {G : List BT} {i : Nat} {b : BT} : G[i]? = some b → LR false G (.mk 1 (i : Int) []) b (.mk 1 (i : Int) []) 1 0
 | a {G : List BT} {f x o p : Lm} {a b : BT} {n m d e c : Nat} : LR false G f (.a a b) o n d → LR true G x a p m e → d < c → e < c → LR false G (.mk 3 0 [f, x]) b (.mk 3 0 [o, p]) (n + m + 1) c
theorem LR.size {w : Bool} {G : List BT} {t o : Lm} {b : BT} {n d : Nat} (h : LR w G t b o n d) : o.size = n := by
 induction h with
 | lam _ ih => simp only [Lm.size, Lm.sizes, ih]; omega
 | eta _ _ ih => simp only [Lm.size, Lm.sizes, ih]; omega
 | base _ ih => exact ih
 | v _ => rfl
 | a _ _ _ _ ih1 ih2 => simp only [Lm.size, Lm.sizes, ih1, ih2]; omega
theorem kind_mv (b d : Int) (t : Lm) : (Lm.mv b d t).kind = t.kind := by cases t; rfl
mutual
theorem mv_comm {b : Int} (hb : 0 ≤ b) : ∀ (e d : Int) (t : Lm), 0 ≤ d → Lm.mv b (e + 1 + d) (Lm.mv 1 e t) = Lm.mv 1 e (Lm.mv b (e + d) t)
 | e, d, .mk k i xs, hd => by
  simp only [Lm.mv]
  have hu : under k (e + 1 + d) = under k e + 1 + d := by unfold under; split <;> omega
  have hv : under k (e + d) = under k e + d := by unfold under; split <;> omega
  rw [hu, hv, mvs_comm hb (under k e) d xs hd]
  congr 1
  by_cases hk : k = 1
  ·simp only [hk, true_and]
   split <;> split <;> split <;> (try split) <;> omega
  ·simp only [hk, false_and, if_false]
theorem mvs_comm {b : Int} (hb : 0 ≤ b) : ∀ (e d : Int) (xs : List Lm), 0 ≤ d → Lm.mvs b (e + 1 + d) (Lm.mvs 1 e xs) = Lm.mvs 1 e (Lm.mvs b (e + d) xs)
 | e, d, [], hd => rfl
 | e, d, t :: ts, hd => by
  simp only [Lm.mvs]
  rw [mv_comm hb e d t hd, mvs_comm hb e d ts hd]
end
theorem LR.mv (D : List BT) {w : Bool} {G : List BT} {t o : Lm} {b : BT} {n d : Nat} (h : LR w G t b o n d) : ∀ G1 G2, G = G1 ++ G2 → LR w (G1 ++ D ++ G2) (Lm.mv D.length G1.length t) b (Lm.mv D.length G1.length o) n d := by
 induction h with
 | @lam G t o a b n d h ih =>
  rintro G1 G2 rfl
  rw [mv_l, mv_l]
  have := ih (a :: G1) G2 rfl
  rw [List.length_cons, Int.natCast_add, Int.natCast_one] at this
  exact .lam this
 | @eta G t o a b n d hk h ih =>
  rintro G1 G2 rfl
  rw [mv_l]
  have := ih (a :: G1) G2 rfl
  rw [List.length_cons, Int.natCast_add, Int.natCast_one, mv_a, mv_v, if_neg (by omega)] at this
  have e := mv_comm (b := (D.length : Int)) (by omega) 0 (G1.length : Int) t (by omega)
  rw [show (0 : Int) + 1 + (G1.length : Int) = (G1.length : Int) + 1 by omega, show (0 : Int) + (G1.length : Int) = (G1.length : Int) by omega] at e
  rw [e] at this
  exact .eta (by rw [kind_mv]; exact hk) this
 | base h ih =>
  rintro G1 G2 rfl
  exact .base (ih G1 G2 rfl)
 | @v G i b h =>
  rintro G1 G2 rfl
  rw [mv_v]
  have e : (if (G1.length : Int) ≤ (i : Int) then (i : Int) + (D.length : Int) else (i : Int)) = ((if G1.length ≤ i then i + D.length else i : Nat) : Int) := by
   by_cases hi : G1.length ≤ i
   ·rw [if_pos (by omega), if_pos hi]; omega
   ·rw [if_neg (by omega), if_neg hi]
  rw [e]
  exact .v (by rw [nth_mid]; exact h)
 | a h1 h2 l1 l2 ih1 ih2 =>
  rintro G1 G2 rfl
  rw [mv_a, mv_a]
  exact .a (ih1 G1 G2 rfl) (ih2 G1 G2 rfl) l1 l2
theorem eta_ex : ∀ (b : BT) {G : List BT} {t o : Lm} {n d : Nat}, t.kind ≠ 2 → LR false G t b o n d → ∃ p m e, LR true G t b p m e ∧ e ≤ d + 2 * b.sz
 | .b k, G, t, o, n, d, hk, h => ⟨o, n, d, .base h, by omega⟩
 | .a x y, G, t, o, n, d, hk, h => by
  have h1 := h.mv [x] [] G rfl
  obtain ⟨p, m, e, h2, l2⟩ := eta_ex x (G := x :: G) (t := .mk 1 ((0 : Nat) : Int) []) (by simp [Lm.kind]) (.v rfl)
  obtain ⟨q, l, c, h3, l3⟩ := eta_ex y (G := x :: G) (t := .mk 3 0 [Lm.mv 1 0 t, .mk 1 0 []]) (by simp [Lm.kind]) (.a (c := d + e + 1) h1 h2 (by omega) (by omega))
  exact ⟨_, _, _, .eta hk h3, by show c + 1 ≤ d + 2 * (1 + x.sz + y.sz); omega⟩
theorem long_ex {T : Nat} {G : List BT} {t : Lm} {b : BT} (h : Typ G t b) : (∀ x ∈ G, x.sz ≤ T) → t.outer = none → (b.sz ≤ T → ∃ o n d, LR true G t b o n d ∧ d ≤ t.size * (2 * T + 1)) ∧ (t.kind ≠ 2 → b.sz ≤ T ∧ ∃ o n d, LR false G t b o n d ∧ d + 2 * T ≤ t.size * (2 * T + 1)) := by
 induction h with
 | @v G i b h =>
  intro hG _
  have h1 : LR false G (.mk 1 (i : Int) []) b (.mk 1 (i : Int) []) 1 0 := .v h
  have hb := hG b (List.mem_of_getElem? h)
  obtain ⟨p, m, e, h2, l2⟩ := eta_ex b (by simp [Lm.kind]) h1
  have hz : (Lm.mk 1 (i : Int) []).size = 1 := rfl
  rw [hz, Nat.one_mul]
  exact ⟨fun _ => ⟨p, m, e, h2, by omega⟩, fun _ => ⟨hb, _, _, _, h1, by omega⟩⟩
 | @l G t a b h ih =>
  intro hG hn
  refine ⟨fun hb => ?_, fun h => absurd rfl h⟩
  have hb : 1 + a.sz + b.sz ≤ T := hb
  have ht : t.outer = none := by
   cases ho : t.outer with
   | none => rfl
   | some z => rw [Lm.outer] at hn; simp [Lm.top, Lm.outers, ho] at hn
  obtain ⟨o, n, d, ho, ld⟩ := (ih (fun x hx => by
   rcases List.mem_cons.1 hx with rfl | hx
   ·omega
   ·exact hG x hx) ht).1 (by omega)
  have hz : (Lm.mk 2 0 [t]).size = t.size + 1 := by simp only [Lm.size, Lm.sizes]; omega
  refine ⟨_, _, _, .lam ho, ?_⟩
  rw [hz, Nat.add_mul, Nat.one_mul]
  omega
 | @a G f x a b hf hx ihf ihx =>
  intro hG hn
  rw [Lm.outer] at hn
  cases ht : Lm.top 3 [f, x] with
  | some z => rw [ht] at hn; cases hn
  | none =>
   rw [ht] at hn
   simp only [Lm.outers] at hn
   cases h1 : f.outer with
   | some z => rw [h1] at hn; simp at hn
   | none =>
    rw [h1] at hn
    cases h2 : x.outer with
    | some z => rw [h2] at hn; simp at hn
    | none =>
     have hk : f.kind ≠ 2 := fun e => by
      cases hf with
      | l _ => simp [Lm.top, Lm.kind, Lm.subs] at ht
      | v _ => simp [Lm.kind] at e
      | a _ _ => simp [Lm.kind] at e
     obtain ⟨hab, o, n, d, ho, ld⟩ := (ihf hG h1).2 hk
     have hab : 1 + a.sz + b.sz ≤ T := hab
     obtain ⟨p, m, e, hp, le⟩ := (ihx hG h2).1 (by omega)
     have hz : (Lm.mk 3 0 [f, x]).size = f.size + x.size + 1 := by simp only [Lm.size, Lm.sizes]; omega
     have h3 : LR false G (.mk 3 0 [f, x]) b (.mk 3 0 [o, p]) (n + m + 1) (d + e + 1) := .a ho hp (by omega) (by omega)
     obtain ⟨q, l, c, h4, l4⟩ := eta_ex b (by simp [Lm.kind]) h3
     rw [hz, Nat.add_mul, Nat.add_mul, Nat.one_mul]
     exact ⟨fun _ => ⟨q, l, c, h4, by omega⟩, fun _ => ⟨by omega, _, _, _, h3, by omega⟩⟩

theorem purgeS {ds : List Nat} (hds : ∀ d ∈ ds, d < 1000) {x : Option ABlk} (hb : ∀ b, x = some b → b.high = true) : x.map (ABlk.purge ds) = x := by
 cases h : x with
 | none => rfl
 | some b => rw [Option.map_some, ABlk.purge_high hds (hb b h)]
theorem lowS_is {S S1 : AStore} {a0 : Nat} {b : ABlk} (hS : Clean S) (ha : 1000 ≤ a0) (h1 : S1 a0 = some b) (h2 : ∀ i, 1000 ≤ i → i ≠ a0 → S1 i = S i) : lowS S1 = updE S a0 (some b) := by
 funext i
 show (if i < 1000 then none else S1 i) = _
 by_cases e : i = a0
 ·subst e
  rw [if_neg (by omega), updE_same, h1]
 ·rw [updE_ne _ e]
  by_cases hi : i < 1000
  ·rw [if_pos hi, clean_none hS hi]
  ·rw [if_neg hi, h2 i (by omega) e]
theorem highs_is {S S1 : AStore} {a0 : Nat} {b : ABlk} (hS : Clean S) (hb : b.high = true) (h1 : S1 a0 = some b) (h2 : ∀ i, 1000 ≤ i → i ≠ a0 → S1 i = S i) : ∀ i c, 1000 ≤ i → S1 i = some c → c.high = true := fun i c hi hc => by
 by_cases e : i = a0
 ·subst e
  rw [h1] at hc
  cases hc
  exact hb
 ·rw [h2 i hi e] at hc
  exact (hS i c hc).2
theorem finS_one {C : Ctx} {rs : List RV} {r : AV} {e : AX} {s : AS} {S : AStore} {a0 : Nat} {b : ABlk} (r0 : AV) (hS : Clean S) (ha : 1000 ≤ a0) (hb : b.high = true) (he : match e with | .normal => True | .ret => True | _ => False)
  (h1 : (resAll s rs).map tupV = some r0) (h2 : outV s.S r0 = some r) (h3 : s.S a0 = some b) (h4 : ∀ i, 1000 ≤ i → i ≠ a0 → s.S i = S i) : FinS C rs r (updE S a0 (some b)) e s :=
 finS_low he r0 h1 h2 (highs_is hS hb h3 h4) (lowS_is hS ha h3 h4) (clean_upd hS ha hb)
theorem finS_two {C : Ctx} {rs : List RV} {r : AV} {e : AX} {s : AS} {S : AStore} {a0 b0 : Nat} {b c : ABlk} (r0 : AV) (hS : Clean S) (ha : 1000 ≤ a0) (hb0 : 1000 ≤ b0) (hne : b0 ≠ a0) (hb : b.high = true) (hc : c.high = true) (he : match e with | .normal => True | .ret => True | _ => False)
  (h1 : (resAll s rs).map tupV = some r0) (h2 : outV s.S r0 = some r) (h3 : s.S a0 = some b) (h3' : s.S b0 = some c) (h4 : ∀ i, 1000 ≤ i → i ≠ a0 → i ≠ b0 → s.S i = S i) : FinS C rs r (updE (updE S a0 (some b)) b0 (some c)) e s :=
 finS_low he r0 h1 h2 (fun i x hi hx => by
  by_cases e1 : i = a0
  ·subst e1; rw [h3] at hx; cases hx; exact hb
  ·by_cases e2 : i = b0
   ·subst e2; rw [h3'] at hx; cases hx; exact hc
   ·rw [h4 i hi e1 e2] at hx; exact (hS i x hx).2) (by
  funext i
  show (if i < 1000 then none else s.S i) = _
  by_cases e2 : i = b0
  ·subst e2
   rw [updE_same, if_neg (by omega), h3']
  ·rw [updE_ne _ e2]
   by_cases e1 : i = a0
   ·subst e1
    rw [updE_same, if_neg (by omega), h3]
   ·rw [updE_ne _ e1]
    by_cases hi : i < 1000
    ·rw [if_pos hi, clean_none hS hi]
    ·rw [if_neg hi, h4 i (by omega) e1 e2]) (clean_upd (clean_upd hS ha hb) hb0 hc)

set_option maxHeartbeats 2000000
def tys (G : List BT) : List Ty := G.reverse.map BT.ty
theorem tys_cons (a : BT) (G : List BT) : tys (a :: G) = tys G ++ [a.ty] := by simp [tys]
theorem aTys_cons (a : BT) (G : List BT) : aTys (tys (a :: G)) = .one (.st (.list ((tys G).map encY ++ [[.int .i64 a.ty.base, .list (a.ty.subs.map encY)]]))) := by
 rw [tys_cons]
 simp [encY_eq]
theorem tys_len (G : List BT) : (tys G).length = G.length := by simp [tys]
theorem tys_get {G : List BT} {i : Nat} {b : BT} (h : G[i]? = some b) : (tys G)[G.length - 1 - i]? = some b.ty := by
 have hi := (List.getElem?_eq_some_iff.1 h).1
 rw [tys, List.getElem?_map, List.getElem?_reverse (by omega), show G.length - 1 - (G.length - 1 - i) = i by omega, h]
 rfl
structure Went (d : Nat) (left m : Int) (n : Nat) : Prop where
 le : m ≤ left
 low : 0 ≤ left → -((d : Int) + 1) ≤ m
 neg : left < 0 → m = left
 no : left < n → m < 0
 yes : (n : Int) ≤ left → m = left - n
structure Room (t : Lm) (G : List BT) (left c : Int) (d : Nat) : Prop where
 lo : -100000000 ≤ left
 hi : left ≤ 1000000
 g : t.good c
 c0 : 0 ≤ c
 c1 : c + d ≤ 100000000
 z : t.size + 2 * d ≤ 100000000
 l : G.length + d ≤ 100000000
theorem Room.lam {t : Lm} {G : List BT} {left c : Int} {d : Nat} {a : BT} (h : Room (.mk 2 0 [t]) G left c (d + 1)) (l : Int) (h1 : l ≤ left) (h2 : -100000000 ≤ l) : Room t (a :: G) l c d := by
 have hz : (Lm.mk 2 0 [t]).size = t.size + 1 := by simp only [Lm.size, Lm.sizes]; omega
 obtain ⟨lo, hi, g, c0, c1, z, l1⟩ := h
 rw [hz] at z
 exact ⟨h2, by omega, Lm.good_sub g (by simp [Lm.subs]), c0, by omega, by omega, by rw [List.length_cons]; omega⟩
theorem size_eta (t : Lm) : (Lm.mk 3 0 [Lm.mv 1 0 t, .mk 1 0 []]).size = t.size + 2 := by simp only [Lm.size, Lm.sizes, Lm.size_mv]; omega
theorem Room.eta {t : Lm} {G : List BT} {left c : Int} {d : Nat} {a : BT} (h : Room t G left c (d + 1)) (l : Int) (h1 : l ≤ left) (h2 : -100000000 ≤ l) : Room (.mk 3 0 [Lm.mv 1 0 t, .mk 1 0 []]) (a :: G) l (c + 1) d := by
 obtain ⟨lo, hi, g, c0, c1, z, l1⟩ := h
 have hg : (Lm.mk 3 0 [Lm.mv 1 0 t, .mk 1 0 []]).good (c + 1) := ⟨fun e => absurd e (by decide), by decide, by omega, Lm.good_mv (by decide) 0 t g, ⟨fun _ => rfl, by decide, by omega, trivial⟩, trivial⟩
 exact ⟨h2, by omega, hg, by omega, by omega, by rw [size_eta]; omega, by rw [List.length_cons]; omega⟩
theorem size_app (f x : Lm) : (Lm.mk 3 0 [f, x]).size = 1 + f.size + x.size := by simp only [Lm.size, Lm.sizes]; omega
theorem Room.fn {f x : Lm} {G : List BT} {left c : Int} {d e : Nat} (h : Room (.mk 3 0 [f, x]) G left c d) (hd : e < d) : Room f G left c e := by
 obtain ⟨lo, hi, g, c0, c1, z, l1⟩ := h
 rw [size_app] at z
 exact ⟨lo, hi, Lm.good_sub g (by simp [Lm.subs]), c0, by omega, by omega, by omega⟩
theorem Room.arg {f x : Lm} {G : List BT} {left c : Int} {d e : Nat} (h : Room (.mk 3 0 [f, x]) G left c d) (hd : e < d) (l : Int) (h1 : l ≤ left) (h2 : -100000000 ≤ l) : Room x G l c e := by
 obtain ⟨lo, hi, g, c0, c1, z, l1⟩ := h
 rw [size_app] at z
 exact ⟨h2, by omega, Lm.good_sub g (by simp [Lm.subs]), c0, by omega, by omega, by omega⟩
theorem Went.stay {d : Nat} {left : Int} {n : Nat} (h : left < 0) (hn : 1 ≤ n) : Went d left left n := ⟨Int.le_refl _, fun h => by omega, fun _ => rfl, fun _ => h, fun h => by omega⟩
theorem Went.ahead {d n : Nat} {left m : Int} (hl : 0 ≤ left) (V : Went d (left - 1) m n) : Went (d + 1) left m (n + 1) := by
 obtain ⟨w1, w2, w3, w4, w5⟩ := V
 refine ⟨by omega, fun _ => ?_, fun h => by omega, fun h => w4 (by omega), fun h => ?_⟩
 ·by_cases h9 : 0 ≤ left - 1
  ·have := w2 h9; omega
  ·have := w3 (by omega); omega
 ·have := w5 (by omega); omega
theorem Went.behind {d n : Nat} {left m : Int} (hl : 0 ≤ left) (V : Went d left m n) : Went (d + 1) left (m - 1) (n + 1) := by
 obtain ⟨w1, w2, w3, w4, w5⟩ := V
 refine ⟨by omega, fun _ => by have := w2 hl; omega, fun h => by omega, fun h => ?_, fun h => by have := w5 (by omega); omega⟩
 by_cases h8 : left < n
 ·have := w4 h8; omega
 ·have := w5 (by omega); omega
theorem Went.two {d1 d2 d n1 n2 : Nat} {left m1 m2 : Int} (hl : 0 ≤ left) (V1 : Went d1 left m1 n1) (V2 : Went d2 m1 m2 n2) (h1 : d1 < d) (h2 : d2 < d) : Went d left (m2 - 1) (n1 + n2 + 1) := by
 obtain ⟨u1, u2, u3, u4, u5⟩ := V1
 obtain ⟨w1, w2, w3, w4, w5⟩ := V2
 have u2 := u2 hl
 refine ⟨by omega, fun _ => ?_, fun h => by omega, fun h => ?_, fun h => ?_⟩
 ·by_cases h9 : 0 ≤ m1
  ·have := w2 h9; omega
  ·have := w3 (by omega); omega
 ·by_cases h9 : (n1 : Int) ≤ left
  ·have := u5 h9
   by_cases h8 : m1 < n2
   ·have := w4 h8; omega
   ·have := w5 (by omega); omega
  ·have := u4 (by omega)
   have := w3 (by omega)
   omega
 ·have := u5 (by omega)
  have := w5 (by omega)
  omega
theorem Went.lo {t : Lm} {G : List BT} {c : Int} {d n : Nat} {left m : Int} (R : Room t G left c d) (V : Went d left m n) : -100000001 ≤ m := by
 have := R.c1
 have := R.c0
 by_cases h : 0 ≤ left
 ·have := V.low h; omega
 ·have := V.neg (by omega); have := R.lo; omega
theorem longR {w : Bool} {G : List BT} {t o : Lm} {b : BT} {n d : Nat} (h : LR w G t b o n d) : ∀ (left c : Int), Room t G left c d →
  (w = true → ∃ x m, ACalls Tryz.prog 14 [aLm t, aTy b.ty, aTys (tys G), aInt left] (.tup [aLm x, aInt m]) ∧ Went d left m n ∧ ((n : Int) ≤ left → x = o)) ∧
  (w = false → 0 ≤ left → ∃ x m, ACalls Tryz.prog 36 [aLm t, aTys (tys G), aInt left] (.tup [aLm x, aTy b.ty, aInt m]) ∧ Went d left m n ∧ ((n : Int) ≤ left → x = o)) := by
 induction h with
 | @lam G t o a b n d h ih =>
  intro left c R
  refine ⟨fun _ => ?_, fun e => (by cases e)⟩
  by_cases hl : left < 0
  ·refine ⟨.mk 2 0 [t], left, ?_, .stay hl (by omega), fun h => by omega⟩
   refine ok_R_LongOf.ac fun C hC => ?_
   unfold ir_R_LongOf
   repeat' (first | (with_reducible first | refine W ?_ | refine Z0 ?_) | ((with_reducible first | refine Wo (fun K hK => ?_) | refine Wp ?_ | refine Wq ?_ | refine Wr ?_); (try simp only [go_sem, fN, seval, eT, iR, hl, dT, dF, nL]); (repeat with_reducible refine Ai ?_); (try (refine hK _ ?_; clear hK K)); try with_reducible refine iC ?_))
   simp only [go_sem, fN, seval, FinQ, AS.result, resAll, resOne, tupV]
   simp [encL_eq, Lm.kind_mk, Lm.idx_mk, Lm.subs_mk]
  ·obtain ⟨x, m, hc, V, hx⟩ := (ih (left - 1) c (R.lam _ (by omega) (by omega))).1 rfl
   rw [aTys_cons] at hc
   have hml := tys_len G
   have hl1 := R.l
   have := R.hi
   refine ⟨Lm.l x, m, ?_, V.ahead (by omega), fun h => by rw [hx (by omega)]; rfl⟩
   refine ok_R_LongOf.ac fun C hC => ?_
   unfold ir_R_LongOf
   repeat' (first | (with_reducible first | refine W ?_ | refine Z0 ?_) | refine Cg _ (hc) ?_ | refine Cg _ (lFun_a x) ?_ | ((with_reducible first | refine Wo (fun K hK => ?_) | refine Wp ?_ | refine Wq ?_ | refine Wr ?_); (try simp only [go_sem, fN, seval, eT, iR, hl, BT.ty, dT, dF, nL]); (repeat with_reducible refine Ai ?_); (try (refine hK _ ?_; clear hK K)); try with_reducible refine iC ?_))
   simp only [go_sem, fN, seval, FinQ, AS.result, resAll, resOne, tupV]
 | @eta G t o a b n d hk h ih =>
  intro left c R
  refine ⟨fun _ => ?_, fun e => (by cases e)⟩
  by_cases hl : left < 0
  ·refine ⟨t, left, ?_, .stay hl (by omega), fun h => by omega⟩
   refine ok_R_LongOf.ac fun C hC => ?_
   unfold ir_R_LongOf
   repeat' (first | (with_reducible first | refine W ?_ | refine Z0 ?_) | ((with_reducible first | refine Wo (fun K hK => ?_) | refine Wp ?_ | refine Wq ?_ | refine Wr ?_); (try simp only [go_sem, fN, seval, eT, iR, hl, dT, dF, nL]); (repeat with_reducible refine Ai ?_); (try (refine hK _ ?_; clear hK K)); try with_reducible refine iC ?_))
   simp only [go_sem, fN, seval, FinQ, AS.result, resAll, resOne, tupV]
  ·obtain ⟨x, m, hc, V, hx⟩ := (ih (left - 1) (c + 1) (R.eta _ (by omega) (by omega))).1 rfl
   rw [aTys_cons] at hc
   have hml := tys_len G
   have hl1 := R.l
   have := R.hi
   have hz := R.z
   have h1 := R.c1
   have e1 := lhigher_a t 1 0 (Lm.good_mono (by omega) t R.g) (by decide) (by decide) (by omega)
   have e2 := lApp_a (Lm.mv 1 0 t) (.mk 1 0 [])
   refine ⟨Lm.l x, m, ?_, V.ahead (by omega), fun h => by rw [hx (by omega)]; rfl⟩
   refine ok_R_LongOf.ac fun C hC => ?_
   unfold ir_R_LongOf
   repeat' (first | (with_reducible first | refine W ?_ | refine Z0 ?_) | refine Cg _ (e1) ?_ | refine Cg _ (lVar_a 0) ?_ | refine Cg _ (e2) ?_ | refine Cg _ (hc) ?_ | refine Cg _ (lFun_a x) ?_ | ((with_reducible first | refine Wo (fun K hK => ?_) | refine Wp ?_ | refine Wq ?_ | refine Wr ?_); (try simp only [go_sem, fN, seval, eT, iR, hl, hk, BT.ty, dT, dF, nL]); (repeat with_reducible refine Ai ?_); (try (refine hK _ ?_; clear hK K)); try with_reducible refine iC ?_))
   simp only [go_sem, fN, seval, FinQ, AS.result, resAll, resOne, tupV]
 | @base G t o k n d h ih =>
  intro left c R
  refine ⟨fun _ => ?_, fun e => (by cases e)⟩
  have hn : 1 ≤ n := by have := Lm.size_pos o; rw [h.size] at this; exact this
  by_cases hl : left < 0
  ·refine ⟨t, left, ?_, .stay hl hn, fun h => by omega⟩
   refine ok_R_LongOf.ac fun C hC => ?_
   unfold ir_R_LongOf
   repeat' (first | (with_reducible first | refine W ?_ | refine Z0 ?_) | ((with_reducible first | refine Wo (fun K hK => ?_) | refine Wp ?_ | refine Wq ?_ | refine Wr ?_); (try simp only [go_sem, fN, seval, eT, iR, hl, dT, dF, nL]); (repeat with_reducible refine Ai ?_); (try (refine hK _ ?_; clear hK K)); try with_reducible refine iC ?_))
   simp only [go_sem, fN, seval, FinQ, AS.result, resAll, resOne, tupV]
  ·obtain ⟨x, m, hc, V, hx⟩ := (ih left c R).2 rfl (by omega)
   refine ⟨x, m, ?_, V, hx⟩
   refine ok_R_LongOf.ac fun C hC => ?_
   unfold ir_R_LongOf
   repeat' (first | (with_reducible first | refine W ?_ | refine Z0 ?_) | refine Cg _ (hc) ?_ | ((with_reducible first | refine Wo (fun K hK => ?_) | refine Wp ?_ | refine Wq ?_ | refine Wr ?_); (try simp only [go_sem, fN, seval, eT, iR, hl, BT.ty, dT, dF, nL]); (repeat with_reducible refine Ai ?_); (try (refine hK _ ?_; clear hK K)); try with_reducible refine iC ?_))
   simp only [go_sem, fN, seval, FinQ, AS.result, resAll, resOne, tupV]
 | @v G i b h =>
  intro left c R
  refine ⟨fun e => (by cases e), fun _ hl => ⟨.mk 1 i [], left - 1, ?_, ⟨by omega, fun _ => by omega, fun h => by omega, fun h => by omega, fun h => by omega⟩, fun h => rfl⟩⟩
  have hi := (List.getElem?_eq_some_iff.1 h).1
  have hml := tys_len G
  have hg := tys_get h
  have h1 := R.l
  have h2 := R.hi
  have hidx : ((G.length : Int) - 1 - (i : Int)).toNat = G.length - 1 - i := by omega
  refine ok_R_headOf.ac fun C hC => ?_
  unfold ir_R_headOf
  repeat' (first | (with_reducible first | refine W ?_ | refine Z0 ?_) | ((with_reducible first | refine Wo (fun K hK => ?_) | refine Wp ?_ | refine Wq ?_ | refine Wr ?_); (try simp only [go_sem, fN, seval, eT, iR, hml, hidx, hg, dT, dF, nL]); (repeat with_reducible refine Ai ?_); (try (refine hK _ ?_; clear hK K)); try with_reducible refine iC ?_))
  simp only [go_sem, fN, seval, FinQ, AS.result, resAll, resOne, tupV]
  rfl
 | @a G f x o p a b n m d e k hf hx h1 h2 ihf ihx =>
  intro left c R
  refine ⟨fun e => (by cases e), fun _ hl => ?_⟩
  have R1 := R.fn h1
  obtain ⟨x1, m1, hc1, V1, hx1⟩ := (ihf left c R1).2 rfl hl
  have l1 := V1.lo R1
  have l2 := V1.low hl
  have l3 := R.c1
  have l4 := R.c0
  have R2 := R.arg h2 m1 V1.le (by omega)
  obtain ⟨x2, m2, hc2, V2, hx2⟩ := (ihx m1 c R2).1 rfl
  have l5 := V2.lo R2
  have l6 := V1.le
  have l7 := V2.le
  have l8 := R.hi
  refine ⟨Lm.a x1 x2, m2 - 1, ?_, .two hl V1 V2 h1 h2, fun h => by rw [hx1 (by omega), hx2 (by have := V1.yes (by omega); omega)]; rfl⟩
  refine ok_R_headOf.ac fun C hC => ?_
  unfold ir_R_headOf
  repeat' (first | (with_reducible first | refine W ?_ | refine Z0 ?_) | refine Cg _ (hc1) ?_ | refine Cg _ (hc2) ?_ | refine Cg _ (lApp_a x1 x2) ?_ | ((with_reducible first | refine Wo (fun K hK => ?_) | refine Wp ?_ | refine Wq ?_ | refine Wr ?_); (try simp only [go_sem, fN, seval, eT, iR, BT.ty, dT, dF, nL]); (repeat with_reducible refine Ai ?_); (try (refine hK _ ?_; clear hK K)); try with_reducible refine iC ?_))
  simp only [go_sem, fN, seval, FinQ, AS.result, resAll, resOne, tupV]

abbrev leftB (m : Int) : ABlk := .box 84 [.st (.int .i64 m)]
theorem lput_S (p : Nat) (left : Int) (t : Lm) (S : AStore) (ha : 1000 ≤ p) (hl : -1000000000 ≤ left) (hl2 : left ≤ 1000000000) (hSp : S p = some (leftB left)) :
  ACallsS Tryz.prog 65 [.one (.ptr p 1 0 0), aLm t] S (aLm t) (updE S p (some (leftB (left - 1)))) := by
 refine ok_metaprune_long_maker_put.acS fun hS C hC => ?_
 have n3 : S 3 = none := clean_none hS (by omega)
 have n4 : S 4 = none := clean_none hS (by omega)
 have d3 : ¬ 3 = p := by omega
 have d4 : ¬ 4 = p := by omega
 have f3 : ¬ p = 3 := by omega
 have f4 : ¬ p = 4 := by omega
 unfold ir_metaprune_long_maker_put
 repeat' (first | (with_reducible first | refine W ?_ | refine Z0 ?_) | ((with_reducible first | refine Wo (fun K hK => ?_) | refine Wp ?_ | refine Wq ?_ | refine Wr ?_); (try simp only [go_sem, fN, seval, eT, iR, hSp, n3, n4, d3, d4, f3, f4, dT, dF, nL]); (repeat with_reducible refine Ai ?_); (try (refine hK _ ?_; clear hK K)); try with_reducible refine iC ?_))
 refine finS_one (aLm t) hS ha rfl trivial ?_ ?_ ?_ fun i hi hne => ?_
 ·simp only [go_sem, fN, seval, eT, iR, resAll, resOne, tupV, d3, d4, f3, f4]
  all_goals first | done | rfl | simp [encL_eq, Lm.kind_mk, Lm.idx_mk, Lm.subs_mk, Lm.l, Lm.a]
 ·simp only [go_sem, fN, seval, eT, iR]
  try rfl
 ·simp only [go_sem, fN, seval, eT, iR, f3, f4]
 ·have i3 : ¬ i = 3 := by omega
  have i4 : ¬ i = 4 := by omega
  simp only [go_sem, fN, seval, eT, iR, i3, i4, hne]
theorem longP {w : Bool} {G : List BT} {t o : Lm} {b : BT} {n d : Nat} (h : LR w G t b o n d) : ∀ (left c : Int), Room t G left c d →
  (w = true → ∃ x m, (∀ (p : Nat) (S : AStore), 1000 ≤ p → S p = some (leftB left) → ACallsS Tryz.prog 39 [.one (.ptr p 1 0 0), aLm t, aTy b.ty, aTys (tys G)] S (aLm x) (updE S p (some (leftB m)))) ∧ Went d left m n ∧ ((n : Int) ≤ left → x = o)) ∧
  (w = false → 0 ≤ left → ∃ x m, (∀ (p : Nat) (S : AStore), 1000 ≤ p → S p = some (leftB left) → ACallsS Tryz.prog 67 [.one (.ptr p 1 0 0), aLm t, aTys (tys G)] S (.tup [aLm x, aTy b.ty]) (updE S p (some (leftB m)))) ∧ Went d left m n ∧ ((n : Int) ≤ left → x = o)) := by
 induction h with
 | @lam G t o a b n d h ih =>
  intro left c R
  refine ⟨fun _ => ?_, fun e => (by cases e)⟩
  by_cases hl : left < 0
  ·refine ⟨.mk 2 0 [t], left, fun p S ha hSp => ?_, .stay hl (by omega), fun h => by omega⟩
   refine ok_metaprune_long_maker_of.acS fun hS C hC => ?_
   have n5 : S 5 = none := clean_none hS (by omega)
   have d5 : ¬ 5 = p := by omega
   have f5 : ¬ p = 5 := by omega
   have n6 : S 6 = none := clean_none hS (by omega)
   have d6 : ¬ 6 = p := by omega
   have f6 : ¬ p = 6 := by omega
   have n8 : S 8 = none := clean_none hS (by omega)
   have d8 : ¬ 8 = p := by omega
   have f8 : ¬ p = 8 := by omega
   have n9 : S 9 = none := clean_none hS (by omega)
   have d9 : ¬ 9 = p := by omega
   have f9 : ¬ p = 9 := by omega
   have n10 : S 10 = none := clean_none hS (by omega)
   have d10 : ¬ 10 = p := by omega
   have f10 : ¬ p = 10 := by omega
   have n11 : S 11 = none := clean_none hS (by omega)
   have n52 : S 52 = none := clean_none hS (by omega)
   have d52 : ¬ 52 = p := by omega
   have f52 : ¬ p = 52 := by omega
   have d11 : ¬ 11 = p := by omega
   have f11 : ¬ p = 11 := by omega
   unfold ir_metaprune_long_maker_of
   repeat' (first | (with_reducible first | refine W ?_ | refine Z0 ?_) | ((with_reducible first | refine Wo (fun K hK => ?_) | refine Wp ?_ | refine Wq ?_ | refine Wr ?_); (try simp only [go_sem, fN, seval, eT, iR, hSp, hl, n5, d5, f5, n6, d6, f6, n8, d8, f8, n9, d9, f9, n10, d10, f10, n11, d11, f11, n52, d52, f52, dT, dF, nL]); (repeat with_reducible refine Ai ?_); (try (refine hK _ ?_; clear hK K)); try with_reducible refine iC ?_))
   refine finS_one (aLm (.mk 2 0 [t])) hS ha rfl trivial ?_ ?_ ?_ fun i hi hne => ?_
   ·simp only [go_sem, fN, seval, eT, iR, resAll, resOne, tupV, d5, f5, d6, f6, d8, f8]
    all_goals first | done | rfl | simp [encL_eq, Lm.kind_mk, Lm.idx_mk, Lm.subs_mk, Lm.l, Lm.a]
   ·simp only [go_sem, fN, seval, eT, iR, Lm.kind_mk]
    all_goals first | done | rfl | simp [encL_eq, Lm.kind_mk, Lm.idx_mk, Lm.subs_mk, Lm.l, Lm.a]
   ·simp only [go_sem, fN, seval, eT, iR, f5, f6, f8, hSp]
   ·have i5 : ¬ i = 5 := by omega
    have i6 : ¬ i = 6 := by omega
    have i8 : ¬ i = 8 := by omega
    simp only [go_sem, fN, seval, eT, iR, i5, i6, i8, hne]
  ·obtain ⟨x, m, hc, V, hx⟩ := (ih left c (R.lam _ (by omega) (by omega))).1 rfl
   rw [aTys_cons] at hc
   have hml := tys_len G
   have hl1 := R.l
   have hhi := R.hi
   have hlo := V.lo (R.lam (a := a) _ (by omega) (by omega))
   have hle := V.le
   have htk : ((tys G).map encY).take (tys G).length = (tys G).map encY := List.take_of_length_le (by simp)
   refine ⟨Lm.l x, m - 1, fun p S ha hSp => ?_, V.behind (by omega), fun h => by rw [hx (by omega)]; rfl⟩
   refine ok_metaprune_long_maker_of.acS fun hS C hC => ?_
   have n5 : S 5 = none := clean_none hS (by omega)
   have d5 : ¬ 5 = p := by omega
   have f5 : ¬ p = 5 := by omega
   have n6 : S 6 = none := clean_none hS (by omega)
   have d6 : ¬ 6 = p := by omega
   have f6 : ¬ p = 6 := by omega
   have n8 : S 8 = none := clean_none hS (by omega)
   have d8 : ¬ 8 = p := by omega
   have f8 : ¬ p = 8 := by omega
   have n9 : S 9 = none := clean_none hS (by omega)
   have d9 : ¬ 9 = p := by omega
   have f9 : ¬ p = 9 := by omega
   have n10 : S 10 = none := clean_none hS (by omega)
   have d10 : ¬ 10 = p := by omega
   have f10 : ¬ p = 10 := by omega
   have n11 : S 11 = none := clean_none hS (by omega)
   have n52 : S 52 = none := clean_none hS (by omega)
   have d52 : ¬ 52 = p := by omega
   have f52 : ¬ p = 52 := by omega
   have d11 : ¬ 11 = p := by omega
   have f11 : ¬ p = 11 := by omega
   unfold ir_metaprune_long_maker_of
   repeat' (first | (with_reducible first | refine W ?_ | refine Z0 ?_) | ((with_reducible first | refine Wo (fun K hK => ?_) | refine Wp ?_ | refine Wq ?_ | refine Wr ?_); (try simp only [go_sem, fN, seval, eT, iR, hSp, hl, BT.ty, htk, n5, d5, f5, n6, d6, f6, n8, d8, f8, n9, d9, f9, n10, d10, f10, n11, d11, f11, n52, d52, f52, dT, dF, nL]); (repeat with_reducible refine Ai ?_); (try (refine hK _ ?_; clear hK K)); try with_reducible refine iC ?_))
   refine ⟨_, _, hc (up1 p) _ (up1_le p) (by rw [upS_up]; simp only [go_sem, fN, seval, eT, iR, f52, d5, f5, d6, f6, d8, f8, d9, f9, d10, f10, d11, f11, hSp]; try rfl), ?_⟩
   repeat' (first | (with_reducible first | refine W ?_ | refine Z0 ?_) | ((with_reducible first | refine Wo (fun K hK => ?_) | refine Wp ?_ | refine Wq ?_ | refine Wr ?_); (try simp only [go_sem, fN, seval, eT, iR, BT.ty, n5, d5, f5, n6, d6, f6, n8, d8, f8, n9, d9, f9, n10, d10, f10, n11, d11, f11, n52, d52, f52, dT, dF, nL]); (repeat with_reducible refine Ai ?_); (try (refine hK _ ?_; clear hK K)); try with_reducible refine iC ?_))
   refine ⟨_, lL_a x, ?_⟩
   repeat' (first | (with_reducible first | refine W ?_ | refine Z0 ?_) | ((with_reducible first | refine Wo (fun K hK => ?_) | refine Wp ?_ | refine Wq ?_ | refine Wr ?_); (try simp only [go_sem, fN, seval, eT, iR, n5, d5, f5, n6, d6, f6, n8, d8, f8, n9, d9, f9, n10, d10, f10, n11, d11, f11, n52, d52, f52, dT, dF, nL]); (repeat with_reducible refine Ai ?_); (try (refine hK _ ?_; clear hK K)); try with_reducible refine iC ?_))
   refine ⟨_, _, lput_S (up1 p) (m) (Lm.l x) _ (up1_le p) (by omega) (by omega) (by rw [upS_up]; simp only [go_sem, fN, seval, eT, iR, d5, f5, d6, f6, d8, f8, d9, f9, d10, f10, d11, f11, hSp]; try rfl), ?_⟩
   repeat' (first | (with_reducible first | refine W ?_ | refine Z0 ?_) | ((with_reducible first | refine Wo (fun K hK => ?_) | refine Wp ?_ | refine Wq ?_ | refine Wr ?_); (try simp only [go_sem, fN, seval, eT, iR, n5, d5, f5, n6, d6, f6, n8, d8, f8, n9, d9, f9, n10, d10, f10, n11, d11, f11, n52, d52, f52, dT, dF, nL]); (repeat with_reducible refine Ai ?_); (try (refine hK _ ?_; clear hK K)); try with_reducible refine iC ?_))
   refine finS_one (aLm (Lm.l x)) hS ha rfl trivial ?_ ?_ ?_ fun i hi hne => ?_
   ·simp only [go_sem, fN, seval, eT, iR, resAll, resOne, tupV, d5, f5, d6, f6, d8, f8, d9, f9]
    all_goals first | done | rfl | simp [encL_eq, Lm.kind_mk, Lm.idx_mk, Lm.subs_mk, Lm.l, Lm.a]
   ·simp only [go_sem, fN, seval, eT, iR, Lm.kind_mk]
    all_goals first | done | rfl | simp [encL_eq, Lm.kind_mk, Lm.idx_mk, Lm.subs_mk, Lm.l, Lm.a]
   ·simp only [go_sem, fN, seval, eT, iR, f5, f6, f8, f9, f52, hSp]
   ·have i52 : ¬ i = 52 := by omega
    have i5 : ¬ i = 5 := by omega
    have i6 : ¬ i = 6 := by omega
    have i8 : ¬ i = 8 := by omega
    have i9 : ¬ i = 9 := by omega
    simp only [go_sem, fN, seval, eT, iR, i5, i6, i8, i9, i52, hne]
 | @eta G t o a b n d hk h ih =>
  intro left c R
  refine ⟨fun _ => ?_, fun e => (by cases e)⟩
  by_cases hl : left < 0
  ·refine ⟨t, left, fun p S ha hSp => ?_, .stay hl (by omega), fun h => by omega⟩
   refine ok_metaprune_long_maker_of.acS fun hS C hC => ?_
   have n5 : S 5 = none := clean_none hS (by omega)
   have d5 : ¬ 5 = p := by omega
   have f5 : ¬ p = 5 := by omega
   have n6 : S 6 = none := clean_none hS (by omega)
   have d6 : ¬ 6 = p := by omega
   have f6 : ¬ p = 6 := by omega
   have n8 : S 8 = none := clean_none hS (by omega)
   have d8 : ¬ 8 = p := by omega
   have f8 : ¬ p = 8 := by omega
   have n9 : S 9 = none := clean_none hS (by omega)
   have d9 : ¬ 9 = p := by omega
   have f9 : ¬ p = 9 := by omega
   have n10 : S 10 = none := clean_none hS (by omega)
   have d10 : ¬ 10 = p := by omega
   have f10 : ¬ p = 10 := by omega
   have n11 : S 11 = none := clean_none hS (by omega)
   have n52 : S 52 = none := clean_none hS (by omega)
   have d52 : ¬ 52 = p := by omega
   have f52 : ¬ p = 52 := by omega
   have d11 : ¬ 11 = p := by omega
   have f11 : ¬ p = 11 := by omega
   unfold ir_metaprune_long_maker_of
   repeat' (first | (with_reducible first | refine W ?_ | refine Z0 ?_) | ((with_reducible first | refine Wo (fun K hK => ?_) | refine Wp ?_ | refine Wq ?_ | refine Wr ?_); (try simp only [go_sem, fN, seval, eT, iR, hSp, hl, n5, d5, f5, n6, d6, f6, n8, d8, f8, n9, d9, f9, n10, d10, f10, n11, d11, f11, n52, d52, f52, dT, dF, nL]); (repeat with_reducible refine Ai ?_); (try (refine hK _ ?_; clear hK K)); try with_reducible refine iC ?_))
   refine finS_one (aLm (t)) hS ha rfl trivial ?_ ?_ ?_ fun i hi hne => ?_
   ·simp only [go_sem, fN, seval, eT, iR, resAll, resOne, tupV, d5, f5, d6, f6, d8, f8]
    all_goals first | done | rfl | simp [encL_eq, Lm.kind_mk, Lm.idx_mk, Lm.subs_mk, Lm.l, Lm.a]
   ·simp only [go_sem, fN, seval, eT, iR, Lm.kind_mk]
    all_goals first | done | rfl | simp [encL_eq, Lm.kind_mk, Lm.idx_mk, Lm.subs_mk, Lm.l, Lm.a]
   ·simp only [go_sem, fN, seval, eT, iR, f5, f6, f8, hSp]
   ·have i5 : ¬ i = 5 := by omega
    have i6 : ¬ i = 6 := by omega
    have i8 : ¬ i = 8 := by omega
    simp only [go_sem, fN, seval, eT, iR, i5, i6, i8, hne]
  ·obtain ⟨x, m, hc, V, hx⟩ := (ih left (c + 1) (R.eta _ (by omega) (by omega))).1 rfl
   rw [aTys_cons] at hc
   have hml := tys_len G
   have hl1 := R.l
   have hhi := R.hi
   have hz := R.z
   have h1 := R.c1
   have hlo := V.lo (R.eta (a := a) _ (by omega) (by omega))
   have hle := V.le
   have htk : ((tys G).map encY).take (tys G).length = (tys G).map encY := List.take_of_length_le (by simp)
   have e1 := lmove_a t 1 0 (Lm.good_mono (by omega) t R.g) (by decide) (by decide) (by omega)
   have e2 := lA_a (Lm.mv 1 0 t) (.mk 1 0 [])
   refine ⟨Lm.l x, m - 1, fun p S ha hSp => ?_, V.behind (by omega), fun h => by rw [hx (by omega)]; rfl⟩
   refine ok_metaprune_long_maker_of.acS fun hS C hC => ?_
   have n5 : S 5 = none := clean_none hS (by omega)
   have d5 : ¬ 5 = p := by omega
   have f5 : ¬ p = 5 := by omega
   have n6 : S 6 = none := clean_none hS (by omega)
   have d6 : ¬ 6 = p := by omega
   have f6 : ¬ p = 6 := by omega
   have n8 : S 8 = none := clean_none hS (by omega)
   have d8 : ¬ 8 = p := by omega
   have f8 : ¬ p = 8 := by omega
   have n9 : S 9 = none := clean_none hS (by omega)
   have d9 : ¬ 9 = p := by omega
   have f9 : ¬ p = 9 := by omega
   have n10 : S 10 = none := clean_none hS (by omega)
   have d10 : ¬ 10 = p := by omega
   have f10 : ¬ p = 10 := by omega
   have n11 : S 11 = none := clean_none hS (by omega)
   have n52 : S 52 = none := clean_none hS (by omega)
   have d52 : ¬ 52 = p := by omega
   have f52 : ¬ p = 52 := by omega
   have d11 : ¬ 11 = p := by omega
   have f11 : ¬ p = 11 := by omega
   unfold ir_metaprune_long_maker_of
   repeat' (first | (with_reducible first | refine W ?_ | refine Z0 ?_) | ((with_reducible first | refine Wo (fun K hK => ?_) | refine Wp ?_ | refine Wq ?_ | refine Wr ?_); (try simp only [go_sem, fN, seval, eT, iR, hSp, hl, hk, BT.ty, n5, d5, f5, n6, d6, f6, n8, d8, f8, n9, d9, f9, n10, d10, f10, n11, d11, f11, n52, d52, f52, dT, dF, nL]); (repeat with_reducible refine Ai ?_); (try (refine hK _ ?_; clear hK K)); try with_reducible refine iC ?_))
   refine ⟨_, e1, ?_⟩
   repeat' (first | (with_reducible first | refine W ?_ | refine Z0 ?_) | ((with_reducible first | refine Wo (fun K hK => ?_) | refine Wp ?_ | refine Wq ?_ | refine Wr ?_); (try simp only [go_sem, fN, seval, eT, iR, n5, d5, f5, n6, d6, f6, n8, d8, f8, n9, d9, f9, n10, d10, f10, n11, d11, f11, n52, d52, f52, dT, dF, nL]); (repeat with_reducible refine Ai ?_); (try (refine hK _ ?_; clear hK K)); try with_reducible refine iC ?_))
   refine ⟨_, lV_a 0, ?_⟩
   repeat' (first | (with_reducible first | refine W ?_ | refine Z0 ?_) | ((with_reducible first | refine Wo (fun K hK => ?_) | refine Wp ?_ | refine Wq ?_ | refine Wr ?_); (try simp only [go_sem, fN, seval, eT, iR, n5, d5, f5, n6, d6, f6, n8, d8, f8, n9, d9, f9, n10, d10, f10, n11, d11, f11, n52, d52, f52, dT, dF, nL]); (repeat with_reducible refine Ai ?_); (try (refine hK _ ?_; clear hK K)); try with_reducible refine iC ?_))
   refine ⟨_, e2, ?_⟩
   repeat' (first | (with_reducible first | refine W ?_ | refine Z0 ?_) | ((with_reducible first | refine Wo (fun K hK => ?_) | refine Wp ?_ | refine Wq ?_ | refine Wr ?_); (try simp only [go_sem, fN, seval, eT, iR, BT.ty, htk, n5, d5, f5, n6, d6, f6, n8, d8, f8, n9, d9, f9, n10, d10, f10, n11, d11, f11, n52, d52, f52, dT, dF, nL]); (repeat with_reducible refine Ai ?_); (try (refine hK _ ?_; clear hK K)); try with_reducible refine iC ?_))
   refine ⟨_, _, hc (up1 p) _ (up1_le p) (by rw [upS_up]; simp only [go_sem, fN, seval, eT, iR, f52, d5, f5, d6, f6, d8, f8, d9, f9, d10, f10, d11, f11, hSp]; try rfl), ?_⟩
   repeat' (first | (with_reducible first | refine W ?_ | refine Z0 ?_) | ((with_reducible first | refine Wo (fun K hK => ?_) | refine Wp ?_ | refine Wq ?_ | refine Wr ?_); (try simp only [go_sem, fN, seval, eT, iR, BT.ty, n5, d5, f5, n6, d6, f6, n8, d8, f8, n9, d9, f9, n10, d10, f10, n11, d11, f11, n52, d52, f52, dT, dF, nL]); (repeat with_reducible refine Ai ?_); (try (refine hK _ ?_; clear hK K)); try with_reducible refine iC ?_))
   refine ⟨_, lL_a x, ?_⟩
   repeat' (first | (with_reducible first | refine W ?_ | refine Z0 ?_) | ((with_reducible first | refine Wo (fun K hK => ?_) | refine Wp ?_ | refine Wq ?_ | refine Wr ?_); (try simp only [go_sem, fN, seval, eT, iR, n5, d5, f5, n6, d6, f6, n8, d8, f8, n9, d9, f9, n10, d10, f10, n11, d11, f11, n52, d52, f52, dT, dF, nL]); (repeat with_reducible refine Ai ?_); (try (refine hK _ ?_; clear hK K)); try with_reducible refine iC ?_))
   refine ⟨_, _, lput_S (up1 p) (m) (Lm.l x) _ (up1_le p) (by omega) (by omega) (by rw [upS_up]; simp only [go_sem, fN, seval, eT, iR, d5, f5, d6, f6, d8, f8, d9, f9, d10, f10, d11, f11, hSp]; try rfl), ?_⟩
   repeat' (first | (with_reducible first | refine W ?_ | refine Z0 ?_) | ((with_reducible first | refine Wo (fun K hK => ?_) | refine Wp ?_ | refine Wq ?_ | refine Wr ?_); (try simp only [go_sem, fN, seval, eT, iR, n5, d5, f5, n6, d6, f6, n8, d8, f8, n9, d9, f9, n10, d10, f10, n11, d11, f11, n52, d52, f52, dT, dF, nL]); (repeat with_reducible refine Ai ?_); (try (refine hK _ ?_; clear hK K)); try with_reducible refine iC ?_))
   refine finS_one (aLm (Lm.l x)) hS ha rfl trivial ?_ ?_ ?_ fun i hi hne => ?_
   ·simp only [go_sem, fN, seval, eT, iR, resAll, resOne, tupV, d5, f5, d6, f6, d8, f8, d9, f9]
    all_goals first | done | rfl | simp [encL_eq, Lm.kind_mk, Lm.idx_mk, Lm.subs_mk, Lm.l, Lm.a]
   ·simp only [go_sem, fN, seval, eT, iR, Lm.kind_mk]
    all_goals first | done | rfl | simp [encL_eq, Lm.kind_mk, Lm.idx_mk, Lm.subs_mk, Lm.l, Lm.a]
   ·simp only [go_sem, fN, seval, eT, iR, f5, f6, f8, f9, f52, hSp]
   ·have i52 : ¬ i = 52 := by omega
    have i5 : ¬ i = 5 := by omega
    have i6 : ¬ i = 6 := by omega
    have i8 : ¬ i = 8 := by omega
    have i9 : ¬ i = 9 := by omega
    simp only [go_sem, fN, seval, eT, iR, i5, i6, i8, i9, i52, hne]
 | @base G t o k n d h ih =>
  intro left c R
  refine ⟨fun _ => ?_, fun e => (by cases e)⟩
  have hn : 1 ≤ n := by have := Lm.size_pos o; rw [h.size] at this; exact this
  by_cases hl : left < 0
  ·refine ⟨t, left, fun p S ha hSp => ?_, .stay hl hn, fun h => by omega⟩
   refine ok_metaprune_long_maker_of.acS fun hS C hC => ?_
   have n5 : S 5 = none := clean_none hS (by omega)
   have d5 : ¬ 5 = p := by omega
   have f5 : ¬ p = 5 := by omega
   have n6 : S 6 = none := clean_none hS (by omega)
   have d6 : ¬ 6 = p := by omega
   have f6 : ¬ p = 6 := by omega
   have n8 : S 8 = none := clean_none hS (by omega)
   have d8 : ¬ 8 = p := by omega
   have f8 : ¬ p = 8 := by omega
   have n9 : S 9 = none := clean_none hS (by omega)
   have d9 : ¬ 9 = p := by omega
   have f9 : ¬ p = 9 := by omega
   have n10 : S 10 = none := clean_none hS (by omega)
   have d10 : ¬ 10 = p := by omega
   have f10 : ¬ p = 10 := by omega
   have n11 : S 11 = none := clean_none hS (by omega)
   have n52 : S 52 = none := clean_none hS (by omega)
   have d52 : ¬ 52 = p := by omega
   have f52 : ¬ p = 52 := by omega
   have d11 : ¬ 11 = p := by omega
   have f11 : ¬ p = 11 := by omega
   unfold ir_metaprune_long_maker_of
   repeat' (first | (with_reducible first | refine W ?_ | refine Z0 ?_) | ((with_reducible first | refine Wo (fun K hK => ?_) | refine Wp ?_ | refine Wq ?_ | refine Wr ?_); (try simp only [go_sem, fN, seval, eT, iR, hSp, hl, n5, d5, f5, n6, d6, f6, n8, d8, f8, n9, d9, f9, n10, d10, f10, n11, d11, f11, n52, d52, f52, dT, dF, nL]); (repeat with_reducible refine Ai ?_); (try (refine hK _ ?_; clear hK K)); try with_reducible refine iC ?_))
   refine finS_one (aLm (t)) hS ha rfl trivial ?_ ?_ ?_ fun i hi hne => ?_
   ·simp only [go_sem, fN, seval, eT, iR, resAll, resOne, tupV, d5, f5, d6, f6, d8, f8]
    all_goals first | done | rfl | simp [encL_eq, Lm.kind_mk, Lm.idx_mk, Lm.subs_mk, Lm.l, Lm.a]
   ·simp only [go_sem, fN, seval, eT, iR, Lm.kind_mk]
    all_goals first | done | rfl | simp [encL_eq, Lm.kind_mk, Lm.idx_mk, Lm.subs_mk, Lm.l, Lm.a]
   ·simp only [go_sem, fN, seval, eT, iR, f5, f6, f8, hSp]
   ·have i5 : ¬ i = 5 := by omega
    have i6 : ¬ i = 6 := by omega
    have i8 : ¬ i = 8 := by omega
    simp only [go_sem, fN, seval, eT, iR, i5, i6, i8, hne]
  ·obtain ⟨x, m, hc, V, hx⟩ := (ih left c R).2 rfl (by omega)
   refine ⟨x, m, fun p S ha hSp => ?_, V, hx⟩
   refine ok_metaprune_long_maker_of.acS fun hS C hC => ?_
   have n5 : S 5 = none := clean_none hS (by omega)
   have d5 : ¬ 5 = p := by omega
   have f5 : ¬ p = 5 := by omega
   have n6 : S 6 = none := clean_none hS (by omega)
   have d6 : ¬ 6 = p := by omega
   have f6 : ¬ p = 6 := by omega
   have n8 : S 8 = none := clean_none hS (by omega)
   have d8 : ¬ 8 = p := by omega
   have f8 : ¬ p = 8 := by omega
   have n9 : S 9 = none := clean_none hS (by omega)
   have d9 : ¬ 9 = p := by omega
   have f9 : ¬ p = 9 := by omega
   have n10 : S 10 = none := clean_none hS (by omega)
   have d10 : ¬ 10 = p := by omega
   have f10 : ¬ p = 10 := by omega
   have n11 : S 11 = none := clean_none hS (by omega)
   have n52 : S 52 = none := clean_none hS (by omega)
   have d52 : ¬ 52 = p := by omega
   have f52 : ¬ p = 52 := by omega
   have d11 : ¬ 11 = p := by omega
   have f11 : ¬ p = 11 := by omega
   unfold ir_metaprune_long_maker_of
   repeat' (first | (with_reducible first | refine W ?_ | refine Z0 ?_) | ((with_reducible first | refine Wo (fun K hK => ?_) | refine Wp ?_ | refine Wq ?_ | refine Wr ?_); (try simp only [go_sem, fN, seval, eT, iR, hSp, hl, BT.ty, n5, d5, f5, n6, d6, f6, n8, d8, f8, n9, d9, f9, n10, d10, f10, n11, d11, f11, n52, d52, f52, dT, dF, nL]); (repeat with_reducible refine Ai ?_); (try (refine hK _ ?_; clear hK K)); try with_reducible refine iC ?_))
   refine ⟨_, _, hc (up1 p) _ (up1_le p) (by rw [upS_up]; simp only [go_sem, fN, seval, eT, iR, f52, d5, f5, d6, f6, d8, f8, d9, f9, d10, f10, d11, f11, hSp]; try rfl), ?_⟩
   repeat' (first | (with_reducible first | refine W ?_ | refine Z0 ?_) | ((with_reducible first | refine Wo (fun K hK => ?_) | refine Wp ?_ | refine Wq ?_ | refine Wr ?_); (try simp only [go_sem, fN, seval, eT, iR, BT.ty, n5, d5, f5, n6, d6, f6, n8, d8, f8, n9, d9, f9, n10, d10, f10, n11, d11, f11, n52, d52, f52, dT, dF, nL]); (repeat with_reducible refine Ai ?_); (try (refine hK _ ?_; clear hK K)); try with_reducible refine iC ?_))
   refine finS_one (aLm x) hS ha rfl trivial ?_ ?_ ?_ fun i hi hne => ?_
   ·simp only [go_sem, fN, seval, eT, iR, resAll, resOne, tupV, d5, f5, d6, f6, d8, f8, d10, f10, d11, f11]
    all_goals first | done | rfl | simp [encL_eq, Lm.kind_mk, Lm.idx_mk, Lm.subs_mk, Lm.l, Lm.a]
   ·simp only [go_sem, fN, seval, eT, iR, Lm.kind_mk]
    all_goals first | done | rfl | simp [encL_eq, Lm.kind_mk, Lm.idx_mk, Lm.subs_mk, Lm.l, Lm.a]
   ·simp only [go_sem, fN, seval, eT, iR, f5, f6, f8, f10, f11, hSp]
   ·have i5 : ¬ i = 5 := by omega
    have i6 : ¬ i = 6 := by omega
    have i8 : ¬ i = 8 := by omega
    have i10 : ¬ i = 10 := by omega
    have i11 : ¬ i = 11 := by omega
    simp only [go_sem, fN, seval, eT, iR, i5, i6, i8, i10, i11, hne]
 | @v G i b h =>
  intro left c R
  refine ⟨fun e => (by cases e), fun _ hl => ⟨.mk 1 i [], left - 1, fun p S ha hSp => ?_, ⟨by omega, fun _ => by omega, fun h => by omega, fun h => by omega, fun h => by omega⟩, fun h => rfl⟩⟩
  have hi := (List.getElem?_eq_some_iff.1 h).1
  have hml := tys_len G
  have hg := tys_get h
  have h1 := R.l
  have h2 := R.hi
  have hidx : ((G.length : Int) - 1 - (i : Int)).toNat = G.length - 1 - i := by omega
  refine ok_metaprune_long_maker_head.acS fun hS C hC => ?_
  have n4 : S 4 = none := clean_none hS (by omega)
  have d4 : ¬ 4 = p := by omega
  have f4 : ¬ p = 4 := by omega
  have n6 : S 6 = none := clean_none hS (by omega)
  have d6 : ¬ 6 = p := by omega
  have f6 : ¬ p = 6 := by omega
  have n7 : S 7 = none := clean_none hS (by omega)
  have d7 : ¬ 7 = p := by omega
  have f7 : ¬ p = 7 := by omega
  have n8 : S 8 = none := clean_none hS (by omega)
  have d8 : ¬ 8 = p := by omega
  have f8 : ¬ p = 8 := by omega
  have n9 : S 9 = none := clean_none hS (by omega)
  have d9 : ¬ 9 = p := by omega
  have f9 : ¬ p = 9 := by omega
  have n10 : S 10 = none := clean_none hS (by omega)
  have d10 : ¬ 10 = p := by omega
  have f10 : ¬ p = 10 := by omega
  unfold ir_metaprune_long_maker_head
  repeat' (first | (with_reducible first | refine W ?_ | refine Z0 ?_) | ((with_reducible first | refine Wo (fun K hK => ?_) | refine Wp ?_ | refine Wq ?_ | refine Wr ?_); (try simp only [go_sem, fN, seval, eT, iR, hSp, n4, d4, f4, n6, d6, f6, n7, d7, f7, n8, d8, f8, n9, d9, f9, n10, d10, f10, dT, dF, nL]); (repeat with_reducible refine Ai ?_); (try (refine hK _ ?_; clear hK K)); try with_reducible refine iC ?_))
  refine ⟨_, _, lput_S (up1 p) (left) (.mk 1 i []) _ (up1_le p) (by omega) (by omega) (by rw [upS_up]; simp only [go_sem, fN, seval, eT, iR, d4, f4, d6, f6, d7, f7, d8, f8, d9, f9, d10, f10, hSp]; try rfl), ?_⟩
  repeat' (first | (with_reducible first | refine W ?_ | refine Z0 ?_) | ((with_reducible first | refine Wo (fun K hK => ?_) | refine Wp ?_ | refine Wq ?_ | refine Wr ?_); (try simp only [go_sem, fN, seval, eT, iR, hml, hidx, hg, hSp, n4, d4, f4, n6, d6, f6, n7, d7, f7, n8, d8, f8, n9, d9, f9, n10, d10, f10, dT, dF, nL]); (repeat with_reducible refine Ai ?_); (try (refine hK _ ?_; clear hK K)); try with_reducible refine iC ?_))
  refine finS_one (.tup [aLm (.mk 1 i []), aTy b.ty]) hS ha rfl trivial ?_ ?_ ?_ fun i hi hne => ?_
  ·simp only [go_sem, fN, seval, eT, iR, resAll, resOne, tupV, d4, f4, d6, f6, d7, f7]
   all_goals first | done | rfl | simp [encL_eq, Lm.kind_mk, Lm.idx_mk, Lm.subs_mk, Lm.l, Lm.a]
  ·simp only [go_sem, fN, seval, eT, iR, Lm.kind_mk]
   all_goals first | done | rfl | simp [encL_eq, Lm.kind_mk, Lm.idx_mk, Lm.subs_mk, Lm.l, Lm.a]
  ·simp only [go_sem, fN, seval, eT, iR, f4, f6, f7, hSp]
  ·have i4 : ¬ i = 4 := by omega
   have i6 : ¬ i = 6 := by omega
   have i7 : ¬ i = 7 := by omega
   simp only [go_sem, fN, seval, eT, iR, i4, i6, i7, hne]
 | @a G f x o q a b n m d e k hf hx h1 h2 ihf ihx =>
  intro left c R
  refine ⟨fun e => (by cases e), fun _ hl => ?_⟩
  have R1 := R.fn h1
  obtain ⟨x1, m1, hc1, V1, hx1⟩ := (ihf left c R1).2 rfl hl
  have l1 := V1.lo R1
  have l2 := V1.low hl
  have l3 := R.c1
  have l4 := R.c0
  have R2 := R.arg h2 m1 V1.le (by omega)
  obtain ⟨x2, m2, hc2, V2, hx2⟩ := (ihx m1 c R2).1 rfl
  have l5 := V2.lo R2
  have l6 := V1.le
  have l7 := V2.le
  have l8 := R.hi
  refine ⟨Lm.a x1 x2, m2 - 1, fun p S ha hSp => ?_, .two hl V1 V2 h1 h2, fun h => by rw [hx1 (by omega), hx2 (by have := V1.yes (by omega); omega)]; rfl⟩
  refine ok_metaprune_long_maker_head.acS fun hS C hC => ?_
  have n4 : S 4 = none := clean_none hS (by omega)
  have d4 : ¬ 4 = p := by omega
  have f4 : ¬ p = 4 := by omega
  have n6 : S 6 = none := clean_none hS (by omega)
  have d6 : ¬ 6 = p := by omega
  have f6 : ¬ p = 6 := by omega
  have n7 : S 7 = none := clean_none hS (by omega)
  have d7 : ¬ 7 = p := by omega
  have f7 : ¬ p = 7 := by omega
  have n8 : S 8 = none := clean_none hS (by omega)
  have d8 : ¬ 8 = p := by omega
  have f8 : ¬ p = 8 := by omega
  have n9 : S 9 = none := clean_none hS (by omega)
  have d9 : ¬ 9 = p := by omega
  have f9 : ¬ p = 9 := by omega
  have n10 : S 10 = none := clean_none hS (by omega)
  have d10 : ¬ 10 = p := by omega
  have f10 : ¬ p = 10 := by omega
  unfold ir_metaprune_long_maker_head
  repeat' (first | (with_reducible first | refine W ?_ | refine Z0 ?_) | ((with_reducible first | refine Wo (fun K hK => ?_) | refine Wp ?_ | refine Wq ?_ | refine Wr ?_); (try simp only [go_sem, fN, seval, eT, iR, hSp, BT.ty, n4, d4, f4, n6, d6, f6, n7, d7, f7, n8, d8, f8, n9, d9, f9, n10, d10, f10, dT, dF, nL]); (repeat with_reducible refine Ai ?_); (try (refine hK _ ?_; clear hK K)); try with_reducible refine iC ?_))
  refine ⟨_, _, hc1 (up1 p) _ (up1_le p) (by rw [upS_up]; simp only [go_sem, fN, seval, eT, iR, d4, f4, d6, f6, d7, f7, d8, f8, d9, f9, d10, f10, hSp]; try rfl), ?_⟩
  repeat' (first | (with_reducible first | refine W ?_ | refine Z0 ?_) | ((with_reducible first | refine Wo (fun K hK => ?_) | refine Wp ?_ | refine Wq ?_ | refine Wr ?_); (try simp only [go_sem, fN, seval, eT, iR, BT.ty, n4, d4, f4, n6, d6, f6, n7, d7, f7, n8, d8, f8, n9, d9, f9, n10, d10, f10, dT, dF, nL]); (repeat with_reducible refine Ai ?_); (try (refine hK _ ?_; clear hK K)); try with_reducible refine iC ?_))
  refine ⟨aLm x2, [(p, leftB m1, leftB m2)], hold_one (by simp only [go_sem, fN, seval, eT, iR, d4, f4, d6, f6, d7, f7, d8, f8, d9, f9, d10, f10]), fun T hT => ?_, ?_⟩
  ·show ACallsS _ _ _ _ _ (upS (updE T p (some _)))
   rw [upS_set]
   exact hc2 (up1 p) (upS T) (up1_le p) (by rw [upS_up, hold_at hT]; rfl)
  repeat' (first | (with_reducible first | refine W ?_ | refine Z0 ?_) | ((with_reducible first | refine Wo (fun K hK => ?_) | refine Wp ?_ | refine Wq ?_ | refine Wr ?_); (try simp only [go_sem, fN, seval, eT, iR, BT.ty, n4, d4, f4, n6, d6, f6, n7, d7, f7, n8, d8, f8, n9, d9, f9, n10, d10, f10, dT, dF, nL]); (repeat with_reducible refine Ai ?_); (try (refine hK _ ?_; clear hK K)); try with_reducible refine iC ?_))
  refine ⟨_, lA_a x1 x2, ?_⟩
  repeat' (first | (with_reducible first | refine W ?_ | refine Z0 ?_) | ((with_reducible first | refine Wo (fun K hK => ?_) | refine Wp ?_ | refine Wq ?_ | refine Wr ?_); (try simp only [go_sem, fN, seval, eT, iR, n4, d4, f4, n6, d6, f6, n7, d7, f7, n8, d8, f8, n9, d9, f9, n10, d10, f10, dT, dF, nL]); (repeat with_reducible refine Ai ?_); (try (refine hK _ ?_; clear hK K)); try with_reducible refine iC ?_))
  refine ⟨_, _, lput_S (up1 p) (m2) (Lm.a x1 x2) _ (up1_le p) (by omega) (by omega) (by rw [upS_up]; simp only [go_sem, fN, seval, eT, iR, d4, f4, d6, f6, d7, f7, d8, f8, d9, f9, d10, f10, hSp]; try rfl), ?_⟩
  repeat' (first | (with_reducible first | refine W ?_ | refine Z0 ?_) | ((with_reducible first | refine Wo (fun K hK => ?_) | refine Wp ?_ | refine Wq ?_ | refine Wr ?_); (try simp only [go_sem, fN, seval, eT, iR, BT.ty, n4, d4, f4, n6, d6, f6, n7, d7, f7, n8, d8, f8, n9, d9, f9, n10, d10, f10, dT, dF, nL]); (repeat with_reducible refine Ai ?_); (try (refine hK _ ?_; clear hK K)); try with_reducible refine iC ?_))
  refine finS_one (.tup [aLm (Lm.a x1 x2), aTy b.ty]) hS ha rfl trivial ?_ ?_ ?_ fun i hi hne => ?_
  ·simp only [go_sem, fN, seval, eT, iR, resAll, resOne, tupV, d4, f4, d6, f6, d7, f7, d8, f8, d9, f9, d10, f10]
   all_goals first | done | rfl | simp [encL_eq, Lm.kind_mk, Lm.idx_mk, Lm.subs_mk, Lm.l, Lm.a]
  ·simp only [go_sem, fN, seval, eT, iR, Lm.kind_mk]
   all_goals first | done | rfl | simp [encL_eq, Lm.kind_mk, Lm.idx_mk, Lm.subs_mk, Lm.l, Lm.a]
  ·simp only [go_sem, fN, seval, eT, iR, f4, f6, f7, f8, f9, f10, hSp]
  ·have i4 : ¬ i = 4 := by omega
   have i6 : ¬ i = 6 := by omega
   have i7 : ¬ i = 7 := by omega
   have i8 : ¬ i = 8 := by omega
   have i9 : ¬ i = 9 := by omega
   have i10 : ¬ i = 10 := by omega
   simp only [go_sem, fN, seval, eT, iR, i4, i6, i7, i8, i9, i10, hne]


set_option maxRecDepth 100000

theorem list_two {α : Type} {l : List α} (h : l.length = 2) : ∃ a b, l = [a, b] := by
 match l, h with
 | [a, b], _ => exact ⟨a, b, rfl⟩

end Go.Proofs.YtkjlddlllofenaaGreatDoor
