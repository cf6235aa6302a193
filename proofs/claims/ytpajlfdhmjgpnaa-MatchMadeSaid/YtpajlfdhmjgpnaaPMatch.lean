/-
  Matching, in plain Lean. No program in sight.
  Conditions: none.
-/
import Derived.Test.YtpajlfdhmjgpnaaBSorted
import Derived.Test.YtpajlfdhmjgpnaaBSameT
namespace Go.Proofs.Ytpajlfdhmjgpnaa
open Go Go.RowKit
set_option linter.unusedVariables false

mutual
/-- What is bound behind matching; does it go on? -/
def Tm.mt : Tm → Tm → List Bd → List Bd × Bool
  | .mk n xs, t, l => if isVar n = true then (match lookup l n with
      | some x => (l, x.beq t)
      | none => (l ++ [(n, t)], true))
    else if n = t.name ∧ xs.length = t.args.length then Tm.mtL xs t.args l else (l, false)
def Tm.mtL : List Tm → List Tm → List Bd → List Bd × Bool
  | x :: xs, y :: ys, l => if (x.mt y l).2 = true then Tm.mtL xs ys (x.mt y l).1 else ((x.mt y l).1, false)
  | _, _, l => (l, true)
end
section
variable {p t : Tm} {l : List Bd}
theorem Tm.mt_old (hv : isVar p.name = true) {x : Tm} (h : lookup l p.name = some x) : p.mt t l = (l, x.beq t) := by
  cases p with
  | mk n xs =>
    simp only [Tm.name_mk] at hv h
    rw [Tm.mt, if_pos hv, h]
theorem Tm.mt_new (hv : isVar p.name = true) (h : lookup l p.name = none) : p.mt t l = (l ++ [(p.name, t)], true) := by
  cases p with
  | mk n xs =>
    simp only [Tm.name_mk] at hv h
    rw [Tm.mt, if_pos hv, h]
    rfl
theorem Tm.mt_clash (hv : isVar p.name = false) (h : ¬ (p.name = t.name ∧ p.args.length = t.args.length)) : p.mt t l = (l, false) := by
  cases p with
  | mk n xs =>
    simp only [Tm.name_mk, Tm.args_mk] at hv h
    rw [Tm.mt, if_neg (by simp [hv]), if_neg h]
theorem Tm.mt_knot (hv : isVar p.name = false) (h1 : p.name = t.name) (h2 : p.args.length = t.args.length) : p.mt t l = Tm.mtL p.args t.args l := by
  cases p with
  | mk n xs =>
    simp only [Tm.name_mk, Tm.args_mk] at hv h1 h2
    rw [Tm.mt, if_neg (by simp [hv]), if_pos ⟨h1, h2⟩]
    rfl
end
theorem Tm.mtL_nil (ys : List Tm) (l : List Bd) : Tm.mtL [] ys l = (l, true) := by cases ys <;> simp [Tm.mtL]
theorem Tm.mtL_append : ∀ (xs ys xs' ys' : List Tm) (l : List Bd), xs.length = ys.length → Tm.mtL (xs ++ xs') (ys ++ ys') l = if (Tm.mtL xs ys l).2 = true then Tm.mtL xs' ys' (Tm.mtL xs ys l).1 else ((Tm.mtL xs ys l).1, false)
  | [], [], xs', ys', l, _ => by simp [Tm.mtL_nil]
  | x :: xs, y :: ys, xs', ys', l, h => by
    simp only [List.cons_append, Tm.mtL]
    by_cases hx : (x.mt y l).2 = true
    · simp only [hx, if_true]
      exact Tm.mtL_append xs ys xs' ys' _ (by simpa using h)
    · simp only [hx]
      simp
  | [], y :: ys, _, _, _, h => by simp at h
  | x :: xs, [], _, _, _, h => by simp at h
/-- One thing on. -/
theorem Tm.mtL_take {xs ys : List Tm} {k : Nat} {x y : Tm} {l : List Bd} (hl : xs.length = ys.length) (hx : xs[k]? = some x) (hy : ys[k]? = some y) (h : (Tm.mtL (xs.take k) (ys.take k) l).2 = true) :
    Tm.mtL (xs.take (k + 1)) (ys.take (k + 1)) l = x.mt y (Tm.mtL (xs.take k) (ys.take k) l).1 := by
  rw [take_snoc hx, take_snoc hy, Tm.mtL_append _ _ _ _ _ (by simp [hl]), if_pos h]
  generalize Tm.mtL (xs.take k) (ys.take k) l = q
  simp only [Tm.mtL]
  split
  · rename_i h1
    exact Prod.ext rfl h1.symm
  · rename_i h1
    exact Prod.ext rfl (by simpa using h1)
theorem Tm.mtL_no {xs ys : List Tm} {k : Nat} {l : List Bd} (hl : xs.length = ys.length) (h : (Tm.mtL (xs.take k) (ys.take k) l).2 = false) : Tm.mtL xs ys l = ((Tm.mtL (xs.take k) (ys.take k) l).1, false) := by
  have e : Tm.mtL xs ys l = Tm.mtL (xs.take k ++ xs.drop k) (ys.take k ++ ys.drop k) l := by rw [List.take_append_drop, List.take_append_drop]
  rw [e, Tm.mtL_append _ _ _ _ _ (by simp [hl]), h]
  rfl
/-- What matching keeps: names stand once; few are bound; what is bound is a part of the term. -/
structure MtOk (l l' : List Bd) (many most : Nat) : Prop where
  named : Named l → Named l'
  len : l'.length ≤ l.length + many
  size : ∀ b ∈ l', b ∈ l ∨ b.2.size ≤ most
theorem MtOk.refl (l : List Bd) (n m : Nat) : MtOk l l n m := ⟨fun h => h, by omega, fun b hb => .inl hb⟩
theorem MtOk.trans {a b c : List Bd} {n m k n' m' : Nat} (h : MtOk a b n m) (h' : MtOk b c n' m') (hn : n + n' ≤ k) {M : Nat} (h1 : m ≤ M) (h2 : m' ≤ M) : MtOk a c k M := by
  refine ⟨fun q => h'.named (h.named q), by have := h.len; have := h'.len; omega, fun x hx => ?_⟩
  rcases h'.size x hx with h3 | h3
  · rcases h.size x h3 with h4 | h4
    · exact .inl h4
    · exact .inr (by omega)
  · exact .inr (by omega)
theorem lookup_names {l : List Bd} {n : ByteArray} (h : lookup l n = none) : n ∉ l.map (·.1) := by
  intro hm
  obtain ⟨b, hb, rfl⟩ := List.mem_map.1 hm
  unfold lookup at h
  rw [Option.map_eq_none_iff, List.find?_eq_none] at h
  exact h b hb (by simp)
theorem named_snoc {l : List Bd} {b : Bd} (h : lookup l b.1 = none) (hn : Named l) : Named (l ++ [b]) := by
  unfold Named at *
  rw [List.map_append, List.nodup_append]
  refine ⟨hn, by simp, fun x hx y hy e => ?_⟩
  simp only [List.map_cons, List.map_nil, List.mem_singleton] at hy
  subst hy
  subst e
  exact lookup_names h hx
mutual
theorem Tm.mt_ok : ∀ (p t : Tm) (l : List Bd), MtOk l (p.mt t l).1 p.size t.size
  | .mk n xs, t, l => by
    rw [Tm.mt]
    split
    · split
      · exact MtOk.refl _ _ _
      · rename_i h
        refine ⟨fun hn => named_snoc h hn, ?_, fun b hb => ?_⟩
        · have := Tm.size_pos (.mk n xs)
          rw [List.length_append, List.length_singleton]
          omega
        · rcases List.mem_append.1 hb with hb | hb
          · exact .inl hb
          · rw [List.mem_singleton] at hb
            subst hb
            exact .inr (Nat.le_refl _)
    · split
      · have := Tm.mtL_ok xs t.args l
        have h1 := Tm.size_eq t
        exact ⟨this.named, by have := this.len; rw [Tm.size]; omega, fun b hb => (this.size b hb).imp_right (by omega)⟩
      · exact MtOk.refl _ _ _
theorem Tm.mtL_ok : ∀ (xs ys : List Tm) (l : List Bd), MtOk l (Tm.mtL xs ys l).1 (Tm.sizes xs) (Tm.sizes ys)
  | [], ys, l => by rw [Tm.mtL_nil]; exact MtOk.refl _ _ _
  | x :: xs, [], l => by rw [Tm.mtL]; exact MtOk.refl _ _ _; simp
  | x :: xs, y :: ys, l => by
    rw [Tm.mtL]
    have h1 := Tm.mt_ok x y l
    split
    · exact h1.trans (Tm.mtL_ok xs ys _) (by rw [Tm.sizes]; exact Nat.le_refl _) (by rw [Tm.sizes]; omega) (by rw [Tm.sizes]; omega)
    · exact ⟨h1.named, by have := h1.len; rw [Tm.sizes]; show (x.mt y l).1.length ≤ _; omega, fun b hb => (h1.size b hb).imp_right (by rw [Tm.sizes]; omega)⟩
end
/-- What must stand for the pattern's variables; nothing, if it is no case. -/
def caseOf (p t : Tm) : List Bd := if (p.mt t []).2 = true then sortB (p.mt t []).1 else []
def isCase (p t : Tm) : Bool := (p.mt t []).2
theorem named_nil : Named [] := List.nodup_nil
theorem mt_named (p t : Tm) : Named (p.mt t []).1 := (Tm.mt_ok p t []).named named_nil
theorem mt_len (p t : Tm) : (p.mt t []).1.length ≤ p.size := by have := (Tm.mt_ok p t []).len; simpa using this
theorem mt_size (p t : Tm) : ∀ b ∈ (p.mt t []).1, b.2.size ≤ t.size := fun b hb => ((Tm.mt_ok p t []).size b hb).resolve_left (by simp)
mutual
def Tm.hasCase (p : Tm) : Tm → Bool
  | .mk n xs => isCase p (.mk n xs) || Tm.hasCaseL p xs
def Tm.hasCaseL (p : Tm) : List Tm → Bool
  | [] => false
  | t :: ts => Tm.hasCase p t || Tm.hasCaseL p ts
end
theorem Tm.hasCase_eq (p t : Tm) : Tm.hasCase p t = (isCase p t || Tm.hasCaseL p t.args) := by
  cases t
  rw [Tm.hasCase]
  rfl
theorem Tm.hasCaseL_append (p : Tm) (xs ys : List Tm) : Tm.hasCaseL p (xs ++ ys) = (Tm.hasCaseL p xs || Tm.hasCaseL p ys) := by
  induction xs with
  | nil => simp [Tm.hasCaseL]
  | cons x xs ih => simp [Tm.hasCaseL, ih, Bool.or_assoc]
theorem Tm.hasCaseL_take {p : Tm} {xs : List Tm} {k : Nat} {x : Tm} (hx : xs[k]? = some x) (h : Tm.hasCaseL p (xs.take k) = false) : Tm.hasCaseL p (xs.take (k + 1)) = Tm.hasCase p x := by
  rw [take_snoc hx, Tm.hasCaseL_append, h]
  simp [Tm.hasCaseL]
theorem Tm.hasCaseL_yes {p : Tm} {xs : List Tm} {k : Nat} {x : Tm} (hx : xs[k]? = some x) (h : Tm.hasCase p x = true) : Tm.hasCaseL p xs = true := by
  rw [← List.take_append_drop k xs, Tm.hasCaseL_append, drop_get hx, Tm.hasCaseL, h]
  simp
mutual
theorem Tm.hasCase_knots (p : Tm) : ∀ t : Tm, Tm.hasCase p t = t.knots.any (isCase p)
  | .mk n xs => by rw [Tm.hasCase, Tm.knots, List.any_cons, Tm.hasCase_knotsL p xs]
theorem Tm.hasCase_knotsL (p : Tm) : ∀ xs : List Tm, Tm.hasCaseL p xs = (Tm.knotsL xs).any (isCase p)
  | [] => rfl
  | t :: ts => by rw [Tm.hasCaseL, Tm.knotsL, List.any_append, Tm.hasCase_knots p t, Tm.hasCase_knotsL p ts]
end
end Go.Proofs.Ytpajlfdhmjgpnaa
