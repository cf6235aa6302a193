/-
  Part 22 of the texts: PMatch; PMatch2; PPlotkin; IrMatch; BMet. Conditions: none.
-/
import Derived.Test.YtdmgelbbjppgkaaDoorPart21
namespace Go.Proofs.YtdmgelbbjppgkaaDoor
open Go Go.RowKit
set_option linter.unusedVariables false

mutual
/-- What is bound behind matching; does it go on? -/
def Tm.mt : Tm → Tm → List Bd → List Bd × Bool
  | .mk n xs, t, l => if isVar n = true then (match lookup l n with
      | some x => (l, x.beq t)
      | none => (l ++ [(n, t)], true))
    else if n = t.name ∧ xs.length = t.args.length then Tm.mtL xs t.args l else (l, false)
def Tm.mtL : List Tm → List Tm → List Bd → List Bd × Bool
  | x :: xs, y :: ys, l => if (x.mt y l).2 = true then Tm.mtL xs ys (x.mt y l).1 else ((x.mt y l).1, false)
  | _, _, l => (l, true)
end
section
variable {p t : Tm} {l : List Bd}
theorem Tm.mt_old (hv : isVar p.name = true) {x : Tm} (h : lookup l p.name = some x) : p.mt t l = (l, x.beq t) := by
  cases p with
  | mk n xs =>
    simp only [Tm.name_mk] at hv h
    rw [Tm.mt, if_pos hv, h]
theorem Tm.mt_new (hv : isVar p.name = true) (h : lookup l p.name = none) : p.mt t l = (l ++ [(p.name, t)], true) := by
  cases p with
  | mk n xs =>
    simp only [Tm.name_mk] at hv h
    rw [Tm.mt, if_pos hv, h]
    rfl
theorem Tm.mt_clash (hv : isVar p.name = false) (h : ¬ (p.name = t.name ∧ p.args.length = t.args.length)) : p.mt t l = (l, false) := by
  cases p with
  | mk n xs =>
    simp only [Tm.name_mk, Tm.args_mk] at hv h
    rw [Tm.mt, if_neg (by simp [hv]), if_neg h]
theorem Tm.mt_knot (hv : isVar p.name = false) (h1 : p.name = t.name) (h2 : p.args.length = t.args.length) : p.mt t l = Tm.mtL p.args t.args l := by
  cases p with
  | mk n xs =>
    simp only [Tm.name_mk, Tm.args_mk] at hv h1 h2
    rw [Tm.mt, if_neg (by simp [hv]), if_pos ⟨h1, h2⟩]
    rfl
end
theorem Tm.mtL_nil (ys : List Tm) (l : List Bd) : Tm.mtL [] ys l = (l, true) := by cases ys <;> simp [Tm.mtL]
theorem Tm.mtL_append : ∀ (xs ys xs' ys' : List Tm) (l : List Bd), xs.length = ys.length → Tm.mtL (xs ++ xs') (ys ++ ys') l = if (Tm.mtL xs ys l).2 = true then Tm.mtL xs' ys' (Tm.mtL xs ys l).1 else ((Tm.mtL xs ys l).1, false)
  | [], [], xs', ys', l, _ => by simp [Tm.mtL_nil]
  | x :: xs, y :: ys, xs', ys', l, h => by
    simp only [List.cons_append, Tm.mtL]
    by_cases hx : (x.mt y l).2 = true
    · simp only [hx, if_true]
      exact Tm.mtL_append xs ys xs' ys' _ (by simpa using h)
    · simp only [hx]
      simp
  | [], y :: ys, _, _, _, h => by simp at h
  | x :: xs, [], _, _, _, h => by simp at h
/-- One thing on. -/
theorem Tm.mtL_take {xs ys : List Tm} {k : Nat} {x y : Tm} {l : List Bd} (hl : xs.length = ys.length) (hx : xs[k]? = some x) (hy : ys[k]? = some y) (h : (Tm.mtL (xs.take k) (ys.take k) l).2 = true) :
    Tm.mtL (xs.take (k + 1)) (ys.take (k + 1)) l = x.mt y (Tm.mtL (xs.take k) (ys.take k) l).1 := by
  rw [take_snoc hx, take_snoc hy, Tm.mtL_append _ _ _ _ _ (by simp [hl]), if_pos h]
  generalize Tm.mtL (xs.take k) (ys.take k) l = q
  simp only [Tm.mtL]
  split
  · rename_i h1
    exact Prod.ext rfl h1.symm
  · rename_i h1
    exact Prod.ext rfl (by simpa using h1)
theorem Tm.mtL_no {xs ys : List Tm} {k : Nat} {l : List Bd} (hl : xs.length = ys.length) (h : (Tm.mtL (xs.take k) (ys.take k) l).2 = false) : Tm.mtL xs ys l = ((Tm.mtL (xs.take k) (ys.take k) l).1, false) := by
  have e : Tm.mtL xs ys l = Tm.mtL (xs.take k ++ xs.drop k) (ys.take k ++ ys.drop k) l := by rw [List.take_append_drop, List.take_append_drop]
  rw [e, Tm.mtL_append _ _ _ _ _ (by simp [hl]), h]
  rfl
/-- What matching keeps: names stand once; few are bound; what is bound is a part of the term. -/
structure MtOk (l l' : List Bd) (many most : Nat) : Prop where
  named : Named l → Named l'
  len : l'.length ≤ l.length + many
  size : ∀ b ∈ l', b ∈ l ∨ b.2.size ≤ most
theorem MtOk.refl (l : List Bd) (n m : Nat) : MtOk l l n m := ⟨fun h => h, by omega, fun b hb => .inl hb⟩
theorem MtOk.trans {a b c : List Bd} {n m k n' m' : Nat} (h : MtOk a b n m) (h' : MtOk b c n' m') (hn : n + n' ≤ k) {M : Nat} (h1 : m ≤ M) (h2 : m' ≤ M) : MtOk a c k M := by
  refine ⟨fun q => h'.named (h.named q), by have := h.len; have := h'.len; omega, fun x hx => ?_⟩
  rcases h'.size x hx with h3 | h3
  · rcases h.size x h3 with h4 | h4
    · exact .inl h4
    · exact .inr (by omega)
  · exact .inr (by omega)
theorem lookup_names {l : List Bd} {n : ByteArray} (h : lookup l n = none) : n ∉ l.map (·.1) := by
  intro hm
  obtain ⟨b, hb, rfl⟩ := List.mem_map.1 hm
  unfold lookup at h
  rw [Option.map_eq_none_iff, List.find?_eq_none] at h
  exact h b hb (by simp)
theorem named_snoc {l : List Bd} {b : Bd} (h : lookup l b.1 = none) (hn : Named l) : Named (l ++ [b]) := by
  unfold Named at *
  rw [List.map_append, List.nodup_append]
  refine ⟨hn, by simp, fun x hx y hy e => ?_⟩
  simp only [List.map_cons, List.map_nil, List.mem_singleton] at hy
  subst hy
  subst e
  exact lookup_names h hx
mutual
theorem Tm.mt_ok : ∀ (p t : Tm) (l : List Bd), MtOk l (p.mt t l).1 p.size t.size
  | .mk n xs, t, l => by
    rw [Tm.mt]
    split
    · split
      · exact MtOk.refl _ _ _
      · rename_i h
        refine ⟨fun hn => named_snoc h hn, ?_, fun b hb => ?_⟩
        · have := Tm.size_pos (.mk n xs)
          rw [List.length_append, List.length_singleton]
          omega
        · rcases List.mem_append.1 hb with hb | hb
          · exact .inl hb
          · rw [List.mem_singleton] at hb
            subst hb
            exact .inr (Nat.le_refl _)
    · split
      · have := Tm.mtL_ok xs t.args l
        have h1 := Tm.size_eq t
        exact ⟨this.named, by have := this.len; rw [Tm.size]; omega, fun b hb => (this.size b hb).imp_right (by omega)⟩
      · exact MtOk.refl _ _ _
theorem Tm.mtL_ok : ∀ (xs ys : List Tm) (l : List Bd), MtOk l (Tm.mtL xs ys l).1 (Tm.sizes xs) (Tm.sizes ys)
  | [], ys, l => by rw [Tm.mtL_nil]; exact MtOk.refl _ _ _
  | x :: xs, [], l => by rw [Tm.mtL]; exact MtOk.refl _ _ _; simp
  | x :: xs, y :: ys, l => by
    rw [Tm.mtL]
    have h1 := Tm.mt_ok x y l
    split
    · exact h1.trans (Tm.mtL_ok xs ys _) (by rw [Tm.sizes]; exact Nat.le_refl _) (by rw [Tm.sizes]; omega) (by rw [Tm.sizes]; omega)
    · exact ⟨h1.named, by have := h1.len; rw [Tm.sizes]; show (x.mt y l).1.length ≤ _; omega, fun b hb => (h1.size b hb).imp_right (by rw [Tm.sizes]; omega)⟩
end
/-- What must stand for the pattern's variables; nothing, if it is no case. -/
def caseOf (p t : Tm) : List Bd := if (p.mt t []).2 = true then sortB (p.mt t []).1 else []
def isCase (p t : Tm) : Bool := (p.mt t []).2
theorem named_nil : Named [] := List.nodup_nil
theorem mt_named (p t : Tm) : Named (p.mt t []).1 := (Tm.mt_ok p t []).named named_nil
theorem mt_len (p t : Tm) : (p.mt t []).1.length ≤ p.size := by have := (Tm.mt_ok p t []).len; simpa using this
theorem mt_size (p t : Tm) : ∀ b ∈ (p.mt t []).1, b.2.size ≤ t.size := fun b hb => ((Tm.mt_ok p t []).size b hb).resolve_left (by simp)
mutual
def Tm.hasCase (p : Tm) : Tm → Bool
  | .mk n xs => isCase p (.mk n xs) || Tm.hasCaseL p xs
def Tm.hasCaseL (p : Tm) : List Tm → Bool
  | [] => false
  | t :: ts => Tm.hasCase p t || Tm.hasCaseL p ts
end
theorem Tm.hasCase_eq (p t : Tm) : Tm.hasCase p t = (isCase p t || Tm.hasCaseL p t.args) := by
  cases t
  rw [Tm.hasCase]
  rfl
theorem Tm.hasCaseL_append (p : Tm) (xs ys : List Tm) : Tm.hasCaseL p (xs ++ ys) = (Tm.hasCaseL p xs || Tm.hasCaseL p ys) := by
  induction xs with
  | nil => simp [Tm.hasCaseL]
  | cons x xs ih => simp [Tm.hasCaseL, ih, Bool.or_assoc]
theorem Tm.hasCaseL_take {p : Tm} {xs : List Tm} {k : Nat} {x : Tm} (hx : xs[k]? = some x) (h : Tm.hasCaseL p (xs.take k) = false) : Tm.hasCaseL p (xs.take (k + 1)) = Tm.hasCase p x := by
  rw [take_snoc hx, Tm.hasCaseL_append, h]
  simp [Tm.hasCaseL]
theorem Tm.hasCaseL_yes {p : Tm} {xs : List Tm} {k : Nat} {x : Tm} (hx : xs[k]? = some x) (h : Tm.hasCase p x = true) : Tm.hasCaseL p xs = true := by
  rw [← List.take_append_drop k xs, Tm.hasCaseL_append, drop_get hx, Tm.hasCaseL, h]
  simp
mutual
theorem Tm.hasCase_knots (p : Tm) : ∀ t : Tm, Tm.hasCase p t = t.knots.any (isCase p)
  | .mk n xs => by rw [Tm.hasCase, Tm.knots, List.any_cons, Tm.hasCase_knotsL p xs]
theorem Tm.hasCase_knotsL (p : Tm) : ∀ xs : List Tm, Tm.hasCaseL p xs = (Tm.knotsL xs).any (isCase p)
  | [] => rfl
  | t :: ts => by rw [Tm.hasCaseL, Tm.knotsL, List.any_append, Tm.hasCase_knots p t, Tm.hasCase_knotsL p ts]
end
end Go.Proofs.YtdmgelbbjppgkaaDoor

namespace Go.Proofs.YtdmgelbbjppgkaaDoor
open Go Go.RowKit
set_option linter.unusedVariables false

/-- m binds what l binds. -/
def MtExt (l m : List Bd) : Prop := ∀ n x, lookup l n = some x → lookup m n = some x
theorem MtExt.trans {a b c : List Bd} (h : MtExt a b) (k : MtExt b c) : MtExt a c := fun n x e => k n x (h n x e)
theorem lookup_snoc {l : List Bd} {b : Bd} {n : ByteArray} : lookup (l ++ [b]) n = match lookup l n with | some x => some x | none => if b.1 = n then some b.2 else none := by
  rw [lookup_append, lookup_cons, lookup_nil]
  cases lookup l n <;> rfl
mutual
theorem mt_ext : ∀ (p t : Tm) (l : List Bd), MtExt l (p.mt t l).1
  | .mk n xs, t, l => by
    rw [Tm.mt]
    split
    · split
      · exact fun _ _ h => h
      · intro m x h
        rw [lookup_snoc, h]
    · split
      · exact mtL_ext xs t.args l
      · exact fun _ _ h => h
theorem mtL_ext : ∀ (xs ys : List Tm) (l : List Bd), MtExt l (Tm.mtL xs ys l).1
  | [], ys, l => by rw [Tm.mtL_nil]; exact fun _ _ h => h
  | x :: xs, [], l => by rw [Tm.mtL]; exact fun _ _ h => h; simp
  | x :: xs, y :: ys, l => by
    rw [Tm.mtL]
    split
    · exact (mt_ext x y l).trans (mtL_ext xs ys _)
    · exact mt_ext x y l
end
mutual
/-- What is found makes the pattern into the term. -/
theorem mt_sound : ∀ (p : Tm), p.chk = 0 → ∀ (t : Tm) (l : List Bd), (p.mt t l).2 = true → ∀ m : List Bd, (∀ b ∈ m, isVar b.1 = true) → MtExt (p.mt t l).1 m → p.on m = t
  | .mk n xs, hc, t, l, h, m, hm, hx => by
    obtain ⟨c1, c2⟩ := Tm.chk_args hc
    simp only [Tm.name_mk, Tm.args_mk] at c1 c2
    cases hv : isVar n with
    | true =>
      have h0 := c1 hv
      subst h0
      cases hl : lookup l n with
      | some x =>
        rw [Tm.mt_old (p := .mk n []) hv hl] at h hx
        rw [Tm.on_leaf (t := .mk n []) (hx n x hl) rfl]
        exact (Tm.beq_iff x t).1 h
      | none =>
        rw [Tm.mt_new (p := .mk n []) hv hl] at h hx
        exact Tm.on_leaf (t := .mk n []) (hx n t (by rw [lookup_snoc, hl]; simp [Tm.name_mk])) rfl
    | false =>
      by_cases hk : n = t.name ∧ xs.length = t.args.length
      · rw [Tm.mt_knot (p := .mk n xs) hv hk.1 hk.2] at h hx
        rw [nov_on hv hm, mtL_sound xs c2 t.args l hk.2 h m hm hx]
        cases t
        rw [hk.1]
        rfl
      · rw [Tm.mt_clash (p := .mk n xs) hv hk] at h
        cases h
theorem mtL_sound : ∀ (xs : List Tm), (∀ x ∈ xs, x.chk = 0) → ∀ (ys : List Tm) (l : List Bd), xs.length = ys.length → (Tm.mtL xs ys l).2 = true → ∀ m : List Bd, (∀ b ∈ m, isVar b.1 = true) → MtExt (Tm.mtL xs ys l).1 m → xs.map (Tm.on m) = ys
  | [], _, [], l, _, _, m, _, _ => rfl
  | x :: xs, hc, y :: ys, l, hl, h, m, hm, hx => by
    rw [Tm.mtL] at h hx
    by_cases h1 : (x.mt y l).2 = true
    · rw [if_pos h1] at h hx
      rw [List.map_cons, mt_sound x (hc x (by simp)) y l h1 m hm ((mtL_ext xs ys _).trans hx), mtL_sound xs (fun a ha => hc a (by simp [ha])) ys _ (by simpa using hl) h m hm hx]
    · rw [if_neg h1] at h
      cases h
  | [], _, y :: ys, l, hl, _, m, _, _ => by simp at hl
  | x :: xs, _, [], l, hl, _, m, _, _ => by simp at hl
end
/-- What is bound is what s makes of it. -/
def MtAgree (s l : List Bd) : Prop := ∀ n x, lookup l n = some x → (leafT n).on s = x
mutual
/-- Where there is one, it is found. -/
theorem mt_complete {s : List Bd} (hs : ∀ b ∈ s, isVar b.1 = true) : ∀ (p : Tm), p.chk = 0 → ∀ l : List Bd, MtAgree s l → (p.mt (p.on s) l).2 = true ∧ MtAgree s (p.mt (p.on s) l).1
  | .mk n xs, hc, l, ha => by
    obtain ⟨c1, c2⟩ := Tm.chk_args hc
    simp only [Tm.name_mk, Tm.args_mk] at c1 c2
    cases hv : isVar n with
    | true =>
      have h0 := c1 hv
      subst h0
      cases hl : lookup l n with
      | some x =>
        rw [Tm.mt_old (p := .mk n []) hv hl]
        exact ⟨(Tm.beq_iff _ _).2 (ha n x hl).symm, ha⟩
      | none =>
        rw [Tm.mt_new (p := .mk n []) hv hl]
        refine ⟨rfl, fun m x h => ?_⟩
        rw [lookup_snoc] at h
        cases hm : lookup l m with
        | some z => rw [hm] at h; cases h; exact ha m _ hm
        | none =>
          rw [hm] at h
          have h9 : (if n = m then some ((Tm.mk n []).on s) else none) = some x := h
          by_cases e : n = m
          · rw [if_pos e] at h9
            rw [← e]
            exact Option.some.inj h9
          · rw [if_neg e] at h9
            cases h9
    | false =>
      rw [nov_on hv hs, Tm.mt_knot (p := .mk n xs) (t := .mk n (xs.map (Tm.on s))) hv rfl (by simp [Tm.args_mk])]
      exact mtL_complete hs xs c2 l ha
theorem mtL_complete {s : List Bd} (hs : ∀ b ∈ s, isVar b.1 = true) : ∀ (xs : List Tm), (∀ x ∈ xs, x.chk = 0) → ∀ l : List Bd, MtAgree s l → (Tm.mtL xs (xs.map (Tm.on s)) l).2 = true ∧ MtAgree s (Tm.mtL xs (xs.map (Tm.on s)) l).1
  | [], _, l, ha => ⟨rfl, ha⟩
  | x :: xs, hc, l, ha => by
    obtain ⟨h1, h2⟩ := mt_complete hs x (hc x (by simp)) l ha
    rw [List.map_cons, Tm.mtL, if_pos h1]
    exact mtL_complete hs xs (fun a ha => hc a (by simp [ha])) _ h2
end
mutual
/-- The names that are bound, as they come. -/
theorem mt_names : ∀ (p : Tm), p.chk = 0 → ∀ (t : Tm) (l : List Bd), (p.mt t l).2 = true → (p.mt t l).1.map (·.1) = addVars (l.map (·.1)) p.knots
  | .mk n xs, hc, t, l, h => by
    obtain ⟨c1, c2⟩ := Tm.chk_args hc
    simp only [Tm.name_mk, Tm.args_mk] at c1 c2
    have hk : addVars (l.map (·.1)) (Tm.mk n xs).knots = addVars (addVar (l.map (·.1)) n) (Tm.knotsL xs) := rfl
    rw [hk]
    cases hv : isVar n with
    | true =>
      have h0 := c1 hv
      subst h0
      have hn : addVars (addVar (l.map (·.1)) n) (Tm.knotsL []) = addVar (l.map (·.1)) n := rfl
      rw [hn]
      cases hl : lookup l n with
      | some x =>
        rw [Tm.mt_old (p := .mk n []) hv hl]
        obtain ⟨b, hb, e, _⟩ := lookup_mem hl
        rw [addVar_in (isIn_iff.2 (List.mem_map.2 ⟨b, hb, e⟩))]
      | none =>
        rw [Tm.mt_new (p := .mk n []) hv hl, addVar_yes hv (isIn_no.2 (lookup_names hl)), List.map_append]
        rfl
    | false =>
      by_cases hk : n = t.name ∧ xs.length = t.args.length
      · rw [Tm.mt_knot (p := .mk n xs) hv hk.1 hk.2] at h ⊢
        rw [addVar_no hv]
        exact mtL_names xs c2 t.args l hk.2 h
      · rw [Tm.mt_clash (p := .mk n xs) hv hk] at h
        cases h
theorem mtL_names : ∀ (xs : List Tm), (∀ x ∈ xs, x.chk = 0) → ∀ (ys : List Tm) (l : List Bd), xs.length = ys.length → (Tm.mtL xs ys l).2 = true → (Tm.mtL xs ys l).1.map (·.1) = addVars (l.map (·.1)) (Tm.knotsL xs)
  | [], _, ys, l, _, _ => by rw [Tm.mtL_nil]; rfl
  | x :: xs, hc, y :: ys, l, hl, h => by
    rw [Tm.mtL] at h ⊢
    by_cases h1 : (x.mt y l).2 = true
    · rw [if_pos h1] at h ⊢
      rw [mtL_names xs (fun a ha => hc a (by simp [ha])) ys _ (by simpa using hl) h, mt_names x (hc x (by simp)) y l h1, Tm.knotsL, addVars_append]
    · rw [if_neg h1] at h
      cases h
  | x :: xs, _, [], l, hl, _ => by simp at hl
end
def GoodB (b : Bd) : Prop := isVar b.1 = true ∧ nameOk b.1 = true ∧ b.2.chk = 0
theorem nameOk_of {t : Tm} (h : t.chk = 0) : nameOk t.name = true := by
  have := chk_parts h
  unfold chkOne at this
  split at this
  · assumption
  · cases this
mutual
theorem mt_good : ∀ (p : Tm), p.chk = 0 → ∀ (t : Tm), t.chk = 0 → ∀ (l : List Bd), (∀ b ∈ l, GoodB b) → ∀ b ∈ (p.mt t l).1, GoodB b
  | .mk n xs, hc, t, ht, l, hl => by
    obtain ⟨c1, c2⟩ := Tm.chk_args hc
    simp only [Tm.name_mk, Tm.args_mk] at c1 c2
    rw [Tm.mt]
    split
    · rename_i hv
      split
      · exact hl
      · intro b hb
        rcases List.mem_append.1 hb with hb | hb
        · exact hl b hb
        · rw [List.mem_singleton] at hb
          subst hb
          exact ⟨hv, nameOk_of hc, ht⟩
    · split
      · exact mtL_good xs c2 t.args (Tm.chk_args ht).2 l hl
      · exact hl
theorem mtL_good : ∀ (xs : List Tm), (∀ x ∈ xs, x.chk = 0) → ∀ (ys : List Tm), (∀ y ∈ ys, y.chk = 0) → ∀ (l : List Bd), (∀ b ∈ l, GoodB b) → ∀ b ∈ (Tm.mtL xs ys l).1, GoodB b
  | [], _, ys, _, l, hl => by rw [Tm.mtL_nil]; exact hl
  | x :: xs, _, [], _, l, hl => by rw [Tm.mtL]; exact hl; simp
  | x :: xs, hc, y :: ys, hy, l, hl => by
    rw [Tm.mtL]
    have h1 := mt_good x (hc x (by simp)) y (hy y (by simp)) l hl
    split
    · exact mtL_good xs (fun a ha => hc a (by simp [ha])) ys (fun a ha => hy a (by simp [ha])) _ h1
    · exact h1
end
section
variable {p t : Tm}
theorem case_eq (h : isCase p t = true) : caseOf p t = sortB (p.mt t []).1 := by
  unfold caseOf
  rw [if_pos (show (p.mt t []).2 = true from h)]
theorem case_ok (hp : p.chk = 0) (ht : t.chk = 0) : OkB (caseOf p t) := by
  unfold caseOf
  have hg := mt_good p hp t ht [] (by simp)
  split
  · exact ⟨sortB_ordered (mt_named p t), fun b hb => (hg b (sortB_mem.1 hb)).1, fun b hb => (hg b (sortB_mem.1 hb)).2.1, fun b hb => (hg b (sortB_mem.1 hb)).2.2⟩
  · exact ⟨List.Pairwise.nil, by simp, by simp, by simp⟩
theorem case_size : ∀ b ∈ caseOf p t, b.2.size ≤ t.size := fun b hb => by
  unfold caseOf at hb
  split at hb
  · exact mt_size p t b (sortB_mem.1 hb)
  · simp at hb
theorem case_len_le : (caseOf p t).length ≤ p.size := by
  unfold caseOf
  split
  · rw [sortB_length]; exact mt_len p t
  · simp
theorem case_on (hp : p.chk = 0) (ht : t.chk = 0) (h : isCase p t = true) : p.on (caseOf p t) = t := by
  refine mt_sound p hp t [] h _ (case_ok hp ht).var fun n x hl => ?_
  rw [case_eq h]
  exact (lookup_iff (named_perm (sortB_perm _).symm (mt_named p t))).2 (sortB_mem.2 ((lookup_iff (mt_named p t)).1 hl))
theorem case_len (hp : p.chk = 0) (h : isCase p t = true) : (caseOf p t).length = p.varsOf.length := by
  have := mt_names p hp t [] h
  have h2 := congrArg List.length this
  rw [List.length_map] at h2
  rw [case_eq h, sortB_length, h2]
  rfl
theorem case_all {s : List Bd} (hp : p.chk = 0) (hs : ∀ b ∈ s, isVar b.1 = true) : isCase p (p.on s) = true :=
  (mt_complete hs p hp [] fun n x h => by rw [lookup_nil] at h; cases h).1
end
end Go.Proofs.YtdmgelbbjppgkaaDoor

namespace Go.Proofs.YtdmgelbbjppgkaaDoor
open Go Go.RowKit
set_option linter.unusedVariables false

mutual
theorem lg_size : ∀ (a b : Tm) (l : List Pr), (a.lg b l).1.size ≤ a.size
  | .mk n xs, b, l => by
    rw [Tm.lg]
    split
    · have := lgL_size xs b.args l
      show 1 + Tm.sizes (Tm.lgL xs b.args l).1 ≤ 1 + Tm.sizes xs
      omega
    · show 1 + Tm.sizes [] ≤ 1 + Tm.sizes xs
      simp [Tm.sizes]
theorem lgL_size : ∀ (xs ys : List Tm) (l : List Pr), Tm.sizes (Tm.lgL xs ys l).1 ≤ Tm.sizes xs
  | x :: xs, y :: ys, l => by
    simp only [Tm.lgL, Tm.sizes]
    have h1 := lg_size x y l
    have h2 := lgL_size xs ys (x.lg y l).2
    omega
  | [], ys, l => by simp [Tm.lgL, Tm.sizes]
  | x :: xs, [], l => by simp [Tm.lgL, Tm.sizes]
end
mutual
theorem lg_chk : ∀ (a : Tm), a.chk = 0 → ∀ (b : Tm) (l : List Pr), l.length + a.size < 900000 → (a.lg b l).1.chk = 0
  | .mk n xs, hc, b, l, hl => by
    obtain ⟨c1, c2⟩ := Tm.chk_args hc
    rw [Tm.args_mk] at c2
    rw [Tm.size] at hl
    rw [Tm.lg]
    split
    · rename_i h
      exact chk_make (xs := xs) hc (lgL_len xs b.args l h.2.2) (lgL_chk xs c2 b.args l (by omega))
    · have := posP_le l (.mk n xs) b
      exact zLeaf_chk (by omega)
theorem lgL_chk : ∀ (xs : List Tm), (∀ x ∈ xs, x.chk = 0) → ∀ (ys : List Tm) (l : List Pr), l.length + Tm.sizes xs < 900000 → ∀ y ∈ (Tm.lgL xs ys l).1, y.chk = 0
  | x :: xs, hc, y :: ys, l, hl => by
    rw [Tm.sizes] at hl
    have h1 := lg_len x y l
    intro z hz
    simp only [Tm.lgL] at hz
    rcases List.mem_cons.1 hz with rfl | hz
    · exact lg_chk x (hc x (by simp)) y l (by omega)
    · exact lgL_chk xs (fun a ha => hc a (by simp [ha])) ys _ (by omega) z hz
  | [], _, ys, l, _ => by simp [Tm.lgL]
  | x :: xs, _, [], l, _ => by simp [Tm.lgL]
end
mutual
theorem on_nil : ∀ t : Tm, t.on [] = t
  | .mk n xs => by
    rw [Tm.on_knot (t := .mk n xs) (.inl (lookup_nil n)), Tm.name_mk, Tm.args_mk, onL_nil xs]
theorem onL_nil : ∀ xs : List Tm, xs.map (Tm.on []) = xs
  | [] => rfl
  | x :: xs => by rw [List.map_cons, on_nil x, onL_nil xs]
end
def genT (a b : Tm) : Tm := (a.lg b []).1
def genP (a b : Tm) : List Pr := (a.lg b []).2
section
variable {a b : Tm}
theorem genP_len (a b : Tm) : (genP a b).length ≤ a.size := by have := lg_len a b []; simpa [genP] using this
theorem gen_final (a b : Tm) : genT a b = a.lgF (genP a b) b := lg_final a b [] _ (Goes.refl _)
theorem gen_on (f : Pr → Tm) (hf : (∀ a b, f (a, b) = a) ∨ (∀ a b, f (a, b) = b)) (a b : Tm) : (genT a b).on (sortB (zBinds f 0 (genP a b))) = f (a, b) := by
  rw [gen_final]
  refine lgF_on f _ (fun c hc => ?_) _ (fun i p h => zBinds_lookup f h) hf a b [] (Goes.refl _)
  obtain ⟨i, p, _, _, _, rfl⟩ := zBinds_mem f (sortB_mem.1 hc)
  exact zName_var i
theorem genP_chk (ha : a.chk = 0) (hb : b.chk = 0) : ∀ p ∈ genP a b, p.1.chk = 0 ∧ p.2.chk = 0 :=
  (lg_pairs (q := fun t => t.chk = 0) (q' := fun t => t.chk = 0) (fun t h => (Tm.chk_args h).2) (fun t h => (Tm.chk_args h).2) a b [] ha hb ⟨by simp⟩).all
theorem addVars_has {v : ByteArray} (hv : isVar v = true) : ∀ (ks : List Tm) (l : List ByteArray), (v ∈ l ∨ v ∈ ks.map (·.name)) → v ∈ addVars l ks
  | [], l, h => by
    rcases h with h | h
    · exact h
    · simp at h
  | k :: ks, l, h => by
    have e : addVars l (k :: ks) = addVars (addVar l k.name) ks := rfl
    rw [e]
    refine addVars_has hv ks _ ?_
    have hsub : ∀ x ∈ l, x ∈ addVar l k.name := fun x hx => by
      unfold addVar
      split
      · exact List.mem_append_left _ hx
      · exact hx
    rcases h with h | h
    · exact .inl (hsub v h)
    · rw [List.map_cons] at h
      rcases List.mem_cons.1 h with h | h
      · refine .inl ?_
        subst h
        by_cases hin : isIn k.name l = true
        · exact hsub _ (isIn_iff.1 hin)
        · rw [addVar_yes hv (by simpa using hin)]
          simp
      · exact .inr h
theorem lookup_table (f : ByteArray → Tm) {v : ByteArray} : ∀ {l : List ByteArray}, v ∈ l → lookup (l.map fun v => (v, f v)) v = some (f v)
  | x :: l, h => by
    rw [List.map_cons, lookup_cons]
    by_cases e : x = v
    · subst e; rw [if_pos rfl]
    · rw [if_neg e]
      exact lookup_table f ((List.mem_cons.1 h).resolve_left fun h => e h.symm)
/-- Every other term that both are cases of has it as a case. -/
theorem gen_least {p : Tm} {s1 s2 : List Bd} (hp : p.chk = 0) (h1 : ∀ b ∈ s1, isVar b.1 = true) (h2 : ∀ b ∈ s2, isVar b.1 = true) : isCase p (genT (p.on s1) (p.on s2)) = true := by
  rw [gen_final]
  generalize genP (p.on s1) (p.on s2) = m
  have hvv : ∀ n ∈ p.varsOf, isVar n = true := by
    have : ∀ (ks : List Tm) (l : List ByteArray), (∀ n ∈ l, isVar n = true) → ∀ n ∈ addVars l ks, isVar n = true := by
      intro ks
      induction ks with
      | nil => exact fun l h => h
      | cons k ks ih =>
        intro l h
        have e : addVars l (k :: ks) = addVars (addVar l k.name) ks := rfl
        rw [e]
        refine ih _ fun n hn => ?_
        unfold addVar at hn
        split at hn
        · rename_i h1
          rcases List.mem_append.1 hn with h2 | h2
          · exact h n h2
          · rw [List.mem_singleton.1 h2]
            rw [Bool.and_eq_true] at h1
            exact h1.1
        · exact h n hn
    exact this p.knots [] (by simp)
  have hs : ∀ b ∈ p.varsOf.map (fun v => (v, ((leafT v).on s1).lgF m ((leafT v).on s2))), isVar b.1 = true := fun b hb => by
    obtain ⟨v, hv, rfl⟩ := List.mem_map.1 hb
    exact hvv v hv
  rw [← lgF_least h1 h2 hs m p hp fun v hv hk => by
    have hin : v ∈ p.varsOf := addVars_has hv p.knots [] (.inr hk)
    rw [on_leafT, lookup_table (fun v => ((leafT v).on s1).lgF m ((leafT v).on s2)) hin]
    rfl]
  exact case_all hp hs
theorem gen_chk (ha : a.chk = 0) (hz : a.size < 800000) : (genT a b).chk = 0 := lg_chk a ha b [] (by simp; omega)
theorem gen_binds_ok (f : Pr → Tm) (hf : (∀ a b, f (a, b) = a) ∨ (∀ a b, f (a, b) = b)) (ha : a.chk = 0) (hb : b.chk = 0) (hz : a.size < 800000) : OkB (sortB (zBinds f 0 (genP a b))) := by
  refine zBinds_ok f (by have := genP_len a b; omega) fun p hp => ?_
  have := genP_chk ha hb p hp
  cases p with
  | mk x y =>
    rcases hf with hf | hf
    · rw [hf]; exact this.1
    · rw [hf]; exact this.2
/-- A case of the other just if what they have in common is that, but for names. -/
theorem gen_variant (ha : a.chk = 0) (hb : b.chk = 0) (hz : a.size < 800000) (hzb : b.size < 800000) : isCase b a = (isCase (genT a b) b && isCase b (genT a b)) := by
  have ht := gen_chk (b := b) ha hz
  have h1 : isCase (genT a b) b = true := by
    have := case_all (p := genT a b) (s := sortB (zBinds Prod.snd 0 (genP a b))) ht (gen_binds_ok Prod.snd (.inr fun _ _ => rfl) ha hb hz).var
    rwa [gen_on Prod.snd (.inr fun _ _ => rfl)] at this
  rw [h1, Bool.true_and]
  cases hc : isCase b a with
  | true =>
    have hon := case_on hb ha hc
    have hok := case_ok (p := b) hb ha
    have hid : b.on [] = b := on_nil b
    have := gen_least (p := b) (s1 := caseOf b a) (s2 := []) hb hok.var (by simp)
    rw [hon, hid] at this
    rw [this]
  | false =>
    cases hd : isCase b (genT a b) with
    | false => rfl
    | true =>
      have hon := case_on hb ht hd
      have hok := case_ok (p := b) hb ht
      have hl := gen_binds_ok Prod.fst (.inl fun _ _ => rfl) ha hb hz
      have e := on_composed hok hl hb
      rw [hon, gen_on Prod.fst (.inl fun _ _ => rfl)] at e
      have := case_all (p := b) (s := composed (caseOf b (genT a b)) (sortB (zBinds Prod.fst 0 (genP a b)))) hb (composed_ok hok hl).var
      rw [e] at this
      rw [this] at hc
      cases hc
end
end Go.Proofs.YtdmgelbbjppgkaaDoor

namespace Go.Proofs.YtdmgelbbjppgkaaDoor
open Go Go.RowKit
set_option maxRecDepth 100000

def ir_match_into : IR :=
  (.seq
  (.ops
  [.mk (some 3) none (.box 24 (.t 0)) .no, .mk (some 4) none (.box 24 (.t 1)) .no, .mk (some 6) none (.mov (.c (.one (.st (.bool false)))))
  .no])
  (.seq
  (.seq
  (.ops
  [.mk (some 10) none (.fieldAddr 0 (.t 3)) .no, .mk (some 11) none (.load false 1 (.t 10)) .no, .mk (some 12) none (.call 47 [.t 11]) .no])
  (.cond (.t 12)
  (.seq
  (.seq
  (.ops
  [.mk (some 14) none (.mov (.t 2)) .no, .mk (some 15) none (.fieldAddr 0 (.t 3)) .no, .mk (some 16) none (.load false 1 (.t 15)) .no, .mk (some 17) none
  (.lookup none true
  (.agg [.st (.str (ByteArray.mk (#[]))), .full []]) (.t 14) (.t 16))
  .no, .mk (some 13) none (.mov (.t 17)) .no, .mk (some 18) none (.extract 0 (.t 13)) .no, .mk (some 19) none (.extract 1 (.t 13)) .no, .mk (some 7) none
  (.alloc 24 [.st (.str (ByteArray.mk (#[]))), .full []])
  .no, .mk none none (.store 2 (.t 7) (.t 18))
  .no, .mk (some 8) none (.mov (.t 19)) .no])
  (.seq
  (.ops
  [.mk (some 20) none (.mov (.t 8)) .no])
  (.cond (.t 20)
  (.seq
  (.ops
  [.mk (some 21) none (.load true 2 (.t 7)) .no, .mk (some 22) none (.load true 2 (.t 4)) .no, .mk (some 23) none (.call 48 [.t 21, .t 22])
  .no, .mk (some 6) none (.mov (.t 23)) .no])
  .ret)
  .skip)))
  (.seq
  (.ops
  [.mk (some 24) none (.mov (.t 2)) .no, .mk (some 25) none (.fieldAddr 0 (.t 3)) .no, .mk (some 26) none (.load false 1 (.t 25)) .no, .mk (some 27) none (.load true 2 (.t 4)) .no, .mk none none
  (.mapSet none (.t 24) (.t 26) (.t 27))
  .no])
  (.seq
  (.ops
  [.mk (some 6) none (.mov (.c (.one (.st (.bool true)))))
  .no])
  .ret)))
  .skip))
  (.seq
  (.seq
  (.ops
  [.mk (some 28) none (.fieldAddr 0 (.t 3)) .no, .mk (some 29) none (.load false 1 (.t 28)) .no, .mk (some 30) none (.fieldAddr 0 (.t 4)) .no, .mk (some 31) none (.load false 1 (.t 30)) .no, .mk (some 32) none (.bin .neq (.t 29) (.t 31))
  .no, .mk (some 33) none (.mov (.t 32)) .no, .mk (some 34) (some (33, false)) (.fieldAddr 1 (.t 3)) .no, .mk (some 35) (some (33, false)) (.load false 1 (.t 34))
  .no, .mk (some 36) (some (33, false)) (.len false (.t 35))
  .no, .mk (some 37) (some (33, false)) (.fieldAddr 1 (.t 4)) .no, .mk (some 38) (some (33, false)) (.load false 1 (.t 37))
  .no, .mk (some 39) (some (33, false)) (.len false (.t 38))
  .no, .mk (some 40) (some (33, false)) (.bin .neq (.t 36) (.t 39)) .no, .mk (some 41) none
  (.pick (.t 33) (.c (.one (.st (.bool true)))) (.t 40))
  .no])
  (.cond (.t 41)
  (.seq
  (.ops
  [.mk (some 6) none (.mov (.c (.one (.st (.bool false)))))
  .no])
  .ret)
  .skip))
  (.seq
  (.seq
  (.ops
  [.mk (some 42) none (.fieldAddr 1 (.t 3)) .no, .mk (some 43) none (.load false 1 (.t 42)) .no, .mk (some 44) none (.len false (.t 43)) .no, .mk (some 45) none (.mov (.c (.one (.st (.int .i64 0)))))
  .no])
  (.block 0
  (.loop
  (.seq
  (.ops
  [.mk (some 46) none (.bin .lss (.t 45) (.t 44))
  .no])
  (.seq (.cond (.t 46) .skip (.exit 0))
  (.seq
  (.block 1
  (.seq
  (.ops
  [.mk (some 47) none (.mov (.t 45)) .no, .mk (some 9) none (.mov (.t 47)) .no])
  (.seq
  (.ops
  [.mk (some 48) none (.fieldAddr 1 (.t 3)) .no, .mk (some 49) none (.load false 1 (.t 48))
  .no, .mk (some 50) none (.mov (.t 9)) .no, .mk (some 51) none (.indexAddr 2 (.t 49) (.t 50))
  .no, .mk (some 52) none (.load true 2 (.t 51))
  .no, .mk (some 53) none (.fieldAddr 1 (.t 4)) .no, .mk (some 54) none (.load false 1 (.t 53))
  .no, .mk (some 55) none (.mov (.t 9)) .no, .mk (some 56) none (.indexAddr 2 (.t 54) (.t 55))
  .no, .mk (some 57) none (.load true 2 (.t 56))
  .no, .mk (some 58) none (.mov (.t 2)) .no, .mk (some 59) none
  (.callS 61 [.t 52, .t 57, .t 58])
  .no, .mk (some 60) none (.un .not (.t 59))
  .no])
  (.cond (.t 60)
  (.seq
  (.ops
  [.mk (some 6) none (.mov (.c (.one (.st (.bool false)))))
  .no])
  .ret)
  .skip))))
  (.ops
  [.mk (some 61) none (.bin .add (.t 45) (.c (.one (.st (.int .i64 1)))))
  .no, .mk (some 45) none (.mov (.t 61)) .no])))))))
  (.seq
  (.ops
  [.mk (some 6) none (.mov (.c (.one (.st (.bool true)))))
  .no])
  .ret)))))
theorem tr_match_into : trCode Tryd.prog 62 [59] (Tryd.f61.body.getD .skip) = some ir_match_into := by kernel_rfl
theorem ac_match_into {xs : List AV} {r : AV} (hn : xs.length ≤ 62) (h : ∀ C : Ctx, C.n = 62 → IWP Tryd.prog C [59] ir_match_into (FinQ [.t 6] r) (AS.start xs)) : ACalls Tryd.prog 61 xs r :=
  acalls_of Tryd.func61 rfl tr_match_into rfl hn h
theorem acS_match_into {xs : List AV} {S S' : AStore} {r : AV} (hn : xs.length ≤ 62) (h : Clean S → ∀ C : Ctx, C.n = 62 → IWP Tryd.prog C [59] ir_match_into (FinS C [.t 6] r S') (AS.startS xs S)) : ACallsS Tryd.prog 61 xs S r S' :=
  acallsS_of Tryd.func61 rfl tr_match_into rfl hn h

def ir_match_Case : IR :=
  (.seq
  (.ops
  [.mk (some 2) none (.box 24 (.t 0)) .no, .mk (some 3) none (.box 24 (.t 1)) .no, .mk (some 4) none (.mov (.c (.one (.full [])))) .no, .mk (some 5) none (.mov (.c (.one (.st (.bool false)))))
  .no])
  (.seq
  (.ops
  [.mk (some 10) none (.makeMap none) .no, .mk (some 6) none (.mov (.t 10)) .no])
  (.seq
  (.seq
  (.ops
  [.mk (some 11) none (.load true 2 (.t 2)) .no, .mk (some 12) none (.load true 2 (.t 3)) .no, .mk (some 13) none (.mov (.t 6)) .no, .mk (some 14) none
  (.callS 61 [.t 11, .t 12, .t 13]) .no, .mk (some 15) none (.un .not (.t 14)) .no])
  (.cond (.t 15)
  (.seq
  (.ops
  [.mk (some 4) none (.mov (.c (.one (.full [])))) .no, .mk (some 5) none (.mov (.c (.one (.st (.bool false)))))
  .no])
  .ret)
  .skip))
  (.seq
  (.ops
  [.mk (some 7) none (.mov (.c (.one (.full [])))) .no])
  (.seq
  (.seq
  (.ops
  [.mk (some 16) none (.mov (.t 6)) .no, .mk (some 17) none (.rangeM (.t 16)) .no])
  (.block 0
  (.loop
  (.seq
  (.ops
  [.mk (some 18) none (.next (.t 17)) .no, .mk (some 19) none (.extract 0 (.t 18)) .no])
  (.seq (.cond (.t 19) .skip (.exit 0))
  (.block 1
  (.seq
  (.ops
  [.mk (some 20) none (.entry (.t 17)) .no, .mk (some 21) none (.extract 0 (.t 20)) .no, .mk (some 22) none (.extract 1 (.t 20)) .no, .mk (some 9) none
  (.alloc 24 [.st (.str (ByteArray.mk (#[]))), .full []])
  .no, .mk (some 8) none (.mov (.t 21)) .no, .mk none none (.store 2 (.t 9) (.t 22))
  .no])
  (.ops
  [.mk (some 23) none (.mov (.t 7)) .no, .mk (some 24) none (.mov (.t 8)) .no, .mk (some 25) none (.load true 2 (.t 9)) .no, .mk (some 26) none (.call 30 [.t 25]) .no, .mk (some 27) none
  (.build
  [.st (.str (ByteArray.mk (#[]))), .st (.str (ByteArray.mk (#[]))), .full []]
  [(0, 1, .t 24), (1, 2, .t 26)])
  .no, .mk (some 28) none (.buildSlice false 36 3 [.t 27])
  .no, .mk (some 29) none
  (.append true 36 3 56 (.t 23) (.t 28)) .no, .mk (some 7) none (.mov (.t 29)) .no]))))))))
  (.seq
  (.ops
  [.mk (some 30) none (.mov (.t 7)) .no, .mk (some 31) none (.callS 31 [.t 30]) .no, .mk (some 4) none (.mov (.t 31)) .no, .mk (some 5) none (.mov (.c (.one (.st (.bool true)))))
  .no])
  .ret))))))
theorem tr_match_Case : trCode Tryd.prog 32 [14, 29, 31] (Tryd.f46.body.getD .skip) = some ir_match_Case := by kernel_rfl
theorem ac_match_Case {xs : List AV} {r : AV} (hn : xs.length ≤ 32) (h : ∀ C : Ctx, C.n = 32 → IWP Tryd.prog C [14, 29, 31] ir_match_Case (FinQ [.t 4, .t 5] r) (AS.start xs)) : ACalls Tryd.prog 46 xs r :=
  acalls_of Tryd.func46 rfl tr_match_Case rfl hn h
theorem acS_match_Case {xs : List AV} {S S' : AStore} {r : AV} (hn : xs.length ≤ 32) (h : Clean S → ∀ C : Ctx, C.n = 32 → IWP Tryd.prog C [14, 29, 31] ir_match_Case (FinS C [.t 4, .t 5] r S') (AS.startS xs S)) : ACallsS Tryd.prog 46 xs S r S' :=
  acallsS_of Tryd.func46 rfl tr_match_Case rfl hn h

def ir_match_Match : IR :=
  (.seq
  (.ops
  [.mk (some 2) none (.box 24 (.t 0)) .no, .mk (some 3) none (.box 24 (.t 1)) .no, .mk (some 4) none (.mov (.c (.one (.full [])))) .no, .mk (some 5) none (.mov (.c (.one (.st (.bool false)))))
  .no, .mk (some 6) none (.mov (.c (.one (.st (.int .i64 0)))))
  .no])
  (.seq
  (.seq
  (.ops
  [.mk (some 10) none (.load true 2 (.t 2)) .no, .mk (some 11) none (.load true 2 (.t 3)) .no, .mk (some 12) none (.call 27 [.t 10, .t 11])
  .no, .mk (some 7) none (.mov (.t 12)) .no])
  (.seq
  (.ops
  [.mk (some 13) none (.mov (.t 7)) .no, .mk (some 14) none (.bin .neq (.t 13) (.c (.one (.st (.int .i64 0)))))
  .no])
  (.cond (.t 14)
  (.seq
  (.ops
  [.mk (some 15) none (.mov (.t 7)) .no, .mk (some 4) none (.mov (.c (.one (.full [])))) .no, .mk (some 5) none (.mov (.c (.one (.st (.bool false)))))
  .no, .mk (some 6) none (.mov (.t 15)) .no])
  .ret)
  .skip)))
  (.seq
  (.ops
  [.mk (some 17) none (.load true 2 (.t 2)) .no, .mk (some 18) none (.load true 2 (.t 3)) .no, .mk (some 19) none (.call 46 [.t 17, .t 18])
  .no, .mk (some 16) none (.mov (.t 19)) .no, .mk (some 20) none (.extract 0 (.t 16)) .no, .mk (some 21) none (.extract 1 (.t 16)) .no, .mk (some 8) none (.mov (.t 20)) .no, .mk (some 9) none (.mov (.t 21)) .no])
  (.seq
  (.ops
  [.mk (some 22) none (.mov (.t 8)) .no, .mk (some 23) none (.mov (.t 9)) .no, .mk (some 4) none (.mov (.t 22)) .no, .mk (some 5) none (.mov (.t 23)) .no, .mk (some 6) none (.mov (.c (.one (.st (.int .i64 0)))))
  .no])
  .ret))))
theorem tr_match_Match : trCode Tryd.prog 24 [] (Tryd.f23.body.getD .skip) = some ir_match_Match := by kernel_rfl
theorem ac_match_Match {xs : List AV} {r : AV} (hn : xs.length ≤ 24) (h : ∀ C : Ctx, C.n = 24 → IWP Tryd.prog C [] ir_match_Match (FinQ [.t 4, .t 5, .t 6] r) (AS.start xs)) : ACalls Tryd.prog 23 xs r :=
  acalls_of Tryd.func23 rfl tr_match_Match rfl hn h
theorem acS_match_Match {xs : List AV} {S S' : AStore} {r : AV} (hn : xs.length ≤ 24) (h : Clean S → ∀ C : Ctx, C.n = 24 → IWP Tryd.prog C [] ir_match_Match (FinS C [.t 4, .t 5, .t 6] r S') (AS.startS xs S)) : ACallsS Tryd.prog 23 xs S r S' :=
  acallsS_of Tryd.func23 rfl tr_match_Match rfl hn h

def ir_match_Variant : IR :=
  (.seq
  (.ops
  [.mk (some 2) none (.box 24 (.t 0)) .no, .mk (some 3) none (.box 24 (.t 1)) .no, .mk (some 4) none (.mov (.c (.one (.st (.bool false)))))
  .no, .mk (some 5) none (.mov (.c (.one (.st (.int .i64 0)))))
  .no])
  (.seq
  (.seq
  (.ops
  [.mk (some 11) none (.load true 2 (.t 2)) .no, .mk (some 12) none (.load true 2 (.t 3)) .no, .mk (some 13) none (.call 27 [.t 11, .t 12])
  .no, .mk (some 6) none (.mov (.t 13)) .no])
  (.seq
  (.ops
  [.mk (some 14) none (.mov (.t 6)) .no, .mk (some 15) none (.bin .neq (.t 14) (.c (.one (.st (.int .i64 0)))))
  .no])
  (.cond (.t 15)
  (.seq
  (.ops
  [.mk (some 16) none (.mov (.t 6)) .no, .mk (some 4) none (.mov (.c (.one (.st (.bool false)))))
  .no, .mk (some 5) none (.mov (.t 16)) .no])
  .ret)
  .skip)))
  (.seq
  (.ops
  [.mk (some 18) none (.load true 2 (.t 2)) .no, .mk (some 19) none (.load true 2 (.t 3)) .no, .mk (some 20) none (.call 46 [.t 18, .t 19])
  .no, .mk (some 17) none (.mov (.t 20)) .no, .mk (some 21) none (.extract 0 (.t 17)) .no, .mk (some 22) none (.extract 1 (.t 17)) .no, .mk (some 7) none (.mov (.t 21)) .no, .mk (some 8) none (.mov (.t 22)) .no])
  (.seq
  (.ops
  [.mk (some 24) none (.load true 2 (.t 3)) .no, .mk (some 25) none (.load true 2 (.t 2)) .no, .mk (some 26) none (.call 46 [.t 24, .t 25])
  .no, .mk (some 23) none (.mov (.t 26)) .no, .mk (some 27) none (.extract 0 (.t 23)) .no, .mk (some 28) none (.extract 1 (.t 23)) .no, .mk (some 9) none (.mov (.t 27)) .no, .mk (some 10) none (.mov (.t 28)) .no])
  (.seq
  (.ops
  [.mk (some 29) none (.mov (.t 8)) .no, .mk (some 30) none (.mov (.t 29)) .no, .mk (some 31) (some (30, true)) (.mov (.t 10)) .no, .mk (some 32) none
  (.pick (.t 30) (.t 31) (.c (.one (.st (.bool false)))))
  .no, .mk (some 4) none (.mov (.t 32)) .no, .mk (some 5) none (.mov (.c (.one (.st (.int .i64 0)))))
  .no])
  .ret)))))
theorem tr_match_Variant : trCode Tryd.prog 33 [] (Tryd.f25.body.getD .skip) = some ir_match_Variant := by kernel_rfl
theorem ac_match_Variant {xs : List AV} {r : AV} (hn : xs.length ≤ 33) (h : ∀ C : Ctx, C.n = 33 → IWP Tryd.prog C [] ir_match_Variant (FinQ [.t 4, .t 5] r) (AS.start xs)) : ACalls Tryd.prog 25 xs r :=
  acalls_of Tryd.func25 rfl tr_match_Variant rfl hn h
theorem acS_match_Variant {xs : List AV} {S S' : AStore} {r : AV} (hn : xs.length ≤ 33) (h : Clean S → ∀ C : Ctx, C.n = 33 → IWP Tryd.prog C [] ir_match_Variant (FinS C [.t 4, .t 5] r S') (AS.startS xs S)) : ACallsS Tryd.prog 25 xs S r S' :=
  acallsS_of Tryd.func25 rfl tr_match_Variant rfl hn h

end Go.Proofs.YtdmgelbbjppgkaaDoor

namespace Go.Proofs.YtdmgelbbjppgkaaDoor
open Go Go.RowKit
set_option linter.unusedVariables false

/-- A walk through a row in any order, each place once. -/
def met {α : Type} (l : List α) (seen : List Nat) : List α := seen.filterMap fun j => l[j]?
theorem met_snoc {α : Type} {l : List α} {seen : List Nat} {j : Nat} {b : α} (h : l[j]? = some b) : met l (seen ++ [j]) = met l seen ++ [b] := by
  unfold met
  rw [List.filterMap_append, List.filterMap_cons_some h]
  rfl
theorem met_len {α : Type} {l : List α} : ∀ {seen : List Nat}, (∀ j ∈ seen, j < l.length) → (met l seen).length = seen.length
  | [], _ => rfl
  | j :: seen, h => by
    have hj := h j (by simp)
    unfold met
    rw [List.filterMap_cons_some (List.getElem?_eq_getElem hj), List.length_cons, List.length_cons]
    exact congrArg (· + 1) (met_len fun i hi => h i (by simp [hi]))
theorem seen_len {n : Nat} {seen : List Nat} (hn : seen.Nodup) (h : ∀ j ∈ seen, j < n) : seen.length ≤ n := by
  have h1 : seen.Perm ((List.range n).filter fun j => decide (j ∈ seen)) := (List.perm_ext_iff_of_nodup hn (List.nodup_range.filter _)).2 fun j => by
    rw [List.mem_filter, List.mem_range, decide_eq_true_eq]
    exact ⟨fun hj => ⟨h j hj, hj⟩, fun hj => hj.2⟩
  rw [h1.length_eq]
  exact Nat.le_trans (List.length_filter_le _ _) (Nat.le_of_eq List.length_range)
theorem met_perm {α : Type} {l : List α} {seen : List Nat} (hn : seen.Nodup) (h : ∀ j ∈ seen, j < l.length) (hall : ∀ j, j < l.length → j ∈ seen) : (met l seen).Perm l := by
  have hp : seen.Perm (List.range l.length) := (List.perm_ext_iff_of_nodup hn List.nodup_range).2 fun j => ⟨fun hj => List.mem_range.2 (h j hj), fun hj => hall j (List.mem_range.1 hj)⟩
  have := hp.filterMap fun j => l[j]?
  rw [filterMap_range] at this
  exact this
end Go.Proofs.YtdmgelbbjppgkaaDoor
