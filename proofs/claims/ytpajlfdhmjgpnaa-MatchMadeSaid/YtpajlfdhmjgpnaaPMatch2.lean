/-
  What matching finds, in plain Lean: it makes the pattern into the term; where there is one, it is found. No program in sight.
  Conditions: none.
-/
import Derived.Test.YtpajlfdhmjgpnaaPMatch
import Derived.Test.YtpajlfdhmjgpnaaPCompose
namespace Go.Proofs.Ytpajlfdhmjgpnaa
open Go Go.RowKit
set_option linter.unusedVariables false

/-- m binds what l binds. -/
def MtExt (l m : List Bd) : Prop := ∀ n x, lookup l n = some x → lookup m n = some x
theorem MtExt.trans {a b c : List Bd} (h : MtExt a b) (k : MtExt b c) : MtExt a c := fun n x e => k n x (h n x e)
theorem lookup_snoc {l : List Bd} {b : Bd} {n : ByteArray} : lookup (l ++ [b]) n = match lookup l n with | some x => some x | none => if b.1 = n then some b.2 else none := by
  rw [lookup_append, lookup_cons, lookup_nil]
  cases lookup l n <;> rfl
mutual
theorem mt_ext : ∀ (p t : Tm) (l : List Bd), MtExt l (p.mt t l).1
  | .mk n xs, t, l => by
    rw [Tm.mt]
    split
    · split
      · exact fun _ _ h => h
      · intro m x h
        rw [lookup_snoc, h]
    · split
      · exact mtL_ext xs t.args l
      · exact fun _ _ h => h
theorem mtL_ext : ∀ (xs ys : List Tm) (l : List Bd), MtExt l (Tm.mtL xs ys l).1
  | [], ys, l => by rw [Tm.mtL_nil]; exact fun _ _ h => h
  | x :: xs, [], l => by rw [Tm.mtL]; exact fun _ _ h => h; simp
  | x :: xs, y :: ys, l => by
    rw [Tm.mtL]
    split
    · exact (mt_ext x y l).trans (mtL_ext xs ys _)
    · exact mt_ext x y l
end
theorem nov_on {n : ByteArray} {xs : List Tm} {m : List Bd} (hn : isVar n = false) (hm : ∀ b ∈ m, isVar b.1 = true) : (Tm.mk n xs).on m = .mk n (xs.map (Tm.on m)) :=
  Tm.on_knot (t := .mk n xs) (.inl (lookup_none fun b hb e => by rw [Tm.name_mk] at e; have := hm b hb; rw [e, hn] at this; cases this))
mutual
/-- What is found makes the pattern into the term. -/
theorem mt_sound : ∀ (p : Tm), p.chk = 0 → ∀ (t : Tm) (l : List Bd), (p.mt t l).2 = true → ∀ m : List Bd, (∀ b ∈ m, isVar b.1 = true) → MtExt (p.mt t l).1 m → p.on m = t
  | .mk n xs, hc, t, l, h, m, hm, hx => by
    obtain ⟨c1, c2⟩ := Tm.chk_args hc
    simp only [Tm.name_mk, Tm.args_mk] at c1 c2
    cases hv : isVar n with
    | true =>
      have h0 := c1 hv
      subst h0
      cases hl : lookup l n with
      | some x =>
        rw [Tm.mt_old (p := .mk n []) hv hl] at h hx
        rw [Tm.on_leaf (t := .mk n []) (hx n x hl) rfl]
        exact (Tm.beq_iff x t).1 h
      | none =>
        rw [Tm.mt_new (p := .mk n []) hv hl] at h hx
        exact Tm.on_leaf (t := .mk n []) (hx n t (by rw [lookup_snoc, hl]; simp [Tm.name_mk])) rfl
    | false =>
      by_cases hk : n = t.name ∧ xs.length = t.args.length
      · rw [Tm.mt_knot (p := .mk n xs) hv hk.1 hk.2] at h hx
        rw [nov_on hv hm, mtL_sound xs c2 t.args l hk.2 h m hm hx]
        cases t
        rw [hk.1]
        rfl
      · rw [Tm.mt_clash (p := .mk n xs) hv hk] at h
        cases h
theorem mtL_sound : ∀ (xs : List Tm), (∀ x ∈ xs, x.chk = 0) → ∀ (ys : List Tm) (l : List Bd), xs.length = ys.length → (Tm.mtL xs ys l).2 = true → ∀ m : List Bd, (∀ b ∈ m, isVar b.1 = true) → MtExt (Tm.mtL xs ys l).1 m → xs.map (Tm.on m) = ys
  | [], _, [], l, _, _, m, _, _ => rfl
  | x :: xs, hc, y :: ys, l, hl, h, m, hm, hx => by
    rw [Tm.mtL] at h hx
    by_cases h1 : (x.mt y l).2 = true
    · rw [if_pos h1] at h hx
      rw [List.map_cons, mt_sound x (hc x (by simp)) y l h1 m hm ((mtL_ext xs ys _).trans hx), mtL_sound xs (fun a ha => hc a (by simp [ha])) ys _ (by simpa using hl) h m hm hx]
    · rw [if_neg h1] at h
      cases h
  | [], _, y :: ys, l, hl, _, m, _, _ => by simp at hl
  | x :: xs, _, [], l, hl, _, m, _, _ => by simp at hl
end
/-- What is bound is what s makes of it. -/
def MtAgree (s l : List Bd) : Prop := ∀ n x, lookup l n = some x → (leafT n).on s = x
mutual
/-- Where there is one, it is found. -/
theorem mt_complete {s : List Bd} (hs : ∀ b ∈ s, isVar b.1 = true) : ∀ (p : Tm), p.chk = 0 → ∀ l : List Bd, MtAgree s l → (p.mt (p.on s) l).2 = true ∧ MtAgree s (p.mt (p.on s) l).1
  | .mk n xs, hc, l, ha => by
    obtain ⟨c1, c2⟩ := Tm.chk_args hc
    simp only [Tm.name_mk, Tm.args_mk] at c1 c2
    cases hv : isVar n with
    | true =>
      have h0 := c1 hv
      subst h0
      cases hl : lookup l n with
      | some x =>
        rw [Tm.mt_old (p := .mk n []) hv hl]
        exact ⟨(Tm.beq_iff _ _).2 (ha n x hl).symm, ha⟩
      | none =>
        rw [Tm.mt_new (p := .mk n []) hv hl]
        refine ⟨rfl, fun m x h => ?_⟩
        rw [lookup_snoc] at h
        cases hm : lookup l m with
        | some z => rw [hm] at h; cases h; exact ha m _ hm
        | none =>
          rw [hm] at h
          have h9 : (if n = m then some ((Tm.mk n []).on s) else none) = some x := h
          by_cases e : n = m
          · rw [if_pos e] at h9
            rw [← e]
            exact Option.some.inj h9
          · rw [if_neg e] at h9
            cases h9
    | false =>
      rw [nov_on hv hs, Tm.mt_knot (p := .mk n xs) (t := .mk n (xs.map (Tm.on s))) hv rfl (by simp [Tm.args_mk])]
      exact mtL_complete hs xs c2 l ha
theorem mtL_complete {s : List Bd} (hs : ∀ b ∈ s, isVar b.1 = true) : ∀ (xs : List Tm), (∀ x ∈ xs, x.chk = 0) → ∀ l : List Bd, MtAgree s l → (Tm.mtL xs (xs.map (Tm.on s)) l).2 = true ∧ MtAgree s (Tm.mtL xs (xs.map (Tm.on s)) l).1
  | [], _, l, ha => ⟨rfl, ha⟩
  | x :: xs, hc, l, ha => by
    obtain ⟨h1, h2⟩ := mt_complete hs x (hc x (by simp)) l ha
    rw [List.map_cons, Tm.mtL, if_pos h1]
    exact mtL_complete hs xs (fun a ha => hc a (by simp [ha])) _ h2
end
mutual
/-- The names that are bound, as they come. -/
theorem mt_names : ∀ (p : Tm), p.chk = 0 → ∀ (t : Tm) (l : List Bd), (p.mt t l).2 = true → (p.mt t l).1.map (·.1) = addVars (l.map (·.1)) p.knots
  | .mk n xs, hc, t, l, h => by
    obtain ⟨c1, c2⟩ := Tm.chk_args hc
    simp only [Tm.name_mk, Tm.args_mk] at c1 c2
    have hk : addVars (l.map (·.1)) (Tm.mk n xs).knots = addVars (addVar (l.map (·.1)) n) (Tm.knotsL xs) := rfl
    rw [hk]
    cases hv : isVar n with
    | true =>
      have h0 := c1 hv
      subst h0
      have hn : addVars (addVar (l.map (·.1)) n) (Tm.knotsL []) = addVar (l.map (·.1)) n := rfl
      rw [hn]
      cases hl : lookup l n with
      | some x =>
        rw [Tm.mt_old (p := .mk n []) hv hl]
        obtain ⟨b, hb, e, _⟩ := lookup_mem hl
        rw [addVar_in (isIn_iff.2 (List.mem_map.2 ⟨b, hb, e⟩))]
      | none =>
        rw [Tm.mt_new (p := .mk n []) hv hl, addVar_yes hv (isIn_no.2 (lookup_names hl)), List.map_append]
        rfl
    | false =>
      by_cases hk : n = t.name ∧ xs.length = t.args.length
      · rw [Tm.mt_knot (p := .mk n xs) hv hk.1 hk.2] at h ⊢
        rw [addVar_no hv]
        exact mtL_names xs c2 t.args l hk.2 h
      · rw [Tm.mt_clash (p := .mk n xs) hv hk] at h
        cases h
theorem mtL_names : ∀ (xs : List Tm), (∀ x ∈ xs, x.chk = 0) → ∀ (ys : List Tm) (l : List Bd), xs.length = ys.length → (Tm.mtL xs ys l).2 = true → (Tm.mtL xs ys l).1.map (·.1) = addVars (l.map (·.1)) (Tm.knotsL xs)
  | [], _, ys, l, _, _ => by rw [Tm.mtL_nil]; rfl
  | x :: xs, hc, y :: ys, l, hl, h => by
    rw [Tm.mtL] at h ⊢
    by_cases h1 : (x.mt y l).2 = true
    · rw [if_pos h1] at h ⊢
      rw [mtL_names xs (fun a ha => hc a (by simp [ha])) ys _ (by simpa using hl) h, mt_names x (hc x (by simp)) y l h1, Tm.knotsL, addVars_append]
    · rw [if_neg h1] at h
      cases h
  | x :: xs, _, [], l, hl, _ => by simp at hl
end
def GoodB (b : Bd) : Prop := isVar b.1 = true ∧ nameOk b.1 = true ∧ b.2.chk = 0
theorem nameOk_of {t : Tm} (h : t.chk = 0) : nameOk t.name = true := by
  have := chk_parts h
  unfold chkOne at this
  split at this
  · assumption
  · cases this
mutual
theorem mt_good : ∀ (p : Tm), p.chk = 0 → ∀ (t : Tm), t.chk = 0 → ∀ (l : List Bd), (∀ b ∈ l, GoodB b) → ∀ b ∈ (p.mt t l).1, GoodB b
  | .mk n xs, hc, t, ht, l, hl => by
    obtain ⟨c1, c2⟩ := Tm.chk_args hc
    simp only [Tm.name_mk, Tm.args_mk] at c1 c2
    rw [Tm.mt]
    split
    · rename_i hv
      split
      · exact hl
      · intro b hb
        rcases List.mem_append.1 hb with hb | hb
        · exact hl b hb
        · rw [List.mem_singleton] at hb
          subst hb
          exact ⟨hv, nameOk_of hc, ht⟩
    · split
      · exact mtL_good xs c2 t.args (Tm.chk_args ht).2 l hl
      · exact hl
theorem mtL_good : ∀ (xs : List Tm), (∀ x ∈ xs, x.chk = 0) → ∀ (ys : List Tm), (∀ y ∈ ys, y.chk = 0) → ∀ (l : List Bd), (∀ b ∈ l, GoodB b) → ∀ b ∈ (Tm.mtL xs ys l).1, GoodB b
  | [], _, ys, _, l, hl => by rw [Tm.mtL_nil]; exact hl
  | x :: xs, _, [], _, l, hl => by rw [Tm.mtL]; exact hl; simp
  | x :: xs, hc, y :: ys, hy, l, hl => by
    rw [Tm.mtL]
    have h1 := mt_good x (hc x (by simp)) y (hy y (by simp)) l hl
    split
    · exact mtL_good xs (fun a ha => hc a (by simp [ha])) ys (fun a ha => hy a (by simp [ha])) _ h1
    · exact h1
end
section
variable {p t : Tm}
theorem case_eq (h : isCase p t = true) : caseOf p t = sortB (p.mt t []).1 := by
  unfold caseOf
  rw [if_pos (show (p.mt t []).2 = true from h)]
theorem case_ok (hp : p.chk = 0) (ht : t.chk = 0) : OkB (caseOf p t) := by
  unfold caseOf
  have hg := mt_good p hp t ht [] (by simp)
  split
  · exact ⟨sortB_ordered (mt_named p t), fun b hb => (hg b (sortB_mem.1 hb)).1, fun b hb => (hg b (sortB_mem.1 hb)).2.1, fun b hb => (hg b (sortB_mem.1 hb)).2.2⟩
  · exact ⟨List.Pairwise.nil, by simp, by simp, by simp⟩
theorem case_size : ∀ b ∈ caseOf p t, b.2.size ≤ t.size := fun b hb => by
  unfold caseOf at hb
  split at hb
  · exact mt_size p t b (sortB_mem.1 hb)
  · simp at hb
theorem case_len_le : (caseOf p t).length ≤ p.size := by
  unfold caseOf
  split
  · rw [sortB_length]; exact mt_len p t
  · simp
theorem case_on (hp : p.chk = 0) (ht : t.chk = 0) (h : isCase p t = true) : p.on (caseOf p t) = t := by
  refine mt_sound p hp t [] h _ (case_ok hp ht).var fun n x hl => ?_
  rw [case_eq h]
  exact (lookup_iff (named_perm (sortB_perm _).symm (mt_named p t))).2 (sortB_mem.2 ((lookup_iff (mt_named p t)).1 hl))
theorem case_len (hp : p.chk = 0) (h : isCase p t = true) : (caseOf p t).length = p.varsOf.length := by
  have := mt_names p hp t [] h
  have h2 := congrArg List.length this
  rw [List.length_map] at h2
  rw [case_eq h, sortB_length, h2]
  rfl
theorem case_all {s : List Bd} (hp : p.chk = 0) (hs : ∀ b ∈ s, isVar b.1 = true) : isCase p (p.on s) = true :=
  (mt_complete hs p hp [] fun n x h => by rw [lookup_nil] at h; cases h).1
end
end Go.Proofs.Ytpajlfdhmjgpnaa
