/-
  Terms without what is bound: steps all over at once, that they meet, and what an abstraction put to a thing becomes. No program in sight.
  Conditions: none.
-/
import Derived.Test.YtelmgldeghmkbaaPFrom
import Derived.Test.YtelmgldeghmkbaaPSubst
namespace Go.Proofs.Ytelmgldeghmkbaa
open Go Go.RowKit
set_option linter.unusedVariables false

theorem ap2_inj {f x g y : Tm} (h : ap2 f x = ap2 g y) : f = g ∧ x = y := by
  simp only [ap2, Tm.mk.injEq, List.cons.injEq, and_true, true_and] at h
  exact h
theorem ap2_leaf {f x : Tm} {n : ByteArray} (h : ap2 f x = leafOf n) : False := by simp [ap2, leafOf] at h
theorem leafOf_inj {m n : ByteArray} (h : leafOf m = leafOf n) : m = n := by simpa [leafOf] using h
/-- Some steps, beside each other. -/
inductive Par : Tm → Tm → Prop
  | refl (t : Tm) : Par t t
  | ap {f f' x x' : Tm} : Par f f' → Par x x' → Par (ap2 f x) (ap2 f' x')
  | i {x x' : Tm} : Par x x' → Par (ap2 (leafOf iS) x) x'
  | k {x x' y : Tm} : Par x x' → Par (ap2 (ap2 (leafOf kS) x) y) x'
  | s {x x' y y' z z' : Tm} : Par x x' → Par y y' → Par z z' → Par (ap2 (ap2 (ap2 (leafOf sS) x) y) z) (ap2 (ap2 x' z') (ap2 y' z'))
theorem Par.inv_ap {f x v : Tm} (h : Par (ap2 f x) v) : (∃ f' x', v = ap2 f' x' ∧ Par f f' ∧ Par x x') ∨ (f = leafOf iS ∧ Par x v) ∨ (∃ a, f = ap2 (leafOf kS) a ∧ Par a v) ∨
    (∃ a b a' b' x', f = ap2 (ap2 (leafOf sS) a) b ∧ Par a a' ∧ Par b b' ∧ Par x x' ∧ v = ap2 (ap2 a' x') (ap2 b' x')) := by
  generalize ht : ap2 f x = t at h
  cases h with
  | refl =>
    subst ht
    exact .inl ⟨f, x, rfl, .refl _, .refl _⟩
  | ap h1 h2 =>
    obtain ⟨rfl, rfl⟩ := ap2_inj ht
    exact .inl ⟨_, _, rfl, h1, h2⟩
  | i h1 =>
    obtain ⟨rfl, rfl⟩ := ap2_inj ht
    exact .inr (.inl ⟨rfl, h1⟩)
  | k h1 =>
    obtain ⟨rfl, rfl⟩ := ap2_inj ht
    exact .inr (.inr (.inl ⟨_, rfl, h1⟩))
  | s h1 h2 h3 =>
    obtain ⟨rfl, rfl⟩ := ap2_inj ht
    exact .inr (.inr (.inr ⟨_, _, _, _, _, rfl, h1, h2, h3, rfl⟩))
theorem Par.inv_leaf {n : ByteArray} {v : Tm} (h : Par (leafOf n) v) : v = leafOf n := by
  generalize ht : leafOf n = t at h
  cases h with
  | refl => rfl
  | ap h1 h2 => exact (ap2_leaf ht.symm).elim
  | i h1 => exact (ap2_leaf ht.symm).elim
  | k h1 => exact (ap2_leaf ht.symm).elim
  | s h1 h2 h3 => exact (ap2_leaf ht.symm).elim
theorem kS_iS : kS ≠ iS := by decide
theorem sS_iS : sS ≠ iS := by decide
theorem sS_kS : sS ≠ kS := by decide
/-- Of a k that has one, of an s that has one, two: only the parts turn. -/
theorem Par.inv_k {a v : Tm} (h : Par (ap2 (leafOf kS) a) v) : ∃ a', v = ap2 (leafOf kS) a' ∧ Par a a' := by
  rcases h.inv_ap with ⟨f', x', rfl, h1, h2⟩ | ⟨h1, _⟩ | ⟨_, h1, _⟩ | ⟨_, _, _, _, _, h1, _⟩
  · rw [h1.inv_leaf]
    exact ⟨x', rfl, h2⟩
  · exact absurd (leafOf_inj h1) kS_iS
  · exact (ap2_leaf h1.symm).elim
  · exact (ap2_leaf h1.symm).elim
theorem Par.inv_s1 {a v : Tm} (h : Par (ap2 (leafOf sS) a) v) : ∃ a', v = ap2 (leafOf sS) a' ∧ Par a a' := by
  rcases h.inv_ap with ⟨f', x', rfl, h1, h2⟩ | ⟨h1, _⟩ | ⟨_, h1, _⟩ | ⟨_, _, _, _, _, h1, _⟩
  · rw [h1.inv_leaf]
    exact ⟨x', rfl, h2⟩
  · exact absurd (leafOf_inj h1) sS_iS
  · exact (ap2_leaf h1.symm).elim
  · exact (ap2_leaf h1.symm).elim
theorem Par.inv_s2 {a b v : Tm} (h : Par (ap2 (ap2 (leafOf sS) a) b) v) : ∃ a' b', v = ap2 (ap2 (leafOf sS) a') b' ∧ Par a a' ∧ Par b b' := by
  rcases h.inv_ap with ⟨f', x', rfl, h1, h2⟩ | ⟨h1, _⟩ | ⟨_, h1, _⟩ | ⟨_, _, _, _, _, h1, _⟩
  · obtain ⟨a', rfl, h3⟩ := h1.inv_s1
    exact ⟨a', x', rfl, h3, h2⟩
  · exact (ap2_leaf h1).elim
  · exact absurd (leafOf_inj (ap2_inj h1).1) sS_kS
  · exact (ap2_leaf (ap2_inj h1).1.symm).elim
theorem Par.other {t v : Tm} (h : Par t v) (hn : ∀ f x, t ≠ ap2 f x) : v = t := by
  cases h with
  | refl => rfl
  | ap h1 h2 => exact absurd rfl (hn _ _)
  | i h1 => exact absurd rfl (hn _ _)
  | k h1 => exact absurd rfl (hn _ _)
  | s h1 h2 h3 => exact absurd rfl (hn _ _)
/-- Two ways on meet again. -/
theorem Par.diamond : ∀ (N : Nat) (t u v : Tm), t.size < N → Par t u → Par t v → ∃ w, Par u w ∧ Par v w := by
  intro N
  induction N with
  | zero => intro t u v h; omega
  | succ N ih =>
    intro t u v hN hu hv
    by_cases hap : ∃ f x, t = ap2 f x
    case neg =>
      have hn : ∀ f x, t ≠ ap2 f x := fun f x e => hap ⟨f, x, e⟩
      rw [hu.other hn, hv.other hn]
      exact ⟨t, .refl _, .refl _⟩
    case pos =>
    obtain ⟨f, x, rfl⟩ := hap
    rw [ap2_size] at hN
    -- one way: only the parts; the other: a step at the front
    have mixI : ∀ f1 x1 v, f = leafOf iS → Par f f1 → Par x x1 → Par x v → ∃ w, Par (ap2 f1 x1) w ∧ Par v w := fun f1 x1 v e h1 h2 h3 => by
      subst e
      rw [h1.inv_leaf]
      obtain ⟨w, w1, w2⟩ := ih x x1 v (by omega) h2 h3
      exact ⟨w, .i w1, w2⟩
    have mixK : ∀ f1 x1 v a, f = ap2 (leafOf kS) a → Par f f1 → Par a v → ∃ w, Par (ap2 f1 x1) w ∧ Par v w := fun f1 x1 v a e h1 h3 => by
      subst e
      obtain ⟨a1, rfl, h4⟩ := h1.inv_k
      rw [ap2_size] at hN
      obtain ⟨w, w1, w2⟩ := ih a a1 v (by omega) h4 h3
      exact ⟨w, .k w1, w2⟩
    have mixS : ∀ f1 x1 a b a' b' x', f = ap2 (ap2 (leafOf sS) a) b → Par f f1 → Par x x1 → Par a a' → Par b b' → Par x x' → ∃ w, Par (ap2 f1 x1) w ∧ Par (ap2 (ap2 a' x') (ap2 b' x')) w := fun f1 x1 a b a' b' x' e h1 h2 h3 h4 h5 => by
      subst e
      obtain ⟨a1, b1, rfl, h6, h7⟩ := h1.inv_s2
      rw [ap2_size, ap2_size] at hN
      obtain ⟨wa, p1, p2⟩ := ih a a1 a' (by omega) h6 h3
      obtain ⟨wb, q1, q2⟩ := ih b b1 b' (by omega) h7 h4
      obtain ⟨wx, r1, r2⟩ := ih x x1 x' (by omega) h2 h5
      exact ⟨_, .s p1 q1 r1, .ap (.ap p2 r2) (.ap q2 r2)⟩
    rcases hu.inv_ap with ⟨f1, x1, rfl, a1, a2⟩ | ⟨a0, a1⟩ | ⟨a, a0, a1⟩ | ⟨a, b, a', b', x', a0, a1, a2, a3, rfl⟩ <;>
      rcases hv.inv_ap with ⟨f2, x2, rfl, c1, c2⟩ | ⟨c0, c1⟩ | ⟨c, c0, c1⟩ | ⟨c, d, c', d', z', c0, c1, c2, c3, rfl⟩
    · obtain ⟨wf, p1, p2⟩ := ih f f1 f2 (by omega) a1 c1
      obtain ⟨wx, q1, q2⟩ := ih x x1 x2 (by omega) a2 c2
      exact ⟨_, .ap p1 q1, .ap p2 q2⟩
    · exact mixI _ _ _ c0 a1 a2 c1
    · exact mixK _ _ _ _ c0 a1 c1
    · exact mixS _ _ _ _ _ _ _ c0 a1 a2 c1 c2 c3
    · obtain ⟨w, w1, w2⟩ := mixI _ _ _ a0 c1 c2 a1
      exact ⟨w, w2, w1⟩
    · exact ih x u v (by omega) a1 c1
    · exact (ap2_leaf (c0.symm.trans a0)).elim
    · exact (ap2_leaf (c0.symm.trans a0)).elim
    · obtain ⟨w, w1, w2⟩ := mixK _ x2 _ _ a0 c1 a1
      exact ⟨w, w2, w1⟩
    · exact (ap2_leaf (a0.symm.trans c0)).elim
    · obtain ⟨_, rfl⟩ := ap2_inj (a0.symm.trans c0)
      subst a0
      rw [ap2_size] at hN
      exact ih a u v (by omega) a1 c1
    · exact (ap2_leaf (ap2_inj (a0.symm.trans c0)).1.symm).elim
    · obtain ⟨w, w1, w2⟩ := mixS _ _ _ _ _ _ _ a0 c1 c2 a1 a2 a3
      exact ⟨w, w2, w1⟩
    · exact (ap2_leaf (a0.symm.trans c0)).elim
    · exact (ap2_leaf (ap2_inj (a0.symm.trans c0)).1).elim
    · obtain ⟨e1, rfl⟩ := ap2_inj (a0.symm.trans c0)
      obtain ⟨_, rfl⟩ := ap2_inj e1
      subst a0
      rw [ap2_size, ap2_size] at hN
      obtain ⟨wa, p1, p2⟩ := ih a a' c' (by omega) a1 c1
      obtain ⟨wb, q1, q2⟩ := ih b b' d' (by omega) a2 c2
      obtain ⟨wx, r1, r2⟩ := ih x x' z' (by omega) a3 c3
      exact ⟨_, .ap (.ap p1 r1) (.ap q1 r1), .ap (.ap p2 r2) (.ap q2 r2)⟩

/-! ### many steps -/
inductive Pars : Tm → Tm → Prop
  | refl (t : Tm) : Pars t t
  | step {t u v : Tm} : Par t u → Pars u v → Pars t v
theorem Pars.one {t u : Tm} (h : Par t u) : Pars t u := .step h (.refl _)
theorem Pars.trans {t u v : Tm} (h : Pars t u) (k : Pars u v) : Pars t v := by
  induction h with
  | refl => exact k
  | step h1 _ ih => exact .step h1 (ih k)
theorem Pars.ap {f f' x x' : Tm} (h : Pars f f') (k : Pars x x') : Pars (ap2 f x) (ap2 f' x') := by
  have h1 : Pars (ap2 f x) (ap2 f' x) := by
    induction h with
    | refl => exact .refl _
    | step h1 _ ih => exact .step (.ap h1 (.refl _)) ih
  refine h1.trans ?_
  clear h1 h
  induction k with
  | refl => exact .refl _
  | step h1 _ ih => exact .step (.ap (.refl _) h1) ih
theorem Par.strip {t u v : Tm} (h : Par t u) (k : Pars t v) : ∃ w, Pars u w ∧ Par v w := by
  induction k generalizing u with
  | refl => exact ⟨u, .refl _, h⟩
  | step k1 _ ih =>
    obtain ⟨w1, a1, a2⟩ := Par.diamond _ _ _ _ (Nat.lt_succ_self _) h k1
    obtain ⟨w, b1, b2⟩ := ih a2
    exact ⟨w, .step a1 b1, b2⟩
theorem Pars.meet {t u v : Tm} (h : Pars t u) (k : Pars t v) : ∃ w, Pars u w ∧ Pars v w := by
  induction h generalizing v with
  | refl => exact ⟨v, k, .refl _⟩
  | step h1 _ ih =>
    obtain ⟨w1, a1, a2⟩ := h1.strip k
    obtain ⟨w, b1, b2⟩ := ih a1
    exact ⟨w, b1, .step a2 b2⟩
def Nf (t : Tm) : Prop := ∀ u, Par t u → u = t
theorem Nf.stay {t u : Tm} (h : Nf t) (k : Pars t u) : u = t := by
  induction k with
  | refl => rfl
  | step k1 _ ih =>
    have := h _ k1
    subst this
    exact ih h
theorem nf_unique {t u p q : Tm} (h : Pars t u) (hp : Pars t p) (hq : Pars u q) (np : Nf p) (nq : Nf q) : p = q := by
  obtain ⟨w, w1, w2⟩ := hp.meet (h.trans hq)
  rw [← np.stay w1, ← nq.stay w2]

/-! ### the program's step -/
theorem par_aps {h h' : Tm} (k : Par h h') : ∀ l : List Tm, Par (aps h l) (aps h' l)
  | [] => k
  | x :: l => par_aps (.ap k (.refl _)) l
theorem par_set {h : Tm} : ∀ {l : List Tm} {i : Nat} {a y : Tm}, l[i]? = some a → Par a y → ∀ h' : Tm, Par h h' → Par (aps h l) (aps h' (l.set i y))
  | [], i, _, _, e, _ => by simp at e
  | x :: l, 0, a, y, e, k => fun h' k' => by
    have : x = a := by simpa using e
    subst this
    exact par_aps (.ap k' k) l
  | x :: l, i + 1, a, y, e, k => fun h' k' => par_set (l := l) (by simpa using e) k _ (.ap k' (.refl _))
theorem Tm.row_eq {t : Tm} (h : t.fm = true) : aps t.hd t.rw_ = t := (Tm.row_fm _ t (Nat.lt_succ_self _) h).2.2.2
theorem Tm.leaf_eq {t : Tm} (h : t.args = []) : t = leafOf t.name := by
  cases t
  rw [Tm.args_mk] at h
  subst h
  rfl
theorem aps_drop {h : Tm} {x : Tm} {l : List Tm} : aps h (x :: l) = aps (ap2 h x) l := rfl
theorem Tm.step_par : ∀ (N : Nat) (t y : Tm), t.size < N → t.fm = true → t.step = some y → Par t y := by
  intro N
  induction N with
  | zero => intro t y h; omega
  | succ N ih =>
    intro t y hN hf hy
    have he := Tm.row_eq hf
    have hl := Tm.leaf_eq (Tm.hd_noargs hf)
    cases hr : redOf t.hd.name t.rw_ with
    | some p =>
      obtain ⟨z, u⟩ := p
      rw [Tm.step_red hr] at hy
      cases hy
      conv => lhs; rw [← he]
      rcases redOf_some hr with ⟨h1, rfl, r, h2⟩ | ⟨h1, rfl, a, r, h2⟩ | ⟨h1, rfl, a, b, c, r, h2, rfl⟩
      · rw [h2, hl, h1]
        exact par_aps (.i (.refl _)) r
      · rw [h2, hl, h1]
        exact par_aps (.k (.refl _)) r
      · rw [h2, hl, h1]
        exact par_aps (.s (.refl _) (.refl _) (.refl _)) r
    | none =>
      rw [Tm.step_in hf hr, Option.map_eq_some_iff] at hy
      obtain ⟨⟨i, z⟩, h1, rfl⟩ := hy
      obtain ⟨a, a1, a2⟩ := firstBy_get h1
      have ham : a ∈ t.rw_ := List.mem_of_getElem? a1
      have hp := ih a z (by have := Tm.rw_lt hf ham; omega) (Tm.rw_fm hf a ham) a2
      conv => lhs; rw [← he]
      exact par_set a1 hp _ (.refl _)
theorem firstBy_nothing {f : Tm → Option Tm} : ∀ {l : List Tm}, firstBy f l = none → ∀ x ∈ l, f x = none
  | [], _, x, hx => by simp at hx
  | t :: ts, h, x, hx => by
    rw [firstBy] at h
    split at h
    · cases h
    · rename_i ht
      rcases List.mem_cons.1 hx with rfl | hx
      · exact ht
      · exact firstBy_nothing (by simpa using h) x hx
theorem redOf_snoc {n : ByteArray} {l : List Tm} {x : Tm} (h : redOf n (l ++ [x]) = none) : redOf n l = none := by
  cases hr : redOf n l with
  | none => rfl
  | some p =>
    exfalso
    obtain ⟨y, u⟩ := p
    rcases redOf_some hr with ⟨rfl, _, r, rfl⟩ | ⟨rfl, _, a, r, rfl⟩ | ⟨rfl, _, a, b, c, r, rfl, _⟩
    · simp [redOf] at h
    · simp [redOf, kS_iS] at h
    · simp [redOf, sS_iS, sS_kS] at h
theorem list_snoc {α : Type} (l : List α) : l = [] ∨ ∃ l0 x, l = l0 ++ [x] := by
  rcases List.eq_nil_or_concat l with h | ⟨l0, x, h⟩
  · exact .inl h
  · exact .inr ⟨l0, x, by simpa using h⟩
theorem aps_leaf {n m : ByteArray} {l : List Tm} (h : aps (leafOf n) l = leafOf m) : l = [] ∧ n = m := by
  rcases list_snoc l with rfl | ⟨l0, x, rfl⟩
  · exact ⟨rfl, leafOf_inj h⟩
  · rw [aps_snoc] at h
    exact (ap2_leaf h).elim
theorem aps_ap {n : ByteArray} {l : List Tm} {f x : Tm} (h : aps (leafOf n) l = ap2 f x) : ∃ l0, l = l0 ++ [x] ∧ aps (leafOf n) l0 = f := by
  rcases list_snoc l with rfl | ⟨l0, y, rfl⟩
  · exact (ap2_leaf h.symm).elim
  · rw [aps_snoc] at h
    obtain ⟨h1, rfl⟩ := ap2_inj h
    exact ⟨l0, rfl, h1⟩
theorem nf_aps (n : ByteArray) : ∀ (k : Nat) (l : List Tm), l.length = k → redOf n l = none → (∀ x ∈ l, Nf x) → Nf (aps (leafOf n) l) := by
  intro k
  induction k with
  | zero =>
    intro l hl _ _ u hu
    have : l = [] := List.eq_nil_of_length_eq_zero hl
    subst this
    exact Par.inv_leaf hu
  | succ k ih =>
    intro l hl hr hn u hu
    rcases list_snoc l with rfl | ⟨l0, x, rfl⟩
    · cases hl
    · have hl0 : l0.length = k := by simpa using hl
      have h0 := ih l0 hl0 (redOf_snoc hr) fun y hy => hn y (by simp [hy])
      rw [aps_snoc] at hu ⊢
      rcases hu.inv_ap with ⟨f', x', rfl, h1, h2⟩ | ⟨h1, _⟩ | ⟨a, h1, _⟩ | ⟨a, b, a', b', x', h1, _⟩
      · rw [h0 _ h1, hn x (by simp) _ h2]
      · obtain ⟨rfl, rfl⟩ := aps_leaf h1
        simp [redOf] at hr
      · obtain ⟨l1, rfl, h2⟩ := aps_ap h1
        obtain ⟨rfl, rfl⟩ := aps_leaf h2
        simp [redOf, kS_iS] at hr
      · obtain ⟨l1, rfl, h2⟩ := aps_ap h1
        obtain ⟨l2, rfl, h3⟩ := aps_ap h2
        obtain ⟨rfl, rfl⟩ := aps_leaf h3
        simp [redOf, sS_iS, sS_kS] at hr
theorem Tm.step_nf : ∀ (N : Nat) (t : Tm), t.size < N → t.fm = true → t.step = none → Nf t := by
  intro N
  induction N with
  | zero => intro t h; omega
  | succ N ih =>
    intro t hN hf hy
    cases hr : redOf t.hd.name t.rw_ with
    | some p =>
      obtain ⟨z, u⟩ := p
      rw [Tm.step_red hr] at hy
      cases hy
    | none =>
      rw [Tm.step_in hf hr, Option.map_eq_none_iff] at hy
      have h1 := nf_aps t.hd.name _ t.rw_ rfl hr fun x hx => ih x (by have := Tm.rw_lt hf hx; omega) (Tm.rw_fm hf x hx) (firstBy_nothing hy x hx)
      rw [← Tm.leaf_eq (Tm.hd_noargs hf), Tm.row_eq hf] at h1
      exact h1
theorem Tm.run_nf : ∀ (left : Nat) (n : Int) (t : Tm), t.fm = true → (Tm.run left n t).2.2 = 0 → Pars t (Tm.run left n t).1 ∧ Nf (Tm.run left n t).1 := by
  intro left
  induction left with
  | zero =>
    intro n t hf h
    cases hs : t.step with
    | none =>
      rw [Tm.run_none hs]
      exact ⟨.refl _, Tm.step_nf _ t (Nat.lt_succ_self _) hf hs⟩
    | some x =>
      rw [Tm.run_zero hs] at h
      cases h
  | succ left ih =>
    intro n t hf h
    cases hs : t.step with
    | none =>
      rw [Tm.run_none hs]
      exact ⟨.refl _, Tm.step_nf _ t (Nat.lt_succ_self _) hf hs⟩
    | some x =>
      rw [Tm.run_succ hs] at h ⊢
      split at h
      · cases h
      · rename_i hz
        rw [if_neg hz]
        obtain ⟨a1, a2⟩ := ih (n + 1) x (Tm.step_all _ t x (Nat.lt_succ_self _) hf hs).1 h
        exact ⟨.step (Tm.step_par _ t x (Nat.lt_succ_self _) hf hs) a1, a2⟩

/-! ### what an abstraction put to a thing becomes -/
theorem lookup1 (v n : ByteArray) (x : Tm) : lookup [(v, x)] n = if v = n then some x else none := by
  unfold lookup
  by_cases h : v = n
  · simp [h]
  · simp [h]
theorem on_ap {v : ByteArray} {x t f y : Tm} (hn : t.name = apS) (ha : t.args = [f, y]) : t.on [(v, x)] = ap2 (f.on [(v, x)]) (y.on [(v, x)]) := by
  rw [Tm.on_knot (Or.inr (by rw [ha]; simp)), hn, ha]
  rfl
theorem hasN_parts {v : ByteArray} {t f y : Tm} (ha : t.args = [f, y]) : t.hasN v = (decide (t.name = v) || (f.hasN v || y.hasN v)) := by
  rw [Tm.hasN_eq, ha]
  simp [Tm.hasNs]
theorem ap_eq {t f y : Tm} (hn : t.name = apS) (ha : t.args = [f, y]) : t = ap2 f y := by
  cases t
  rw [Tm.name_mk] at hn
  rw [Tm.args_mk] at ha
  subst hn
  subst ha
  rfl
theorem on_free {v : ByteArray} {x : Tm} : ∀ (N : Nat) (t : Tm), t.size < N → t.fm = true → t.hasN v = false → t.on [(v, x)] = t := by
  intro N
  induction N with
  | zero => intro t h; omega
  | succ N ih =>
    intro t hN hf hno
    rcases Tm.fm_cases hf with ha | ⟨f, y, hn, ha, hf1, hy1⟩
    · have hne : ¬ v = t.name := fun e => by
        rw [Tm.hasN_eq, ← e] at hno
        simp at hno
      rw [Tm.on_knot (Or.inl (by rw [lookup1, if_neg hne])), ha]
      cases t
      rw [Tm.args_mk] at ha
      subst ha
      rfl
    · rw [hasN_parts ha, Bool.or_eq_false_iff, Bool.or_eq_false_iff] at hno
      have hs := Tm.size_eq t
      rw [ha] at hs
      simp only [Tm.sizes] at hs
      rw [on_ap hn ha, ih f (by omega) hf1 hno.2.1, ih y (by omega) hy1 hno.2.2]
      exact (ap_eq hn ha).symm
theorem on_self {v : ByteArray} {x t : Tm} (ha : t.args = []) (h : t.name = v) : t.on [(v, x)] = x := Tm.on_leaf (by rw [lookup1, if_pos h.symm]) ha
theorem br_pars {v : ByteArray} {x : Tm} (hv : v ≠ apS) : ∀ (N : Nat) (t : Tm), t.size < N → t.fm = true → Pars (ap2 (t.br v) x) (t.on [(v, x)]) := by
  intro N
  induction N with
  | zero => intro t h; omega
  | succ N ih =>
    intro t hN hf
    by_cases h0 : t.hasN v = true
    case neg =>
      have h0' : t.hasN v = false := by simpa using h0
      rw [Tm.br_none h0', on_free _ t (Nat.lt_succ_self _) hf h0']
      exact .one (.k (.refl _))
    case pos =>
    by_cases h1 : t.name = v
    · rcases Tm.fm_cases hf with ha | ⟨f, y, hn, ha, hf1, hy1⟩
      · rw [Tm.br_self h0 h1, on_self ha h1]
        exact .one (.i (.refl _))
      · exact absurd (h1.symm.trans hn) hv
    · rcases Tm.fm_cases hf with ha | ⟨f, y, hn, ha, hf1, hy1⟩
      · exact absurd ha (leaf_has h0 h1)
      · have hs := Tm.size_eq t
        rw [ha] at hs
        simp only [Tm.sizes] at hs
        rw [Tm.br_ap h0 h1 ha, on_ap hn ha]
        split
        · rename_i h2
          rw [on_free _ f (Nat.lt_succ_self _) hf1 h2.2]
          rcases Tm.fm_cases hy1 with hb | ⟨_, _, hn2, _⟩
          · rw [on_self hb h2.1]
            exact .refl _
          · exact absurd (h2.1.symm.trans hn2) hv
        · exact .step (.s (.refl _) (.refl _) (.refl _)) ((ih f (by omega) hf1).ap (ih y (by omega) hy1))
/-- The variable is gone. -/
theorem br_free {v : ByteArray} (h1 : apS ≠ v) (h2 : iS ≠ v) (h3 : kS ≠ v) (h4 : sS ≠ v) : ∀ (N : Nat) (t : Tm), t.size < N → t.fm = true → (t.br v).hasN v = false := by
  have leaf : ∀ n : ByteArray, n ≠ v → (leafOf n).hasN v = false := fun n hn => by simp [leafOf, Tm.hasN, Tm.hasNs, hn]
  have ap : ∀ f x : Tm, f.hasN v = false → x.hasN v = false → (ap2 f x).hasN v = false := fun f x hf hx => by simp [ap2, Tm.hasN, Tm.hasNs, h1, hf, hx]
  intro N
  induction N with
  | zero => intro t h; omega
  | succ N ih =>
    intro t hN hf
    by_cases h0 : t.hasN v = true
    case neg =>
      have h0' : t.hasN v = false := by simpa using h0
      rw [Tm.br_none h0']
      exact ap _ _ (leaf _ h3) h0'
    case pos =>
    by_cases hn : t.name = v
    · rw [Tm.br_self h0 hn]
      exact leaf _ h2
    · rcases Tm.fm_cases hf with ha | ⟨f, y, hna, ha, hf1, hy1⟩
      · exact absurd ha (leaf_has h0 hn)
      · have hs := Tm.size_eq t
        rw [ha] at hs
        simp only [Tm.sizes] at hs
        rw [Tm.br_ap h0 hn ha]
        split
        · rename_i hc
          exact hc.2
        · exact ap _ _ (ap _ _ (leaf _ h4) (ih f (by omega) hf1)) (ih y (by omega) hy1)
end Go.Proofs.Ytelmgldeghmkbaa
