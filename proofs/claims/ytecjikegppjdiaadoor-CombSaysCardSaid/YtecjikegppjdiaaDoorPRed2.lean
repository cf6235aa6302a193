/-
  Lambda terms, in plain Lean: what is bound and used, eta, filling in, numerals. No program in sight.
  Conditions: none.
-/
import Derived.Test.YtecjikegppjdiaaDoorPRed
namespace Go.Proofs.YtecjikegppjdiaaDoor
open Go Go.RowKit
set_option linter.unusedVariables false

/-! ### is something bound used? -/
mutual
def Lm.has : Int → Lm → Bool
  | d, .mk k i xs => if k = 1 then decide (i = d) else Lm.hass (under k d) xs
def Lm.hass : Int → List Lm → Bool
  | _, [] => false
  | d, t :: ts => Lm.has d t || Lm.hass d ts
end
theorem Lm.has_eq (d : Int) (t : Lm) : Lm.has d t = if t.kind = 1 then decide (t.idx = d) else Lm.hass (under t.kind d) t.subs := by cases t; rfl
theorem Lm.hass_append (d : Int) (xs ys : List Lm) : Lm.hass d (xs ++ ys) = (Lm.hass d xs || Lm.hass d ys) := by
  induction xs with
  | nil => simp [Lm.hass]
  | cons x xs ih => simp [Lm.hass, ih, Bool.or_assoc]
theorem Lm.hass_take {d : Int} {xs : List Lm} {k : Nat} {a : Lm} (ha : xs[k]? = some a) (h : Lm.hass d (xs.take k) = false) : Lm.hass d (xs.take (k + 1)) = Lm.has d a := by
  rw [take_snoc ha, Lm.hass_append, h]
  simp [Lm.hass]
theorem Lm.hass_yes {d : Int} {xs : List Lm} {k : Nat} (h : Lm.hass d (xs.take k) = true) : Lm.hass d xs = true := by
  have := Lm.hass_append d (xs.take k) (xs.drop k)
  rw [List.take_append_drop, h] at this
  simpa using this
mutual
/-- how often -/
def Lm.uses : Int → Lm → Nat
  | d, .mk k i xs => if k = 1 then (if i = d then 1 else 0) else Lm.usess (under k d) xs
def Lm.usess : Int → List Lm → Nat
  | _, [] => 0
  | d, t :: ts => Lm.uses d t + Lm.usess d ts
end
theorem Lm.uses_eq (d : Int) (t : Lm) : Lm.uses d t = if t.kind = 1 then (if t.idx = d then 1 else 0) else Lm.usess (under t.kind d) t.subs := by cases t; rfl
theorem Lm.usess_append (d : Int) (xs ys : List Lm) : Lm.usess d (xs ++ ys) = Lm.usess d xs + Lm.usess d ys := by
  induction xs with
  | nil => simp [Lm.usess]
  | cons x xs ih => simp only [List.cons_append, Lm.usess, ih]; omega
theorem Lm.usess_take {d : Int} {xs : List Lm} {k : Nat} {a : Lm} (ha : xs[k]? = some a) : Lm.usess d (xs.take (k + 1)) = Lm.usess d (xs.take k) + Lm.uses d a := by
  rw [take_snoc ha, Lm.usess_append]
  simp [Lm.usess]
mutual
theorem Lm.uses_le : ∀ (d : Int) (t : Lm), Lm.uses d t ≤ t.size
  | d, .mk k i xs => by
    have := Lm.usess_le (under k d) xs
    rw [Lm.uses, Lm.size]
    split
    · split <;> omega
    · omega
theorem Lm.usess_le : ∀ (d : Int) (xs : List Lm), Lm.usess d xs ≤ Lm.sizes xs
  | _, [] => Nat.le_refl _
  | d, t :: ts => by
    have := Lm.uses_le d t
    have := Lm.usess_le d ts
    rw [Lm.usess, Lm.sizes]
    omega
end
mutual
theorem Lm.uses_has : ∀ (d : Int) (t : Lm), Lm.has d t = decide (0 < Lm.uses d t)
  | d, .mk k i xs => by
    rw [Lm.uses, Lm.has]
    split
    · split <;> simp_all
    · exact Lm.usess_has _ xs
theorem Lm.usess_has : ∀ (d : Int) (xs : List Lm), Lm.hass d xs = decide (0 < Lm.usess d xs)
  | _, [] => rfl
  | d, t :: ts => by
    rw [Lm.usess, Lm.hass, Lm.uses_has d t, Lm.usess_has d ts, ← Bool.decide_or]
    congr 1
    simp only [eq_iff_iff]
    omega
end

/-! ### eta -/
mutual
theorem Lm.good_down {c : Int} : ∀ (d : Int) (t : Lm), 0 ≤ d → t.good c → Lm.has d t = false → (Lm.mv (-1) d t).good c
  | d, .mk k i xs, hd, h, hh => by
    rw [Lm.has] at hh
    have h2 := h.2.1
    have h3 := h.2.2.1
    have hu := under_le k d
    by_cases hk : k = 1
    · rw [if_pos hk] at hh
      have hne : ¬ i = d := by simpa using hh
      have hx := h.1 hk
      subst hx
      refine ⟨fun _ => rfl, ?_, ?_, trivial⟩
      · split <;> omega
      · split <;> omega
    · rw [if_neg hk] at hh
      refine ⟨fun e => absurd e hk, ?_, ?_, Lm.goods_down _ xs (by omega) h.2.2.2 hh⟩
      · rw [if_neg (fun e => hk e.1)]; exact h2
      · rw [if_neg (fun e => hk e.1)]; exact h3
theorem Lm.goods_down {c : Int} : ∀ (d : Int) (xs : List Lm), 0 ≤ d → Lm.goods c xs → Lm.hass d xs = false → Lm.goods c (Lm.mvs (-1) d xs)
  | _, [], _, _, _ => trivial
  | d, t :: ts, hd, h, hh => by
    rw [Lm.hass, Bool.or_eq_false_iff] at hh
    exact ⟨Lm.good_down d t hd h.1 hh.1, Lm.goods_down d ts hd h.2 hh.2⟩
end
/-- What a binder over such a part becomes. -/
def Lm.etaAt (ys : List Lm) : Option Lm := match ys with
  | b :: _ => if b.kind = 3 then (match b.subs with | f :: x :: _ => if x.kind = 1 ∧ x.idx = 0 ∧ Lm.has 0 f = false then some (Lm.mv (-1) 0 f) else none | _ => none) else none
  | [] => none
mutual
def Lm.eta1 : Lm → Lm
  | .mk k i xs => if k = 2 then (match Lm.etaAt (Lm.etas xs) with | some y => y | none => .mk k i (Lm.etas xs)) else .mk k i (Lm.etas xs)
def Lm.etas : List Lm → List Lm
  | [] => []
  | t :: ts => t.eta1 :: Lm.etas ts
end
theorem Lm.etas_eq : ∀ xs : List Lm, Lm.etas xs = xs.map Lm.eta1
  | [] => rfl
  | t :: ts => by rw [Lm.etas, Lm.etas_eq ts]; rfl
theorem Lm.eta1_eq (t : Lm) : t.eta1 = if t.kind = 2 then (match Lm.etaAt (t.subs.map Lm.eta1) with | some y => y | none => .mk t.kind t.idx (t.subs.map Lm.eta1)) else .mk t.kind t.idx (t.subs.map Lm.eta1) := by
  cases t
  rw [Lm.eta1, Lm.etas_eq]
  rfl
theorem Lm.etaAt_some {ys : List Lm} {y : Lm} (h : Lm.etaAt ys = some y) : ∃ b r f x q, ys = b :: r ∧ b.kind = 3 ∧ b.subs = f :: x :: q ∧ x.kind = 1 ∧ x.idx = 0 ∧ Lm.has 0 f = false ∧ y = Lm.mv (-1) 0 f := by
  unfold Lm.etaAt at h
  split at h
  · rename_i b r
    split at h
    · rename_i hb
      split at h
      · rename_i f x q hs
        split at h
        · rename_i hx
          cases h
          exact ⟨b, r, f, x, q, rfl, hb, hs, hx.1, hx.2.1, hx.2.2, rfl⟩
        · cases h
      · cases h
    · cases h
  · cases h
mutual
theorem Lm.eta1_all {c : Int} : ∀ t : Lm, t.wf → t.good c → t.eta1.wf ∧ t.eta1.good c ∧ t.eta1.size ≤ t.size
  | .mk k i xs, hw, hg => by
    obtain ⟨h1, h2, h3, h4⟩ := Lm.etas_all xs hw.2 hg.2.2.2
    have hrest : (Lm.mk k i (Lm.etas xs)).wf ∧ (Lm.mk k i (Lm.etas xs)).good c ∧ (Lm.mk k i (Lm.etas xs)).size ≤ (Lm.mk k i xs).size :=
      ⟨⟨by rw [h4]; exact hw.1, h1⟩, ⟨fun e => by rw [hg.1 e]; rfl, hg.2.1, hg.2.2.1, h2⟩, by rw [Lm.size, Lm.size]; omega⟩
    rw [Lm.eta1]
    split
    · split
      · rename_i y hy
        obtain ⟨b, r, f, x, q, e1, e2, e3, e4, e5, e6, rfl⟩ := Lm.etaAt_some hy
        have hb : b ∈ Lm.etas xs := by rw [e1]; simp
        have hf : f ∈ b.subs := by rw [e3]; simp
        have s1 := Lm.size_sub hf
        have s2 := Lm.size_mem hb
        refine ⟨Lm.wf_mv 0 f (Lm.wf_sub (Lm.wfs_iff.1 h1 b hb) hf), Lm.good_down 0 f (by decide) (Lm.good_sub (Lm.goods_iff.1 h2 b hb) hf) e6, ?_⟩
        rw [Lm.size_mv, Lm.size]
        omega
      · exact hrest
    · exact hrest
theorem Lm.etas_all {c : Int} : ∀ xs : List Lm, Lm.wfs xs → Lm.goods c xs → Lm.wfs (Lm.etas xs) ∧ Lm.goods c (Lm.etas xs) ∧ Lm.sizes (Lm.etas xs) ≤ Lm.sizes xs ∧ (Lm.etas xs).length = xs.length
  | [], _, _ => ⟨trivial, trivial, Nat.le_refl _, rfl⟩
  | t :: ts, hw, hg => by
    obtain ⟨a1, a2, a3⟩ := Lm.eta1_all t hw.1 hg.1
    obtain ⟨b1, b2, b3, b4⟩ := Lm.etas_all ts hw.2 hg.2
    refine ⟨⟨a1, b1⟩, ⟨a2, b2⟩, ?_, by simp [Lm.etas, b4]⟩
    rw [Lm.etas, Lm.sizes, Lm.sizes]
    omega
end

/-! ### filling in -/
mutual
/-- all its unknowns are given -/
def Lm.known (m : Int) : Lm → Prop
  | .mk k i xs => (k = 5 → 0 ≤ i ∧ i < m) ∧ Lm.knowns m xs
def Lm.knowns (m : Int) : List Lm → Prop
  | [] => True
  | t :: ts => t.known m ∧ Lm.knowns m ts
end
theorem Lm.knowns_iff {m : Int} {xs : List Lm} : Lm.knowns m xs ↔ ∀ t ∈ xs, t.known m := by
  induction xs with
  | nil => simp [Lm.knowns]
  | cons x xs ih => simp [Lm.knowns, ih]
theorem Lm.known_eq (m : Int) (t : Lm) : t.known m ↔ ((t.kind = 5 → 0 ≤ t.idx ∧ t.idx < m) ∧ Lm.knowns m t.subs) := by cases t; exact Iff.rfl
theorem Lm.known_sub {m : Int} {t a : Lm} (h : t.known m) (ha : a ∈ t.subs) : a.known m := Lm.knowns_iff.1 ((Lm.known_eq m t).1 h).2 a ha
mutual
theorem Lm.known_chk {m : Int} : ∀ (t : Lm) (u : Int), t.chk m u = 0 → t.known m
  | .mk k i xs, u, h => by
    rw [Lm.chk] at h
    split at h
    · split at h
      · rename_i hi
        refine ⟨fun e => ?_, Lm.knowns_chk xs _ h⟩
        subst e
        exact ⟨hi.1, by simpa [mostIdx] using hi.2⟩
      · omega
    · omega
theorem Lm.knowns_chk {m : Int} : ∀ (xs : List Lm) (u : Int), Lm.chks m xs u = 0 → Lm.knowns m xs
  | [], _, _ => trivial
  | t :: ts, u, h => by
    rw [Lm.chks] at h
    split at h
    · rename_i e
      exact ⟨Lm.known_chk t u e, Lm.knowns_chk ts u h⟩
    · rename_i e
      exact absurd h e
end
mutual
def Lm.fill (ws : List Lm) : Lm → Lm
  | .mk k i xs => if k = 5 then ws.getD i.toNat Lm.nil else .mk k i (Lm.fills ws xs)
def Lm.fills (ws : List Lm) : List Lm → List Lm
  | [] => []
  | t :: ts => Lm.fill ws t :: Lm.fills ws ts
end
theorem Lm.fills_eq (ws : List Lm) : ∀ xs : List Lm, Lm.fills ws xs = xs.map (Lm.fill ws)
  | [] => rfl
  | t :: ts => by rw [Lm.fills, Lm.fills_eq ws ts]; rfl
theorem Lm.fill_eq (ws : List Lm) (t : Lm) : Lm.fill ws t = if t.kind = 5 then ws.getD t.idx.toNat Lm.nil else .mk t.kind t.idx (t.subs.map (Lm.fill ws)) := by
  cases t
  rw [Lm.fill, Lm.fills_eq]
  rfl
theorem getD_mem {ws : List Lm} {i : Int} (h : 0 ≤ i ∧ i < ws.length) : ∃ w, w ∈ ws ∧ ws[i.toNat]? = some w ∧ ws.getD i.toNat Lm.nil = w := by
  have hl : i.toNat < ws.length := by omega
  exact ⟨ws[i.toNat], List.getElem_mem hl, List.getElem?_eq_getElem hl, by rw [List.getD_eq_getElem?_getD, List.getElem?_eq_getElem hl]; rfl⟩
mutual
theorem Lm.fill_all {ws : List Lm} {c : Int} {z : Nat} (hz : 1 ≤ z) (hw : ∀ w ∈ ws, w.wf ∧ w.good c ∧ w.size ≤ z) : ∀ t : Lm, t.wf → t.good c → t.known ws.length → (Lm.fill ws t).wf ∧ (Lm.fill ws t).good c ∧ (Lm.fill ws t).size ≤ t.size * z
  | .mk k i xs, h1, h2, h3 => by
    obtain ⟨a1, a2, a3, a4⟩ := Lm.fills_all hz hw xs h1.2 h2.2.2.2 h3.2
    have q : (1 + Lm.sizes xs) * z = z + Lm.sizes xs * z := by rw [Nat.add_mul, Nat.one_mul]
    rw [Lm.fill]
    split
    · rename_i hk
      obtain ⟨w, m1, _, m2⟩ := getD_mem (h3.1 hk)
      rw [m2]
      obtain ⟨w1, w2, w3⟩ := hw w m1
      refine ⟨w1, w2, ?_⟩
      rw [Lm.size, q]
      omega
    · refine ⟨⟨by rw [a4]; exact h1.1, a1⟩, ⟨fun e => by rw [h2.1 e]; rfl, h2.2.1, h2.2.2.1, a2⟩, ?_⟩
      rw [Lm.size, Lm.size, q]
      omega
theorem Lm.fills_all {ws : List Lm} {c : Int} {z : Nat} (hz : 1 ≤ z) (hw : ∀ w ∈ ws, w.wf ∧ w.good c ∧ w.size ≤ z) : ∀ xs : List Lm, Lm.wfs xs → Lm.goods c xs → Lm.knowns ws.length xs → Lm.wfs (Lm.fills ws xs) ∧ Lm.goods c (Lm.fills ws xs) ∧ Lm.sizes (Lm.fills ws xs) ≤ Lm.sizes xs * z ∧ (Lm.fills ws xs).length = xs.length
  | [], _, _, _ => ⟨trivial, trivial, Nat.zero_le _, rfl⟩
  | t :: ts, h1, h2, h3 => by
    obtain ⟨a1, a2, a3⟩ := Lm.fill_all hz hw t h1.1 h2.1 h3.1
    obtain ⟨b1, b2, b3, b4⟩ := Lm.fills_all hz hw ts h1.2 h2.2 h3.2
    refine ⟨⟨a1, b1⟩, ⟨a2, b2⟩, ?_, by simp [Lm.fills, b4]⟩
    rw [Lm.fills, Lm.sizes, Lm.sizes, Nat.add_mul]
    omega
end

/-! ### numerals -/
def Lm.v (i : Int) : Lm := .mk 1 i []
def Lm.l (t : Lm) : Lm := .mk 2 0 [t]
def Lm.a (f x : Lm) : Lm := .mk 3 0 [f, x]
def Lm.ones : Nat → Lm
  | 0 => Lm.v 0
  | n + 1 => Lm.a (Lm.v 1) (Lm.ones n)
def Lm.num (n : Nat) : Lm := Lm.l (Lm.l (Lm.ones n))
/-- Is it one more? -/
def Lm.isOne (t : Lm) : Option Lm := match t.subs with
  | f :: x :: _ => if t.kind = 3 ∧ f.same (Lm.v 1) = true then some x else none
  | _ => none
theorem Lm.isOne_size {t x : Lm} (h : t.isOne = some x) : x.size < t.size := by
  unfold Lm.isOne at h
  split at h
  · rename_i f y r hs
    split at h
    · cases h
      exact Lm.size_sub (by rw [hs]; simp)
    · cases h
  · cases h
/-- How many ones, and what stands behind them. -/
def Lm.chain : Nat → Lm → Int × Lm
  | 0, t => (0, t)
  | n + 1, t => match t.isOne with
    | some x => ((Lm.chain n x).1 + 1, (Lm.chain n x).2)
    | none => (0, t)
theorem Lm.chain_fuel : ∀ (n m : Nat) (t : Lm), t.size ≤ n → t.size ≤ m → Lm.chain n t = Lm.chain m t := by
  intro n
  induction n with
  | zero => intro m t h; have := Lm.size_pos t; omega
  | succ n ih =>
    intro m t h1 h2
    cases m with
    | zero => have := Lm.size_pos t; omega
    | succ m =>
      rw [Lm.chain, Lm.chain]
      split
      · rename_i x hx
        have := Lm.isOne_size hx
        rw [ih m x (by omega) (by omega)]
      · rfl
def Lm.ch (t : Lm) : Int × Lm := Lm.chain t.size t
theorem Lm.ch_none {t : Lm} (h : t.isOne = none) : t.ch = (0, t) := by
  unfold Lm.ch
  have := Lm.size_pos t
  obtain ⟨n, hn⟩ : ∃ n, t.size = n + 1 := ⟨t.size - 1, by omega⟩
  rw [hn, Lm.chain, h]
theorem Lm.ch_some {t x : Lm} (h : t.isOne = some x) : t.ch = (x.ch.1 + 1, x.ch.2) := by
  unfold Lm.ch
  have := Lm.isOne_size h
  obtain ⟨n, hn⟩ : ∃ n, t.size = n + 1 := ⟨t.size - 1, by have := Lm.size_pos t; omega⟩
  rw [hn, Lm.chain, h]
  simp only
  rw [Lm.chain_fuel n x.size x (by omega) (Nat.le_refl _)]
theorem Lm.chain_nonneg : ∀ (n : Nat) (t : Lm), 0 ≤ (Lm.chain n t).1 ∧ (Lm.chain n t).1 ≤ n := by
  intro n
  induction n with
  | zero => intro t; simp [Lm.chain]
  | succ n ih =>
    intro t
    rw [Lm.chain]
    split
    · rename_i x hx
      have := ih x
      simp only
      omega
    · simp only
      omega
/-- What number a term is; -1: none. -/
def Lm.val (t : Lm) : Int := if t.same (Lm.l (Lm.v 0)) = true then 1 else
  if t.kind = 2 then (match t.subs with
    | g :: _ => if g.kind = 2 then (match g.subs with
      | b :: _ => if b.ch.2.same (Lm.v 0) = true then b.ch.1 else -1
      | [] => -1) else -1
    | [] => -1) else -1
end Go.Proofs.YtecjikegppjdiaaDoor
