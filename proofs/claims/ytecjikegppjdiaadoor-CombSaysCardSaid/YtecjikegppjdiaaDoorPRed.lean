/-
  Lambda terms worked out, in plain Lean: steps, how long they go on, eta, filling in. No program in sight.
  Conditions: none.
-/
import Derived.Test.YtecjikegppjdiaaDoorPLam
namespace Go.Proofs.YtecjikegppjdiaaDoor
open Go Go.RowKit
set_option linter.unusedVariables false

/-! ### the form of a term -/
mutual
def Lm.wf : Lm → Prop
  | .mk k i xs => (1 ≤ k ∧ k ≤ 5 ∧ (xs.length : Int) = nSubs k) ∧ Lm.wfs xs
def Lm.wfs : List Lm → Prop
  | [] => True
  | t :: ts => t.wf ∧ Lm.wfs ts
end
theorem Lm.wf_eq (t : Lm) : t.wf ↔ ((1 ≤ t.kind ∧ t.kind ≤ 5 ∧ (t.subs.length : Int) = nSubs t.kind) ∧ Lm.wfs t.subs) := by cases t; exact Iff.rfl
theorem Lm.wfs_iff {xs : List Lm} : Lm.wfs xs ↔ ∀ t ∈ xs, t.wf := by
  induction xs with
  | nil => simp [Lm.wfs]
  | cons x xs ih => simp [Lm.wfs, ih]
theorem Lm.goods_iff {b : Int} {xs : List Lm} : Lm.goods b xs ↔ ∀ t ∈ xs, t.good b := by
  induction xs with
  | nil => simp [Lm.goods]
  | cons x xs ih => simp [Lm.goods, ih]
theorem Lm.wf_sub {t a : Lm} (h : t.wf) (ha : a ∈ t.subs) : a.wf := Lm.wfs_iff.1 ((Lm.wf_eq t).1 h).2 a ha
mutual
theorem Lm.wf_chk {m : Int} : ∀ (t : Lm) (u : Int), t.chk m u = 0 → t.wf
  | .mk k i xs, u, h => by
    rw [Lm.chk] at h
    split at h
    · rename_i hk
      split at h
      · exact ⟨hk, Lm.wfs_chk xs _ h⟩
      · omega
    · omega
theorem Lm.wfs_chk {m : Int} : ∀ (xs : List Lm) (u : Int), Lm.chks m xs u = 0 → Lm.wfs xs
  | [], _, _ => trivial
  | t :: ts, u, h => by
    rw [Lm.chks] at h
    split at h
    · rename_i e
      exact ⟨Lm.wf_chk t u e, Lm.wfs_chk ts u h⟩
    · rename_i e
      exact absurd h e
end
mutual
theorem Lm.good_mono {b c : Int} (hbc : b ≤ c) : ∀ t : Lm, t.good b → t.good c
  | .mk k i xs, h => ⟨h.1, h.2.1, by have := h.2.2.1; omega, Lm.goods_mono hbc xs h.2.2.2⟩
theorem Lm.goods_mono {b c : Int} (hbc : b ≤ c) : ∀ xs : List Lm, Lm.goods b xs → Lm.goods c xs
  | [], _ => trivial
  | t :: ts, h => ⟨Lm.good_mono hbc t h.1, Lm.goods_mono hbc ts h.2⟩
end
theorem Lm.mvs_length (b d : Int) (xs : List Lm) : (Lm.mvs b d xs).length = xs.length := by rw [Lm.mvs_eq, List.length_map]
theorem Lm.puts_length (x : Lm) (d : Int) (xs : List Lm) : (Lm.puts x d xs).length = xs.length := by rw [Lm.puts_eq, List.length_map]
mutual
theorem Lm.wf_mv {b : Int} : ∀ (d : Int) (t : Lm), t.wf → (Lm.mv b d t).wf
  | d, .mk k i xs, h => ⟨by rw [Lm.mvs_length]; exact h.1, Lm.wfs_mv _ xs h.2⟩
theorem Lm.wfs_mv {b : Int} : ∀ (d : Int) (xs : List Lm), Lm.wfs xs → Lm.wfs (Lm.mvs b d xs)
  | _, [], _ => trivial
  | d, t :: ts, h => ⟨Lm.wf_mv d t h.1, Lm.wfs_mv d ts h.2⟩
end
mutual
theorem Lm.good_mv {b c : Int} (hb : 0 ≤ b) : ∀ (d : Int) (t : Lm), t.good c → (Lm.mv b d t).good (c + b)
  | d, .mk k i xs, h => by
    refine ⟨fun e => by rw [h.1 e]; rfl, ?_, ?_, Lm.goods_mv hb _ xs h.2.2.2⟩
    · have := h.2.1
      split <;> omega
    · have := h.2.2.1
      split <;> omega
theorem Lm.goods_mv {b c : Int} (hb : 0 ≤ b) : ∀ (d : Int) (xs : List Lm), Lm.goods c xs → Lm.goods (c + b) (Lm.mvs b d xs)
  | _, [], _ => trivial
  | d, t :: ts, h => ⟨Lm.good_mv hb d t h.1, Lm.goods_mv hb d ts h.2⟩
end
mutual
theorem Lm.mv_zero : ∀ (d : Int) (t : Lm), Lm.mv 0 d t = t
  | d, .mk k i xs => by rw [Lm.mv, Lm.mvs_zero]; simp
theorem Lm.mvs_zero : ∀ (d : Int) (xs : List Lm), Lm.mvs 0 d xs = xs
  | _, [] => rfl
  | d, t :: ts => by rw [Lm.mvs, Lm.mv_zero d t, Lm.mvs_zero d ts]
end
theorem under_le (k d : Int) : under k d ≤ d + 1 ∧ d ≤ under k d := by unfold under; split <;> omega
mutual
theorem Lm.wf_put {x : Lm} (hx : x.wf) : ∀ (d : Int) (t : Lm), t.wf → (Lm.put x d t).wf
  | d, .mk k i xs, h => by
    rw [Lm.put]
    split
    · split
      · exact Lm.wf_mv 0 x hx
      · split
        · exact ⟨⟨by decide, by decide, rfl⟩, trivial⟩
        · exact ⟨⟨by decide, by decide, rfl⟩, trivial⟩
    · exact ⟨by rw [Lm.puts_length]; exact h.1, Lm.wfs_put hx _ xs h.2⟩
theorem Lm.wfs_put {x : Lm} (hx : x.wf) : ∀ (d : Int) (xs : List Lm), Lm.wfs xs → Lm.wfs (Lm.puts x d xs)
  | _, [], _ => trivial
  | d, t :: ts, h => ⟨Lm.wf_put hx d t h.1, Lm.wfs_put hx d ts h.2⟩
end
mutual
theorem Lm.good_put {x : Lm} {b D : Int} (hx : x.good b) : ∀ (d : Int) (t : Lm), 0 ≤ d → d + t.size ≤ D → t.good b → (Lm.put x d t).good (b + D)
  | d, .mk k i xs, hd, hD, h => by
    rw [Lm.size] at hD
    have h2 := h.2.1
    have h3 := h.2.2.1
    rw [Lm.put]
    split
    · split
      · exact Lm.good_mono (by omega) _ (Lm.good_mv hd 0 x hx)
      · split
        · exact ⟨fun _ => rfl, by omega, by omega, trivial⟩
        · exact ⟨fun _ => rfl, by omega, by omega, trivial⟩
    · rename_i hk
      have hu := under_le k d
      exact ⟨fun e => absurd e hk, h2, by omega, Lm.goods_put hx _ xs (by omega) (by omega) h.2.2.2⟩
theorem Lm.goods_put {x : Lm} {b D : Int} (hx : x.good b) : ∀ (d : Int) (xs : List Lm), 0 ≤ d → d + Lm.sizes xs ≤ D → Lm.goods b xs → Lm.goods (b + D) (Lm.puts x d xs)
  | _, [], _, _, _ => trivial
  | d, t :: ts, hd, hD, h => by
    rw [Lm.sizes] at hD
    exact ⟨Lm.good_put hx d t hd (by omega) h.1, Lm.goods_put hx d ts hd (by omega) h.2⟩
end

/-! ### one step -/
/-- What a term that can be worked out itself becomes. -/
def Lm.top (k : Int) (xs : List Lm) : Option Lm := match xs with
  | f :: x :: _ => if k = 3 ∧ f.kind = 2 then (match f.subs with | b :: _ => some (Lm.put x 0 b) | [] => none) else none
  | _ => none
mutual
def Lm.outer : Lm → Option Lm
  | .mk k i xs => match Lm.top k xs with
    | some y => some y
    | none => match Lm.outers xs with
      | some ys => some (.mk k i ys)
      | none => none
def Lm.outers : List Lm → Option (List Lm)
  | [] => none
  | t :: ts => match t.outer with
    | some x => some (x :: ts)
    | none => match Lm.outers ts with
      | some ys => some (t :: ys)
      | none => none
end
theorem Lm.outer_eq (t : Lm) : t.outer = match Lm.top t.kind t.subs with
    | some y => some y
    | none => match Lm.outers t.subs with
      | some ys => some (.mk t.kind t.idx ys)
      | none => none := by cases t; rw [Lm.outer]; rfl
theorem len_one {α : Type} {xs : List α} (h : (xs.length : Int) = 1) : ∃ a, xs = [a] := by
  match xs, h with
  | [a], _ => exact ⟨a, rfl⟩
  | [], h => simp at h
  | _ :: _ :: _, h => simp at h; omega
theorem len_two {α : Type} {xs : List α} (h : (xs.length : Int) = 2) : ∃ a b, xs = [a, b] := by
  match xs, h with
  | [a, b], _ => exact ⟨a, b, rfl⟩
  | [], h => simp at h
  | [_], h => simp at h
  | _ :: _ :: _ :: _, h => simp at h; omega
theorem Lm.subs1 {t : Lm} (h : t.wf) (hk : t.kind = 2) : ∃ a, t.subs = [a] := by
  have := ((Lm.wf_eq t).1 h).1.2.2
  rw [hk] at this
  exact len_one this
theorem Lm.subs2 {t : Lm} (h : t.wf) (hk : t.kind = 3) : ∃ a b, t.subs = [a, b] := by
  have := ((Lm.wf_eq t).1 h).1.2.2
  rw [hk] at this
  exact len_two this
/-- Either a term can be worked out itself, or not. -/
theorem Lm.top_cases {t : Lm} (h : t.wf) : (∃ f x b, t.kind = 3 ∧ t.subs = [f, x] ∧ f.kind = 2 ∧ f.subs = [b] ∧ Lm.top t.kind t.subs = some (Lm.put x 0 b)) ∨ (Lm.top t.kind t.subs = none ∧ (t.kind = 3 → ∃ f x, t.subs = [f, x] ∧ ¬ f.kind = 2)) := by
  by_cases hk : t.kind = 3
  · obtain ⟨f, x, hfx⟩ := Lm.subs2 h hk
    by_cases hf : f.kind = 2
    · obtain ⟨b, hb⟩ := Lm.subs1 (Lm.wf_sub h (by rw [hfx]; simp)) hf
      exact Or.inl ⟨f, x, b, hk, hfx, hf, hb, by rw [hfx]; simp [Lm.top, hk, hf, hb]⟩
    · exact Or.inr ⟨by rw [hfx]; simp [Lm.top, hf], fun _ => ⟨f, x, hfx, hf⟩⟩
  · refine Or.inr ⟨?_, fun e => absurd e hk⟩
    unfold Lm.top
    split
    · rw [if_neg (fun h => hk h.1)]
    · rfl
theorem Lm.outers_none {xs : List Lm} {k : Nat} {a : Lm} (ha : xs[k]? = some a) (h : Lm.outers (xs.take k) = none) (hn : a.outer = none) : Lm.outers (xs.take (k + 1)) = none := by
  induction xs generalizing k with
  | nil => simp at ha
  | cons x xs ih =>
    cases k with
    | zero =>
      have : x = a := by simpa using ha
      subst this
      simp [Lm.outers, hn]
    | succ k =>
      rw [List.take_succ_cons, Lm.outers] at h ⊢
      split at h
      · cases h
      · rename_i hx
        split at h
        · cases h
        · rename_i h2
          rw [ih (by simpa using ha) h2]
theorem Lm.outers_some {xs : List Lm} {k : Nat} {a y : Lm} (ha : xs[k]? = some a) (h : Lm.outers (xs.take k) = none) (hy : a.outer = some y) : Lm.outers xs = some (xs.set k y) := by
  induction xs generalizing k with
  | nil => simp at ha
  | cons x xs ih =>
    cases k with
    | zero =>
      have : x = a := by simpa using ha
      subst this
      simp [Lm.outers, hy]
    | succ k =>
      rw [List.take_succ_cons, Lm.outers] at h
      split at h
      · cases h
      · rename_i hx
        split at h
        · cases h
        · rename_i h2
          rw [Lm.outers, hx, ih (by simpa using ha) h2]
          rfl
theorem Lm.outers_length : ∀ {xs ys : List Lm}, Lm.outers xs = some ys → ys.length = xs.length
  | [], ys, h => by cases h
  | t :: ts, ys, h => by
    rw [Lm.outers] at h
    split at h
    · cases h; rfl
    · split at h
      · rename_i h2
        cases h
        simp [Lm.outers_length h2]
      · cases h
theorem Lm.top_some {k : Int} {xs : List Lm} {y : Lm} (h : Lm.top k xs = some y) : ∃ f x r b q, xs = f :: x :: r ∧ f.subs = b :: q ∧ k = 3 ∧ f.kind = 2 ∧ y = Lm.put x 0 b := by
  unfold Lm.top at h
  split at h
  · rename_i f x r
    split at h
    · rename_i hk
      split at h
      · rename_i b q hb
        cases h
        exact ⟨f, x, r, b, q, rfl, hb, hk.1, hk.2, rfl⟩
      · cases h
    · cases h
  · cases h
mutual
theorem Lm.wf_outer : ∀ {t y : Lm}, t.wf → t.outer = some y → y.wf
  | .mk k i xs, y, hw, h => by
    rw [Lm.outer] at h
    split at h
    · rename_i z hz
      cases h
      obtain ⟨f, x, r, b, q, rfl, hb, _, _, rfl⟩ := Lm.top_some hz
      exact Lm.wf_put hw.2.2.1 0 b (Lm.wf_sub hw.2.1 (by rw [hb]; simp))
    · split at h
      · rename_i ys hys
        cases h
        exact ⟨by rw [Lm.outers_length hys]; exact hw.1, Lm.wfs_outers hw.2 hys⟩
      · cases h
theorem Lm.wfs_outers : ∀ {xs ys : List Lm}, Lm.wfs xs → Lm.outers xs = some ys → Lm.wfs ys
  | [], _, _, h => by cases h
  | t :: ts, ys, hw, h => by
    rw [Lm.outers] at h
    split at h
    · rename_i x hx
      cases h
      exact ⟨Lm.wf_outer hw.1 hx, hw.2⟩
    · split at h
      · rename_i zs hzs
        cases h
        exact ⟨hw.1, Lm.wfs_outers hw.2 hzs⟩
      · cases h
end
mutual
theorem Lm.good_outer {b D : Int} (hD : 0 ≤ D) : ∀ {t y : Lm}, t.size ≤ D → t.good b → t.outer = some y → y.good (b + D)
  | .mk k i xs, y, hs, hg, h => by
    rw [Lm.size] at hs
    rw [Lm.outer] at h
    split at h
    · rename_i z hz
      cases h
      obtain ⟨f, x, r, c, q, rfl, hb, _, _, rfl⟩ := Lm.top_some hz
      have h1 : c ∈ f.subs := by rw [hb]; simp
      have h2 := Lm.size_sub h1
      simp only [Lm.sizes] at hs
      exact Lm.good_put hg.2.2.2.2.1 0 c (by decide) (by omega) (Lm.good_sub hg.2.2.2.1 h1)
    · split at h
      · rename_i ys hys
        cases h
        have := hg.2.2.1
        refine ⟨fun e => ?_, hg.2.1, by omega, Lm.goods_outers hD (by omega) hg.2.2.2 hys⟩
        have h1 := Lm.outers_length hys
        rw [hg.1 e] at h1
        exact List.eq_nil_of_length_eq_zero (by simpa using h1)
      · cases h
theorem Lm.goods_outers {b D : Int} (hD : 0 ≤ D) : ∀ {xs ys : List Lm}, Lm.sizes xs ≤ D → Lm.goods b xs → Lm.outers xs = some ys → Lm.goods (b + D) ys
  | [], _, _, _, h => by cases h
  | t :: ts, ys, hs, hg, h => by
    rw [Lm.sizes] at hs
    rw [Lm.outers] at h
    split at h
    · rename_i x hx
      cases h
      exact ⟨Lm.good_outer hD (by omega) hg.1 hx, Lm.goods_mono (by omega) ts hg.2⟩
    · split at h
      · rename_i zs hzs
        cases h
        exact ⟨Lm.good_mono (by omega) t hg.1, Lm.goods_outers hD (by omega) hg.2 hzs⟩
      · cases h
end
theorem sq_step {a r x : Nat} (h : x ≤ a * a) : x + r ≤ (a + r) * (a + r) := by
  have h1 : (a + r) * (a + r) = a * a + a * r + (r * a + r * r) := by rw [Nat.add_mul, Nat.mul_add, Nat.mul_add]
  have h2 : r ≤ r * r := Nat.le_mul_self r
  rw [h1]
  omega
mutual
theorem Lm.size_outer : ∀ {t y : Lm}, t.outer = some y → y.size ≤ t.size * t.size
  | .mk k i xs, y, h => by
    rw [Lm.outer] at h
    rw [Lm.size]
    split at h
    · rename_i z hz
      cases h
      obtain ⟨f, x, r, c, q, rfl, hb, _, _, rfl⟩ := Lm.top_some hz
      have h1 : c ∈ f.subs := by rw [hb]; simp
      have h2 := Lm.size_sub h1
      refine Nat.le_trans (Lm.size_put x 0 c) ?_
      simp only [Lm.sizes]
      exact Nat.mul_le_mul (by omega) (by omega)
    · split at h
      · rename_i ys hys
        cases h
        rw [Lm.size]
        have := sq_step (r := 1) (Lm.sizes_outers hys)
        rw [Nat.add_comm 1, Nat.add_comm 1]
        exact this
      · cases h
theorem Lm.sizes_outers : ∀ {xs ys : List Lm}, Lm.outers xs = some ys → Lm.sizes ys ≤ Lm.sizes xs * Lm.sizes xs
  | [], _, h => by cases h
  | t :: ts, ys, h => by
    rw [Lm.outers] at h
    rw [Lm.sizes]
    split at h
    · rename_i x hx
      cases h
      rw [Lm.sizes]
      exact sq_step (Lm.size_outer hx)
    · split at h
      · rename_i zs hzs
        cases h
        rw [Lm.sizes, Nat.add_comm t.size, Nat.add_comm t.size]
        exact sq_step (Lm.sizes_outers hzs)
      · cases h
end

/-! ### steps, till there is none -/
/-- left: how many more there may be; n: how many there were. -/
def Lm.run : Nat → Int → Lm → Lm × Int × Int
  | left, n, t => match t.outer with
    | none => (t, n, 0)
    | some x => match left with
      | 0 => (Lm.nil, 0, 9)
      | left + 1 => if 2000 < x.size then (Lm.nil, 0, 8) else Lm.run left (n + 1) x
theorem Lm.run_none {left : Nat} {n : Int} {t : Lm} (h : t.outer = none) : Lm.run left n t = (t, n, 0) := by
  cases left <;> (rw [Lm.run]; simp only [h])
theorem Lm.run_zero {n : Int} {t x : Lm} (h : t.outer = some x) : Lm.run 0 n t = (Lm.nil, 0, 9) := by rw [Lm.run]; simp only [h]
theorem Lm.run_succ {left : Nat} {n : Int} {t x : Lm} (h : t.outer = some x) : Lm.run (left + 1) n t = if 2000 < x.size then (Lm.nil, 0, 8) else Lm.run left (n + 1) x := by rw [Lm.run]; simp only [h]
/-- What comes out at last is of the form, small, and its numbers are not great. -/
theorem Lm.run_ok : ∀ (left : Nat) (n : Int) (t : Lm) (b : Int), t.wf → t.size ≤ 2000 → t.good b → (Lm.run left n t).2.2 = 0 → (Lm.run left n t).1.wf ∧ (Lm.run left n t).1.size ≤ 2000 ∧ (Lm.run left n t).1.good (b + 2000 * left) := by
  intro left
  induction left with
  | zero =>
    intro n t b hw hs hg he
    cases ho : t.outer with
    | none => rw [Lm.run_none ho]; exact ⟨hw, hs, Lm.good_mono (by simp) _ hg⟩
    | some x => rw [Lm.run_zero ho] at he; simp at he
  | succ left ih =>
    intro n t b hw hs hg he
    cases ho : t.outer with
    | none => rw [Lm.run_none ho]; exact ⟨hw, hs, Lm.good_mono (by omega) _ hg⟩
    | some x =>
      rw [Lm.run_succ ho] at he ⊢
      split at he
      · simp at he
      · rename_i hx
        rw [if_neg hx]
        obtain ⟨h1, h2, h3⟩ := ih (n + 1) x (b + 2000) (Lm.wf_outer hw ho) (by omega) (Lm.good_outer (by decide) (by omega) hg ho) he
        exact ⟨h1, h2, Lm.good_mono (by omega) _ h3⟩
end Go.Proofs.YtecjikegppjdiaaDoor
