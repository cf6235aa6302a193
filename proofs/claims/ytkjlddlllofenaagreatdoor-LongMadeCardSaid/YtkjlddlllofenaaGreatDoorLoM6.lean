/-
  Part 6 of the texts. Conditions: none.
-/
import Derived.Test.YtkjlddlllofenaaGreatDoorLoM5
import Derived.Lib.ItoaNum
namespace Go.Proofs.YtkjlddlllofenaaGreatDoor
open Go Go.RowKit
set_option linter.unusedVariables false
mutual
def Lm.wf : Lm → Prop
 | .mk k i xs => (1 ≤ k ∧ k ≤ 5 ∧ (xs.length : Int) = nSubs k) ∧ Lm.wfs xs
def Lm.wfs : List Lm → Prop
 | [] => True
 | t :: ts => t.wf ∧ Lm.wfs ts
end
theorem Lm.wf_eq (t : Lm) : t.wf ↔ ((1 ≤ t.kind ∧ t.kind ≤ 5 ∧ (t.subs.length : Int) = nSubs t.kind) ∧ Lm.wfs t.subs) := by cases t; exact Iff.rfl
theorem Lm.wfs_iff {xs : List Lm} : Lm.wfs xs ↔ ∀ t ∈ xs, t.wf := by
 induction xs with
 | nil => simp [Lm.wfs]
 | cons x xs ih => simp [Lm.wfs, ih]
theorem Lm.wf_sub {t a : Lm} (h : t.wf) (ha : a ∈ t.subs) : a.wf := Lm.wfs_iff.1 ((Lm.wf_eq t).1 h).2 a ha
mutual
theorem Lm.wf_chk {m : Int} : ∀ (t : Lm) (u : Int), t.chk m u = 0 → t.wf
 | .mk k i xs, u, h => by
  rw [Lm.chk] at h
  split at h
  ·rename_i hk
   split at h
   ·exact ⟨hk, Lm.wfs_chk xs _ h⟩
   ·omega
  ·omega
theorem Lm.wfs_chk {m : Int} : ∀ (xs : List Lm) (u : Int), Lm.chks m xs u = 0 → Lm.wfs xs
 | [], _, _ => trivial
 | t :: ts, u, h => by
  rw [Lm.chks] at h
  split at h
  ·rename_i e
   exact ⟨Lm.wf_chk t u e, Lm.wfs_chk ts u h⟩
  ·rename_i e
   exact absurd h e
end
mutual
theorem Lm.good_mono {b c : Int} (hbc : b ≤ c) : ∀ t : Lm, t.good b → t.good c
 | .mk k i xs, h => ⟨h.1, h.2.1, by have := h.2.2.1; omega, Lm.goods_mono hbc xs h.2.2.2⟩
theorem Lm.goods_mono {b c : Int} (hbc : b ≤ c) : ∀ xs : List Lm, Lm.goods b xs → Lm.goods c xs
 | [], _ => trivial
 | t :: ts, h => ⟨Lm.good_mono hbc t h.1, Lm.goods_mono hbc ts h.2⟩
end
theorem Lm.mvs_length (b d : Int) (xs : List Lm) : (Lm.mvs b d xs).length = xs.length := by rw [Lm.mvs_eq, List.length_map]
theorem Lm.puts_length (x : Lm) (d : Int) (xs : List Lm) : (Lm.puts x d xs).length = xs.length := by rw [Lm.puts_eq, List.length_map]
mutual
theorem Lm.wf_mv {b : Int} : ∀ (d : Int) (t : Lm), t.wf → (Lm.mv b d t).wf
 | d, .mk k i xs, h => ⟨by rw [Lm.mvs_length]; exact h.1, Lm.wfs_mv _ xs h.2⟩
theorem Lm.wfs_mv {b : Int} : ∀ (d : Int) (xs : List Lm), Lm.wfs xs → Lm.wfs (Lm.mvs b d xs)
 | _, [], _ => trivial
 | d, t :: ts, h => ⟨Lm.wf_mv d t h.1, Lm.wfs_mv d ts h.2⟩
end
mutual
theorem Lm.good_mv {b c : Int} (hb : 0 ≤ b) : ∀ (d : Int) (t : Lm), t.good c → (Lm.mv b d t).good (c + b)
 | d, .mk k i xs, h => by
  refine ⟨fun e => by rw [h.1 e]; rfl, ?_, ?_, Lm.goods_mv hb _ xs h.2.2.2⟩
  ·have := h.2.1
   split <;> omega
  ·have := h.2.2.1
   split <;> omega
theorem Lm.goods_mv {b c : Int} (hb : 0 ≤ b) : ∀ (d : Int) (xs : List Lm), Lm.goods c xs → Lm.goods (c + b) (Lm.mvs b d xs)
 | _, [], _ => trivial
 | d, t :: ts, h => ⟨Lm.good_mv hb d t h.1, Lm.goods_mv hb d ts h.2⟩
end
mutual
theorem Lm.mv_zero : ∀ (d : Int) (t : Lm), Lm.mv 0 d t = t
 | d, .mk k i xs => by rw [Lm.mv, Lm.mvs_zero]; simp
theorem Lm.mvs_zero : ∀ (d : Int) (xs : List Lm), Lm.mvs 0 d xs = xs
 | _, [] => rfl
 | d, t :: ts => by rw [Lm.mvs, Lm.mv_zero d t, Lm.mvs_zero d ts]
end
theorem under_le (k d : Int) : under k d ≤ d + 1 ∧ d ≤ under k d := by unfold under; split <;> omega
mutual
theorem Lm.wf_put {x : Lm} (hx : x.wf) : ∀ (d : Int) (t : Lm), t.wf → (Lm.put x d t).wf
 | d, .mk k i xs, h => by
  rw [Lm.put]
  split
  ·split
   ·exact Lm.wf_mv 0 x hx
   ·split
    ·exact ⟨⟨by decide, by decide, rfl⟩, trivial⟩
    ·exact ⟨⟨by decide, by decide, rfl⟩, trivial⟩
  ·exact ⟨by rw [Lm.puts_length]; exact h.1, Lm.wfs_put hx _ xs h.2⟩
theorem Lm.wfs_put {x : Lm} (hx : x.wf) : ∀ (d : Int) (xs : List Lm), Lm.wfs xs → Lm.wfs (Lm.puts x d xs)
 | _, [], _ => trivial
 | d, t :: ts, h => ⟨Lm.wf_put hx d t h.1, Lm.wfs_put hx d ts h.2⟩
end
mutual
theorem Lm.good_put {x : Lm} {b D : Int} (hx : x.good b) : ∀ (d : Int) (t : Lm), 0 ≤ d → d + t.size ≤ D → t.good b → (Lm.put x d t).good (b + D)
 | d, .mk k i xs, hd, hD, h => by
  rw [Lm.size] at hD
  have h2 := h.2.1
  have h3 := h.2.2.1
  rw [Lm.put]
  split
  ·split
   ·exact Lm.good_mono (by omega) _ (Lm.good_mv hd 0 x hx)
   ·split
    ·exact ⟨fun _ => rfl, by omega, by omega, trivial⟩
    ·exact ⟨fun _ => rfl, by omega, by omega, trivial⟩
  ·rename_i hk
   have hu := under_le k d
   exact ⟨fun e => absurd e hk, h2, by omega, Lm.goods_put hx _ xs (by omega) (by omega) h.2.2.2⟩
theorem Lm.goods_put {x : Lm} {b D : Int} (hx : x.good b) : ∀ (d : Int) (xs : List Lm), 0 ≤ d → d + Lm.sizes xs ≤ D → Lm.goods b xs → Lm.goods (b + D) (Lm.puts x d xs)
 | _, [], _, _, _ => trivial
 | d, t :: ts, hd, hD, h => by
  rw [Lm.sizes] at hD
  exact ⟨Lm.good_put hx d t hd (by omega) h.1, Lm.goods_put hx d ts hd (by omega) h.2⟩
end
def Lm.top (k : Int) (xs : List Lm) : Option Lm := match xs with
 | f :: x :: _ => if k = 3 ∧ f.kind = 2 then (match f.subs with | b :: _ => some (Lm.put x 0 b) | [] => none) else none
 | _ => none
mutual
def Lm.outer : Lm → Option Lm
 | .mk k i xs => match Lm.top k xs with
  | some y => some y
  | none => match Lm.outers xs with
   | some ys => some (.mk k i ys)
   | none => none
def Lm.outers : List Lm → Option (List Lm)
 | [] => none
 | t :: ts => match t.outer with
  | some x => some (x :: ts)
  | none => match Lm.outers ts with
   | some ys => some (t :: ys)
   | none => none
end
theorem Lm.outer_eq (t : Lm) : t.outer = match Lm.top t.kind t.subs with
  | some y => some y
  | none => match Lm.outers t.subs with
   | some ys => some (.mk t.kind t.idx ys)
   | none => none := by cases t; rw [Lm.outer]; rfl
theorem len_one {α : Type} {xs : List α} (h : (xs.length : Int) = 1) : ∃ a, xs = [a] := by
 match xs, h with
 | [a], _ => exact ⟨a, rfl⟩
 | [], h => simp at h
 | _ :: _ :: _, h => simp at h; omega
theorem len_two {α : Type} {xs : List α} (h : (xs.length : Int) = 2) : ∃ a b, xs = [a, b] := by
 match xs, h with
 | [a, b], _ => exact ⟨a, b, rfl⟩
 | [], h => simp at h
 | [_], h => simp at h
 | _ :: _ :: _ :: _, h => simp at h; omega
theorem Lm.subs1 {t : Lm} (h : t.wf) (hk : t.kind = 2) : ∃ a, t.subs = [a] := by
 have := ((Lm.wf_eq t).1 h).1.2.2
 rw [hk] at this
 exact len_one this
theorem Lm.subs2 {t : Lm} (h : t.wf) (hk : t.kind = 3) : ∃ a b, t.subs = [a, b] := by
 have := ((Lm.wf_eq t).1 h).1.2.2
 rw [hk] at this
 exact len_two this
theorem Lm.top_cases {t : Lm} (h : t.wf) : (∃ f x b, t.kind = 3 ∧ t.subs = [f, x] ∧ f.kind = 2 ∧ f.subs = [b] ∧ Lm.top t.kind t.subs = some (Lm.put x 0 b)) ∨ (Lm.top t.kind t.subs = none ∧ (t.kind = 3 → ∃ f x, t.subs = [f, x] ∧ ¬ f.kind = 2)) := by
 by_cases hk : t.kind = 3
 ·obtain ⟨f, x, hfx⟩ := Lm.subs2 h hk
  by_cases hf : f.kind = 2
  ·obtain ⟨b, hb⟩ := Lm.subs1 (Lm.wf_sub h (by rw [hfx]; simp)) hf
   exact Or.inl ⟨f, x, b, hk, hfx, hf, hb, by rw [hfx]; simp [Lm.top, hk, hf, hb]⟩
  ·exact Or.inr ⟨by rw [hfx]; simp [Lm.top, hf], fun _ => ⟨f, x, hfx, hf⟩⟩
 ·refine Or.inr ⟨?_, fun e => absurd e hk⟩
  unfold Lm.top
  split
  ·rw [if_neg (fun h => hk h.1)]
  ·rfl
theorem Lm.outers_none {xs : List Lm} {k : Nat} {a : Lm} (ha : xs[k]? = some a) (h : Lm.outers (xs.take k) = none) (hn : a.outer = none) : Lm.outers (xs.take (k + 1)) = none := by
 induction xs generalizing k with
 | nil => simp at ha
 | cons x xs ih =>
  cases k with
  | zero =>
   have : x = a := by simpa using ha
   subst this
   simp [Lm.outers, hn]
  | succ k =>
   rw [List.take_succ_cons, Lm.outers] at h ⊢
   split at h
   ·cases h
   ·rename_i hx
    split at h
    ·cases h
    ·rename_i h2
     rw [ih (by simpa using ha) h2]
theorem Lm.outers_some {xs : List Lm} {k : Nat} {a y : Lm} (ha : xs[k]? = some a) (h : Lm.outers (xs.take k) = none) (hy : a.outer = some y) : Lm.outers xs = some (xs.set k y) := by
 induction xs generalizing k with
 | nil => simp at ha
 | cons x xs ih =>
  cases k with
  | zero =>
   have : x = a := by simpa using ha
   subst this
   simp [Lm.outers, hy]
  | succ k =>
   rw [List.take_succ_cons, Lm.outers] at h
   split at h
   ·cases h
   ·rename_i hx
    split at h
    ·cases h
    ·rename_i h2
     rw [Lm.outers, hx, ih (by simpa using ha) h2]
     rfl
theorem Lm.outers_length : ∀ {xs ys : List Lm}, Lm.outers xs = some ys → ys.length = xs.length
 | [], ys, h => by cases h
 | t :: ts, ys, h => by
  rw [Lm.outers] at h
  split at h
  ·cases h; rfl
  ·split at h
   ·rename_i h2
    cases h
    simp [Lm.outers_length h2]
   ·cases h
theorem Lm.top_some {k : Int} {xs : List Lm} {y : Lm} (h : Lm.top k xs = some y) : ∃ f x r b q, xs = f :: x :: r ∧ f.subs = b :: q ∧ k = 3 ∧ f.kind = 2 ∧ y = Lm.put x 0 b := by
 unfold Lm.top at h
 split at h
 ·rename_i f x r
  split at h
  ·rename_i hk
   split at h
   ·rename_i b q hb
    cases h
    exact ⟨f, x, r, b, q, rfl, hb, hk.1, hk.2, rfl⟩
   ·cases h
  ·cases h
 ·cases h
mutual
theorem Lm.wf_outer : ∀ {t y : Lm}, t.wf → t.outer = some y → y.wf
 | .mk k i xs, y, hw, h => by
  rw [Lm.outer] at h
  split at h
  ·rename_i z hz
   cases h
   obtain ⟨f, x, r, b, q, rfl, hb, _, _, rfl⟩ := Lm.top_some hz
   exact Lm.wf_put hw.2.2.1 0 b (Lm.wf_sub hw.2.1 (by rw [hb]; simp))
  ·split at h
   ·rename_i ys hys
    cases h
    exact ⟨by rw [Lm.outers_length hys]; exact hw.1, Lm.wfs_outers hw.2 hys⟩
   ·cases h
theorem Lm.wfs_outers : ∀ {xs ys : List Lm}, Lm.wfs xs → Lm.outers xs = some ys → Lm.wfs ys
 | [], _, _, h => by cases h
 | t :: ts, ys, hw, h => by
  rw [Lm.outers] at h
  split at h
  ·rename_i x hx
   cases h
   exact ⟨Lm.wf_outer hw.1 hx, hw.2⟩
  ·split at h
   ·rename_i zs hzs
    cases h
    exact ⟨hw.1, Lm.wfs_outers hw.2 hzs⟩
   ·cases h
end
mutual
theorem Lm.good_outer {b D : Int} (hD : 0 ≤ D) : ∀ {t y : Lm}, t.size ≤ D → t.good b → t.outer = some y → y.good (b + D)
 | .mk k i xs, y, hs, hg, h => by
  rw [Lm.size] at hs
  rw [Lm.outer] at h
  split at h
  ·rename_i z hz
   cases h
   obtain ⟨f, x, r, c, q, rfl, hb, _, _, rfl⟩ := Lm.top_some hz
   have h1 : c ∈ f.subs := by rw [hb]; simp
   have h2 := Lm.size_sub h1
   simp only [Lm.sizes] at hs
   exact Lm.good_put hg.2.2.2.2.1 0 c (by decide) (by omega) (Lm.good_sub hg.2.2.2.1 h1)
  ·split at h
   ·rename_i ys hys
    cases h
    have := hg.2.2.1
    refine ⟨fun e => ?_, hg.2.1, by omega, Lm.goods_outers hD (by omega) hg.2.2.2 hys⟩
    have h1 := Lm.outers_length hys
    rw [hg.1 e] at h1
    exact List.eq_nil_of_length_eq_zero (by simpa using h1)
   ·cases h
theorem Lm.goods_outers {b D : Int} (hD : 0 ≤ D) : ∀ {xs ys : List Lm}, Lm.sizes xs ≤ D → Lm.goods b xs → Lm.outers xs = some ys → Lm.goods (b + D) ys
 | [], _, _, _, h => by cases h
 | t :: ts, ys, hs, hg, h => by
  rw [Lm.sizes] at hs
  rw [Lm.outers] at h
  split at h
  ·rename_i x hx
   cases h
   exact ⟨Lm.good_outer hD (by omega) hg.1 hx, Lm.goods_mono (by omega) ts hg.2⟩
  ·split at h
   ·rename_i zs hzs
    cases h
    exact ⟨Lm.good_mono (by omega) t hg.1, Lm.goods_outers hD (by omega) hg.2 hzs⟩
   ·cases h
end
theorem sq_step {a r x : Nat} (h : x ≤ a * a) : x + r ≤ (a + r) * (a + r) := by
 have h1 : (a + r) * (a + r) = a * a + a * r + (r * a + r * r) := by rw [Nat.add_mul, Nat.mul_add, Nat.mul_add]
 have h2 : r ≤ r * r := Nat.le_mul_self r
 rw [h1]
 omega
mutual
theorem Lm.size_outer : ∀ {t y : Lm}, t.outer = some y → y.size ≤ t.size * t.size
 | .mk k i xs, y, h => by
  rw [Lm.outer] at h
  rw [Lm.size]
  split at h
  ·rename_i z hz
   cases h
   obtain ⟨f, x, r, c, q, rfl, hb, _, _, rfl⟩ := Lm.top_some hz
   have h1 : c ∈ f.subs := by rw [hb]; simp
   have h2 := Lm.size_sub h1
   refine Nat.le_trans (Lm.size_put x 0 c) ?_
   simp only [Lm.sizes]
   exact Nat.mul_le_mul (by omega) (by omega)
  ·split at h
   ·rename_i ys hys
    cases h
    rw [Lm.size]
    have := sq_step (r := 1) (Lm.sizes_outers hys)
    rw [Nat.add_comm 1, Nat.add_comm 1]
    exact this
   ·cases h
theorem Lm.sizes_outers : ∀ {xs ys : List Lm}, Lm.outers xs = some ys → Lm.sizes ys ≤ Lm.sizes xs * Lm.sizes xs
 | [], _, h => by cases h
 | t :: ts, ys, h => by
  rw [Lm.outers] at h
  rw [Lm.sizes]
  split at h
  ·rename_i x hx
   cases h
   rw [Lm.sizes]
   exact sq_step (Lm.size_outer hx)
  ·split at h
   ·rename_i zs hzs
    cases h
    rw [Lm.sizes, Nat.add_comm t.size, Nat.add_comm t.size]
    exact sq_step (Lm.sizes_outers hzs)
   ·cases h
end
def Lm.run : Nat → Int → Lm → Lm × Int × Int
 | left, n, t => match t.outer with
  | none => (t, n, 0)
  | some x => match left with
   | 0 => (Lm.nil, 0, 9)
   | left + 1 => if 2000 < x.size then (Lm.nil, 0, 8) else Lm.run left (n + 1) x
theorem Lm.run_none {left : Nat} {n : Int} {t : Lm} (h : t.outer = none) : Lm.run left n t = (t, n, 0) := by
 cases left <;> (rw [Lm.run]; simp only [h])
theorem Lm.run_zero {n : Int} {t x : Lm} (h : t.outer = some x) : Lm.run 0 n t = (Lm.nil, 0, 9) := by rw [Lm.run]; simp only [h]
theorem Lm.run_succ {left : Nat} {n : Int} {t x : Lm} (h : t.outer = some x) : Lm.run (left + 1) n t = if 2000 < x.size then (Lm.nil, 0, 8) else Lm.run left (n + 1) x := by rw [Lm.run]; simp only [h]
theorem Lm.run_ok : ∀ (left : Nat) (n : Int) (t : Lm) (b : Int), t.wf → t.size ≤ 2000 → t.good b → (Lm.run left n t).2.2 = 0 → (Lm.run left n t).1.wf ∧ (Lm.run left n t).1.size ≤ 2000 ∧ (Lm.run left n t).1.good (b + 2000 * left) := by
 intro left
 induction left with
 | zero =>
  intro n t b hw hs hg he
  cases ho : t.outer with
  | none => rw [Lm.run_none ho]; exact ⟨hw, hs, Lm.good_mono (by simp) _ hg⟩
  | some x => rw [Lm.run_zero ho] at he; simp at he
 | succ left ih =>
  intro n t b hw hs hg he
  cases ho : t.outer with
  | none => rw [Lm.run_none ho]; exact ⟨hw, hs, Lm.good_mono (by omega) _ hg⟩
  | some x =>
   rw [Lm.run_succ ho] at he ⊢
   split at he
   ·simp at he
   ·rename_i hx
    rw [if_neg hx]
    obtain ⟨h1, h2, h3⟩ := ih (n + 1) x (b + 2000) (Lm.wf_outer hw ho) (by omega) (Lm.good_outer (by decide) (by omega) hg ho) he
    exact ⟨h1, h2, Lm.good_mono (by omega) _ h3⟩

mutual
def Lm.known (m : Int) : Lm → Prop
 | .mk k i xs => (k = 5 → 0 ≤ i ∧ i < m) ∧ Lm.knowns m xs
def Lm.knowns (m : Int) : List Lm → Prop
 | [] => True
 | t :: ts => t.known m ∧ Lm.knowns m ts
end
mutual
def Lm.fill (ws : List Lm) : Lm → Lm
 | .mk k i xs => if k = 5 then ws.getD i.toNat Lm.nil else .mk k i (Lm.fills ws xs)
def Lm.fills (ws : List Lm) : List Lm → List Lm
 | [] => []
 | t :: ts => Lm.fill ws t :: Lm.fills ws ts
end
def Lm.v (i : Int) : Lm := .mk 1 i []
def Lm.l (t : Lm) : Lm := .mk 2 0 [t]
def Lm.a (f x : Lm) : Lm := .mk 3 0 [f, x]
def Lm.isOne (t : Lm) : Option Lm := match t.subs with
 | f :: x :: _ => if t.kind = 3 ∧ f.same (Lm.v 1) = true then some x else none
 | _ => none
def Lm.chain : Nat → Lm → Int × Lm
 | 0, t => (0, t)
 | n + 1, t => match t.isOne with
  | some x => ((Lm.chain n x).1 + 1, (Lm.chain n x).2)
  | none => (0, t)
def Lm.ch (t : Lm) : Int × Lm := Lm.chain t.size t
def Lm.val (t : Lm) : Int := if t.same (Lm.l (Lm.v 0)) = true then 1 else
 if t.kind = 2 then (match t.subs with
  | g :: _ => if g.kind = 2 then (match g.subs with
   | b :: _ => if b.ch.2.same (Lm.v 0) = true then b.ch.1 else -1
   | [] => -1) else -1
  | [] => -1) else -1

set_option linter.unusedSimpArgs false
set_option maxHeartbeats 400000
theorem Lm.same_eq (a b : Lm) : a.same b = (decide (a.kind = b.kind) && decide (a.idx = b.idx) && Lm.sames a.subs b.subs) := by cases a; cases b; rfl
theorem Lm.sames_len : ∀ {xs ys : List Lm}, ¬ xs.length = ys.length → Lm.sames xs ys = false
 | [], [], h => absurd rfl h
 | [], _ :: _, _ => rfl
 | _ :: _, [], _ => rfl
 | x :: xs, y :: ys, h => by
  rw [Lm.sames, Lm.sames_len (fun e => h (by simp [e]))]
  simp
theorem Lm.sames_append : ∀ {xs ys us vs : List Lm}, xs.length = ys.length → Lm.sames (xs ++ us) (ys ++ vs) = (Lm.sames xs ys && Lm.sames us vs)
 | [], [], us, vs, _ => by simp [Lm.sames]
 | [], _ :: _, _, _, h => by simp at h
 | _ :: _, [], _, _, h => by simp at h
 | x :: xs, y :: ys, us, vs, h => by
  simp only [List.cons_append, Lm.sames, Lm.sames_append (show xs.length = ys.length by simpa using h), Bool.and_assoc]
theorem Lm.sames_take {xs ys : List Lm} {k : Nat} {x y : Lm} (hl : xs.length = ys.length) (hx : xs[k]? = some x) (hy : ys[k]? = some y) (h : Lm.sames (xs.take k) (ys.take k) = true) : Lm.sames (xs.take (k + 1)) (ys.take (k + 1)) = x.same y := by
 rw [take_snoc hx, take_snoc hy, Lm.sames_append (by simp [hl]), h]
 simp [Lm.sames]
theorem Lm.sames_no {xs ys : List Lm} {k : Nat} (hl : xs.length = ys.length) (h : Lm.sames (xs.take k) (ys.take k) = false) : Lm.sames xs ys = false := by
 have := Lm.sames_append (xs := xs.take k) (ys := ys.take k) (us := xs.drop k) (vs := ys.drop k) (by simp [hl])
 rw [List.take_append_drop, List.take_append_drop, h] at this
 simpa using this
theorem equalFuncL_a (xs ys : List Lm) (hS : ∀ x ∈ xs, ∀ y, ACalls Tryz.prog 41 [aLm x, aLm y] (aBool (x.same y))) :
  ACalls Tryz.prog 68 [aLms xs, aLms ys, .one (.fn 41 [])] (aBool (Lm.sames xs ys)) := by
 refine ok_slices_EqualFunc_metaprune_api_Lam_metaprune_api_Lam_metaprune_api_Lam_metaprune_api_Lam.ac fun C hC => ?_
 unfold ir_slices_EqualFunc_metaprune_api_Lam_metaprune_api_Lam_metaprune_api_Lam_metaprune_api_Lam
 refine IWP.learn 0 (by omega) fun hkn => ?_
 have hkn := known_len hkn
 rw [List.length_map] at hkn
 by_cases h3 : xs.length = ys.length
 case neg =>
  have h3' : ¬ (xs.length : Int) = ys.length := by omega
  rw [Lm.sames_len h3]
  repeat' (first | (with_reducible first | refine W ?_ | refine Z0 ?_) | ((with_reducible first | refine Wo (fun K hK => ?_) | refine Wp ?_ | refine Wq ?_ | refine Wr ?_); (try simp only [go_sem, fN, seval, eT, iR, h3', dT, dF, nL]); (repeat with_reducible refine Ai ?_); (try (refine hK _ ?_; clear hK K)); try with_reducible refine iC ?_))
  simp only [go_sem, fN, seval, FinQ, AS.result, resAll, resOne, tupV]
 case pos =>
 have h3' : (xs.length : Int) = ys.length := by omega
 repeat' (first | (with_reducible first | refine W ?_ | refine Z0 ?_) | ((with_reducible first | refine Wo (fun K hK => ?_) | refine Wp ?_ | refine Wq ?_ | refine Wr ?_); (try simp only [go_sem, fN, seval, eT, iR, h3', dT, dF, nL]); (repeat with_reducible refine Ai ?_); (try (refine hK _ ?_; clear hK K)); try with_reducible refine iC ?_))
 refine IWP.loopD [8, 9] (fun n s => ∃ k, k ≤ xs.length ∧ n = xs.length - k ∧ Lm.sames (xs.take k) (ys.take k) = true ∧ s.env 1 = aLms ys ∧ s.env 2 = .one (.fn 41 []) ∧ s.env 15 = aLms xs ∧ s.env 16 = aInt xs.length ∧ s.env 17 = aInt k ∧ s.S 8 = none ∧ s.S 9 = none) xs.length ⟨0, Nat.zero_le _, rfl, rfl, rfl, rfl, rfl, by simp only [go_sem, fN, seval, eT, iR, h3'], rfl, rfl, rfl⟩ ?_
 rintro n ⟨env, S⟩ ⟨k, hk', rfl, hp, e1, e2, e15, e16, e17, s8, s9⟩
 simp only at e1 e2 e15 e16 e17 s8 s9
 by_cases hlt : (k : Int) < xs.length
 ·obtain ⟨x, hx⟩ := get_lt (show k < xs.length by omega)
  obtain ⟨y, hy⟩ := get_lt (show k < ys.length by omega)
  repeat' (first | (with_reducible first | refine W ?_ | refine Z0 ?_) | ((with_reducible first | refine Wo (fun K hK => ?_) | refine Wp ?_ | refine Wq ?_ | refine Wr ?_); (try simp only [go_sem, fN, seval, eT, iR, e1, e2, e15, e16, e17, s8, s9, hx, hy, hlt, dT, dF, nL]); (repeat with_reducible refine Ai ?_); (try (refine hK _ ?_; clear hK K)); try with_reducible refine iC ?_))
  refine ⟨by kernel_rfl, _, _, (hS x (mem_of_get hx) y).toS rfl, ?_⟩
  by_cases hr : x.same y = true
  ·repeat' (first | (with_reducible first | refine W ?_ | refine Z0 ?_) | ((with_reducible first | refine Wo (fun K hK => ?_) | refine Wp ?_ | refine Wq ?_ | refine Wr ?_); (try simp only [go_sem, fN, seval, eT, iR, e1, e2, e15, e16, e17, s8, s9, hr, dT, dF, nL]); (repeat with_reducible refine Ai ?_); (try (refine hK _ ?_; clear hK K)); try with_reducible refine iC ?_))
   refine then_normal ⟨xs.length - (k + 1), by omega, k + 1, by omega, rfl, ?_⟩
   simp only [go_sem, fN, seval, AS.drop, dropS, AC.clears, AC.clear, AC.highs, AC.high, Bool.not_false, Bool.true_and, Bool.and_self, AV.purge, AV.purges, AC.purge, ABlk.purge, List.contains_cons, List.contains_nil, Nat.reduceBEq, Bool.or_self, Bool.or_false, Bool.false_or, Bool.or_true, eT, iR, e1, e2, e15, e16, e17, s8, s9]
   exact ⟨by rw [Lm.sames_take h3 hx hy hp, hr], by congr 3⟩
  ·have hr' : x.same y = false := by simpa using hr
   repeat' (first | (with_reducible first | refine W ?_ | refine Z0 ?_) | ((with_reducible first | refine Wo (fun K hK => ?_) | refine Wp ?_ | refine Wq ?_ | refine Wr ?_); (try simp only [go_sem, fN, seval, eT, iR, e1, e2, e15, e16, e17, s8, s9, hr', dT, dF, nL]); (repeat with_reducible refine Ai ?_); (try (refine hK _ ?_; clear hK K)); try with_reducible refine iC ?_))
   simp only [go_sem, fN, seval, FinQ, AS.result, resAll, resOne, tupV]
   rw [Lm.sames_no (k := k + 1) h3 (by rw [Lm.sames_take h3 hx hy hp, hr'])]
 ·repeat' (first | (with_reducible first | refine W ?_ | refine Z0 ?_) | ((with_reducible first | refine Wo (fun K hK => ?_) | refine Wp ?_ | refine Wq ?_ | refine Wr ?_); (try simp only [go_sem, fN, seval, eT, iR, e1, e2, e15, e16, e17, s8, s9, hlt, dT, dF, nL]); (repeat with_reducible refine Ai ?_); (try (refine hK _ ?_; clear hK K)); try with_reducible refine iC ?_))
  simp only [go_sem, fN, seval, FinQ, AS.result, resAll, resOne, tupV]
  rw [List.take_of_length_le (by omega), List.take_of_length_le (by omega)] at hp
  rw [hp]
theorem lsame_a (a b : Lm) : ACalls Tryz.prog 41 [aLm a, aLm b] (aBool (a.same b)) := by
 induction h : SizeOf.sizeOf a using Nat.strongRecOn generalizing a b with
 | _ N ih =>
 subst h
 rw [Lm.same_eq]
 refine ok_lambda_Same.ac fun C hC => ?_
 unfold ir_lambda_Same
 by_cases h1 : a.kind = b.kind
 case neg =>
  repeat' (first | (with_reducible first | refine W ?_ | refine Z0 ?_) | ((with_reducible first | refine Wo (fun K hK => ?_) | refine Wp ?_ | refine Wq ?_ | refine Wr ?_); (try simp only [go_sem, fN, seval, eT, iR, h1, dT, dF, nL]); (repeat with_reducible refine Ai ?_); (try (refine hK _ ?_; clear hK K)); try with_reducible refine iC ?_))
  simp only [go_sem, fN, seval, FinQ, AS.result, resAll, resOne, tupV, h1]
  try simp
 case pos =>
 by_cases h2 : a.idx = b.idx
 case neg =>
  repeat' (first | (with_reducible first | refine W ?_ | refine Z0 ?_) | ((with_reducible first | refine Wo (fun K hK => ?_) | refine Wp ?_ | refine Wq ?_ | refine Wr ?_); (try simp only [go_sem, fN, seval, eT, iR, h1, h2, dT, dF, nL]); (repeat with_reducible refine Ai ?_); (try (refine hK _ ?_; clear hK K)); try with_reducible refine iC ?_))
  simp only [go_sem, fN, seval, FinQ, AS.result, resAll, resOne, tupV, h1, h2]
  try simp
 case pos =>
 repeat' (first | (with_reducible first | refine W ?_ | refine Z0 ?_) | refine Cg _ (equalFuncL_a a.subs b.subs fun x hx y => ih _ (Lm.lt_of_sub hx) x y rfl) ?_ | ((with_reducible first | refine Wo (fun K hK => ?_) | refine Wp ?_ | refine Wq ?_ | refine Wr ?_); (try simp only [go_sem, fN, seval, eT, iR, h1, h2, dT, dF, nL]); (repeat with_reducible refine Ai ?_); (try (refine hK _ ?_; clear hK K)); try with_reducible refine iC ?_))
 simp only [go_sem, fN, seval, FinQ, AS.result, resAll, resOne, tupV]
 simp [h1, h2]
theorem lA_a (f x : Lm) : ACalls Tryz.prog 62 [aLm f, aLm x] (aLm (Lm.a f x)) := by
 refine ok_lambda_A.ac fun C hC => ?_
 unfold ir_lambda_A
 repeat' (first | (with_reducible first | refine W ?_ | refine Z0 ?_) | ((with_reducible first | refine Wo (fun K hK => ?_) | refine Wp ?_ | refine Wq ?_ | refine Wr ?_); (try simp only [go_sem, fN, seval, eT, iR, dT, dF, nL]); (repeat with_reducible refine Ai ?_); (try (refine hK _ ?_; clear hK K)); try with_reducible refine iC ?_))
 simp only [go_sem, fN, seval, FinQ, AS.result, resAll, resOne, tupV]
 simp [Lm.a, Lm.kind_mk, Lm.idx_mk, Lm.subs_mk, encL_eq]
theorem lApp_a (f x : Lm) : ACalls Tryz.prog 32 [aLm f, aLm x] (aLm (Lm.a f x)) := by
 refine ok_R_App.ac fun C hC => ?_
 unfold ir_R_App
 repeat' (first | (with_reducible first | refine W ?_ | refine Z0 ?_) | ((with_reducible first | refine Wo (fun K hK => ?_) | refine Wp ?_ | refine Wq ?_ | refine Wr ?_); (try simp only [go_sem, fN, seval, eT, iR, dT, dF, nL]); (repeat with_reducible refine Ai ?_); (try (refine hK _ ?_; clear hK K)); try with_reducible refine iC ?_))
 simp only [go_sem, fN, seval, FinQ, AS.result, resAll, resOne, tupV]
 simp [Lm.a, Lm.kind_mk, Lm.idx_mk, Lm.subs_mk, encL_eq]
theorem lL_a (t : Lm) : ACalls Tryz.prog 66 [aLm t] (aLm (Lm.l t)) := by
 refine ok_lambda_L.ac fun C hC => ?_
 unfold ir_lambda_L
 repeat' (first | (with_reducible first | refine W ?_ | refine Z0 ?_) | ((with_reducible first | refine Wo (fun K hK => ?_) | refine Wp ?_ | refine Wq ?_ | refine Wr ?_); (try simp only [go_sem, fN, seval, eT, iR, dT, dF, nL]); (repeat with_reducible refine Ai ?_); (try (refine hK _ ?_; clear hK K)); try with_reducible refine iC ?_))
 simp only [go_sem, fN, seval, FinQ, AS.result, resAll, resOne, tupV]
 simp [Lm.l, Lm.kind_mk, Lm.idx_mk, Lm.subs_mk, encL_eq]
theorem lFun_a (t : Lm) : ACalls Tryz.prog 35 [aLm t] (aLm (Lm.l t)) := by
 refine ok_R_Fun.ac fun C hC => ?_
 unfold ir_R_Fun
 repeat' (first | (with_reducible first | refine W ?_ | refine Z0 ?_) | ((with_reducible first | refine Wo (fun K hK => ?_) | refine Wp ?_ | refine Wq ?_ | refine Wr ?_); (try simp only [go_sem, fN, seval, eT, iR, dT, dF, nL]); (repeat with_reducible refine Ai ?_); (try (refine hK _ ?_; clear hK K)); try with_reducible refine iC ?_))
 simp only [go_sem, fN, seval, FinQ, AS.result, resAll, resOne, tupV]
 simp [Lm.l, Lm.kind_mk, Lm.idx_mk, Lm.subs_mk, encL_eq]
theorem lCopy_a (t : Lm) (hg : t.good 1000000000) (hz : t.size ≤ 1000000000) : ACalls Tryz.prog 40 [aLm t] (aLm t) := by
 have e := Lm.mv_zero 0 t
 refine ok_lambda_Copy.ac fun C hC => ?_
 unfold ir_lambda_Copy
 repeat' (first | (with_reducible first | refine W ?_ | refine Z0 ?_) | refine Cg _ (lmove_a t 0 0 hg (by decide) (by decide) (by omega)) ?_ | ((with_reducible first | refine Wo (fun K hK => ?_) | refine Wp ?_ | refine Wq ?_ | refine Wr ?_); (try simp only [go_sem, fN, seval, eT, iR, e, dT, dF, nL]); (repeat with_reducible refine Ai ?_); (try (refine hK _ ?_; clear hK K)); try with_reducible refine iC ?_))
 simp only [go_sem, fN, seval, FinQ, AS.result, resAll, resOne, tupV, e]
def Lm.isRed (t : Lm) : Bool := (Lm.top t.kind t.subs).isSome
theorem lRedex_a (t : Lm) (hw : t.wf) : ACalls Tryz.prog 88 [aLm t] (aBool t.isRed) := by
 refine ok_reduce_Redex.ac fun C hC => ?_
 unfold ir_reduce_Redex
 unfold Lm.isRed
 rcases Lm.top_cases hw with ⟨f, x, b, h1, h2, h3, h4, h5⟩ | ⟨h5, h6⟩
 ·rw [h5]
  repeat' (first | (with_reducible first | refine W ?_ | refine Z0 ?_) | ((with_reducible first | refine Wo (fun K hK => ?_) | refine Wp ?_ | refine Wq ?_ | refine Wr ?_); (try simp only [go_sem, fN, seval, eT, iR, h1, h2, h3, dT, dF, nL]); (repeat with_reducible refine Ai ?_); (try (refine hK _ ?_; clear hK K)); try with_reducible refine iC ?_))
  simp only [go_sem, fN, seval, FinQ, AS.result, resAll, resOne, tupV]
 ·rw [h5]
  by_cases h1 : t.kind = 3
  ·obtain ⟨f, x, h2, h3⟩ := h6 h1
   repeat' (first | (with_reducible first | refine W ?_ | refine Z0 ?_) | ((with_reducible first | refine Wo (fun K hK => ?_) | refine Wp ?_ | refine Wq ?_ | refine Wr ?_); (try simp only [go_sem, fN, seval, eT, iR, h1, h2, h3, dT, dF, nL]); (repeat with_reducible refine Ai ?_); (try (refine hK _ ?_; clear hK K)); try with_reducible refine iC ?_))
   simp only [go_sem, fN, seval, FinQ, AS.result, resAll, resOne, tupV]
  ·repeat' (first | (with_reducible first | refine W ?_ | refine Z0 ?_) | ((with_reducible first | refine Wo (fun K hK => ?_) | refine Wp ?_ | refine Wq ?_ | refine Wr ?_); (try simp only [go_sem, fN, seval, eT, iR, h1, dT, dF, nL]); (repeat with_reducible refine Ai ?_); (try (refine hK _ ?_; clear hK K)); try with_reducible refine iC ?_))
   simp only [go_sem, fN, seval, FinQ, AS.result, resAll, resOne, tupV]
theorem lIsRedex_a (t : Lm) (hw : t.wf) : ACalls Tryz.prog 53 [aLm t] (aBool t.isRed) := by
 refine ok_R_IsRedex.ac fun C hC => ?_
 unfold ir_R_IsRedex
 unfold Lm.isRed
 rcases Lm.top_cases hw with ⟨f, x, b, h1, h2, h3, h4, h5⟩ | ⟨h5, h6⟩
 ·rw [h5]
  repeat' (first | (with_reducible first | refine W ?_ | refine Z0 ?_) | ((with_reducible first | refine Wo (fun K hK => ?_) | refine Wp ?_ | refine Wq ?_ | refine Wr ?_); (try simp only [go_sem, fN, seval, eT, iR, h1, h2, h3, dT, dF, nL]); (repeat with_reducible refine Ai ?_); (try (refine hK _ ?_; clear hK K)); try with_reducible refine iC ?_))
  simp only [go_sem, fN, seval, FinQ, AS.result, resAll, resOne, tupV]
 ·rw [h5]
  by_cases h1 : t.kind = 3
  ·obtain ⟨f, x, h2, h3⟩ := h6 h1
   repeat' (first | (with_reducible first | refine W ?_ | refine Z0 ?_) | ((with_reducible first | refine Wo (fun K hK => ?_) | refine Wp ?_ | refine Wq ?_ | refine Wr ?_); (try simp only [go_sem, fN, seval, eT, iR, h1, h2, h3, dT, dF, nL]); (repeat with_reducible refine Ai ?_); (try (refine hK _ ?_; clear hK K)); try with_reducible refine iC ?_))
   simp only [go_sem, fN, seval, FinQ, AS.result, resAll, resOne, tupV]
  ·repeat' (first | (with_reducible first | refine W ?_ | refine Z0 ?_) | ((with_reducible first | refine Wo (fun K hK => ?_) | refine Wp ?_ | refine Wq ?_ | refine Wr ?_); (try simp only [go_sem, fN, seval, eT, iR, h1, dT, dF, nL]); (repeat with_reducible refine Ai ?_); (try (refine hK _ ?_; clear hK K)); try with_reducible refine iC ?_))
   simp only [go_sem, fN, seval, FinQ, AS.result, resAll, resOne, tupV]
theorem lout_a (t f x b : Lm) (h2 : t.subs = [f, x]) (h4 : f.subs = [b]) (hb : b.good 1000000000) (hx : x.good 1000000000) (hbz : b.size ≤ 1000000000) (hxz : x.size ≤ 1000000000) : ACalls Tryz.prog 89 [aLm t] (aLm (Lm.put x 0 b)) := by
 refine ok_reduce_out.ac fun C hC => ?_
 unfold ir_reduce_out
 repeat' (first | (with_reducible first | refine W ?_ | refine Z0 ?_) | refine Cg _ (lInto_a b x hb hx hxz hbz) ?_ | ((with_reducible first | refine Wo (fun K hK => ?_) | refine Wp ?_ | refine Wq ?_ | refine Wr ?_); (try simp only [go_sem, fN, seval, eT, iR, h2, h4, dT, dF, nL]); (repeat with_reducible refine Ai ?_); (try (refine hK _ ?_; clear hK K)); try with_reducible refine iC ?_))
 simp only [go_sem, fN, seval, FinQ, AS.result, resAll, resOne, tupV]
theorem lwith_a (t x : Lm) (i : Nat) (hi : i < t.subs.length) (hz : t.subs.length ≤ 1000000000) : ACalls Tryz.prog 90 [aLm t, aInt i, aLm x] (aLm (.mk t.kind t.idx (t.subs.set i x))) := by
 obtain ⟨a, ha⟩ := get_lt hi
 have hne : ¬ t.subs = [] := fun e => by rw [e] at hi; simp at hi
 refine ok_reduce_with.ac fun C hC => ?_
 unfold ir_reduce_with
 repeat' (first | (with_reducible first | refine W ?_ | refine Z0 ?_) | ((with_reducible first | refine Wo (fun K hK => ?_) | refine Wp ?_ | refine Wq ?_ | refine Wr ?_); (try simp only [go_sem, fN, seval, eT, iR, hi, hne, dT, dF, nL]); (repeat with_reducible refine Ai ?_); (try (refine hK _ ?_; clear hK K)); try with_reducible refine iC ?_))
 simp only [go_sem, fN, seval, eT, iR, ha]
 refine hK _ ?_
 clear hK K
 refine seqQ_normal ?_
 refine IWP.ghost (Ghost.share (id := 15) rfl) ?_
 repeat' (first | (with_reducible first | refine W ?_ | refine Z0 ?_) | ((with_reducible first | refine Wo (fun K hK => ?_) | refine Wp ?_ | refine Wq ?_ | refine Wr ?_); (try simp only [go_sem, fN, seval, eT, iR, dT, dF, nL]); (repeat with_reducible refine Ai ?_); (try (refine hK _ ?_; clear hK K)); try with_reducible refine iC ?_))
 simp only [go_sem, fN, seval, FinQ, AS.result, resAll, resOne, tupV]
 simp [encL_eq, Lm.kind_mk, Lm.idx_mk, Lm.subs_mk]

def Lm.stepR (t : Lm) : AV := .tup [aLm (t.outer.getD t), aBool t.outer.isSome]
theorem Lm.outer_top {t y : Lm} (h : Lm.top t.kind t.subs = some y) : t.outer = some y := by rw [Lm.outer_eq, h]
theorem Lm.outer_none {t : Lm} (h : Lm.top t.kind t.subs = none) (h2 : Lm.outers t.subs = none) : t.outer = none := by rw [Lm.outer_eq, h, h2]
theorem Lm.outer_some {t : Lm} {ys : List Lm} (h : Lm.top t.kind t.subs = none) (h2 : Lm.outers t.subs = some ys) : t.outer = some (.mk t.kind t.idx ys) := by rw [Lm.outer_eq, h, h2]
theorem lOuter_a (t : Lm) (hw : t.wf) (hg : t.good 1000000000) (hz : t.size ≤ 1000000000) : ACalls Tryz.prog 61 [aLm t] t.stepR := by
 induction h : SizeOf.sizeOf t using Nat.strongRecOn generalizing t with
 | _ N ih =>
 subst h
 have hs := Lm.size_eq t
 have hlen := Lm.length_le t.subs
 unfold Lm.stepR
 rcases Lm.top_cases hw with ⟨f, x, b, h1, h2, h3, h4, h5⟩ | ⟨h5, h6⟩
 ·have hr : t.isRed = true := by unfold Lm.isRed; rw [h5]; rfl
  have hf : f ∈ t.subs := by rw [h2]; simp
  have hx : x ∈ t.subs := by rw [h2]; simp
  have hb : b ∈ f.subs := by rw [h4]; simp
  have s1 := Lm.size_sub hf
  have s2 := Lm.size_sub hx
  have s3 := Lm.size_sub hb
  rw [Lm.outer_top h5]
  refine ok_reduce_Outer.ac fun C hC => ?_
  unfold ir_reduce_Outer
  repeat' (first | (with_reducible first | refine W ?_ | refine Z0 ?_) | refine Cg _ (lRedex_a t hw) ?_ | refine Cg _ (lout_a t f x b h2 h4 (Lm.good_sub (Lm.good_sub hg hf) hb) (Lm.good_sub hg hx) (by omega) (by omega)) ?_ | ((with_reducible first | refine Wo (fun K hK => ?_) | refine Wp ?_ | refine Wq ?_ | refine Wr ?_); (try simp only [go_sem, fN, seval, eT, iR, hr, dT, dF, nL]); (repeat with_reducible refine Ai ?_); (try (refine hK _ ?_; clear hK K)); try with_reducible refine iC ?_))
  simp only [go_sem, fN, seval, FinQ, AS.result, resAll, resOne, tupV]
 ·have hr : t.isRed = false := by unfold Lm.isRed; rw [h5]; rfl
  refine ok_reduce_Outer.ac fun C hC => ?_
  unfold ir_reduce_Outer
  repeat' (first | (with_reducible first | refine W ?_ | refine Z0 ?_) | refine Cg _ (lRedex_a t hw) ?_ | ((with_reducible first | refine Wo (fun K hK => ?_) | refine Wp ?_ | refine Wq ?_ | refine Wr ?_); (try simp only [go_sem, fN, seval, eT, iR, hr, dT, dF, nL]); (repeat with_reducible refine Ai ?_); (try (refine hK _ ?_; clear hK K)); try with_reducible refine iC ?_))
  refine IWP.loopD [5, 6] (fun n s => ∃ k, k ≤ t.subs.length ∧ n = t.subs.length - k ∧ Lm.outers (t.subs.take k) = none ∧ s.env 1 = .one (.ptr 1 1 0 0) ∧ s.env 2 = .one (.ptr 2 1 0 0) ∧ s.S 1 = some (.box 24 [.st (.int .i64 t.kind), .st (.int .i64 t.idx), .st (.list (t.subs.map encL))]) ∧ s.S 2 = some (.box 24 [.st (.int .i64 0), .st (.int .i64 0), .full []]) ∧ s.env 13 = aLms t.subs ∧ s.env 14 = aInt t.subs.length ∧ s.env 15 = aInt k ∧ s.S 5 = none ∧ s.S 6 = none) t.subs.length ⟨0, Nat.zero_le _, rfl, rfl, rfl, rfl, rfl, rfl, rfl, rfl, rfl, rfl, rfl⟩ ?_
  rintro n ⟨env, S⟩ ⟨k, hk', rfl, hp, e1, e2, s1, s2, e13, e14, e15, s5, s6⟩
  simp only at e1 e2 s1 s2 e13 e14 e15 s5 s6
  by_cases hlt : (k : Int) < t.subs.length
  ·obtain ⟨a, ha⟩ := get_lt (show k < t.subs.length by omega)
   have z3 := Lm.size_sub (mem_of_get ha)
   have ih' := ih _ (Lm.lt_of_sub (mem_of_get ha)) a (Lm.wf_sub hw (mem_of_get ha)) (Lm.good_sub hg (mem_of_get ha)) (by omega) rfl
   unfold Lm.stepR at ih'
   cases ho : a.outer with
   | none =>
    rw [ho] at ih'
    repeat' (first | (with_reducible first | refine W ?_ | refine Z0 ?_) | refine Cg _ (ih') ?_ | ((with_reducible first | refine Wo (fun K hK => ?_) | refine Wp ?_ | refine Wq ?_ | refine Wr ?_); (try simp only [go_sem, fN, seval, eT, iR, e1, e2, s1, s2, e13, e14, e15, s5, s6, ha, hlt, dT, dF, nL]); (repeat with_reducible refine Ai ?_); (try (refine hK _ ?_; clear hK K)); try with_reducible refine iC ?_))
    refine then_normal ⟨t.subs.length - (k + 1), by omega, k + 1, by omega, rfl, ?_⟩
    simp only [go_sem, fN, seval, AS.drop, dropS, AC.clears, AC.clear, AC.highs, AC.high, Bool.not_false, Bool.true_and, Bool.and_self, AV.purge, AV.purges, AC.purge, ABlk.purge, List.contains_cons, List.contains_nil, Nat.reduceBEq, Bool.or_self, Bool.or_false, Bool.false_or, Bool.or_true, eT, iR, e1, e2, s1, s2, e13, e14, e15, s5, s6]
    exact ⟨Lm.outers_none ha hp ho, by congr 3⟩
   | some y =>
    rw [ho] at ih'
    rw [Lm.outer_some h5 (Lm.outers_some ha hp ho)]
    repeat' (first | (with_reducible first | refine W ?_ | refine Z0 ?_) | refine Cg _ (ih') ?_ | refine Cg _ (lwith_a t y k (by omega) (by omega)) ?_ | ((with_reducible first | refine Wo (fun K hK => ?_) | refine Wp ?_ | refine Wq ?_ | refine Wr ?_); (try simp only [go_sem, fN, seval, eT, iR, e1, e2, s1, s2, e13, e14, e15, s5, s6, ha, hlt, dT, dF, nL]); (repeat with_reducible refine Ai ?_); (try (refine hK _ ?_; clear hK K)); try with_reducible refine iC ?_))
    simp only [go_sem, fN, seval, FinQ, AS.result, resAll, resOne, tupV, e2]
    try simp [Lm.kind_mk, Lm.idx_mk, Lm.subs_mk]
  ·rw [List.take_of_length_le (by omega)] at hp
   rw [Lm.outer_none h5 hp]
   repeat' (first | (with_reducible first | refine W ?_ | refine Z0 ?_) | ((with_reducible first | refine Wo (fun K hK => ?_) | refine Wp ?_ | refine Wq ?_ | refine Wr ?_); (try simp only [go_sem, fN, seval, eT, iR, e1, e2, s1, s2, e13, e14, e15, s5, s6, hlt, dT, dF, nL]); (repeat with_reducible refine Ai ?_); (try (refine hK _ ?_; clear hK K)); try with_reducible refine iC ?_))
   simp only [go_sem, fN, seval, FinQ, AS.result, resAll, resOne, tupV, e2]
   try simp [Lm.kind_mk, Lm.idx_mk, Lm.subs_mk]
theorem lhasStep_a (t : Lm) (hw : t.wf) (hz : t.size ≤ 1000000000) : ACalls Tryz.prog 30 [aLm t] (aBool t.outer.isSome) := by
 induction h : SizeOf.sizeOf t using Nat.strongRecOn generalizing t with
 | _ N ih =>
 subst h
 have hs := Lm.size_eq t
 have hlen := Lm.length_le t.subs
 rcases Lm.top_cases hw with ⟨f, x, b, h1, h2, h3, h4, h5⟩ | ⟨h5, h6⟩
 ·have hr : t.isRed = true := by unfold Lm.isRed; rw [h5]; rfl
  rw [Lm.outer_top h5]
  refine ok_R_hasStep.ac fun C hC => ?_
  unfold ir_R_hasStep
  repeat' (first | (with_reducible first | refine W ?_ | refine Z0 ?_) | refine Cg _ (lIsRedex_a t hw) ?_ | ((with_reducible first | refine Wo (fun K hK => ?_) | refine Wp ?_ | refine Wq ?_ | refine Wr ?_); (try simp only [go_sem, fN, seval, eT, iR, hr, dT, dF, nL]); (repeat with_reducible refine Ai ?_); (try (refine hK _ ?_; clear hK K)); try with_reducible refine iC ?_))
  simp only [go_sem, fN, seval, FinQ, AS.result, resAll, resOne, tupV]
 ·have hr : t.isRed = false := by unfold Lm.isRed; rw [h5]; rfl
  refine ok_R_hasStep.ac fun C hC => ?_
  unfold ir_R_hasStep
  repeat' (first | (with_reducible first | refine W ?_ | refine Z0 ?_) | refine Cg _ (lIsRedex_a t hw) ?_ | ((with_reducible first | refine Wo (fun K hK => ?_) | refine Wp ?_ | refine Wq ?_ | refine Wr ?_); (try simp only [go_sem, fN, seval, eT, iR, hr, dT, dF, nL]); (repeat with_reducible refine Ai ?_); (try (refine hK _ ?_; clear hK K)); try with_reducible refine iC ?_))
  refine IWP.loop (fun n s => ∃ k, k ≤ t.subs.length ∧ n = t.subs.length - k ∧ Lm.outers (t.subs.take k) = none ∧ s.env 1 = .one (.ptr 1 1 0 0) ∧ s.S 1 = some (.box 24 [.st (.int .i64 t.kind), .st (.int .i64 t.idx), .st (.list (t.subs.map encL))]) ∧ s.env 3 = aInt k) t.subs.length ⟨0, Nat.zero_le _, rfl, rfl, rfl, rfl, rfl⟩ ?_
  rintro n ⟨env, S⟩ ⟨k, hk', rfl, hp, e1, s1, e3⟩
  simp only at e1 s1 e3
  by_cases hlt : (k : Int) < t.subs.length
  ·obtain ⟨a, ha⟩ := get_lt (show k < t.subs.length by omega)
   have z3 := Lm.size_sub (mem_of_get ha)
   have ih' := ih _ (Lm.lt_of_sub (mem_of_get ha)) a (Lm.wf_sub hw (mem_of_get ha)) (by omega) rfl
   cases ho : a.outer with
   | none =>
    rw [ho] at ih'
    repeat' (first | (with_reducible first | refine W ?_ | refine Z0 ?_) | refine Cg _ (ih') ?_ | ((with_reducible first | refine Wo (fun K hK => ?_) | refine Wp ?_ | refine Wq ?_ | refine Wr ?_); (try simp only [go_sem, fN, seval, eT, iR, e1, s1, e3, ha, hlt, dT, dF, nL]); (repeat with_reducible refine Ai ?_); (try (refine hK _ ?_; clear hK K)); try with_reducible refine iC ?_))
    refine then_normal ⟨t.subs.length - (k + 1), by omega, k + 1, by omega, rfl, ?_⟩
    simp only [go_sem, fN, seval, eT, iR, e1, s1, e3]
    exact ⟨Lm.outers_none ha hp ho, by congr 3⟩
   | some y =>
    rw [ho] at ih'
    rw [Lm.outer_some h5 (Lm.outers_some ha hp ho)]
    repeat' (first | (with_reducible first | refine W ?_ | refine Z0 ?_) | refine Cg _ (ih') ?_ | ((with_reducible first | refine Wo (fun K hK => ?_) | refine Wp ?_ | refine Wq ?_ | refine Wr ?_); (try simp only [go_sem, fN, seval, eT, iR, e1, s1, e3, ha, hlt, dT, dF, nL]); (repeat with_reducible refine Ai ?_); (try (refine hK _ ?_; clear hK K)); try with_reducible refine iC ?_))
    simp only [go_sem, fN, seval, FinQ, AS.result, resAll, resOne, tupV]
  ·rw [List.take_of_length_le (by omega)] at hp
   rw [Lm.outer_none h5 hp]
   repeat' (first | (with_reducible first | refine W ?_ | refine Z0 ?_) | ((with_reducible first | refine Wo (fun K hK => ?_) | refine Wp ?_ | refine Wq ?_ | refine Wr ?_); (try simp only [go_sem, fN, seval, eT, iR, e1, s1, e3, hlt, dT, dF, nL]); (repeat with_reducible refine Ai ?_); (try (refine hK _ ?_; clear hK K)); try with_reducible refine iC ?_))
   simp only [go_sem, fN, seval, FinQ, AS.result, resAll, resOne, tupV]
theorem take_set_gt {α : Type} {xs : List α} {j k : Nat} {y a : α} (hjk : j < k) (ha : xs[k]? = some a) : (xs.set j y).take (k + 1) = (xs.set j y).take k ++ [a] := by
 refine take_snoc ?_
 rw [List.getElem?_set_ne (by omega)]
 exact ha
theorem lLamStep_a (t y : Lm) (hw : t.wf) (hg : t.good 1000000000) (hz : t.size ≤ 1000000000) (hy : t.outer = some y) : ACalls Tryz.prog 31 [aLm t, aBool false] (aLm y) := by
 induction h : SizeOf.sizeOf t using Nat.strongRecOn generalizing t y with
 | _ N ih =>
 subst h
 have hs := Lm.size_eq t
 have hlen := Lm.length_le t.subs
 rcases Lm.top_cases hw with ⟨f, x, b, h1, h2, h3, h4, h5⟩ | ⟨h5, h6⟩
 ·have hr : t.isRed = true := by unfold Lm.isRed; rw [h5]; rfl
  have hf : f ∈ t.subs := by rw [h2]; simp
  have hx : x ∈ t.subs := by rw [h2]; simp
  have hb : b ∈ f.subs := by rw [h4]; simp
  have s1 := Lm.size_sub hf
  have s2 := Lm.size_sub hx
  have s3 := Lm.size_sub hb
  rw [Lm.outer_top h5] at hy
  obtain rfl := Option.some.inj hy
  refine ok_R_LamStep.ac fun C hC => ?_
  unfold ir_R_LamStep
  repeat' (first | (with_reducible first | refine W ?_ | refine Z0 ?_) | ((with_reducible first | refine Wo (fun K hK => ?_) | refine Wp ?_ | refine Wq ?_ | refine Wr ?_); (try simp only [go_sem, fN, seval, eT, iR, dT, dF, nL]); (repeat with_reducible refine Ai ?_); (try (refine hK _ ?_; clear hK K)); try with_reducible refine iC ?_))
  refine ⟨_, lIsRedex_a t hw, ?_⟩
  repeat' (first | (with_reducible first | refine W ?_ | refine Z0 ?_) | ((with_reducible first | refine Wo (fun K hK => ?_) | refine Wp ?_ | refine Wq ?_ | refine Wr ?_); (try simp only [go_sem, fN, seval, eT, iR, hr, h2, h4, dT, dF, nL]); (repeat with_reducible refine Ai ?_); (try (refine hK _ ?_; clear hK K)); try with_reducible refine iC ?_))
  refine ⟨_, lBeta_a b x (Lm.good_sub (Lm.good_sub hg hf) hb) (Lm.good_sub hg hx) (by omega) (by omega), ?_⟩
  repeat' (first | (with_reducible first | refine W ?_ | refine Z0 ?_) | ((with_reducible first | refine Wo (fun K hK => ?_) | refine Wp ?_ | refine Wq ?_ | refine Wr ?_); (try simp only [go_sem, fN, seval, eT, iR, dT, dF, nL]); (repeat with_reducible refine Ai ?_); (try (refine hK _ ?_; clear hK K)); try with_reducible refine iC ?_))
  simp only [go_sem, fN, seval, FinQ, AS.result, resAll, resOne, tupV]
 ·have hr : t.isRed = false := by unfold Lm.isRed; rw [h5]; rfl
  obtain ⟨ys, hys⟩ : ∃ ys, Lm.outers t.subs = some ys := by
   cases ho : Lm.outers t.subs with
   | none => rw [Lm.outer_none h5 ho] at hy; cases hy
   | some ys => exact ⟨ys, rfl⟩
  rw [Lm.outer_some h5 hys] at hy
  obtain rfl := Option.some.inj hy
  refine ok_R_LamStep.ac fun C hC => ?_
  unfold ir_R_LamStep
  repeat' (first | (with_reducible first | refine W ?_ | refine Z0 ?_) | refine Cg _ (lIsRedex_a t hw) ?_ | ((with_reducible first | refine Wo (fun K hK => ?_) | refine Wp ?_ | refine Wq ?_ | refine Wr ?_); (try simp only [go_sem, fN, seval, eT, iR, hr, dT, dF, nL]); (repeat with_reducible refine Ai ?_); (try (refine hK _ ?_; clear hK K)); try with_reducible refine iC ?_))
  refine IWP.ghost (Ghost.ownC 5 2 21 24 3 (xs := ([] : List Lm).map encL) rfl rfl rfl lens_encL) ?_
  refine IWP.loop (fun n s => ∃ (k : Nat) (done : Bool) (row : List Lm), k ≤ t.subs.length ∧ n = t.subs.length - k ∧ row.length = k ∧ ((done = false ∧ row = t.subs.take k ∧ Lm.outers row = none) ∨ (done = true ∧ ∃ j y, j < k ∧ ys = t.subs.set j y ∧ row = ys.take k)) ∧ s.env 1 = aBool false ∧ s.env 2 = .one (.ptr 2 1 0 0) ∧ s.env 4 = .one (.ptr 4 1 0 0) ∧ s.env 5 = .one (.ptr 5 1 0 0) ∧ s.S 2 = some (.box 24 [.st (.int .i64 t.kind), .st (.int .i64 t.idx), .st (.list (t.subs.map encL))]) ∧ s.S 4 = some (.box 24 [.st (.int .i64 0), .st (.int .i64 0), .full []])
   ∧ s.S 5 = some (.box 24 [.st (.int .i64 t.kind), .st (.int .i64 t.idx), .row 21 k]) ∧ s.S 21 = some (.arow 24 3 (row.map encL)) ∧ s.env 6 = aBool done ∧ s.env 7 = aInt k) t.subs.length
   ⟨0, false, [], Nat.zero_le _, rfl, rfl, Or.inl ⟨rfl, rfl, rfl⟩, rfl, rfl, rfl, rfl, rfl, rfl, rfl, rfl, rfl, rfl⟩ ?_
  rintro n ⟨env, S⟩ ⟨k, done, row, hk', rfl, hlr, hcase, e1, e2, e4, e5, s2, s4, s5, s21, e6, e7⟩
  simp only at e1 e2 e4 e5 s2 s4 s5 s21 e6 e7
  by_cases hlt : (k : Int) < t.subs.length
  ·obtain ⟨a, ha⟩ := get_lt (show k < t.subs.length by omega)
   have z3 := Lm.size_sub (mem_of_get ha)
   have ha' := lhasStep_a a (Lm.wf_sub hw (mem_of_get ha)) (by omega)
   rcases hcase with ⟨rfl, hrow, hnone⟩ | ⟨rfl, j, y, hj, hset, hrow⟩
   ·cases ho : a.outer with
    | none =>
     rw [ho] at ha'
     repeat' (first | (with_reducible first | refine W ?_ | refine Z0 ?_) | refine Cg _ (ha') ?_ | ((with_reducible first | refine Wo (fun K hK => ?_) | refine Wp ?_ | refine Wq ?_ | refine Wr ?_); (try simp only [go_sem, fN, seval, eT, iR, e1, e2, e4, e5, s2, s4, s5, s21, e6, e7, ha, hlt, hlr, dT, dF, nL]); (repeat with_reducible refine Ai ?_); (try (refine hK _ ?_; clear hK K)); try with_reducible refine iC ?_))
     refine then_normal ⟨t.subs.length - (k + 1), by omega, k + 1, false, row ++ [a], by omega, rfl, by simp [hlr], ?_, ?_⟩
     ·refine Or.inl ⟨rfl, by rw [take_snoc ha, hrow], ?_⟩
      rw [hrow] at hnone ⊢
      rw [← take_snoc ha]
      exact Lm.outers_none ha hnone ho
     ·simp only [go_sem, fN, seval, eT, iR, e1, e2, e4, e5, s2, s4, s5, s21, e6, e7]
      exact ⟨by simp [encL_eq], by congr 3⟩
    | some z =>
     rw [ho] at ha'
     repeat' (first | (with_reducible first | refine W ?_ | refine Z0 ?_) | refine Cg _ (ha') ?_ | refine Cg _ (ih _ (Lm.lt_of_sub (mem_of_get ha)) a z (Lm.wf_sub hw (mem_of_get ha)) (Lm.good_sub hg (mem_of_get ha)) (by omega) ho rfl) ?_ | ((with_reducible first | refine Wo (fun K hK => ?_) | refine Wp ?_ | refine Wq ?_ | refine Wr ?_); (try simp only [go_sem, fN, seval, eT, iR, e1, e2, e4, e5, s2, s4, s5, s21, e6, e7, ha, hlt, hlr, dT, dF, nL]); (repeat with_reducible refine Ai ?_); (try (refine hK _ ?_; clear hK K)); try with_reducible refine iC ?_))
     have hys2 := Lm.outers_some ha (hrow ▸ hnone) ho
     rw [hys] at hys2
     refine then_normal ⟨t.subs.length - (k + 1), by omega, k + 1, true, row ++ [z], by omega, rfl, by simp [hlr], ?_, ?_⟩
     ·refine Or.inr ⟨rfl, k, z, by omega, Option.some.inj hys2, ?_⟩
      rw [Option.some.inj hys2, take_snoc (a := z) (by rw [List.getElem?_set_self (by omega)]), List.take_set_of_le (Nat.le_refl k), hrow]
     ·simp only [go_sem, fN, seval, eT, iR, e1, e2, e4, e5, s2, s4, s5, s21, e6, e7]
      exact ⟨by simp [encL_eq], by congr 3⟩
   ·repeat' (first | (with_reducible first | refine W ?_ | refine Z0 ?_) | ((with_reducible first | refine Wo (fun K hK => ?_) | refine Wp ?_ | refine Wq ?_ | refine Wr ?_); (try simp only [go_sem, fN, seval, eT, iR, e1, e2, e4, e5, s2, s4, s5, s21, e6, e7, ha, hlt, hlr, dT, dF, nL]); (repeat with_reducible refine Ai ?_); (try (refine hK _ ?_; clear hK K)); try with_reducible refine iC ?_))
    refine then_normal ⟨t.subs.length - (k + 1), by omega, k + 1, true, row ++ [a], by omega, rfl, by simp [hlr], ?_, ?_⟩
    ·refine Or.inr ⟨rfl, j, y, by omega, hset, ?_⟩
     rw [hset, take_set_gt hj ha, hrow, hset]
    ·simp only [go_sem, fN, seval, eT, iR, e1, e2, e4, e5, s2, s4, s5, s21, e6, e7]
     exact ⟨by simp [encL_eq], by congr 3⟩
  ·have hfull : row = ys := by
    rcases hcase with ⟨_, hrow, hnone⟩ | ⟨_, j, y, hj, hset, hrow⟩
    ·rw [hrow, List.take_of_length_le (by omega), hys] at hnone
     cases hnone
    ·have := Lm.outers_length hys
     rw [hrow, List.take_of_length_le (by omega)]
   subst hfull
   repeat' (first | (with_reducible first | refine W ?_ | refine Z0 ?_) | ((with_reducible first | refine Wo (fun K hK => ?_) | refine Wp ?_ | refine Wq ?_ | refine Wr ?_); (try simp only [go_sem, fN, seval, eT, iR, e1, e2, e4, e5, s2, s4, s5, s21, e6, e7, hlt, dT, dF, nL]); (repeat with_reducible refine Ai ?_); (try (refine hK _ ?_; clear hK K)); try with_reducible refine iC ?_))
   simp only [go_sem, fN, seval, FinQ, AS.result, resAll, resOne, tupV, e4, s4, s5, s21, hlr]
   try simp [Lm.kind_mk, Lm.idx_mk, Lm.subs_mk]

abbrev aRun (r : Lm × Int × Int) : AV := .tup [aLm r.1, aInt r.2.1, aInt r.2.2]
theorem lLast_a (t : Lm) (m : Nat) (hm : m ≤ 400) (hw : t.wf) (hz : t.size ≤ 2000) (hg : t.good 1000000) : ACalls Tryz.prog 60 [aLm t, aInt m, .one (.fn 61 [])] (aRun (Lm.run m 0 t)) := by
 refine ok_reduce_Last.ac fun C hC => ?_
 unfold ir_reduce_Last
 repeat' (first | (with_reducible first | refine W ?_ | refine Z0 ?_) | ((with_reducible first | refine Wo (fun K hK => ?_) | refine Wp ?_ | refine Wq ?_ | refine Wr ?_); (try simp only [go_sem, fN, seval, eT, iR, dT, dF, nL]); (repeat with_reducible refine Ai ?_); (try (refine hK _ ?_; clear hK K)); try with_reducible refine iC ?_))
 refine IWP.loopD [10] (fun n s => ∃ (k : Nat) (t' : Lm), k ≤ m ∧ n = m - k ∧ Lm.run (m - k) k t' = Lm.run m 0 t ∧ t'.wf ∧ t'.size ≤ 2000 ∧ t'.good (1000000 + 2000 * k) ∧ s.env 1 = aInt m ∧ s.env 2 = .one (.fn 61 []) ∧ s.env 3 = .one (.ptr 3 1 0 0) ∧ s.env 6 = .one (.ptr 6 1 0 0) ∧ s.S 3 = some (.box 24 [.st (.int .i64 t'.kind), .st (.int .i64 t'.idx), .st (.list (t'.subs.map encL))]) ∧ s.S 6 = some (.box 24 [.st (.int .i64 0), .st (.int .i64 0), .full []]) ∧ s.env 9 = aInt k ∧ s.S 10 = none) m
  ⟨0, t, Nat.zero_le _, rfl, rfl, hw, hz, by simpa using hg, rfl, rfl, rfl, rfl, rfl, rfl, rfl, rfl⟩ ?_
 rintro n ⟨env, S⟩ ⟨k, t', hk, rfl, hR, hw', hz', hg', e1, e2, e3, e6, s3, s6, e9, s10⟩
 simp only at e1 e2 e3 e6 s3 s6 e9 s10
 have hg9 := Lm.good_mono (c := 1000000000) (by omega) t' hg'
 have hO := lOuter_a t' hw' hg9 (by omega)
 unfold Lm.stepR at hO
 rw [← hR]
 cases ho : t'.outer with
 | none =>
  rw [ho] at hO
  rw [Lm.run_none ho]
  repeat' (first | (with_reducible first | refine W ?_ | refine Z0 ?_) | ((with_reducible first | refine Wo (fun K hK => ?_) | refine Wp ?_ | refine Wq ?_ | refine Wr ?_); (try simp only [go_sem, fN, seval, eT, iR, e1, e2, e3, e6, s3, s6, e9, s10, dT, dF, nL]); (repeat with_reducible refine Ai ?_); (try (refine hK _ ?_; clear hK K)); try with_reducible refine iC ?_))
  refine ⟨by kernel_rfl, _, _, hO.toS rfl, ?_⟩
  repeat' (first | (with_reducible first | refine W ?_ | refine Z0 ?_) | refine Cg _ (lCopy_a t' hg9 (by omega)) ?_ | ((with_reducible first | refine Wo (fun K hK => ?_) | refine Wp ?_ | refine Wq ?_ | refine Wr ?_); (try simp only [go_sem, fN, seval, eT, iR, e1, e2, e3, e6, s3, s6, e9, s10, dT, dF, nL]); (repeat with_reducible refine Ai ?_); (try (refine hK _ ?_; clear hK K)); try with_reducible refine iC ?_))
  simp only [go_sem, fN, seval, FinQ, AS.result, resAll, resOne, tupV, e6]
 | some y =>
  rw [ho] at hO
  have hsy := Lm.size_outer ho
  have hsq : t'.size * t'.size ≤ 2000 * 2000 := Nat.mul_le_mul hz' hz'
  rcases Nat.lt_or_ge k m with hkm | hkm
  ·have hne : ¬ (k : Int) = m := by omega
   obtain ⟨l, hl⟩ : ∃ l, m - k = l + 1 := ⟨m - k - 1, by omega⟩
   rw [hl, Lm.run_succ ho]
   rw [hl, Lm.run_succ ho] at hR
   by_cases hbig : 2000 < y.size
   ·rw [if_pos hbig]
    repeat' (first | (with_reducible first | refine W ?_ | refine Z0 ?_) | ((with_reducible first | refine Wo (fun K hK => ?_) | refine Wp ?_ | refine Wq ?_ | refine Wr ?_); (try simp only [go_sem, fN, seval, eT, iR, e1, e2, e3, e6, s3, s6, e9, s10, dT, dF, nL]); (repeat with_reducible refine Ai ?_); (try (refine hK _ ?_; clear hK K)); try with_reducible refine iC ?_))
    refine ⟨by kernel_rfl, _, _, hO.toS rfl, ?_⟩
    repeat' (first | (with_reducible first | refine W ?_ | refine Z0 ?_) | ((with_reducible first | refine Wo (fun K hK => ?_) | refine Wp ?_ | refine Wq ?_ | refine Wr ?_); (try simp only [go_sem, fN, seval, eT, iR, e1, e2, e3, e6, s3, s6, e9, s10, hne, dT, dF, nL]); (repeat with_reducible refine Ai ?_); (try (refine hK _ ?_; clear hK K)); try with_reducible refine iC ?_))
    refine ⟨_, lsize_a y (by omega), ?_⟩
    have hbig' : (2000 : Int) < y.size := by omega
    repeat' (first | (with_reducible first | refine W ?_ | refine Z0 ?_) | ((with_reducible first | refine Wo (fun K hK => ?_) | refine Wp ?_ | refine Wq ?_ | refine Wr ?_); (try simp only [go_sem, fN, seval, eT, iR, e1, e2, e3, e6, s3, s6, e9, s10, hbig', dT, dF, nL]); (repeat with_reducible refine Ai ?_); (try (refine hK _ ?_; clear hK K)); try with_reducible refine iC ?_))
    simp only [go_sem, fN, seval, FinQ, AS.result, resAll, resOne, tupV, e6, Lm.nil]
    rfl
   ·rw [if_neg hbig] at hR ⊢
    repeat' (first | (with_reducible first | refine W ?_ | refine Z0 ?_) | ((with_reducible first | refine Wo (fun K hK => ?_) | refine Wp ?_ | refine Wq ?_ | refine Wr ?_); (try simp only [go_sem, fN, seval, eT, iR, e1, e2, e3, e6, s3, s6, e9, s10, dT, dF, nL]); (repeat with_reducible refine Ai ?_); (try (refine hK _ ?_; clear hK K)); try with_reducible refine iC ?_))
    refine ⟨by kernel_rfl, _, _, hO.toS rfl, ?_⟩
    repeat' (first | (with_reducible first | refine W ?_ | refine Z0 ?_) | ((with_reducible first | refine Wo (fun K hK => ?_) | refine Wp ?_ | refine Wq ?_ | refine Wr ?_); (try simp only [go_sem, fN, seval, eT, iR, e1, e2, e3, e6, s3, s6, e9, s10, hne, dT, dF, nL]); (repeat with_reducible refine Ai ?_); (try (refine hK _ ?_; clear hK K)); try with_reducible refine iC ?_))
    refine ⟨_, lsize_a y (by omega), ?_⟩
    have hbig' : ¬ (2000 : Int) < y.size := by omega
    repeat' (first | (with_reducible first | refine W ?_ | refine Z0 ?_) | ((with_reducible first | refine Wo (fun K hK => ?_) | refine Wp ?_ | refine Wq ?_ | refine Wr ?_); (try simp only [go_sem, fN, seval, eT, iR, e1, e2, e3, e6, s3, s6, e9, s10, hbig', dT, dF, nL]); (repeat with_reducible refine Ai ?_); (try (refine hK _ ?_; clear hK K)); try with_reducible refine iC ?_))
    refine then_normal ⟨m - (k + 1), by omega, k + 1, y, by omega, rfl, ?_, Lm.wf_outer hw' ho, by omega, Lm.good_mono (by omega) y (Lm.good_outer (D := 2000) (by decide) (by omega) hg' ho), ?_⟩
    ·rw [show m - (k + 1) = l by omega]
     congr 1
    ·simp only [go_sem, fN, seval, AS.drop, dropS, AC.clears, AC.clear, AC.highs, AC.high, Bool.not_false, Bool.true_and, Bool.and_self, AV.purge, AV.purges, AC.purge, ABlk.purge, List.contains_cons, List.contains_nil, Nat.reduceBEq, Bool.or_self, Bool.or_false, Bool.false_or, Bool.or_true, eT, iR, e1, e2, e3, e6, s3, s6, e9, s10]
     congr 3
  ·have hkm' : k = m := by omega
   subst hkm'
   rw [Nat.sub_self, Lm.run_zero ho]
   repeat' (first | (with_reducible first | refine W ?_ | refine Z0 ?_) | ((with_reducible first | refine Wo (fun K hK => ?_) | refine Wp ?_ | refine Wq ?_ | refine Wr ?_); (try simp only [go_sem, fN, seval, eT, iR, e1, e2, e3, e6, s3, s6, e9, s10, dT, dF, nL]); (repeat with_reducible refine Ai ?_); (try (refine hK _ ?_; clear hK K)); try with_reducible refine iC ?_))
   refine ⟨by kernel_rfl, _, _, hO.toS rfl, ?_⟩
   repeat' (first | (with_reducible first | refine W ?_ | refine Z0 ?_) | ((with_reducible first | refine Wo (fun K hK => ?_) | refine Wp ?_ | refine Wq ?_ | refine Wr ?_); (try simp only [go_sem, fN, seval, eT, iR, e1, e2, e3, e6, s3, s6, e9, s10, dT, dF, nL]); (repeat with_reducible refine Ai ?_); (try (refine hK _ ?_; clear hK K)); try with_reducible refine iC ?_))
   simp only [go_sem, fN, seval, FinQ, AS.result, resAll, resOne, tupV, e6, Lm.nil]
   rfl
theorem lLamEnd_a (t : Lm) (m : Nat) (hm : m ≤ 400) (hw : t.wf) (hz : t.size ≤ 2000) (hg : t.good 1000000) : ACalls Tryz.prog 13 [aLm t, aInt m, aBool false] (aRun (Lm.run m 0 t)) := by
 refine ok_R_LamEnd.ac fun C hC => ?_
 unfold ir_R_LamEnd
 repeat' (first | (with_reducible first | refine W ?_ | refine Z0 ?_) | ((with_reducible first | refine Wo (fun K hK => ?_) | refine Wp ?_ | refine Wq ?_ | refine Wr ?_); (try simp only [go_sem, fN, seval, eT, iR, dT, dF, nL]); (repeat with_reducible refine Ai ?_); (try (refine hK _ ?_; clear hK K)); try with_reducible refine iC ?_))
 refine IWP.loop (fun n s => ∃ (k : Nat) (t' : Lm), k ≤ m ∧ n = m - k ∧ Lm.run (m - k) k t' = Lm.run m 0 t ∧ t'.wf ∧ t'.size ≤ 2000 ∧ t'.good (1000000 + 2000 * k) ∧ s.env 1 = aInt m ∧ s.env 2 = aBool false ∧ s.env 3 = .one (.ptr 3 1 0 0) ∧ s.env 6 = .one (.ptr 6 1 0 0) ∧ s.S 3 = some (.box 24 [.st (.int .i64 t'.kind), .st (.int .i64 t'.idx), .st (.list (t'.subs.map encL))]) ∧ s.S 6 = some (.box 24 [.st (.int .i64 0), .st (.int .i64 0), .full []]) ∧ s.env 9 = aInt k) m
  ⟨0, t, Nat.zero_le _, rfl, rfl, hw, hz, by simpa using hg, rfl, rfl, rfl, rfl, rfl, rfl, rfl⟩ ?_
 rintro n ⟨env, S⟩ ⟨k, t', hk, rfl, hR, hw', hz', hg', e1, e2, e3, e6, s3, s6, e9⟩
 simp only at e1 e2 e3 e6 s3 s6 e9
 have hg9 := Lm.good_mono (c := 1000000000) (by omega) t' hg'
 have hO := lhasStep_a t' hw' (by omega)
 rw [← hR]
 cases ho : t'.outer with
 | none =>
  rw [ho] at hO
  rw [Lm.run_none ho]
  repeat' (first | (with_reducible first | refine W ?_ | refine Z0 ?_) | refine Cg _ (hO) ?_ | ((with_reducible first | refine Wo (fun K hK => ?_) | refine Wp ?_ | refine Wq ?_ | refine Wr ?_); (try simp only [go_sem, fN, seval, eT, iR, e1, e2, e3, e6, s3, s6, e9, dT, dF, nL]); (repeat with_reducible refine Ai ?_); (try (refine hK _ ?_; clear hK K)); try with_reducible refine iC ?_))
  simp only [go_sem, fN, seval, FinQ, AS.result, resAll, resOne, tupV, e6]
 | some y =>
  rw [ho] at hO
  have hsy := Lm.size_outer ho
  have hsq : t'.size * t'.size ≤ 2000 * 2000 := Nat.mul_le_mul hz' hz'
  rcases Nat.lt_or_ge k m with hkm | hkm
  ·have hne : ¬ (k : Int) = m := by omega
   obtain ⟨l, hl⟩ : ∃ l, m - k = l + 1 := ⟨m - k - 1, by omega⟩
   rw [hl, Lm.run_succ ho]
   rw [hl, Lm.run_succ ho] at hR
   by_cases hbig : 2000 < y.size
   ·rw [if_pos hbig]
    repeat' (first | (with_reducible first | refine W ?_ | refine Z0 ?_) | refine Cg _ (hO) ?_ | refine Cg _ (lLamStep_a t' y hw' hg9 (by omega) ho) ?_ | ((with_reducible first | refine Wo (fun K hK => ?_) | refine Wp ?_ | refine Wq ?_ | refine Wr ?_); (try simp only [go_sem, fN, seval, eT, iR, e1, e2, e3, e6, s3, s6, e9, hne, dT, dF, nL]); (repeat with_reducible refine Ai ?_); (try (refine hK _ ?_; clear hK K)); try with_reducible refine iC ?_))
    refine ⟨_, lsizeR_a y 2000 (by decide) (by decide), ?_⟩
    have hbig' : (2000 : Int) < capTo y.size 2000 := by unfold capTo; split <;> omega
    repeat' (first | (with_reducible first | refine W ?_ | refine Z0 ?_) | ((with_reducible first | refine Wo (fun K hK => ?_) | refine Wp ?_ | refine Wq ?_ | refine Wr ?_); (try simp only [go_sem, fN, seval, eT, iR, e1, e2, e3, e6, s3, s6, e9, hbig', dT, dF, nL]); (repeat with_reducible refine Ai ?_); (try (refine hK _ ?_; clear hK K)); try with_reducible refine iC ?_))
    simp only [go_sem, fN, seval, FinQ, AS.result, resAll, resOne, tupV, e6, Lm.nil]
    rfl
   ·rw [if_neg hbig] at hR ⊢
    repeat' (first | (with_reducible first | refine W ?_ | refine Z0 ?_) | refine Cg _ (hO) ?_ | refine Cg _ (lLamStep_a t' y hw' hg9 (by omega) ho) ?_ | ((with_reducible first | refine Wo (fun K hK => ?_) | refine Wp ?_ | refine Wq ?_ | refine Wr ?_); (try simp only [go_sem, fN, seval, eT, iR, e1, e2, e3, e6, s3, s6, e9, hne, dT, dF, nL]); (repeat with_reducible refine Ai ?_); (try (refine hK _ ?_; clear hK K)); try with_reducible refine iC ?_))
    refine ⟨_, lsizeR_a y 2000 (by decide) (by decide), ?_⟩
    have hbig' : ¬ (2000 : Int) < capTo y.size 2000 := by unfold capTo; split <;> omega
    repeat' (first | (with_reducible first | refine W ?_ | refine Z0 ?_) | ((with_reducible first | refine Wo (fun K hK => ?_) | refine Wp ?_ | refine Wq ?_ | refine Wr ?_); (try simp only [go_sem, fN, seval, eT, iR, e1, e2, e3, e6, s3, s6, e9, hbig', dT, dF, nL]); (repeat with_reducible refine Ai ?_); (try (refine hK _ ?_; clear hK K)); try with_reducible refine iC ?_))
    refine then_normal ⟨m - (k + 1), by omega, k + 1, y, by omega, rfl, ?_, Lm.wf_outer hw' ho, by omega, Lm.good_mono (by omega) y (Lm.good_outer (D := 2000) (by decide) (by omega) hg' ho), ?_⟩
    ·rw [show m - (k + 1) = l by omega]
     congr 1
    ·simp only [go_sem, fN, seval, eT, iR, e1, e2, e3, e6, s3, s6, e9]
     congr 3
  ·have hkm' : k = m := by omega
   subst hkm'
   rw [Nat.sub_self, Lm.run_zero ho]
   repeat' (first | (with_reducible first | refine W ?_ | refine Z0 ?_) | refine Cg _ (hO) ?_ | ((with_reducible first | refine Wo (fun K hK => ?_) | refine Wp ?_ | refine Wq ?_ | refine Wr ?_); (try simp only [go_sem, fN, seval, eT, iR, e1, e2, e3, e6, s3, s6, e9, dT, dF, nL]); (repeat with_reducible refine Ai ?_); (try (refine hK _ ?_; clear hK K)); try with_reducible refine iC ?_))
   simp only [go_sem, fN, seval, FinQ, AS.result, resAll, resOne, tupV, e6, Lm.nil]
   rfl
def argsErr (t : Lm) (u most : Int) : Int := if t.may 0 u = 0 then (if most < 0 ∨ 400 < most then 3 else 0) else t.may 0 u
theorem lArgs_a (t : Lm) (u most : Int) : ACalls Tryz.prog 59 [aLm t, aInt u, aInt most] (aInt (argsErr t u most)) := by
 refine ok_reduce_args.ac fun C hC => ?_
 unfold ir_reduce_args
 unfold argsErr
 by_cases h1 : t.may 0 u = 0
 ·rw [if_pos h1]
  by_cases h2 : most < 0
  ·rw [if_pos (Or.inl h2)]
   repeat' (first | (with_reducible first | refine W ?_ | refine Z0 ?_) | refine Cg _ (lCheck_a t u) ?_ | ((with_reducible first | refine Wo (fun K hK => ?_) | refine Wp ?_ | refine Wq ?_ | refine Wr ?_); (try simp only [go_sem, fN, seval, eT, iR, h1, h2, dT, dF, nL]); (repeat with_reducible refine Ai ?_); (try (refine hK _ ?_; clear hK K)); try with_reducible refine iC ?_))
   simp only [go_sem, fN, seval, FinQ, AS.result, resAll, resOne, tupV]
  ·by_cases h3 : 400 < most
   ·rw [if_pos (Or.inr h3)]
    repeat' (first | (with_reducible first | refine W ?_ | refine Z0 ?_) | refine Cg _ (lCheck_a t u) ?_ | ((with_reducible first | refine Wo (fun K hK => ?_) | refine Wp ?_ | refine Wq ?_ | refine Wr ?_); (try simp only [go_sem, fN, seval, eT, iR, h1, h2, h3, dT, dF, nL]); (repeat with_reducible refine Ai ?_); (try (refine hK _ ?_; clear hK K)); try with_reducible refine iC ?_))
    simp only [go_sem, fN, seval, FinQ, AS.result, resAll, resOne, tupV]
   ·rw [if_neg (by omega)]
    repeat' (first | (with_reducible first | refine W ?_ | refine Z0 ?_) | refine Cg _ (lCheck_a t u) ?_ | ((with_reducible first | refine Wo (fun K hK => ?_) | refine Wp ?_ | refine Wq ?_ | refine Wr ?_); (try simp only [go_sem, fN, seval, eT, iR, h1, h2, h3, dT, dF, nL]); (repeat with_reducible refine Ai ?_); (try (refine hK _ ?_; clear hK K)); try with_reducible refine iC ?_))
    simp only [go_sem, fN, seval, FinQ, AS.result, resAll, resOne, tupV]
 ·rw [if_neg h1]
  repeat' (first | (with_reducible first | refine W ?_ | refine Z0 ?_) | refine Cg _ (lCheck_a t u) ?_ | ((with_reducible first | refine Wo (fun K hK => ?_) | refine Wp ?_ | refine Wq ?_ | refine Wr ?_); (try simp only [go_sem, fN, seval, eT, iR, h1, dT, dF, nL]); (repeat with_reducible refine Ai ?_); (try (refine hK _ ?_; clear hK K)); try with_reducible refine iC ?_))
  simp only [go_sem, fN, seval, FinQ, AS.result, resAll, resOne, tupV]
theorem argsErr_ok {t : Lm} {u most : Int} (h : argsErr t u most = 0) : 0 ≤ u ∧ u ≤ 40 ∧ t.size ≤ 200 ∧ t.chk 0 u = 0 ∧ 0 ≤ most ∧ most ≤ 400 := by
 unfold argsErr at h
 split at h
 ·rename_i h1
  obtain ⟨a, b, c, d⟩ := Lm.may_ok h1
  split at h
  ·omega
  ·exact ⟨a, b, c, d, by omega, by omega⟩
 ·rename_i h1
  exact absurd h h1
def normalR (t : Lm) (u most : Int) : Lm × Int × Int := if argsErr t u most = 0 then Lm.run most.toNat 0 t else (Lm.nil, 0, argsErr t u most)
theorem lNormal_a (t : Lm) (u most : Int) : ACalls Tryz.prog 38 [aLm t, aInt u, aInt most] (aRun (normalR t u most)) := by
 refine ok_reduce_Normal.ac fun C hC => ?_
 unfold ir_reduce_Normal
 unfold normalR
 by_cases h1 : argsErr t u most = 0
 ·rw [if_pos h1]
  obtain ⟨a1, a2, a3, a4, a5, a6⟩ := argsErr_ok h1
  obtain ⟨m, rfl⟩ : ∃ m : Nat, most = m := ⟨most.toNat, by omega⟩
  rw [Int.toNat_natCast]
  repeat' (first | (with_reducible first | refine W ?_ | refine Z0 ?_) | refine Cg _ (lArgs_a t u m) ?_ | refine Cg _ (lLast_a t m (by omega) (Lm.wf_chk t u a4) (by omega) (Lm.good_chk (by decide) t u 1000000 a1 (by omega) (by decide) a4)) ?_ | ((with_reducible first | refine Wo (fun K hK => ?_) | refine Wp ?_ | refine Wq ?_ | refine Wr ?_); (try simp only [go_sem, fN, seval, eT, iR, h1, dT, dF, nL]); (repeat with_reducible refine Ai ?_); (try (refine hK _ ?_; clear hK K)); try with_reducible refine iC ?_))
  simp only [go_sem, fN, seval, FinQ, AS.result, resAll, resOne, tupV]
 ·rw [if_neg h1]
  repeat' (first | (with_reducible first | refine W ?_ | refine Z0 ?_) | refine Cg _ (lArgs_a t u most) ?_ | ((with_reducible first | refine Wo (fun K hK => ?_) | refine Wp ?_ | refine Wq ?_ | refine Wr ?_); (try simp only [go_sem, fN, seval, eT, iR, h1, dT, dF, nL]); (repeat with_reducible refine Ai ?_); (try (refine hK _ ?_; clear hK K)); try with_reducible refine iC ?_))
  simp only [go_sem, fN, seval, FinQ, AS.result, resAll, resOne, tupV, Lm.nil]
  rfl

set_option maxRecDepth 100000
def ir_R_LongOf : IR :=
 (.seq (.ops [.i 4 (.box 24 (.t 0)), .i 5 (.box 27 (.t 1)), .i 8 (.alloc 24 [.st (.int .i64 0), .st (.int .i64 0), .full []]), .i 9 (.mov (.n 0))]) (.seq (.seq (.ops [.m 16 3, .i 17 (.bin .lss (.t 16) (.n 0))]) (.cond (.t 17) (.seq (.ops [.L 18 3 4, .m 19 3, .s 3 8 18, .m 9 19]) .ret) .skip)) (.seq (.seq (.ops [.f 20 1 5, .l 21 20, .i 22 (.len false (.t 21)), .i 23 (.bin .gtr (.t 22) (.n 0))]) (.cond (.t 23) (.seq (.ops [.L 24 3 4, .i 10 (.alloc 24 [.st (.int .i64 0), .st (.int .i64 0), .full []]), .s 3 10 24]) (.seq (.seq (.ops [.f 25 0 4, .l 26 25, .i 27 (.bin .eql (.t 26) (.n 2))]) (.cond (.t 27) (.ops [.f 28 2 4, .l 29 28, .i 30 (.indexAddr 3 (.t 29) (.n 0)), .L 31 3 30, .s 3 10 31]) (.ops [.L 32 3 4, .i 33 (.call 33 [.t 32, .n 1, .n 0]), .i 34 (.call 34 [.n 0]), .i 35 (.call 32 [.t 33, .t 34]), .s 3 10 35]))) (.seq (.ops [.mk (some 37) none (.load true 3 (.t 10)) (.onb 10), .mk (some 38) none (.fieldAddr 1 (.t 5)) (.onb 5), .mk (some 39) none (.load false 1 (.t 38)) (.onb 5), .i 40 (.indexL 2 (.t 39) (.n 1)), .i 41 (.loadL true 2 (.t 40)), .i 42 (.buildL 2 []), .m 43 2, .mk (some 44) none (.append false 27 2 32 (.t 42) (.t 43)) (.keeps [10, 5, 5, 5, 5]), .mk (some 45) none (.fieldAddr 1 (.t 5)) (.onb 5), .mk (some 46) none (.load false 1 (.t 45)) (.onb 5), .i 47 (.indexL 2 (.t 46) (.n 0)), .i 48 (.loadL true 2 (.t 47)), .i 49 (.buildL 2 [.t 48]), .mk (some 50) none (.append false 27 2 32 (.t 44) (.t 49)) (.keeps [10, 5, 5]), .m 51 3, .i 52 (.bin .sub (.t 51) (.n 1)), .i 53 (.call 14 [.t 37, .t 41, .t 50, .t 52]), .m 36 53, .i 54 (.extract 0 (.t 36)), .i 55 (.extract 1 (.t 36)), .i 11 (.alloc 24 [.st (.int .i64 0), .st (.int .i64 0), .full []]), .s 3 11 54, .m 12 55]) (.seq (.ops [.L 56 3 11, .i 57 (.call 35 [.t 56]), .m 58 12, .s 3 8 57, .m 9 58]) .ret)))) .skip)) (.seq (.ops [.L 60 3 4, .m 61 2, .m 62 3, .i 63 (.call 36 [.t 60, .t 61, .t 62]), .m 59 63, .i 64 (.extract 0 (.t 59)), .i 65 (.extract 1 (.t 59)), .i 66 (.extract 2 (.t 59)), .i 13 (.alloc 24 [.st (.int .i64 0), .st (.int .i64 0), .full []]), .i 14 (.alloc 27 [.st (.int .i64 0), .full []]), .s 3 13 64, .s 2 14 65, .m 15 66]) (.seq (.ops [.L 67 3 13, .m 68 15, .s 3 8 67, .m 9 68]) .ret)))))
theorem ok_R_LongOf : OkF Tryz.prog 14 69 [60000040, 60000041, 60000042, 60000047, 60000048, 60000049] ir_R_LongOf [.cell 8 true 3, .t 9] := .of Tryz.func14 rfl rfl (by kernel_rfl) rfl
def ir_R_headOf : IR :=
 (.seq (.ops [.i 3 (.box 24 (.t 0)), .i 6 (.alloc 24 [.st (.int .i64 0), .st (.int .i64 0), .full []]), .i 7 (.alloc 27 [.st (.int .i64 0), .full []]), .i 8 (.mov (.n 0))]) (.seq (.seq (.ops [.f 13 0 3, .l 14 13, .i 15 (.bin .eql (.t 14) (.n 1))]) (.cond (.t 15) (.seq (.ops [.L 16 3 3, .m 17 1, .m 18 1, .i 19 (.lenL false (.t 18)), .i 20 (.bin .sub (.t 19) (.n 1)), .mk (some 21) none (.fieldAddr 1 (.t 3)) (.onb 3), .mk (some 22) none (.load false 1 (.t 21)) (.onb 3), .i 23 (.bin .sub (.t 20) (.t 22)), .i 24 (.indexL 2 (.t 17) (.t 23)), .i 25 (.loadL true 2 (.t 24)), .m 26 2, .i 27 (.bin .sub (.t 26) (.n 1)), .mk none none (.store 3 (.t 6) (.t 16)) (.onb 6), .s 2 7 25, .m 8 27]) .ret) .skip)) (.seq (.ops [.f 29 2 3, .l 30 29, .i 31 (.indexAddr 3 (.t 30) (.n 0)), .L 32 3 31, .m 33 1, .m 34 2, .i 35 (.call 36 [.t 32, .t 33, .t 34]), .m 28 35, .i 36 (.extract 0 (.t 28)), .i 37 (.extract 1 (.t 28)), .i 38 (.extract 2 (.t 28)), .i 9 (.alloc 24 [.st (.int .i64 0), .st (.int .i64 0), .full []]), .i 10 (.alloc 27 [.st (.int .i64 0), .full []]), .s 3 9 36, .s 2 10 37, .m 11 38]) (.seq (.ops [.f 40 2 3, .l 41 40, .i 42 (.indexAddr 3 (.t 41) (.n 1)), .L 43 3 42, .f 44 1 10, .l 45 44, .i 46 (.indexAddr 2 (.t 45) (.n 0)), .L 47 2 46, .m 48 1, .m 49 11, .i 50 (.call 14 [.t 43, .t 47, .t 48, .t 49]), .m 39 50, .i 51 (.extract 0 (.t 39)), .i 52 (.extract 1 (.t 39)), .i 12 (.alloc 24 [.st (.int .i64 0), .st (.int .i64 0), .full []]), .s 3 12 51, .m 11 52]) (.seq (.ops [.L 53 3 9, .L 54 3 12, .i 55 (.call 32 [.t 53, .t 54]), .mk (some 56) none (.fieldAddr 1 (.t 10)) (.onb 10), .mk (some 57) none (.load false 1 (.t 56)) (.onb 10), .i 58 (.indexL 2 (.t 57) (.n 1)), .i 59 (.loadL true 2 (.t 58)), .m 60 11, .i 61 (.bin .sub (.t 60) (.n 1)), .mk none none (.store 3 (.t 6) (.t 55)) (.onb 6), .s 2 7 59, .m 8 61]) .ret)))))
theorem ok_R_headOf : OkF Tryz.prog 36 62 [60000019, 60000024, 60000025, 60000058, 60000059] ir_R_headOf [.cell 6 true 3, .cell 7 true 2, .t 8] := .of Tryz.func36 rfl rfl (by kernel_rfl) rfl
def ir_metaprune_long_maker_put : IR :=
 (.seq (.ops [.i 3 (.box 24 (.t 1)), .i 4 (.alloc 24 [.st (.int .i64 0), .st (.int .i64 0), .full []])]) (.seq (.ops [.m 5 0, .i 6 (.nilCheck (.t 5)), .f 7 0 6, .l 8 7, .i 9 (.bin .sub (.t 8) (.n 1)), .i 10 (.nilCheck (.t 5)), .f 11 0 10, .s 1 11 9]) (.seq (.ops [.L 12 3 3, .s 3 4 12]) .ret)))
theorem ok_metaprune_long_maker_put : OkF Tryz.prog 65 13 [] ir_metaprune_long_maker_put [.cell 4 true 3] := .of Tryz.func65 rfl rfl (by kernel_rfl) rfl
def ir_metaprune_long_maker_of : IR :=
 (.seq (.ops [.i 5 (.box 24 (.t 1)), .i 6 (.box 27 (.t 2)), .i 8 (.alloc 24 [.st (.int .i64 0), .st (.int .i64 0), .full []])]) (.seq (.seq (.ops [.m 12 0, .i 13 (.nilCheck (.t 12)), .f 14 0 13, .l 15 14, .i 16 (.bin .lss (.t 15) (.n 0))]) (.cond (.t 16) (.seq (.ops [.L 17 3 5, .s 3 8 17]) .ret) .skip)) (.seq (.seq (.ops [.f 18 1 6, .l 19 18, .i 20 (.len false (.t 19)), .i 21 (.bin .gtr (.t 20) (.n 0))]) (.cond (.t 21) (.seq (.ops [.L 22 3 5, .i 9 (.alloc 24 [.st (.int .i64 0), .st (.int .i64 0), .full []]), .s 3 9 22]) (.seq (.seq (.ops [.f 23 0 5, .l 24 23, .i 25 (.bin .eql (.t 24) (.n 2))]) (.cond (.t 25) (.ops [.f 26 2 5, .l 27 26, .i 28 (.indexAddr 3 (.t 27) (.n 0)), .L 29 3 28, .s 3 9 29]) (.ops [.L 30 3 5, .i 31 (.call 63 [.t 30, .n 1, .n 0]), .i 32 (.call 64 [.n 0]), .i 33 (.call 62 [.t 31, .t 32]), .s 3 9 33]))) (.seq (.ops [.m 34 0, .m 35 0, .L 36 3 9, .f 37 1 6, .l 38 37, .i 39 (.indexL 2 (.t 38) (.n 1)), .i 40 (.loadL true 2 (.t 39)), .m 41 3, .m 42 3, .i 43 (.lenL false (.t 42)), .m 44 3, .i 45 (.lenL false (.t 44)), .i 46 (.sliceM 2 (.t 41) (.t 43) (.t 45)), .f 47 1 6, .l 48 47, .i 49 (.indexL 2 (.t 48) (.n 0)), .i 50 (.loadL true 2 (.t 49)), .i 51 (.buildL 2 [.t 50]), .i 52 (.appF false 27 2 32 (.t 46) (.t 51)), .i 53 (.callS 39 [.t 35, .t 36, .t 40, .t 52]), .i 54 (.call 66 [.t 53]), .i 55 (.callS 65 [.t 34, .t 54]), .s 3 8 55]) .ret))) .skip)) (.seq (.ops [.m 57 0, .L 58 3 5, .m 59 3, .i 60 (.callS 67 [.t 57, .t 58, .t 59]), .m 56 60, .i 61 (.extract 0 (.t 56)), .i 62 (.extract 1 (.t 56)), .i 10 (.alloc 24 [.st (.int .i64 0), .st (.int .i64 0), .full []]), .i 11 (.alloc 27 [.st (.int .i64 0), .full []]), .s 3 10 61, .s 2 11 62]) (.seq (.ops [.L 63 3 10, .s 3 8 63]) .ret)))))
theorem ok_metaprune_long_maker_of : OkF Tryz.prog 39 64 [53, 55, 60, 60000039, 60000040, 60000043, 60000045, 60000049, 60000050, 60000051, 60000052] ir_metaprune_long_maker_of [.cell 8 true 3] := .of Tryz.func39 rfl rfl (by kernel_rfl) rfl
def ir_metaprune_long_maker_head : IR :=
 (.seq (.ops [.i 4 (.box 24 (.t 1)), .i 6 (.alloc 24 [.st (.int .i64 0), .st (.int .i64 0), .full []]), .i 7 (.alloc 27 [.st (.int .i64 0), .full []])]) (.seq (.seq (.ops [.f 11 0 4, .l 12 11, .i 13 (.bin .eql (.t 12) (.n 1))]) (.cond (.t 13) (.seq (.ops [.m 14 0, .L 15 3 4, .mk (some 16) none (.callS 65 [.t 14, .t 15]) (.keeps [4, 4]), .m 17 2, .m 18 2, .i 19 (.lenL false (.t 18)), .i 20 (.bin .sub (.t 19) (.n 1)), .mk (some 21) none (.fieldAddr 1 (.t 4)) (.onb 4), .mk (some 22) none (.load false 1 (.t 21)) (.onb 4), .i 23 (.bin .sub (.t 20) (.t 22)), .i 24 (.indexL 2 (.t 17) (.t 23)), .i 25 (.loadL true 2 (.t 24)), .mk none none (.store 3 (.t 6) (.t 16)) (.onb 6), .s 2 7 25]) .ret) .skip)) (.seq (.ops [.m 27 0, .f 28 2 4, .l 29 28, .i 30 (.indexAddr 3 (.t 29) (.n 0)), .L 31 3 30, .m 32 2, .i 33 (.callS 67 [.t 27, .t 31, .t 32]), .m 26 33, .i 34 (.extract 0 (.t 26)), .i 35 (.extract 1 (.t 26)), .i 8 (.alloc 24 [.st (.int .i64 0), .st (.int .i64 0), .full []]), .i 9 (.alloc 27 [.st (.int .i64 0), .full []]), .s 3 8 34, .s 2 9 35]) (.seq (.ops [.m 36 0, .f 37 2 4, .l 38 37, .i 39 (.indexL 3 (.t 38) (.n 1)), .i 40 (.loadL true 3 (.t 39)), .f 41 1 9, .l 42 41, .i 43 (.indexL 2 (.t 42) (.n 0)), .i 44 (.loadL true 2 (.t 43)), .m 45 2, .i 46 (.callW 39 [.t 36, .t 40, .t 44, .t 45]), .i 10 (.alloc 24 [.st (.int .i64 0), .st (.int .i64 0), .full []]), .s 3 10 46]) (.seq (.ops [.m 47 0, .L 48 3 8, .L 49 3 10, .i 50 (.call 62 [.t 48, .t 49]), .mk (some 51) none (.callS 65 [.t 47, .t 50]) (.keeps [9, 9]), .mk (some 52) none (.fieldAddr 1 (.t 9)) (.onb 9), .mk (some 53) none (.load false 1 (.t 52)) (.onb 9), .i 54 (.indexL 2 (.t 53) (.n 1)), .i 55 (.loadL true 2 (.t 54)), .mk none none (.store 3 (.t 6) (.t 51)) (.onb 6), .s 2 7 55]) .ret)))))
theorem ok_metaprune_long_maker_head : OkF Tryz.prog 67 56 [16, 33, 50000046, 51, 60000019, 60000024, 60000025, 60000039, 60000040, 60000043, 60000044, 60000054, 60000055] ir_metaprune_long_maker_head [.cell 6 true 3, .cell 7 true 2] := .of Tryz.func67 rfl rfl (by kernel_rfl) rfl
def ir_long_Long : IR :=
 (.seq (.ops [.i 3 (.box 24 (.t 0)), .i 4 (.box 27 (.t 1)), .i 6 (.alloc 24 [.st (.int .i64 0), .st (.int .i64 0), .full []]), .i 7 (.mov (.n 0))]) (.seq (.ops [.L 15 3 3, .L 16 2 4, .i 17 (.call 37 [.t 15, .t 16]), .m 14 17, .i 18 (.extract 0 (.t 14)), .i 19 (.extract 1 (.t 14)), .m 8 18, .m 9 19]) (.seq (.seq (.ops [.m 20 9, .i 21 (.bin .eql (.t 20) (.n 0)), .m 22 21, .mk (some 23) (some (22, true)) (.mov (.t 8)) .no, .mk (some 24) (some (22, true)) (.un .not (.t 23)) .no, .i 25 (.pick (.t 22) (.t 24) (.c (.one (.st (.bool false)))))]) (.cond (.t 25) (.ops [.i 9 (.mov (.n 11))]) .skip)) (.seq (.seq (.ops [.m 26 9, .i 27 (.bin .neq (.t 26) (.n 0))]) (.cond (.t 27) (.seq (.ops [.i 28 (.build [.st (.int .i64 0), .st (.int .i64 0), .full []] []), .m 29 9, .s 3 6 28, .m 7 29]) .ret) .skip)) (.seq (.ops [.L 31 3 3, .m 32 2, .i 33 (.call 38 [.t 31, .n 0, .t 32]), .m 30 33, .i 34 (.extract 0 (.t 30)), .i 35 (.extract 1 (.t 30)), .i 36 (.extract 2 (.t 30)), .i 10 (.alloc 24 [.st (.int .i64 0), .st (.int .i64 0), .full []]), .s 3 10 34, .m 11 35, .m 9 36]) (.seq (.seq (.ops [.m 37 9, .i 38 (.bin .neq (.t 37) (.n 0))]) (.cond (.t 38) (.seq (.ops [.i 39 (.build [.st (.int .i64 0), .st (.int .i64 0), .full []] []), .m 40 9, .s 3 6 39, .m 7 40]) .ret) .skip)) (.seq (.ops [.i 41 (.build [.st (.int .i64 0)] [(0, 1, .n 2000)]), .i 42 (.box 84 (.t 41)), .m 12 42]) (.seq (.ops [.m 43 12, .L 44 3 10, .L 45 2 4, .i 46 (.callS 39 [.t 43, .t 44, .t 45, .c (.one (.full []))]), .i 13 (.alloc 24 [.st (.int .i64 0), .st (.int .i64 0), .full []]), .s 3 13 46]) (.seq (.seq (.ops [.m 47 12, .i 48 (.nilCheck (.t 47)), .f 49 0 48, .l 50 49, .i 51 (.bin .lss (.t 50) (.n 0))]) (.cond (.t 51) (.seq (.ops [.i 52 (.build [.st (.int .i64 0), .st (.int .i64 0), .full []] []), .s 3 6 52, .i 7 (.mov (.n 8))]) .ret) .skip)) (.seq (.ops [.L 53 3 13, .i 54 (.call 40 [.t 53]), .s 3 6 54, .i 7 (.mov (.n 0))]) .ret))))))))))
theorem ok_long_Long : OkF Tryz.prog 15 55 [46] ir_long_Long [.cell 6 true 3, .t 7] := .of Tryz.func15 rfl rfl (by kernel_rfl) rfl
def ir_long_Alike : IR :=
 (.seq (.ops [.i 4 (.box 24 (.t 0)), .i 5 (.box 24 (.t 1)), .i 6 (.box 27 (.t 2)), .i 8 (.mov (.c (.one (.st (.bool false))))), .i 9 (.mov (.n 0))]) (.seq (.ops [.L 14 3 4, .L 15 2 6, .m 16 3, .i 17 (.call 15 [.t 14, .t 15, .t 16]), .m 13 17, .i 18 (.extract 0 (.t 13)), .i 19 (.extract 1 (.t 13)), .i 10 (.alloc 24 [.st (.int .i64 0), .st (.int .i64 0), .full []]), .s 3 10 18, .m 11 19]) (.seq (.seq (.ops [.m 20 11, .i 21 (.bin .neq (.t 20) (.n 0))]) (.cond (.t 21) (.seq (.ops [.m 22 11, .i 8 (.mov (.c (.one (.st (.bool false))))), .m 9 22]) .ret) .skip)) (.seq (.ops [.L 24 3 5, .L 25 2 6, .m 26 3, .i 27 (.call 15 [.t 24, .t 25, .t 26]), .m 23 27, .i 28 (.extract 0 (.t 23)), .i 29 (.extract 1 (.t 23)), .i 12 (.alloc 24 [.st (.int .i64 0), .st (.int .i64 0), .full []]), .s 3 12 28, .m 11 29]) (.seq (.seq (.ops [.m 30 11, .i 31 (.bin .neq (.t 30) (.n 0))]) (.cond (.t 31) (.seq (.ops [.m 32 11, .i 8 (.mov (.c (.one (.st (.bool false))))), .m 9 32]) .ret) .skip)) (.seq (.ops [.L 33 3 10, .L 34 3 12, .i 35 (.call 41 [.t 33, .t 34]), .m 8 35, .i 9 (.mov (.n 0))]) .ret))))))
theorem ok_long_Alike : OkF Tryz.prog 16 36 [] ir_long_Alike [.t 8, .t 9] := .of Tryz.func16 rfl rfl (by kernel_rfl) rfl
def ir_L_LongSays : IR :=
 (.seq (.ops [.i 3 (.box 24 (.t 0)), .i 4 (.box 27 (.t 1)), .i 6 (.mov (.c (.one (.st (.bool false)))))]) (.seq (.seq (.ops [.L 17 3 3, .i 18 (.call 5 [.t 17]), .m 19 18, .mk (some 20) (some (19, false)) (.load true 2 (.t 4)) .no, .mk (some 21) (some (19, false)) (.call 6 [.t 20]) .no, .i 22 (.pick (.t 19) (.c (.one (.st (.bool true)))) (.t 21)), .m 23 22, .mk (some 24) (some (23, false)) (.mov (.t 2)) .no, .mk (some 25) (some (23, false)) (.bin .gtr (.t 24) (.n 30)) .no, .mk (some 26) (some (23, false)) (.mov (.t 25)) .no, .mk (some 27) (some (26, true)) (.mov (.t 2)) .no, .mk (some 28) (some (26, true)) (.bin .leq (.t 27) (.n 400)) .no, .mk (some 29) (some (23, false)) (.pick (.t 26) (.t 28) (.c (.one (.st (.bool false))))) .no, .i 30 (.pick (.t 23) (.c (.one (.st (.bool true)))) (.t 29))]) (.cond (.t 30) (.seq (.ops [.i 6 (.mov (.c (.one (.st (.bool true)))))]) .ret) .skip)) (.seq (.ops [.L 31 2 4, .i 32 (.call 7 [.t 31]), .m 7 32]) (.seq (.seq (.ops [.m 33 7, .i 34 (.bin .eql (.t 33) (.n 0))]) (.cond (.t 34) (.ops [.L 35 3 3, .i 36 (.call 8 [.t 35, .n 0, .n 0]), .m 7 36]) .skip)) (.seq (.seq (.ops [.m 37 7, .i 38 (.bin .eql (.t 37) (.n 0)), .m 39 38, .mk (some 40) (some (39, true)) (.load true 3 (.t 3)) .no, .mk (some 41) (some (39, true)) (.call 9 [.t 40]) .no, .i 42 (.pick (.t 39) (.t 41) (.c (.one (.st (.bool false)))))]) (.cond (.t 42) (.ops [.i 7 (.mov (.n 15))]) .skip)) (.seq (.seq (.ops [.m 43 7, .i 44 (.bin .eql (.t 43) (.n 0)), .m 45 44, .mk (some 46) (some (45, true)) (.load true 3 (.t 3)) .no, .mk (some 47) (some (45, true)) (.call 10 [.t 46, .n 40]) .no, .mk (some 48) (some (45, true)) (.bin .gtr (.t 47) (.n 40)) .no, .i 49 (.pick (.t 45) (.t 48) (.c (.one (.st (.bool false)))))]) (.cond (.t 49) (.seq (.ops [.i 6 (.mov (.c (.one (.st (.bool true)))))]) .ret) .skip)) (.seq (.seq (.ops [.m 50 7, .i 51 (.bin .eql (.t 50) (.n 0))]) (.cond (.t 51) (.seq (.ops [.L 53 3 3, .i 54 (.call 11 [.t 53]), .m 52 54, .i 55 (.extract 0 (.t 52)), .i 56 (.extract 1 (.t 52)), .i 8 (.alloc 27 [.st (.int .i64 0), .full []]), .s 2 8 55, .m 9 56]) (.seq (.ops [.m 57 9, .m 7 57]) (.seq (.ops [.m 58 9, .i 59 (.bin .eql (.t 58) (.n 0)), .m 60 59, .mk (some 61) (some (60, true)) (.load true 2 (.t 8)) .no, .mk (some 62) (some (60, true)) (.load true 2 (.t 4)) .no, .mk (some 63) (some (60, true)) (.call 12 [.t 61, .t 62]) .no, .mk (some 64) (some (60, true)) (.un .not (.t 63)) .no, .i 65 (.pick (.t 60) (.t 64) (.c (.one (.st (.bool false)))))]) (.cond (.t 65) (.ops [.i 7 (.mov (.n 11))]) .skip)))) .skip)) (.seq (.seq (.ops [.m 66 7, .i 67 (.bin .eql (.t 66) (.n 0)), .m 68 67, .mk (some 69) (some (68, true)) (.mov (.t 2)) .no, .mk (some 70) (some (68, true)) (.bin .lss (.t 69) (.n 0)) .no, .mk (some 71) (some (68, true)) (.mov (.t 70)) .no, .mk (some 72) (some (71, false)) (.mov (.t 2)) .no, .mk (some 73) (some (71, false)) (.bin .gtr (.t 72) (.n 400)) .no, .mk (some 74) (some (68, true)) (.pick (.t 71) (.c (.one (.st (.bool true)))) (.t 73)) .no, .i 75 (.pick (.t 68) (.t 74) (.c (.one (.st (.bool false)))))]) (.cond (.t 75) (.ops [.i 7 (.mov (.n 3))]) .skip)) (.seq (.ops [.i 76 (.build [.st (.int .i64 0), .st (.int .i64 0), .full []] []), .i 10 (.alloc 24 [.st (.int .i64 0), .st (.int .i64 0), .full []]), .s 3 10 76]) (.seq (.seq (.ops [.m 77 7, .i 78 (.bin .eql (.t 77) (.n 0))]) (.cond (.t 78) (.ops [.L 80 3 3, .m 81 2, .i 82 (.call 13 [.t 80, .t 81, .c (.one (.st (.bool false)))]), .m 79 82, .i 83 (.extract 0 (.t 79)), .i 84 (.extract 1 (.t 79)), .i 85 (.extract 2 (.t 79)), .s 3 10 83, .m 7 85]) .skip)) (.seq (.seq (.ops [.m 86 7, .i 87 (.bin .eql (.t 86) (.n 0))]) (.cond (.t 87) (.seq (.ops [.L 89 3 10, .L 90 2 4, .i 91 (.call 14 [.t 89, .t 90, .c (.one (.full [])), .n 2000]), .m 88 91, .i 92 (.extract 0 (.t 88)), .i 93 (.extract 1 (.t 88)), .i 11 (.alloc 24 [.st (.int .i64 0), .st (.int .i64 0), .full []]), .s 3 11 92, .m 12 93]) (.seq (.ops [.L 94 3 11, .s 3 10 94]) (.seq (.ops [.m 95 12, .i 96 (.bin .lss (.t 95) (.n 0))]) (.cond (.t 96) (.ops [.i 7 (.mov (.n 8))]) .skip)))) .skip)) (.seq (.ops [.L 98 3 3, .L 99 2 4, .m 100 2, .i 101 (.call 15 [.t 98, .t 99, .t 100]), .m 97 101, .i 102 (.extract 0 (.t 97)), .i 103 (.extract 1 (.t 97)), .i 13 (.alloc 24 [.st (.int .i64 0), .st (.int .i64 0), .full []]), .s 3 13 102, .m 14 103]) (.seq (.ops [.L 105 3 3, .L 106 3 3, .L 107 2 4, .m 108 2, .i 109 (.call 16 [.t 105, .t 106, .t 107, .t 108]), .m 104 109, .i 110 (.extract 0 (.t 104)), .i 111 (.extract 1 (.t 104)), .m 15 110, .m 16 111]) (.seq (.ops [.L 112 3 13, .m 113 14, .L 114 3 10, .m 115 7, .i 116 (.call 17 [.t 112, .t 113, .t 114, .t 115]), .m 117 116, .mk (some 118) (some (117, true)) (.mov (.t 15)) .no, .mk (some 119) (some (117, true)) (.mov (.t 7)) .no, .mk (some 120) (some (117, true)) (.bin .eql (.t 119) (.n 0)) .no, .mk (some 121) (some (117, true)) (.eqB false (.t 118) (.t 120)) .no, .i 122 (.pick (.t 117) (.t 121) (.c (.one (.st (.bool false))))), .m 123 122, .mk (some 124) (some (123, true)) (.mov (.t 16)) .no, .mk (some 125) (some (123, true)) (.mov (.t 7)) .no, .mk (some 126) (some (123, true)) (.bin .eql (.t 124) (.t 125)) .no, .i 127 (.pick (.t 123) (.t 126) (.c (.one (.st (.bool false))))), .m 6 127]) .ret))))))))))))))
theorem ok_L_LongSays : OkF Tryz.prog 3 128 [] ir_L_LongSays [.t 6] := .of Tryz.func3 rfl rfl (by kernel_rfl) rfl
def ir_R_Typed : IR :=
 (.seq (.ops [.i 7 (.box 27 (.t 2)), .i 10 (.alloc 24 [.st (.int .i64 0), .st (.int .i64 0), .full []]), .i 11 (.mov (.n 0)), .i 12 (.mov (.c (.one (.st (.bool false)))))]) (.seq (.seq (.ops [.f 32 1 7, .l 33 32, .i 34 (.len false (.t 33)), .i 35 (.bin .gtr (.t 34) (.n 0)), .m 36 35, .mk (some 37) (some (36, true)) (.mov (.t 4)) .no, .mk (some 38) (some (36, true)) (.bin .lss (.t 37) (.n 2)) .no, .mk (some 39) (some (36, true)) (.mov (.t 38)) .no, .mk (some 40) (some (39, false)) (.mov (.t 0)) .no, .mk (some 41) (some (39, false)) (.mov (.t 1)) .no, .mk (some 42) (some (39, false)) (.call 43 [.t 40, .t 41]) .no, .mk (some 43) (some (39, false)) (.call 19 [.t 42, .n 3]) .no, .mk (some 44) (some (39, false)) (.bin .gtr (.t 43) (.n 0)) .no, .mk (some 45) (some (36, true)) (.pick (.t 39) (.c (.one (.st (.bool true)))) (.t 44)) .no, .i 46 (.pick (.t 36) (.t 45) (.c (.one (.st (.bool false)))))]) (.cond (.t 46) (.seq (.ops [.m 48 0, .m 49 1, .i 50 (.bin .add (.t 49) (.n 1)), .mk (some 51) none (.fieldAddr 1 (.t 7)) (.onb 7), .mk (some 52) none (.load false 1 (.t 51)) (.onb 7), .i 53 (.indexL 2 (.t 52) (.n 1)), .i 54 (.loadL true 2 (.t 53)), .i 55 (.buildL 2 []), .m 56 3, .mk (some 57) none (.append false 27 2 32 (.t 55) (.t 56)) (.keeps [7, 7, 7, 7]), .mk (some 58) none (.fieldAddr 1 (.t 7)) (.onb 7), .mk (some 59) none (.load false 1 (.t 58)) (.onb 7), .i 60 (.indexL 2 (.t 59) (.n 0)), .i 61 (.loadL true 2 (.t 60)), .i 62 (.buildL 2 [.t 61]), .mk (some 63) none (.append false 27 2 32 (.t 57) (.t 62)) (.keeps [7, 7]), .m 64 4, .i 65 (.bin .sub (.t 64) (.n 1)), .i 66 (.call 20 [.t 48, .t 50, .t 54, .t 63, .t 65]), .m 47 66, .i 67 (.extract 0 (.t 47)), .i 68 (.extract 1 (.t 47)), .i 69 (.extract 2 (.t 47)), .i 13 (.alloc 24 [.st (.int .i64 0), .st (.int .i64 0), .full []]), .s 3 13 67, .m 14 68, .m 15 69]) (.seq (.ops [.L 70 3 13, .i 71 (.call 35 [.t 70]), .m 72 14, .m 73 15, .s 3 10 71, .m 11 72, .m 12 73]) .ret)) .skip)) (.seq (.seq (.ops [.m 74 4, .i 75 (.bin .geq (.t 74) (.n 6)), .m 76 75, .mk (some 77) (some (76, true)) (.mov (.t 0)) .no, .mk (some 78) (some (76, true)) (.mov (.t 1)) .no, .mk (some 79) (some (76, true)) (.call 43 [.t 77, .t 78]) .no, .mk (some 80) (some (76, true)) (.call 19 [.t 79, .n 4]) .no, .mk (some 81) (some (76, true)) (.bin .eql (.t 80) (.n 0)) .no, .i 82 (.pick (.t 76) (.t 81) (.c (.one (.st (.bool false)))))]) (.cond (.t 82) (.seq (.ops [.m 84 0, .m 85 1, .i 86 (.bin .add (.t 85) (.n 1)), .i 87 (.call 18 [.t 84, .t 86, .n 3]), .m 83 87, .i 88 (.extract 0 (.t 83)), .i 89 (.extract 1 (.t 83)), .i 16 (.alloc 27 [.st (.int .i64 0), .full []]), .s 2 16 88, .m 17 89]) (.seq (.ops [.m 91 0, .m 92 17, .L 93 2 16, .L 94 2 7, .i 95 (.buildSlice false 27 2 [.t 93, .t 94]), .i 96 (.build [.st (.int .i64 0), .full []] [(1, 1, .t 95)]), .m 97 3, .m 98 4, .i 99 (.bin .quo (.t 98) (.n 2)), .i 100 (.call 20 [.t 91, .t 92, .t 96, .t 97, .t 99]), .m 90 100, .i 101 (.extract 0 (.t 90)), .i 102 (.extract 1 (.t 90)), .i 103 (.extract 2 (.t 90)), .i 18 (.alloc 24 [.st (.int .i64 0), .st (.int .i64 0), .full []]), .s 3 18 101, .m 17 102, .m 19 103]) (.seq (.ops [.m 105 0, .m 106 17, .L 107 2 16, .m 108 3, .m 109 4, .i 110 (.bin .quo (.t 109) (.n 2)), .i 111 (.call 20 [.t 105, .t 106, .t 107, .t 108, .t 110]), .m 104 111, .i 112 (.extract 0 (.t 104)), .i 113 (.extract 1 (.t 104)), .i 114 (.extract 2 (.t 104)), .i 20 (.alloc 24 [.st (.int .i64 0), .st (.int .i64 0), .full []]), .s 3 20 112, .m 17 113, .m 21 114]) (.seq (.ops [.m 115 19, .m 116 115, .mk (some 117) (some (116, true)) (.mov (.t 21)) .no, .i 118 (.pick (.t 116) (.t 117) (.c (.one (.st (.bool false)))))]) (.cond (.t 118) (.seq (.ops [.L 119 3 18, .L 120 3 20, .i 121 (.call 32 [.t 119, .t 120]), .m 122 17, .s 3 10 121, .m 11 122, .i 12 (.mov (.c (.one (.st (.bool true)))))]) .ret) .skip))))) .skip)) (.seq (.ops [.m 123 3, .i 124 (.len false (.t 123)), .m 22 124]) (.seq (.seq (.ops [.i 23 (.mov (.n 0))]) (.block 0 (.loop (.seq (.seq (.ops [.m 125 23, .m 126 22, .i 127 (.bin .lss (.t 125) (.t 126))]) (.cond (.t 127) .skip (.exit 0))) (.seq (.block 1 (.seq (.ops [.m 130 23, .m 131 0, .m 132 1, .i 133 (.call 43 [.t 131, .t 132]), .m 134 22, .i 135 (.bin .add (.t 134) (.n 1)), .i 136 (.call 19 [.t 133, .t 135]), .i 137 (.bin .add (.t 130) (.t 136)), .m 138 22, .i 139 (.bin .rem (.t 137) (.t 138)), .m 24 139]) (.seq (.ops [.m 140 3, .m 141 22, .i 142 (.bin .sub (.t 141) (.n 1)), .m 143 24, .i 144 (.bin .sub (.t 142) (.t 143)), .i 145 (.indexAddr 2 (.t 140) (.t 144)), .L 146 2 145, .i 25 (.alloc 27 [.st (.int .i64 0), .full []]), .s 2 25 146]) (.seq (.ops [.m 147 24, .i 148 (.call 34 [.t 147]), .i 26 (.alloc 24 [.st (.int .i64 0), .st (.int .i64 0), .full []]), .s 3 26 148]) (.seq (.ops [.m 149 1, .i 150 (.bin .add (.t 149) (.n 1)), .m 27 150]) (.seq (.ops [.i 28 (.mov (.c (.one (.st (.bool true)))))]) (.seq (.block 2 (.loop (.seq (.seq (.ops [.m 151 28, .m 152 151, .mk (some 153) (some (152, true)) (.load true 2 (.t 25)) .no, .mk (some 154) (some (152, true)) (.load true 2 (.t 7)) .no, .mk (some 155) (some (152, true)) (.call 44 [.t 153, .t 154]) .no, .mk (some 156) (some (152, true)) (.un .not (.t 155)) .no, .i 157 (.pick (.t 152) (.t 156) (.c (.one (.st (.bool false))))), .m 158 157, .mk (some 159) (some (158, true)) (.fieldAddr 1 (.t 25)) .no, .mk (some 160) (some (158, true)) (.load false 1 (.t 159)) .no, .mk (some 161) (some (158, true)) (.len false (.t 160)) .no, .mk (some 162) (some (158, true)) (.bin .gtr (.t 161) (.n 0)) .no, .i 163 (.pick (.t 158) (.t 162) (.c (.one (.st (.bool false)))))]) (.cond (.t 163) .skip (.exit 2))) (.block 3 (.seq (.seq (.ops [.m 164 4, .i 165 (.bin .lss (.t 164) (.n 2))]) (.cond (.t 165) (.seq (.ops [.i 28 (.mov (.c (.one (.st (.bool false)))))]) (.exit 2)) .skip)) (.seq (.ops [.m 167 0, .m 168 27, .f 169 1 25, .l 170 169, .i 171 (.indexAddr 2 (.t 170) (.n 0)), .L 172 2 171, .m 173 3, .m 174 4, .i 175 (.bin .quo (.t 174) (.n 2)), .i 176 (.bin .sub (.t 175) (.n 1)), .i 177 (.call 20 [.t 167, .t 168, .t 172, .t 173, .t 176]), .m 166 177, .i 178 (.extract 0 (.t 166)), .i 179 (.extract 1 (.t 166)), .i 180 (.extract 2 (.t 166)), .i 29 (.alloc 24 [.st (.int .i64 0), .st (.int .i64 0), .full []]), .s 3 29 178, .m 30 179, .m 31 180]) (.seq (.ops [.m 181 30, .m 27 181]) (.seq (.ops [.m 182 31, .m 28 182]) (.seq (.ops [.L 183 3 26, .L 184 3 29, .i 185 (.call 32 [.t 183, .t 184]), .s 3 26 185]) (.ops [.f 186 1 25, .l 187 186, .i 188 (.indexAddr 2 (.t 187) (.n 1)), .L 189 2 188, .s 2 25 189])))))))))) (.seq (.ops [.m 190 28, .m 191 190, .mk (some 192) (some (191, true)) (.load true 2 (.t 25)) .no, .mk (some 193) (some (191, true)) (.load true 2 (.t 7)) .no, .mk (some 194) (some (191, true)) (.call 44 [.t 192, .t 193]) .no, .i 195 (.pick (.t 191) (.t 194) (.c (.one (.st (.bool false)))))]) (.cond (.t 195) (.seq (.ops [.L 196 3 26, .m 197 27, .s 3 10 196, .m 11 197, .i 12 (.mov (.c (.one (.st (.bool true)))))]) .ret) .skip))))))))) (.ops [.m 128 23, .i 129 (.bin .add (.t 128) (.n 1)), .m 23 129])))))) (.seq (.ops [.i 198 (.build [.st (.int .i64 0), .st (.int .i64 0), .full []] []), .m 199 1, .s 3 10 198, .m 11 199, .i 12 (.mov (.c (.one (.st (.bool false)))))]) .ret))))))
theorem ok_R_Typed : OkF Tryz.prog 20 200 [60000053, 60000054, 60000055, 60000060, 60000061, 60000062] ir_R_Typed [.cell 10 true 3, .t 11, .t 12] := .of Tryz.func20 rfl rfl (by kernel_rfl) rfl
def ir_L_LongMade : IR :=
 (.seq (.ops [.i 8 (.mov (.c (.one (.st (.bool false)))))]) (.seq (.seq (.ops [.m 14 0, .i 15 (.len false (.t 14)), .i 16 (.bin .gtr (.t 15) (.n 256))]) (.cond (.t 16) (.seq (.ops [.i 8 (.mov (.c (.one (.st (.bool true)))))]) .ret) .skip)) (.seq (.ops [.m 18 0, .m 19 1, .i 20 (.call 19 [.t 19, .n 9]), .i 21 (.bin .add (.n 3) (.t 20)), .i 22 (.call 18 [.t 18, .n 0, .t 21]), .m 17 22, .i 23 (.extract 0 (.t 17)), .i 24 (.extract 1 (.t 17)), .i 9 (.alloc 27 [.st (.int .i64 0), .full []]), .s 2 9 23, .m 10 24]) (.seq (.ops [.m 26 0, .m 27 10, .L 28 2 9, .m 29 2, .i 30 (.call 19 [.t 29, .n 14]), .i 31 (.bin .add (.n 2) (.t 30)), .i 32 (.call 20 [.t 26, .t 27, .t 28, .c (.one (.full [])), .t 31]), .m 25 32, .i 33 (.extract 0 (.t 25)), .i 34 (.extract 1 (.t 25)), .i 35 (.extract 2 (.t 25)), .i 11 (.alloc 24 [.st (.int .i64 0), .st (.int .i64 0), .full []]), .s 3 11 33, .m 12 34, .m 13 35]) (.seq (.ops [.m 36 13, .i 37 (.un .not (.t 36)), .m 38 37, .mk (some 39) (some (38, false)) (.load true 3 (.t 11)) .no, .mk (some 40) (some (38, false)) (.call 10 [.t 39, .n 40]) .no, .mk (some 41) (some (38, false)) (.bin .gtr (.t 40) (.n 40)) .no, .i 42 (.pick (.t 38) (.c (.one (.st (.bool true)))) (.t 41)), .m 43 42, .mk (some 44) (some (43, false)) (.load true 3 (.t 11)) .no, .mk (some 45) (some (43, false)) (.load true 2 (.t 9)) .no, .mk (some 46) (some (43, false)) (.mov (.t 3)) .no, .mk (some 47) (some (43, false)) (.call 19 [.t 46, .n 31]) .no, .mk (some 48) (some (43, false)) (.call 3 [.t 44, .t 45, .t 47]) .no, .i 49 (.pick (.t 43) (.c (.one (.st (.bool true)))) (.t 48)), .m 8 49]) .ret)))))
theorem ok_L_LongMade : OkF Tryz.prog 4 50 [] ir_L_LongMade [.t 8] := .of Tryz.func4 rfl rfl (by kernel_rfl) rfl

theorem bl_irrefl : ∀ l : List UInt8, Op.bytesLess l l = false
 | [] => by simp [Op.bytesLess]
 | x :: xs => by simp [Op.bytesLess, bl_irrefl xs]
theorem bl_trans : ∀ (a b c : List UInt8), Op.bytesLess a b = true → Op.bytesLess b c = true → Op.bytesLess a c = true
 | _, [], _, h, _ => by simp [Op.bytesLess] at h
 | _, _ :: _, [], _, k => by simp [Op.bytesLess] at k
 | [], _ :: _, _ :: _, _, _ => by simp [Op.bytesLess]
 | x :: xs, y :: ys, z :: zs, h, k => by
  simp only [Op.bytesLess, Bool.or_eq_true, Bool.and_eq_true, decide_eq_true_eq, beq_iff_eq] at h k ⊢
  rcases h with h | ⟨rfl, h⟩
  ·rcases k with k | ⟨rfl, k⟩
   ·exact .inl (UInt8.lt_trans h k)
   ·exact .inl h
  ·rcases k with k | ⟨rfl, k⟩
   ·exact .inl k
   ·exact .inr ⟨rfl, bl_trans xs ys zs h k⟩
theorem bl_total : ∀ (a b : List UInt8), Op.bytesLess a b = true ∨ a = b ∨ Op.bytesLess b a = true
 | [], [] => .inr (.inl rfl)
 | [], _ :: _ => .inl (by simp [Op.bytesLess])
 | _ :: _, [] => .inr (.inr (by simp [Op.bytesLess]))
 | x :: xs, y :: ys => by
  simp only [Op.bytesLess, Bool.or_eq_true, Bool.and_eq_true, decide_eq_true_eq, beq_iff_eq, List.cons.injEq]
  rcases Nat.lt_trichotomy x.toNat y.toNat with h | h | h
  ·exact .inl (.inl h)
  ·have e : x = y := UInt8.toNat_inj.1 h
   subst e
   rcases bl_total xs ys with h | h | h
   ·exact .inl (.inr ⟨rfl, h⟩)
   ·exact .inr (.inl ⟨rfl, h⟩)
   ·exact .inr (.inr (.inr ⟨rfl, h⟩))
  ·exact .inr (.inr (.inl h))
theorem bytes_eq {a b : ByteArray} (h : a.toList = b.toList) : a = b := by
 rw [ByteArray.toList_eq, ByteArray.toList_eq] at h
 cases a; cases b
 simp only at h
 congr 1
 exact Array.toList_inj.1 h
theorem sLt_irrefl (a : ByteArray) : sLt a a = false := bl_irrefl _
theorem sLt_trans {a b c : ByteArray} (h : sLt a b = true) (k : sLt b c = true) : sLt a c = true := bl_trans _ _ _ h k
theorem sLt_total (a b : ByteArray) : sLt a b = true ∨ a = b ∨ sLt b a = true := by
 rcases bl_total a.toList b.toList with h | h | h
 ·exact .inl h
 ·exact .inr (.inl (bytes_eq h))
 ·exact .inr (.inr h)
def cmpI (a b : ByteArray) : Int := if sLt a b = true then -1 else if a = b then 0 else 1
abbrev Bd := ByteArray × Tm
def encB (b : Bd) : List SV := [.str b.1, .str b.2.name, .list (b.2.args.map encT)]
abbrev aBds (l : List Bd) : AV := .one (.st (.list (l.map encB)))
abbrev aBd (b : Bd) : AV := .agg [.st (.str b.1), .st (.str b.2.name), .st (.list (b.2.args.map encT))]
instance : Lens encB 3 := ⟨fun _ => rfl⟩
theorem lens_encB {ts : List Bd} : ∀ x ∈ ts.map encB, x.length = 3 := by
 intro x hx
 obtain ⟨a, _, rfl⟩ := List.mem_map.1 hx
 rfl
theorem drop_get {α : Type} {xs : List α} {k : Nat} {a : α} (h : xs[k]? = some a) : xs.drop k = a :: xs.drop (k + 1) := by
 have hk := lt_of_get h
 rw [List.getElem?_eq_getElem hk] at h
 rw [List.drop_eq_getElem_cons hk]
 simp at h
 rw [h]
def Ordered (l : List Bd) : Prop := l.Pairwise fun a b => sLt a.1 b.1 = true
def lookup (l : List Bd) (n : ByteArray) : Option Tm := (l.find? fun b => decide (b.1 = n)).map (·.2)
theorem lookup_none {l : List Bd} {n : ByteArray} (h : ∀ b ∈ l, b.1 ≠ n) : lookup l n = none := by
 unfold lookup
 rw [List.find?_eq_none.2 (fun b hb => by simpa using h b hb)]
 rfl
theorem lookup_take {l : List Bd} {n : ByteArray} {k : Nat} {b : Bd} (hk : l[k]? = some b) (hb : b.1 = n) (h : ∀ c ∈ l.take k, c.1 ≠ n) : lookup l n = some b.2 := by
 unfold lookup
 rw [← List.take_append_drop k l, List.find?_append, List.find?_eq_none.2 (fun c hc => by simpa using h c hc), drop_get hk]
 simp [hb]
theorem lookup_mem {l : List Bd} {n : ByteArray} {x : Tm} (h : lookup l n = some x) : ∃ b ∈ l, b.1 = n ∧ b.2 = x := by
 unfold lookup at h
 rw [Option.map_eq_some_iff] at h
 obtain ⟨b, h1, h2⟩ := h
 exact ⟨b, List.mem_of_find?_eq_some h1, by simpa using List.find?_some h1, h2⟩
theorem ordered_get {l : List Bd} (h : Ordered l) {i j : Nat} {a b : Bd} (hi : l[i]? = some a) (hj : l[j]? = some b) (hij : i < j) : sLt a.1 b.1 = true := by
 have h1 := List.pairwise_iff_getElem.1 h
 obtain ⟨hi1, hi2⟩ := List.getElem?_eq_some_iff.1 hi
 obtain ⟨hj1, hj2⟩ := List.getElem?_eq_some_iff.1 hj
 have := h1 i j hi1 hj1 hij
 rw [hi2, hj2] at this
 exact this
mutual
def Tm.on (s : List Bd) : Tm → Tm
 | .mk n xs => match (if xs.isEmpty then lookup s n else none) with
  | some x => x
  | none => .mk n (Tm.onL s xs)
def Tm.onL (s : List Bd) : List Tm → List Tm
 | [] => []
 | t :: ts => t.on s :: Tm.onL s ts
end
theorem Tm.onL_eq (s : List Bd) : ∀ ts : List Tm, Tm.onL s ts = ts.map (Tm.on s)
 | [] => rfl
 | t :: ts => by rw [Tm.onL, Tm.onL_eq s ts]; rfl
theorem Tm.on_leaf {s : List Bd} {t x : Tm} (h : lookup s t.name = some x) (h0 : t.args = []) : t.on s = x := by
 cases t with
 | mk n xs =>
  simp only [Tm.name_mk, Tm.args_mk] at h h0
  subst h0
  simp [Tm.on, h]
theorem Tm.on_knot {s : List Bd} {t : Tm} (h : lookup s t.name = none ∨ t.args ≠ []) : t.on s = .mk t.name (t.args.map (Tm.on s)) := by
 cases t with
 | mk n xs =>
  simp only [Tm.name_mk, Tm.args_mk] at h ⊢
  rw [← Tm.onL_eq]
  rcases h with h | h
  ·simp [Tm.on, h]
  ·cases xs with
   | nil => exact absurd rfl h
   | cons y ys => simp [Tm.on]
theorem Tm.chk_args {t : Tm} (h : t.chk = 0) : (isVar t.name = true → t.args = []) ∧ ∀ a ∈ t.args, a.chk = 0 := by
 have hc := Tm.chk_eq t
 rw [h] at hc
 by_cases h1 : chkOne t = 0
 ·rw [if_pos h1] at hc
  have key : ∀ {xs : List Tm}, Tm.chkL xs = 0 → ∀ a ∈ xs, a.chk = 0 := by
   intro xs
   induction xs with
   | nil => simp
   | cons x xs ih =>
    intro hx a ha
    simp only [Tm.chkL] at hx
    split at hx
    ·rename_i h2
     rcases List.mem_cons.1 ha with rfl | ha
     ·exact h2
     ·exact ih hx a ha
    ·rename_i h2
     exact absurd hx h2
  refine ⟨fun hv => ?_, key hc.symm⟩
  unfold chkOne at h1
  split at h1
  ·split at h1
   ·cases h1
   ·rename_i h2
    simp only [hv, true_and, Nat.not_lt, Nat.le_zero] at h2
    exact List.eq_nil_of_length_eq_zero h2
  ·cases h1
 ·rw [if_neg h1] at hc
  exact absurd hc.symm h1

def insB (b : Bd) : List Bd → List Bd
 | [] => [b]
 | c :: l => if sLt b.1 c.1 = true then b :: c :: l else c :: insB b l
def sortB (l : List Bd) : List Bd := l.foldl (fun acc b => insB b acc) []
def Named (l : List Bd) : Prop := (l.map (·.1)).Nodup
theorem insB_perm (b : Bd) : ∀ l : List Bd, (insB b l).Perm (b :: l)
 | [] => List.Perm.refl _
 | c :: l => by
  unfold insB
  split
  ·exact List.Perm.refl _
  ·exact ((insB_perm b l).cons c).trans (List.Perm.swap b c l)
theorem insB_ordered {b : Bd} : ∀ {l : List Bd}, Ordered l → (∀ c ∈ l, c.1 ≠ b.1) → Ordered (insB b l)
 | [], _, _ => List.pairwise_cons.2 ⟨by simp, List.Pairwise.nil⟩
 | c :: l, ho, hn => by
  obtain ⟨o1, o2⟩ := List.pairwise_cons.1 ho
  unfold insB
  split
  ·rename_i h
   exact List.pairwise_cons.2 ⟨fun x hx => by
    rcases List.mem_cons.1 hx with rfl | hx
    ·exact h
    ·exact sLt_trans h (o1 x hx), ho⟩
  ·rename_i h
   refine List.pairwise_cons.2 ⟨fun x hx => ?_, insB_ordered o2 fun x hx => hn x (by simp [hx])⟩
   rcases List.mem_cons.1 ((insB_perm b l).mem_iff.1 hx) with rfl | hx
   ·rcases sLt_total c.1 x.1 with k | k | k
    ·exact k
    ·exact absurd k (hn c (by simp))
    ·exact absurd k h
   ·exact o1 x hx
theorem sortB_snoc (l : List Bd) (b : Bd) : sortB (l ++ [b]) = insB b (sortB l) := by unfold sortB; rw [List.foldl_append]; rfl
theorem foldl_ins_perm : ∀ (l acc : List Bd), (l.foldl (fun acc b => insB b acc) acc).Perm (l ++ acc)
 | [], acc => List.Perm.refl _
 | b :: l, acc => by
  rw [List.foldl_cons]
  refine (foldl_ins_perm l _).trans ?_
  refine ((insB_perm b acc).append_left l).trans ?_
  exact List.perm_middle
theorem sortB_perm (l : List Bd) : (sortB l).Perm l := by
 have := foldl_ins_perm l []
 rw [List.append_nil] at this
 exact this
theorem foldl_ins_ordered : ∀ (l acc : List Bd), Ordered acc → Named (acc ++ l) → Ordered (l.foldl (fun acc b => insB b acc) acc)
 | [], acc, ho, _ => ho
 | b :: l, acc, ho, hn => by
  rw [List.foldl_cons]
  have hp : (acc ++ b :: l).Perm (insB b acc ++ l) := (List.perm_middle).trans (by rw [← List.cons_append]; exact ((insB_perm b acc).symm.append_right l))
  refine foldl_ins_ordered l _ (insB_ordered ho fun c hc e => ?_) ((hp.map _).nodup_iff.1 hn)
  unfold Named at hn
  rw [List.map_append, List.nodup_append] at hn
  exact hn.2.2 _ (List.mem_map.2 ⟨c, hc, rfl⟩) _ (by simp) e
theorem sortB_ordered {l : List Bd} (hn : Named l) : Ordered (sortB l) := foldl_ins_ordered l [] List.Pairwise.nil (by simpa using hn)
theorem ordered_named {l : List Bd} (ho : Ordered l) : Named l := by
 unfold Named
 rw [List.nodup_iff_pairwise_ne, List.pairwise_map]
 exact ho.imp fun {a b} h e => by rw [e, sLt_irrefl] at h; cases h
theorem ordered_unique : ∀ {l m : List Bd}, Ordered l → Ordered m → l.Perm m → l = m
 | [], m, _, _, h => (List.nil_perm.1 h).symm
 | a :: l, [], _, _, h => absurd h.length_eq (by simp)
 | a :: l, c :: m, hl, hm, h => by
  obtain ⟨l1, l2⟩ := List.pairwise_cons.1 hl
  obtain ⟨m1, m2⟩ := List.pairwise_cons.1 hm
  have e : a = c := by
   rcases List.mem_cons.1 (h.mem_iff.1 (List.mem_cons_self)) with e | e
   ·exact e
   ·rcases List.mem_cons.1 (h.mem_iff.2 (List.mem_cons_self)) with e2 | e2
    ·exact e2.symm
    ·have := sLt_trans (m1 a e) (l1 c e2)
     rw [sLt_irrefl] at this
     cases this
  subst e
  rw [ordered_unique l2 m2 (List.Perm.cons_inv h)]
theorem sortB_mem {l : List Bd} {b : Bd} : b ∈ sortB l ↔ b ∈ l := (sortB_perm l).mem_iff
theorem sortB_length (l : List Bd) : (sortB l).length = l.length := (sortB_perm l).length_eq
theorem named_perm {l m : List Bd} (h : l.Perm m) (hn : Named l) : Named m := ((h.map _).nodup_iff).1 hn


theorem lookup_nil (y : ByteArray) : lookup [] y = none := rfl
theorem lookup_cons (b : Bd) (l : List Bd) (y : ByteArray) : lookup (b :: l) y = if b.1 = y then some b.2 else lookup l y := by
 unfold lookup
 by_cases h : b.1 = y
 ·rw [List.find?_cons_of_pos (by simpa using h), if_pos h]; rfl
 ·rw [List.find?_cons_of_neg (by simpa using h), if_neg h]
theorem lookup_iff {l : List Bd} (hn : Named l) {y : ByteArray} {x : Tm} : lookup l y = some x ↔ (y, x) ∈ l := by
 induction l with
 | nil => simp [lookup_nil]
 | cons b l ih =>
  obtain ⟨n1, n2⟩ := List.nodup_cons.1 (show ((b :: l).map fun c : Bd => c.1).Nodup from hn)
  rw [lookup_cons, List.mem_cons]
  by_cases h : b.1 = y
  ·rw [if_pos h]
   constructor
   ·intro e
    cases e
    exact .inl (by rw [← h])
   ·rintro (e | e)
    ·rw [← e]
    ·exact absurd (List.mem_map.2 ⟨(y, x), e, rfl⟩) (by subst h; exact n1)
  ·rw [if_neg h, ih n2]
   constructor
   ·exact .inr
   ·rintro (e | e)
    ·exact absurd (by rw [← e]) h
    ·exact e
theorem lookup_append (y : ByteArray) (m : List Bd) : ∀ l : List Bd, lookup (l ++ m) y = match lookup l y with | some x => some x | none => lookup m y
 | [] => rfl
 | b :: l => by
  rw [List.cons_append, lookup_cons, lookup_cons, lookup_append y m l]
  by_cases h : b.1 = y
  ·rw [if_pos h, if_pos h]
  ·rw [if_neg h, if_neg h]
theorem size_sub {s : List Bd} {M : Nat} (hM : 1 ≤ M) (hs : ∀ b ∈ s, b.2.size ≤ M) (t : Tm) : (t.on s).size ≤ t.size * M := by
 induction hN : SizeOf.sizeOf t using Nat.strongRecOn generalizing t with
 | _ N ih =>
 subst hN
 have hsz := Tm.size_eq t
 by_cases hleaf : (∃ x, lookup s t.name = some x) ∧ t.args = []
 ·obtain ⟨⟨x, hx⟩, h0⟩ := hleaf
  rw [Tm.on_leaf hx h0]
  obtain ⟨b, hb, _, rfl⟩ := lookup_mem hx
  have := hs b hb
  have h1 := Nat.mul_le_mul_right M (Tm.size_pos t)
  omega
 ·have hon : t.on s = .mk t.name (t.args.map (Tm.on s)) := Tm.on_knot (by
   cases hl : lookup s t.name with
   | none => exact .inl rfl
   | some x => exact .inr fun h0 => hleaf ⟨⟨x, hl⟩, h0⟩)
  have key : ∀ xs : List Tm, (∀ x ∈ xs, (x.on s).size ≤ x.size * M) → Tm.sizes (xs.map (Tm.on s)) ≤ Tm.sizes xs * M := by
   intro xs
   induction xs with
   | nil => intro _; simp [Tm.sizes]
   | cons x xs ih2 =>
    intro h
    have h1 := h x (by simp)
    have h2 := ih2 fun y hy => h y (by simp [hy])
    simp only [List.map_cons, Tm.sizes]
    rw [Nat.add_mul]
    omega
  have hk := key t.args fun x hx => ih _ (Tm.lt_of_arg hx) x rfl
  rw [hon]
  have e : (Tm.mk t.name (t.args.map (Tm.on s))).size = 1 + Tm.sizes (t.args.map (Tm.on s)) := rfl
  rw [e, hsz, Nat.add_mul]
  omega

def ir_term_Variable : IR :=
 (.seq (.ops [.i 2 (.mov (.c (.one (.st (.bool false)))))]) (.seq (.ops [.m 3 0, .i 4 (.bin .neq (.t 3) (.c (.one (.st (.str (ByteArray.mk (#[]))))))), .m 5 4, .mk (some 6) (some (5, true)) (.mov (.t 0)) .no, .mk (some 7) (some (5, true)) (.indexStr (.t 6) (.n 0)) .no, .mk (some 8) (some (5, true)) (.bin .geq (.t 7) (.c (.one (.st (.int .u8 65))))) .no, .i 9 (.pick (.t 5) (.t 8) (.c (.one (.st (.bool false))))), .m 10 9, .mk (some 11) (some (10, true)) (.mov (.t 0)) .no, .mk (some 12) (some (10, true)) (.indexStr (.t 11) (.n 0)) .no, .mk (some 13) (some (10, true)) (.bin .leq (.t 12) (.c (.one (.st (.int .u8 90))))) .no, .i 14 (.pick (.t 10) (.t 13) (.c (.one (.st (.bool false))))), .m 2 14]) .ret))
theorem ok_term_Variable : OkF Tryz.prog 96 15 [] ir_term_Variable [.t 2] := .of Tryz.func96 rfl rfl (by kernel_rfl) rfl
def ir_R_IsVar : IR :=
 (.seq (.ops [.i 2 (.mov (.c (.one (.st (.bool false)))))]) (.seq (.ops [.m 3 0, .i 4 (.bin .neq (.t 3) (.c (.one (.st (.str (ByteArray.mk (#[]))))))), .m 5 4, .mk (some 6) (some (5, true)) (.mov (.t 0)) .no, .mk (some 7) (some (5, true)) (.indexStr (.t 6) (.n 0)) .no, .mk (some 8) (some (5, true)) (.bin .geq (.t 7) (.c (.one (.st (.int .u8 65))))) .no, .i 9 (.pick (.t 5) (.t 8) (.c (.one (.st (.bool false))))), .m 10 9, .mk (some 11) (some (10, true)) (.mov (.t 0)) .no, .mk (some 12) (some (10, true)) (.indexStr (.t 11) (.n 0)) .no, .mk (some 13) (some (10, true)) (.bin .leq (.t 12) (.c (.one (.st (.int .u8 90))))) .no, .i 14 (.pick (.t 10) (.t 13) (.c (.one (.st (.bool false))))), .m 2 14]) .ret))
theorem ok_R_IsVar : OkF Tryz.prog 47 15 [] ir_R_IsVar [.t 2] := .of Tryz.func47 rfl rfl (by kernel_rfl) rfl
def ir_R_Size : IR :=
 (.seq (.ops [.i 2 (.box 61 (.t 0)), .i 4 (.mov (.n 0))]) (.seq (.ops [.i 5 (.mov (.n 1))]) (.seq (.seq (.ops [.i 6 (.mov (.n 0))]) (.block 0 (.loop (.seq (.seq (.ops [.m 7 6, .f 8 1 2, .l 9 8, .i 10 (.len false (.t 9)), .i 11 (.bin .lss (.t 7) (.t 10)), .m 12 11, .mk (some 13) (some (12, true)) (.mov (.t 5)) .no, .mk (some 14) (some (12, true)) (.mov (.t 1)) .no, .mk (some 15) (some (12, true)) (.bin .leq (.t 13) (.t 14)) .no, .i 16 (.pick (.t 12) (.t 15) (.c (.one (.st (.bool false)))))]) (.cond (.t 16) .skip (.exit 0))) (.seq (.block 1 (.ops [.m 19 5, .f 20 1 2, .l 21 20, .m 22 6, .i 23 (.indexAddr 2 (.t 21) (.t 22)), .L 24 2 23, .m 25 1, .m 26 5, .i 27 (.bin .sub (.t 25) (.t 26)), .i 28 (.call 72 [.t 24, .t 27]), .i 29 (.bin .add (.t 19) (.t 28)), .m 5 29])) (.ops [.m 17 6, .i 18 (.bin .add (.t 17) (.n 1)), .m 6 18])))))) (.seq (.seq (.ops [.m 30 5, .m 31 1, .i 32 (.bin .gtr (.t 30) (.t 31))]) (.cond (.t 32) (.seq (.ops [.m 33 1, .i 34 (.bin .add (.t 33) (.n 1)), .m 4 34]) .ret) .skip)) (.seq (.ops [.m 35 5, .m 4 35]) .ret)))))
theorem ok_R_Size : OkF Tryz.prog 72 36 [] ir_R_Size [.t 4] := .of Tryz.func72 rfl rfl (by kernel_rfl) rfl
def ir_R_Knots : IR :=
 (.seq (.ops [.i 1 (.box 61 (.t 0)), .i 2 (.mov (.c (.one (.full []))))]) (.seq (.ops [.L 5 2 1, .i 6 (.buildSlice false 61 2 [.t 5]), .m 3 6]) (.seq (.seq (.ops [.i 4 (.mov (.n 0))]) (.block 0 (.loop (.seq (.seq (.ops [.m 7 4, .f 8 1 1, .l 9 8, .i 10 (.len false (.t 9)), .i 11 (.bin .lss (.t 7) (.t 10))]) (.cond (.t 11) .skip (.exit 0))) (.seq (.block 1 (.ops [.m 14 3, .f 15 1 1, .l 16 15, .m 17 4, .i 18 (.indexAddr 2 (.t 16) (.t 17)), .L 19 2 18, .i 20 (.call 52 [.t 19]), .i 21 (.append false 61 2 40 (.t 14) (.t 20)), .m 3 21])) (.ops [.m 12 4, .i 13 (.bin .add (.t 12) (.n 1)), .m 4 13])))))) (.seq (.ops [.m 22 3, .m 2 22]) .ret))))
theorem ok_R_Knots : OkF Tryz.prog 52 23 [] ir_R_Knots [.t 2] := .of Tryz.func52 rfl rfl (by kernel_rfl) rfl
def ir_R_In : IR :=
 (.seq (.ops [.i 4 (.mov (.c (.one (.st (.bool false)))))]) (.seq (.seq (.ops [.i 5 (.mov (.n 0))]) (.block 0 (.loop (.seq (.seq (.ops [.m 6 5, .m 7 1, .i 8 (.len false (.t 7)), .i 9 (.bin .lss (.t 6) (.t 8))]) (.cond (.t 9) .skip (.exit 0))) (.seq (.block 1 (.seq (.ops [.m 12 1, .m 13 5, .i 14 (.indexAddr 1 (.t 12) (.t 13)), .l 15 14, .m 16 0, .i 17 (.bin .eql (.t 15) (.t 16))]) (.cond (.t 17) (.seq (.ops [.i 4 (.mov (.c (.one (.st (.bool true)))))]) .ret) .skip))) (.ops [.m 10 5, .i 11 (.bin .add (.t 10) (.n 1)), .m 5 11])))))) (.seq (.ops [.i 4 (.mov (.c (.one (.st (.bool false)))))]) .ret)))
theorem ok_R_In : OkF Tryz.prog 48 18 [] ir_R_In [.t 4] := .of Tryz.func48 rfl rfl (by kernel_rfl) rfl
def ir_R_VarsOf : IR :=
 (.seq (.ops [.i 1 (.box 61 (.t 0)), .i 2 (.mov (.c (.one (.full []))))]) (.seq (.ops [.L 6 2 1, .i 7 (.call 52 [.t 6]), .m 3 7]) (.seq (.ops [.i 4 (.mov (.c (.one (.full []))))]) (.seq (.seq (.ops [.i 5 (.mov (.n 0))]) (.block 0 (.loop (.seq (.seq (.ops [.m 8 5, .m 9 3, .i 10 (.len false (.t 9)), .i 11 (.bin .lss (.t 8) (.t 10))]) (.cond (.t 11) .skip (.exit 0))) (.seq (.block 1 (.seq (.ops [.m 14 3, .m 15 5, .i 16 (.indexAddr 2 (.t 14) (.t 15)), .f 17 0 16, .l 18 17, .i 19 (.call 47 [.t 18]), .m 20 19, .mk (some 21) (some (20, true)) (.mov (.t 3)) .no, .mk (some 22) (some (20, true)) (.mov (.t 5)) .no, .mk (some 23) (some (20, true)) (.indexAddr 2 (.t 21) (.t 22)) .no, .mk (some 24) (some (20, true)) (.fieldAddr 0 (.t 23)) .no, .mk (some 25) (some (20, true)) (.load false 1 (.t 24)) .no, .mk (some 26) (some (20, true)) (.mov (.t 4)) .no, .mk (some 27) (some (20, true)) (.call 48 [.t 25, .t 26]) .no, .mk (some 28) (some (20, true)) (.un .not (.t 27)) .no, .i 29 (.pick (.t 20) (.t 28) (.c (.one (.st (.bool false)))))]) (.cond (.t 29) (.ops [.m 30 4, .m 31 3, .m 32 5, .i 33 (.indexAddr 2 (.t 31) (.t 32)), .f 34 0 33, .l 35 34, .i 36 (.buildFlat [.t 35]), .i 37 (.append false 9 1 16 (.t 30) (.t 36)), .m 4 37]) .skip))) (.ops [.m 12 5, .i 13 (.bin .add (.t 12) (.n 1)), .m 5 13])))))) (.seq (.ops [.m 38 4, .m 2 38]) .ret)))))
theorem ok_R_VarsOf : OkF Tryz.prog 28 39 [] ir_R_VarsOf [.t 2] := .of Tryz.func28 rfl rfl (by kernel_rfl) rfl
def ir_term_Copy : IR :=
 (.seq (.ops [.i 1 (.box 61 (.t 0)), .i 2 (.alloc 61 [.st (.str (ByteArray.mk (#[]))), .full []])]) (.seq (.ops [.f 6 0 1, .l 7 6, .i 8 (.build [.st (.str (ByteArray.mk (#[]))), .full []] [(0, 1, .t 7)]), .i 3 (.alloc 61 [.st (.str (ByteArray.mk (#[]))), .full []]), .s 2 3 8]) (.seq (.seq (.ops [.f 9 1 1, .l 10 9, .i 11 (.len false (.t 10)), .i 12 (.mov (.n 0))]) (.block 0 (.loop (.seq (.ops [.i 13 (.bin .lss (.t 12) (.t 11))]) (.seq (.cond (.t 13) .skip (.exit 0)) (.seq (.block 1 (.seq (.ops [.i 14 (.indexAddr 2 (.t 10) (.t 12)), .L 15 2 14, .i 5 (.alloc 61 [.st (.str (ByteArray.mk (#[]))), .full []]), .s 2 5 15]) (.ops [.f 16 1 3, .l 17 16, .L 18 2 5, .i 19 (.call 83 [.t 18]), .i 20 (.buildSlice false 61 2 [.t 19]), .i 21 (.append false 61 2 40 (.t 17) (.t 20)), .f 22 1 3, .s 1 22 21]))) (.ops [.i 23 (.bin .add (.t 12) (.n 1)), .m 12 23]))))))) (.seq (.ops [.L 24 2 3, .s 2 2 24]) .ret))))
theorem ok_term_Copy : OkF Tryz.prog 83 25 [] ir_term_Copy [.cell 2 true 2] := .of Tryz.func83 rfl rfl (by kernel_rfl) rfl

theorem byteN_eq (s : ByteArray) (k : Nat) : byteN s k = byteAt s k := rfl
theorem size_ne {s : ByteArray} (h : ¬ s.size = 0) : ¬ s = ⟨#[]⟩ := fun e => h (by rw [e]; rfl)
theorem size_eq0 {s : ByteArray} (h : s.size = 0) : s = ⟨#[]⟩ := by
 have := ByteArray.size_eq_zero_iff.1 h
 exact this
theorem variable_a (s : ByteArray) : ACalls Tryz.prog 96 [aStr s] (aBool (isVar s)) := by
 by_cases h0 : s.size = 0
 ·have := size_eq0 h0
  subst this
  refine ok_term_Variable.ac fun C hC => ?_
  unfold ir_term_Variable
  repeat' (first | (with_reducible first | refine W ?_ | refine Z0 ?_) | ((with_reducible first | refine Wo (fun K hK => ?_) | refine Wq ?_ | refine Wr ?_); (try simp only [go_sem, fN, seval, eT, iR]); (repeat with_reducible refine Ai ?_); (try (refine hK _ ?_; clear hK K))))
  simp only [go_sem, fN, seval, FinQ, AS.result, resAll, resOne, tupV]
  rfl
 ·have h1 := size_ne h0
  have h2 : 0 < s.size := by omega
  refine ok_term_Variable.ac fun C hC => ?_
  unfold ir_term_Variable
  by_cases h3 : 65 ≤ byteAt s 0 <;> by_cases h4 : byteAt s 0 ≤ 90
  all_goals
   repeat' (first | (with_reducible first | refine W ?_ | refine Z0 ?_) | ((with_reducible first | refine Wo (fun K hK => ?_) | refine Wq ?_ | refine Wr ?_); (try simp only [go_sem, fN, seval, eT, iR, h1, h2, byteN_eq, h3, h4]); (repeat with_reducible refine Ai ?_); (try (refine hK _ ?_; clear hK K))))
   simp only [go_sem, fN, seval, FinQ, AS.result, resAll, resOne, tupV, isVar, h3, h4, h2]
   try simp
theorem isVar_a (s : ByteArray) : ACalls Tryz.prog 47 [aStr s] (aBool (isVar s)) := by
 by_cases h0 : s.size = 0
 ·have := size_eq0 h0
  subst this
  refine ok_R_IsVar.ac fun C hC => ?_
  unfold ir_R_IsVar
  repeat' (first | (with_reducible first | refine W ?_ | refine Z0 ?_) | ((with_reducible first | refine Wo (fun K hK => ?_) | refine Wq ?_ | refine Wr ?_); (try simp only [go_sem, fN, seval, eT, iR]); (repeat with_reducible refine Ai ?_); (try (refine hK _ ?_; clear hK K))))
  simp only [go_sem, fN, seval, FinQ, AS.result, resAll, resOne, tupV]
  rfl
 ·have h1 := size_ne h0
  have h2 : 0 < s.size := by omega
  refine ok_R_IsVar.ac fun C hC => ?_
  unfold ir_R_IsVar
  by_cases h3 : 65 ≤ byteAt s 0 <;> by_cases h4 : byteAt s 0 ≤ 90
  all_goals
   repeat' (first | (with_reducible first | refine W ?_ | refine Z0 ?_) | ((with_reducible first | refine Wo (fun K hK => ?_) | refine Wq ?_ | refine Wr ?_); (try simp only [go_sem, fN, seval, eT, iR, h1, h2, byteN_eq, h3, h4]); (repeat with_reducible refine Ai ?_); (try (refine hK _ ?_; clear hK K))))
   simp only [go_sem, fN, seval, FinQ, AS.result, resAll, resOne, tupV, isVar, h3, h4, h2]
   try simp
theorem sizeR_a (t : Tm) (m : Int) (h0 : 0 ≤ m) (h1 : m ≤ 9223372036854775806) : ACalls Tryz.prog 72 [aTm t, aInt m] (aInt (capTo t.size m)) := by
 induction h : SizeOf.sizeOf t using Nat.strongRecOn generalizing t m with
 | _ N ih =>
 subst h
 have hs := Tm.size_eq t
 refine ok_R_Size.ac fun C hC => ?_
 unfold ir_R_Size
 refine IWP.learn 0 (by omega) fun hkn => ?_
 have hkn := known_tm hkn
 repeat' (first | (with_reducible first | refine W ?_ | refine Z0 ?_) | ((with_reducible first | refine Wo (fun K hK => ?_) | refine Wq ?_ | refine Wr ?_); (try simp only [go_sem, fN, seval, eT, iR]); (repeat with_reducible refine Ai ?_); (try (refine hK _ ?_; clear hK K))))
 refine IWP.loop (fun n s => ∃ k, k ≤ t.args.length ∧ n = t.args.length - k ∧ s.env 5 = aInt (capTo (1 + Tm.sizes (t.args.take k)) m) ∧ s.env 1 = aInt m ∧ s.env 2 = .one (.ptr 2 1 0 0) ∧ s.env 6 = aInt k ∧ s.S 2 = some (.box 61 [.st (.str t.name), .st (.list (t.args.map encT))])) t.args.length ⟨0, Nat.zero_le _, rfl, by
  simp only [go_sem, fN, seval, eT, iR]
  rw [capTo]
  have z0 : Tm.sizes [] = 0 := rfl
  congr 3
  split <;> omega, rfl, rfl, rfl, rfl⟩ ?_
 rintro n ⟨env, S⟩ ⟨k, hk, rfl, e5, e1, e2, e6, s2⟩
 simp only at e5 e1 e2 e6 s2
 have z4 := capTo_le (1 + Tm.sizes (t.args.take k)) m h0
 by_cases hlt : (k : Int) < t.args.length
 ·obtain ⟨a, ha⟩ := get_lt (show k < t.args.length by omega)
  have z1 := Tm.sizes_take ha
  have z2 := Tm.sizes_take_le t.args (k + 1)
  by_cases hb : m < capTo (1 + Tm.sizes (t.args.take k)) m
  ·have hb' : ¬ capTo (1 + Tm.sizes (t.args.take k)) m ≤ m := by omega
   repeat' (first | (with_reducible first | refine W ?_ | refine Z0 ?_) | ((with_reducible first | refine Wo (fun K hK => ?_) | refine Wq ?_ | refine Wr ?_); (try simp only [go_sem, fN, seval, eT, iR, e5, e1, e2, e6, s2, hlt, hb']); (repeat with_reducible refine Ai ?_); (try (refine hK _ ?_; clear hK K))))
   with_reducible refine Wp ?_
   simp only [go_sem, fN, seval, true_implies, false_implies, implies_true, dT, dF, nL, hb']
   (try with_reducible refine iC ?_)
   repeat' (first | (with_reducible first | refine W ?_ | refine Z0 ?_) | ((with_reducible first | refine Wo (fun K hK => ?_) | refine Wq ?_ | refine Wr ?_); (try simp only [go_sem, fN, seval, eT, iR, e5, e1, e2, e6, s2]); (repeat with_reducible refine Ai ?_); (try (refine hK _ ?_; clear hK K))))
   with_reducible refine Wp ?_
   simp only [go_sem, fN, seval, true_implies, false_implies, implies_true, dT, dF, nL, hb]
   (try with_reducible refine iC ?_)
   repeat' (first | (with_reducible first | refine W ?_ | refine Z0 ?_) | ((with_reducible first | refine Wo (fun K hK => ?_) | refine Wq ?_ | refine Wr ?_); (try simp only [go_sem, fN, seval, eT, iR, e1]); (repeat with_reducible refine Ai ?_); (try (refine hK _ ?_; clear hK K))))
   simp only [go_sem, fN, seval, FinQ, AS.result, resAll, resOne, tupV]
   rw [capTo_over hb (show _ ≤ t.size by rw [hs]; omega)]
  ·have hb' : capTo (1 + Tm.sizes (t.args.take k)) m ≤ m := by omega
   obtain ⟨b1, b2⟩ := capTo_in hb
   repeat' (first | (with_reducible first | refine W ?_ | refine Z0 ?_) | ((with_reducible first | refine Wo (fun K hK => ?_) | refine Wq ?_ | refine Wr ?_); (try simp only [go_sem, fN, seval, eT, iR, e5, e1, e2, e6, s2, hlt, hb']); (repeat with_reducible refine Ai ?_); (try (refine hK _ ?_; clear hK K))))
   with_reducible refine Wp ?_
   simp only [go_sem, fN, seval, true_implies, false_implies, implies_true, dT, dF, nL, hb']
   (try with_reducible refine iC ?_)
   repeat' (first | (with_reducible first | refine W ?_ | refine Z0 ?_) | ((with_reducible first | refine Wo (fun K hK => ?_) | refine Wq ?_ | refine Wr ?_); (try simp only [go_sem, fN, seval, eT, iR, e5, e1, e2, e6, s2, ha]); (repeat with_reducible refine Ai ?_); (try (refine hK _ ?_; clear hK K))))
   refine ⟨_, ih _ (Tm.lt_of_arg (mem_of_get ha)) a (m - capTo (1 + Tm.sizes (t.args.take k)) m) (by omega) (by omega) rfl, ?_⟩
   have z5 := capTo_le a.size (m - capTo (1 + Tm.sizes (t.args.take k)) m) (by omega)
   repeat' (first | (with_reducible first | refine W ?_ | refine Z0 ?_) | ((with_reducible first | refine Wo (fun K hK => ?_) | refine Wq ?_ | refine Wr ?_); (try simp only [go_sem, fN, seval, eT, iR, e5, e1, e2, e6, s2]); (repeat with_reducible refine Ai ?_); (try (refine hK _ ?_; clear hK K))))
   refine then_normal ⟨t.args.length - (k + 1), by omega, k + 1, by omega, rfl, ?_⟩
   simp only [go_sem, fN, seval, eT, iR, e5, e1, e2, e6, s2]
   exact ⟨by rw [b1, capTo_step b2, z1]; congr 4; omega, by congr 3⟩
 ·repeat' (first | (with_reducible first | refine W ?_ | refine Z0 ?_) | ((with_reducible first | refine Wo (fun K hK => ?_) | refine Wq ?_ | refine Wr ?_); (try simp only [go_sem, fN, seval, eT, iR, e5, e1, e2, e6, s2, hlt]); (repeat with_reducible refine Ai ?_); (try (refine hK _ ?_; clear hK K))))
  with_reducible refine Wp ?_
  simp only [go_sem, fN, seval, true_implies, false_implies, implies_true, dT, dF, nL]
  (try with_reducible refine iC ?_)
  have hfull : 1 + Tm.sizes (t.args.take k) = t.size := by rw [List.take_of_length_le (by omega), hs]
  rw [hfull] at e5 z4
  repeat' (first | (with_reducible first | refine W ?_ | refine Z0 ?_) | ((with_reducible first | refine Wo (fun K hK => ?_) | refine Wq ?_ | refine Wr ?_); (try simp only [go_sem, fN, seval, eT, iR, e5, e1]); (repeat with_reducible refine Ai ?_); (try (refine hK _ ?_; clear hK K))))
  by_cases hb : m < capTo t.size m
  ·with_reducible refine Wp ?_
   simp only [go_sem, fN, seval, true_implies, false_implies, implies_true, dT, dF, nL, hb]
   (try with_reducible refine iC ?_)
   repeat' (first | (with_reducible first | refine W ?_ | refine Z0 ?_) | ((with_reducible first | refine Wo (fun K hK => ?_) | refine Wq ?_ | refine Wr ?_); (try simp only [go_sem, fN, seval, eT, iR, e1]); (repeat with_reducible refine Ai ?_); (try (refine hK _ ?_; clear hK K))))
   simp only [go_sem, fN, seval, FinQ, AS.result, resAll, resOne, tupV]
   rw [capTo_over hb (Nat.le_refl _)]
  ·with_reducible refine Wp ?_
   simp only [go_sem, fN, seval, true_implies, false_implies, implies_true, dT, dF, nL, hb]
   (try with_reducible refine iC ?_)
   repeat' (first | (with_reducible first | refine W ?_ | refine Z0 ?_) | ((with_reducible first | refine Wo (fun K hK => ?_) | refine Wq ?_ | refine Wr ?_); (try simp only [go_sem, fN, seval, eT, iR, e5]); (repeat with_reducible refine Ai ?_); (try (refine hK _ ?_; clear hK K))))
   simp only [go_sem, fN, seval, FinQ, AS.result, resAll, resOne, tupV, e5]
theorem knots_a (t : Tm) (hz : t.size ≤ 1000000) : ACalls Tryz.prog 52 [aTm t] (aTms t.knots) := by
 induction h : SizeOf.sizeOf t using Nat.strongRecOn generalizing t with
 | _ N ih =>
 subst h
 have hs := Tm.size_eq t
 refine ok_R_Knots.ac fun C hC => ?_
 unfold ir_R_Knots
 repeat' (first | (with_reducible first | refine W ?_ | refine Z0 ?_) | ((with_reducible first | refine Wo (fun K hK => ?_) | refine Wq ?_ | refine Wr ?_); (try simp only [go_sem, fN, seval, eT, iR]); (repeat with_reducible refine Ai ?_); (try (refine hK _ ?_; clear hK K))))
 refine IWP.ghost (Ghost.own 3 21 61 2 (xs := ([t].map encT)) (by simp only [go_sem, fN, seval, eT, iR]) rfl lens_encT (by omega)) ?_
 have hlen := Tm.length_le t.args
 refine IWP.loopD [] (fun m s => ∃ k, k ≤ t.args.length ∧ m = t.args.length - k ∧ s.env 1 = .one (.ptr 1 1 0 0) ∧ s.S 1 = some (.box 61 [.st (.str t.name), .st (.list (t.args.map encT))]) ∧ s.env 3 = .one (.row 21 (t :: Tm.knotsL (t.args.take k)).length) ∧ s.S 21 = some (.arow 61 2 ((t :: Tm.knotsL (t.args.take k)).map encT)) ∧ s.env 4 = aInt k)
  t.args.length ⟨0, Nat.zero_le _, rfl, rfl, rfl, rfl, rfl, rfl⟩ ?_
 rintro m ⟨env, S⟩ ⟨k, hk, rfl, e1, s1, e3, s21, e4⟩
 simp only at e1 s1 e3 s21 e4
 repeat' (first | (with_reducible first | refine W ?_ | refine Z0 ?_) | ((with_reducible first | refine Wo (fun K hK => ?_) | refine Wq ?_ | refine Wr ?_); (try simp only [go_sem, fN, seval, eT, iR, e1, s1, e3, s21, e4]); (repeat with_reducible refine Ai ?_); (try (refine hK _ ?_; clear hK K))))
 with_reducible refine Wp ?_
 simp only [go_sem, fN, seval, true_implies, false_implies, implies_true, dT, dF, nL]
 (try with_reducible refine iC ?_)
 refine ⟨fun hlt => ?_, fun hge => ?_⟩
 ·obtain ⟨a, ha⟩ := get_lt (show k < t.args.length by omega)
  have z1 := Tm.sizes_take ha
  have z2 := Tm.sizes_take_le t.args (k + 1)
  have z3 := Tm.knots_length a
  have z4 := Tm.knotsL_length (t.args.take k)
  repeat' (first | (with_reducible first | refine W ?_ | refine Z0 ?_) | refine Cg _ (ih _ (Tm.lt_of_arg (mem_of_get ha)) a (by omega) rfl) ?_ | ((with_reducible first | refine Wo (fun K hK => ?_) | refine Wq ?_ | refine Wr ?_); (try simp only [go_sem, fN, seval, eT, iR, e1, s1, e3, s21, e4, ha]); (repeat with_reducible refine Ai ?_); (try (refine hK _ ?_; clear hK K))))
  refine then_normal ⟨t.args.length - (k + 1), by omega, k + 1, by omega, rfl, ?_⟩
  simp only [go_sem, fN, seval, AS.drop, dropS, AC.clears, AC.clear, AC.highs, AC.high, Bool.not_false, Bool.true_and, Bool.and_self, AV.purge, AV.purges, AC.purge, ABlk.purge, List.contains_cons, List.contains_nil, Nat.reduceBEq, Bool.or_self, Bool.or_false, Bool.false_or, Bool.or_true, eT, iR, e1, s1, e3, s21, e4]
  rw [Tm.knotsL_take ha]
  exact ⟨by simp <;> omega, by simp [encT_eq], rfl⟩
 ·repeat' (first | (with_reducible first | refine W ?_ | refine Z0 ?_) | ((with_reducible first | refine Wo (fun K hK => ?_) | refine Wq ?_ | refine Wr ?_); (try simp only [go_sem, fN, seval, eT, iR, e1, s1, e3, s21, e4]); (repeat with_reducible refine Ai ?_); (try (refine hK _ ?_; clear hK K))))
  simp only [go_sem, fN, seval, FinQ, AS.result, resAll, resOne, tupV, e3, s21]
  rw [List.take_of_length_le (by omega), Tm.knots_eq]
  rfl
theorem in_a (x : ByteArray) (l : List ByteArray) : ACalls Tryz.prog 48 [aStr x, aStrs l] (aBool (isIn x l)) := by
 refine ok_R_In.ac fun C hC => ?_
 unfold ir_R_In
 refine IWP.learn 1 (by omega) fun hkn => ?_
 have hkn := known_len hkn
 rw [List.length_map] at hkn
 repeat' (first | (with_reducible first | refine W ?_ | refine Z0 ?_) | ((with_reducible first | refine Wo (fun K hK => ?_) | refine Wq ?_ | refine Wr ?_); (try simp only [go_sem, fN, seval, eT, iR]); (repeat with_reducible refine Ai ?_); (try (refine hK _ ?_; clear hK K))))
 refine IWP.loop (fun n s => ∃ k, k ≤ l.length ∧ n = l.length - k ∧ isIn x (l.take k) = false ∧ s.env 0 = aStr x ∧ s.env 1 = aStrs l ∧ s.env 5 = aInt k) l.length ⟨0, Nat.zero_le _, rfl, rfl, rfl, rfl, rfl⟩ ?_
 rintro n ⟨env, S⟩ ⟨k, hk, rfl, h0, e0, e1, e5⟩
 simp only at e0 e1 e5
 repeat' (first | (with_reducible first | refine W ?_ | refine Z0 ?_) | ((with_reducible first | refine Wo (fun K hK => ?_) | refine Wq ?_ | refine Wr ?_); (try simp only [go_sem, fN, seval, eT, iR, e0, e1, e5]); (repeat with_reducible refine Ai ?_); (try (refine hK _ ?_; clear hK K))))
 with_reducible refine Wp ?_
 simp only [go_sem, fN, seval, true_implies, false_implies, implies_true, dT, dF, nL]
 (try with_reducible refine iC ?_)
 refine ⟨fun hlt => ?_, fun hge => ?_⟩
 ·obtain ⟨a, ha⟩ := get_lt (show k < l.length by omega)
  repeat' (first | (with_reducible first | refine W ?_ | refine Z0 ?_) | ((with_reducible first | refine Wo (fun K hK => ?_) | refine Wq ?_ | refine Wr ?_); (try simp only [go_sem, fN, seval, eT, iR, e0, e1, e5, ha]); (repeat with_reducible refine Ai ?_); (try (refine hK _ ?_; clear hK K))))
  with_reducible refine Wp ?_
  simp only [go_sem, fN, seval, true_implies, false_implies, implies_true, dT, dF, nL]
  (try with_reducible refine iC ?_)
  refine ⟨fun hb => ?_, fun hb => ?_⟩
  ·repeat' (first | (with_reducible first | refine W ?_ | refine Z0 ?_) | ((with_reducible first | refine Wo (fun K hK => ?_) | refine Wq ?_ | refine Wr ?_); (try simp only [go_sem, fN, seval, eT, iR]); (repeat with_reducible refine Ai ?_); (try (refine hK _ ?_; clear hK K))))
   simp only [go_sem, fN, seval, FinQ, AS.result, resAll, resOne, tupV]
   rw [isIn_iff.2 (by rw [← hb]; exact mem_of_get ha)]
  ·repeat' (first | (with_reducible first | refine W ?_ | refine Z0 ?_) | ((with_reducible first | refine Wo (fun K hK => ?_) | refine Wq ?_ | refine Wr ?_); (try simp only [go_sem, fN, seval, eT, iR, e0, e1, e5]); (repeat with_reducible refine Ai ?_); (try (refine hK _ ?_; clear hK K))))
   refine then_normal ⟨l.length - (k + 1), by omega, k + 1, by omega, rfl, ?_, ?_⟩
   ·rw [take_snoc ha, isIn_no]
    rw [isIn_no] at h0
    simp only [List.mem_append, List.mem_singleton, not_or]
    exact ⟨h0, fun e => hb e.symm⟩
   ·simp only [go_sem, fN, seval, eT, iR, e0, e1, e5]
    congr 3
 ·repeat' (first | (with_reducible first | refine W ?_ | refine Z0 ?_) | ((with_reducible first | refine Wo (fun K hK => ?_) | refine Wq ?_ | refine Wr ?_); (try simp only [go_sem, fN, seval, eT, iR]); (repeat with_reducible refine Ai ?_); (try (refine hK _ ?_; clear hK K))))
  simp only [go_sem, fN, seval, FinQ, AS.result, resAll, resOne, tupV]
  rw [List.take_of_length_le (by omega)] at h0
  rw [h0]
mutual
def Tm.beq : Tm → Tm → Bool
 | .mk n xs, .mk m ys => decide (n = m) && Tm.beqL xs ys
def Tm.beqL : List Tm → List Tm → Bool
 | [], [] => true
 | x :: xs, y :: ys => x.beq y && Tm.beqL xs ys
 | _, _ => false
end
mutual
theorem Tm.beq_iff : ∀ a b : Tm, a.beq b = true ↔ a = b
 | .mk n xs, .mk m ys => by
  rw [Tm.beq, Bool.and_eq_true, Tm.beqL_iff xs ys, decide_eq_true_eq, Tm.mk.injEq]
theorem Tm.beqL_iff : ∀ xs ys : List Tm, Tm.beqL xs ys = true ↔ xs = ys
 | [], [] => by simp [Tm.beqL]
 | x :: xs, y :: ys => by rw [Tm.beqL, Bool.and_eq_true, Tm.beq_iff x y, Tm.beqL_iff xs ys, List.cons.injEq]
 | [], y :: ys => by simp [Tm.beqL]
 | x :: xs, [] => by simp [Tm.beqL]
end
theorem Tm.beq_refl (a : Tm) : a.beq a = true := (Tm.beq_iff a a).2 rfl
theorem Tm.eq_of {a b : Tm} (h1 : a.name = b.name) (h2 : a.args = b.args) : a = b := by
 cases a; cases b
 simp only [Tm.name_mk, Tm.args_mk] at h1 h2
 rw [h1, h2]
def Tm.nil : Tm := .mk ⟨#[]⟩ []

theorem lens_encS {ts : List ByteArray} : ∀ x ∈ ts.map encS, x.length = 1 := by
 intro x hx
 obtain ⟨a, _, rfl⟩ := List.mem_map.1 hx
 rfl
theorem varsOf_a (t : Tm) (hz : t.size ≤ 1000000) : ACalls Tryz.prog 28 [aTm t] (aStrs t.varsOf) := by
 have hl := Tm.knots_length t
 refine ok_R_VarsOf.ac fun C hC => ?_
 unfold ir_R_VarsOf
 repeat' (first | (with_reducible first | refine W ?_ | refine Z0 ?_) | refine Cg _ (knots_a t hz) ?_ | ((with_reducible first | refine Wo (fun K hK => ?_) | refine Wq ?_ | refine Wr ?_); (try simp only [go_sem, fN, seval, eT, iR]); (repeat with_reducible refine Ai ?_); (try (refine hK _ ?_; clear hK K))))
 refine IWP.ghost (Ghost.own 4 37 9 1 (xs := ([] : List ByteArray).map encS) rfl rfl lens_encS (by omega)) ?_
 refine IWP.loopD [] (fun m s => ∃ k, k ≤ t.knots.length ∧ m = t.knots.length - k ∧ s.env 3 = aTms t.knots ∧ s.env 4 = .one (.row 37 (addVars [] (t.knots.take k)).length) ∧ s.S 37 = some (.arow 9 1 ((addVars [] (t.knots.take k)).map encS)) ∧ s.env 5 = aInt k)
  t.knots.length ⟨0, Nat.zero_le _, rfl, rfl, rfl, rfl, rfl⟩ ?_
 rintro m ⟨env, S⟩ ⟨k, hk, rfl, e3, e4, s37, e5⟩
 simp only at e3 e4 s37 e5
 have hlen := addVars_length (t.knots.take k) []
 rw [List.length_take, List.length_nil] at hlen
 by_cases hlt : (k : Int) < t.knots.length
 ·obtain ⟨a, ha⟩ := get_lt (show k < t.knots.length by omega)
  repeat' (first | (with_reducible first | refine W ?_ | refine Z0 ?_) | ((with_reducible first | refine Wo (fun K hK => ?_) | refine Wq ?_ | refine Wr ?_); (try simp only [go_sem, fN, seval, eT, iR, e3, e4, s37, e5, hlt]); (repeat with_reducible refine Ai ?_); (try (refine hK _ ?_; clear hK K))))
  with_reducible refine Wp ?_
  simp only [go_sem, fN, seval, true_implies, false_implies, implies_true, dT, dF, nL, hlt]
  (try with_reducible refine iC ?_)
  repeat' (first | (with_reducible first | refine W ?_ | refine Z0 ?_) | ((with_reducible first | refine Wo (fun K hK => ?_) | refine Wq ?_ | refine Wr ?_); (try simp only [go_sem, fN, seval, eT, iR, e3, e4, s37, e5, ha]); (repeat with_reducible refine Ai ?_); (try (refine hK _ ?_; clear hK K))))
  refine ⟨_, isVar_a _, ?_⟩
  have hstep : addVars [] (t.knots.take (k + 1)) = addVar (addVars [] (t.knots.take k)) a.name := by rw [take_snoc ha, addVars_snoc]
  cases hv : isVar a.name with
  | false =>
   rw [addVar_no hv] at hstep
   repeat' (first | (with_reducible first | refine W ?_ | refine Z0 ?_) | ((with_reducible first | refine Wo (fun K hK => ?_) | refine Wq ?_ | refine Wr ?_); (try simp only [go_sem, fN, seval, eT, iR, e3, e4, s37, e5, ha]); (repeat with_reducible refine Ai ?_); (try (refine hK _ ?_; clear hK K))))
   with_reducible refine Wp ?_
   simp only [go_sem, fN, seval, true_implies, false_implies, implies_true, dT, dF, nL]
   (try with_reducible refine iC ?_)
   repeat' (first | (with_reducible first | refine W ?_ | refine Z0 ?_) | ((with_reducible first | refine Wo (fun K hK => ?_) | refine Wq ?_ | refine Wr ?_); (try simp only [go_sem, fN, seval, eT, iR, e3, e4, s37, e5]); (repeat with_reducible refine Ai ?_); (try (refine hK _ ?_; clear hK K))))
   refine then_normal ⟨t.knots.length - (k + 1), by omega, k + 1, by omega, rfl, ?_⟩
   simp only [go_sem, fN, seval, AS.drop, dropS, AC.clears, AC.clear, AC.highs, AC.high, Bool.not_false, Bool.true_and, Bool.and_self, AV.purge, AV.purges, AC.purge, ABlk.purge, List.contains_cons, List.contains_nil, Nat.reduceBEq, Bool.or_self, Bool.or_false, Bool.false_or, Bool.or_true, eT, iR, e3, e4, s37, e5, hstep]
   congr 3
  | true =>
   repeat' (first | (with_reducible first | refine W ?_ | refine Z0 ?_) | ((with_reducible first | refine Wo (fun K hK => ?_) | refine Wq ?_ | refine Wr ?_); (try simp only [go_sem, fN, seval, eT, iR, e3, e4, s37, e5, ha]); (repeat with_reducible refine Ai ?_); (try (refine hK _ ?_; clear hK K))))
   refine ⟨_, in_a _ _, ?_⟩
   cases hi : isIn a.name (addVars [] (t.knots.take k)) with
   | true =>
    rw [addVar_in hi] at hstep
    repeat' (first | (with_reducible first | refine W ?_ | refine Z0 ?_) | ((with_reducible first | refine Wo (fun K hK => ?_) | refine Wq ?_ | refine Wr ?_); (try simp only [go_sem, fN, seval, eT, iR, e3, e4, s37, e5]); (repeat with_reducible refine Ai ?_); (try (refine hK _ ?_; clear hK K))))
    with_reducible refine Wp ?_
    simp only [go_sem, fN, seval, true_implies, false_implies, implies_true, dT, dF, nL]
    (try with_reducible refine iC ?_)
    repeat' (first | (with_reducible first | refine W ?_ | refine Z0 ?_) | ((with_reducible first | refine Wo (fun K hK => ?_) | refine Wq ?_ | refine Wr ?_); (try simp only [go_sem, fN, seval, eT, iR, e3, e4, s37, e5]); (repeat with_reducible refine Ai ?_); (try (refine hK _ ?_; clear hK K))))
    refine then_normal ⟨t.knots.length - (k + 1), by omega, k + 1, by omega, rfl, ?_⟩
    simp only [go_sem, fN, seval, AS.drop, dropS, AC.clears, AC.clear, AC.highs, AC.high, Bool.not_false, Bool.true_and, Bool.and_self, AV.purge, AV.purges, AC.purge, ABlk.purge, List.contains_cons, List.contains_nil, Nat.reduceBEq, Bool.or_self, Bool.or_false, Bool.false_or, Bool.or_true, eT, iR, e3, e4, s37, e5, hstep]
    congr 3
   | false =>
    rw [addVar_yes hv hi] at hstep
    repeat' (first | (with_reducible first | refine W ?_ | refine Z0 ?_) | ((with_reducible first | refine Wo (fun K hK => ?_) | refine Wq ?_ | refine Wr ?_); (try simp only [go_sem, fN, seval, eT, iR, e3, e4, s37, e5]); (repeat with_reducible refine Ai ?_); (try (refine hK _ ?_; clear hK K))))
    with_reducible refine Wp ?_
    simp only [go_sem, fN, seval, true_implies, false_implies, implies_true, dT, dF, nL]
    (try with_reducible refine iC ?_)
    repeat' (first | (with_reducible first | refine W ?_ | refine Z0 ?_) | ((with_reducible first | refine Wo (fun K hK => ?_) | refine Wq ?_ | refine Wr ?_); (try simp only [go_sem, fN, seval, eT, iR, e3, e4, s37, e5, ha]); (repeat with_reducible refine Ai ?_); (try (refine hK _ ?_; clear hK K))))
    refine then_normal ⟨t.knots.length - (k + 1), by omega, k + 1, by omega, rfl, ?_⟩
    simp only [go_sem, fN, seval, AS.drop, dropS, AC.clears, AC.clear, AC.highs, AC.high, Bool.not_false, Bool.true_and, Bool.and_self, AV.purge, AV.purges, AC.purge, ABlk.purge, List.contains_cons, List.contains_nil, Nat.reduceBEq, Bool.or_self, Bool.or_false, Bool.false_or, Bool.or_true, eT, iR, e3, e4, s37, e5, hstep]
    exact ⟨by rw [List.map_append]; rfl, by congr 3⟩
 ·repeat' (first | (with_reducible first | refine W ?_ | refine Z0 ?_) | ((with_reducible first | refine Wo (fun K hK => ?_) | refine Wq ?_ | refine Wr ?_); (try simp only [go_sem, fN, seval, eT, iR, e3, e4, s37, e5, hlt]); (repeat with_reducible refine Ai ?_); (try (refine hK _ ?_; clear hK K))))
  with_reducible refine Wp ?_
  simp only [go_sem, fN, seval, true_implies, false_implies, implies_true, dT, dF, nL, hlt]
  (try with_reducible refine iC ?_)
  repeat' (first | (with_reducible first | refine W ?_ | refine Z0 ?_) | ((with_reducible first | refine Wo (fun K hK => ?_) | refine Wq ?_ | refine Wr ?_); (try simp only [go_sem, fN, seval, eT, iR, e4, s37]); (repeat with_reducible refine Ai ?_); (try (refine hK _ ?_; clear hK K))))
  simp only [go_sem, fN, seval, FinQ, AS.result, resAll, resOne, tupV, e4, s37]
  rw [List.take_of_length_le (by omega)]
  rfl
theorem copy_a (t : Tm) (hz : t.size ≤ 1000000) : ACalls Tryz.prog 83 [aTm t] (aTm t) := by
 induction h : SizeOf.sizeOf t using Nat.strongRecOn generalizing t with
 | _ N ih =>
 subst h
 have hs := Tm.size_eq t
 have hkn := Tm.length_le t.args
 refine ok_term_Copy.ac fun C hC => ?_
 unfold ir_term_Copy
 repeat' (first | (with_reducible first | refine W ?_ | refine Z0 ?_) | ((with_reducible first | refine Wo (fun K hK => ?_) | refine Wq ?_ | refine Wr ?_); (try simp only [go_sem, fN, seval, eT, iR]); (repeat with_reducible refine Ai ?_); (try (refine hK _ ?_; clear hK K))))
 refine IWP.ghost (Ghost.ownC 3 1 21 61 2 (xs := ([] : List Tm).map encT) rfl rfl rfl lens_encT) ?_
 refine IWP.loopD [5] (fun m s => ∃ k, k ≤ t.args.length ∧ m = t.args.length - k ∧ s.env 2 = .one (.ptr 2 1 0 0) ∧ s.env 3 = .one (.ptr 3 1 0 0) ∧ s.S 2 = some (.box 61 [.st (.str ⟨#[]⟩), .full []]) ∧ s.S 3 = some (.box 61 [.st (.str t.name), .row 21 k]) ∧ s.S 21 = some (.arow 61 2 ((t.args.take k).map encT)) ∧ s.env 10 = .one (.st (.list (t.args.map encT))) ∧ s.env 11 = aInt t.args.length ∧ s.env 12 = aInt k ∧ s.S 5 = none)
  t.args.length ⟨0, Nat.zero_le _, rfl, rfl, rfl, rfl, rfl, rfl, rfl, rfl, rfl, rfl⟩ ?_
 rintro m ⟨env, S⟩ ⟨k, hk, rfl, e2, e3, s2, s3, s21, e10, e11, e12, s5⟩
 simp only at e2 e3 s2 s3 s21 e10 e11 e12 s5
 have hlk : (t.args.take k).length = k := by rw [List.length_take]; omega
 by_cases hlt : (k : Int) < t.args.length
 ·obtain ⟨a, ha⟩ := get_lt (show k < t.args.length by omega)
  repeat' (first | (with_reducible first | refine W ?_ | refine Z0 ?_) | ((with_reducible first | refine Wo (fun K hK => ?_) | refine Wq ?_ | refine Wr ?_); (try simp only [go_sem, fN, seval, eT, iR, e2, e3, s2, s3, s21, e10, e11, e12, s5, hlt]); (repeat with_reducible refine Ai ?_); (try (refine hK _ ?_; clear hK K))))
  with_reducible refine Wp ?_
  simp only [go_sem, fN, seval, true_implies, false_implies, implies_true, dT, dF, nL, e10, e11, e12, hlt]
  (try with_reducible refine iC ?_)
  repeat' (first | (with_reducible first | refine W ?_ | refine Z0 ?_) | refine Cg _ (ih _ (Tm.lt_of_arg (mem_of_get ha)) a (by have := Tm.size_mem (mem_of_get ha); omega) rfl) ?_ | ((with_reducible first | refine Wo (fun K hK => ?_) | refine Wq ?_ | refine Wr ?_); (try simp only [go_sem, fN, seval, eT, iR, e2, e3, s2, s3, s21, e10, e11, e12, s5, ha, hlk]); (repeat with_reducible refine Ai ?_); (try (refine hK _ ?_; clear hK K))))
  refine then_normal ⟨t.args.length - (k + 1), by omega, k + 1, by omega, rfl, ?_⟩
  simp only [go_sem, fN, seval, AS.drop, dropS, AC.clears, AC.clear, AC.highs, AC.high, Bool.not_false, Bool.true_and, Bool.and_self, AV.purge, AV.purges, AC.purge, ABlk.purge, List.contains_cons, List.contains_nil, Nat.reduceBEq, Bool.or_self, Bool.or_false, Bool.false_or, Bool.or_true, eT, iR, e2, e3, s2, s3, s21, e10, e11, e12, s5]
  exact ⟨by rw [take_snoc ha]; simp [encT_eq], by congr 3⟩
 ·repeat' (first | (with_reducible first | refine W ?_ | refine Z0 ?_) | ((with_reducible first | refine Wo (fun K hK => ?_) | refine Wq ?_ | refine Wr ?_); (try simp only [go_sem, fN, seval, eT, iR, e2, e3, s2, s3, s21, e10, e11, e12, s5, hlt]); (repeat with_reducible refine Ai ?_); (try (refine hK _ ?_; clear hK K))))
  with_reducible refine Wp ?_
  simp only [go_sem, fN, seval, true_implies, false_implies, implies_true, dT, dF, nL, e10, e11, e12, hlt]
  (try with_reducible refine iC ?_)
  repeat' (first | (with_reducible first | refine W ?_ | refine Z0 ?_) | ((with_reducible first | refine Wo (fun K hK => ?_) | refine Wq ?_ | refine Wr ?_); (try simp only [go_sem, fN, seval, eT, iR, e2, e3, s2, s3, s21, e10, e11, e12, s5]); (repeat with_reducible refine Ai ?_); (try (refine hK _ ?_; clear hK K))))
  have hall : t.args.take k = t.args := List.take_of_length_le (by omega)
  rw [hall] at hlk s21
  simp only [go_sem, fN, seval, FinQ, AS.result, resAll, resOne, tupV, e2, s2, s21, hlk]

abbrev Pr := Tm × Tm
def encP (p : Pr) : List SV := [.str p.1.name, .list (p.1.args.map encT), .str p.2.name, .list (p.2.args.map encT)]
abbrev aPrs (l : List Pr) : AV := .one (.st (.list (l.map encP)))
instance : Lens encP 4 := ⟨fun _ => rfl⟩

def digV (l : List UInt8) : Nat := l.foldl (fun v d => v * 10 + (d.toNat - 48)) 0
theorem digV_snoc (l : List UInt8) (d : UInt8) : digV (l ++ [d]) = digV l * 10 + (d.toNat - 48) := by unfold digV; rw [List.foldl_append]; rfl
theorem dig_one {k : Nat} (h : k < 10) : (UInt8.ofNat (48 + k)).toNat - 48 = k := by
 rw [UInt8.toNat_ofNat_of_lt' (by show _ < 256; omega)]
 omega
theorem digV_dec (u : Nat) : digV (Lib.decDigits u) = u := by
 induction u using Nat.strongRecOn with
 | _ u ih =>
  by_cases h : u < 10
  ·rw [Lib.decDigits, dif_pos h]
   show 0 * 10 + _ = u
   rw [dig_one h]
   omega
  ·rw [Lib.decDigits, dif_neg h, digV_snoc, ih _ (by omega), dig_one (Nat.mod_lt _ (by omega))]
   omega
def decS (n : Nat) : ByteArray := ⟨(Lib.decDigits n).toArray⟩
theorem decS_small {n : Nat} (h : n < 10) : decS n = ⟨#[UInt8.ofNat (48 + n)]⟩ := by unfold decS; rw [Lib.decDigits, dif_pos h]
theorem decS_big {n : Nat} (h : ¬ n < 10) : decS n = decS (n / 10) ++ decS (n % 10) := by
 rw [decS_small (n := n % 10) (Nat.mod_lt _ (by omega))]
 unfold decS
 conv => lhs; rw [Lib.decDigits, dif_neg h]
 apply ByteArray.ext
 simp
theorem nDig_le {u k : Nat} (h : u < 10 ^ k) (hk : 1 ≤ k) : Lib.nDigits u ≤ k := by
 induction k generalizing u with
 | zero => omega
 | succ k ih =>
  by_cases h1 : u < 10
  ·rw [Lib.nDigits_small h1]; omega
  ·rw [Lib.nDigits_big h1]
   have : 1 ≤ k := by
    rcases Nat.eq_zero_or_pos k with h0 | h0
    ·subst h0; rw [Nat.zero_add, Nat.pow_one] at h; omega
    ·exact h0
   have := ih (u := u / 10) (by rw [Nat.pow_succ] at h; omega) this
   omega
theorem decS_size (n : Nat) : (decS n).size = Lib.nDigits n := by
 show (Lib.decDigits n).toArray.size = _
 rw [List.size_toArray, Lib.decDigits_length]
theorem decS_size_le {n : Nat} (h : n < 1000000) : (decS n).size ≤ 6 := by rw [decS_size]; exact nDig_le (k := 6) (by omega) (by omega)
theorem digits_letters (u : Nat) : ∀ d ∈ Lib.decDigits u, 48 ≤ d.toNat ∧ d.toNat ≤ 57 := by
 induction u using Nat.strongRecOn with
 | _ u ih =>
  by_cases h : u < 10
  ·rw [Lib.decDigits, dif_pos h]
   intro d hd
   rw [List.mem_singleton] at hd
   subst hd
   rw [UInt8.toNat_ofNat_of_lt' (by show _ < 256; omega)]
   omega
  ·rw [Lib.decDigits, dif_neg h]
   intro d hd
   rcases List.mem_append.1 hd with hd | hd
   ·exact ih _ (by omega) d hd
   ·rw [List.mem_singleton] at hd
    subst hd
    rw [UInt8.toNat_ofNat_of_lt' (by show _ < 256; omega)]
    omega
def headEq (n : ByteArray) (xs : List Tm) (b : Tm) : Prop := isVar n = false ∧ n = b.name ∧ xs.length = b.args.length
instance (n : ByteArray) (xs : List Tm) (b : Tm) : Decidable (headEq n xs b) := by unfold headEq; infer_instance
def Goes (l m : List Pr) : Prop := ∃ r, m = l ++ r
theorem Goes.refl (l : List Pr) : Goes l l := ⟨[], by simp⟩
theorem Goes.trans {a b c : List Pr} (h : Goes a b) (k : Goes b c) : Goes a c := by
 obtain ⟨r, rfl⟩ := h
 obtain ⟨q, rfl⟩ := k
 exact ⟨r ++ q, by simp⟩


end Go.Proofs.YtkjlddlllofenaaGreatDoor
