/-
  Reading and writing a thing of a row that the call itself owns.
  Conditions: none.
-/
import Derived.Test.YtkjbaabkaboaoaaPlace
namespace Go.Proofs.Ytkjbaabkaboaoaa
open Go Go.RowKit
set_option maxHeartbeats 400000
set_option linter.unusedVariables false
open Cod (wid dat)

theorem Dat.AggIs.get {σ : Sto} {e : Nat} : ∀ {ds : List Dat} {cs : List Value}, (∀ d ∈ ds, ∀ xs, d.Is σ xs → xs.length = e) → Dat.AggIs σ ds cs → ∀ k (h : k < ds.length), ∃ xs, ds[k].Is σ xs ∧ ∀ j x, xs[j]? = some x → cs[k * e + j]? = some x
  | [], _, _, _, k, h => absurd h (by simp)
  | d :: ds, cs, hl, hd, 0, h => by
    obtain ⟨x, y, rfl, h1, h2⟩ := hd
    refine ⟨x, h1, fun j u hj => ?_⟩
    have := lt_of_get hj
    rw [Nat.zero_mul, Nat.zero_add, List.getElem?_append_left this]
    exact hj
  | d :: ds, cs, hl, hd, k + 1, h => by
    obtain ⟨x, y, rfl, h1, h2⟩ := hd
    obtain ⟨xs, h3, h4⟩ := Dat.AggIs.get (e := e) (fun d hd => hl d (by simp [hd])) h2 k (by simpa using h)
    have hx := hl d (by simp) x h1
    refine ⟨xs, by simpa using h3, fun j u hj => ?_⟩
    rw [List.getElem?_append_right (by rw [Nat.add_mul]; omega)]
    rw [show (k + 1) * e + j - x.length = k * e + j by rw [Nat.add_mul]; omega]
    exact h4 j u hj
theorem Dat.AggIs.set {σ : Sto} {e : Nat} {d' : Dat} {ys : List Value} (hy : d'.Is σ ys) (hyl : ys.length = e) : ∀ {ds : List Dat} {cs : List Value}, (∀ d ∈ ds, ∀ xs, d.Is σ xs → xs.length = e) → Dat.AggIs σ ds cs → ∀ k, k < ds.length → Dat.AggIs σ (ds.set k d') (cs.take (k * e) ++ (ys ++ cs.drop (k * e + e)))
  | [], _, _, _, k, h => absurd h (by simp)
  | d :: ds, cs, hl, hd, 0, h => by
    obtain ⟨x, y, rfl, h1, h2⟩ := hd
    have hx := hl d (by simp) x h1
    refine ⟨ys, y, ?_, hy, h2⟩
    rw [Nat.zero_mul, List.take_zero, Nat.zero_add, ← hx, List.drop_left]
    rfl
  | d :: ds, cs, hl, hd, k + 1, h => by
    obtain ⟨x, y, rfl, h1, h2⟩ := hd
    have hx := hl d (by simp) x h1
    have ih := Dat.AggIs.set hy hyl (fun d hd => hl d (by simp [hd])) h2 k (by simpa using h)
    refine ⟨x, _, ?_, h1, ih⟩
    have e1 : (k + 1) * e = x.length + k * e := by rw [Nat.add_mul]; omega
    rw [e1, List.take_append, List.take_of_length_le (by omega), Nat.add_sub_cancel_left, show x.length + k * e + e = x.length + (k * e + e) by omega, List.drop_append, List.drop_of_length_le (by omega : x.length ≤ x.length + (k * e + e)), Nat.add_sub_cancel_left]
    simp
theorem set_two (cs : List Value) (i : Nat) (x y : Value) (h : i + 1 < cs.length) : (cs.set i x).set (i + 1) y = cs.take i ++ ([x, y] ++ cs.drop (i + 2)) := by
  apply List.ext_getElem?
  intro j
  rw [List.getElem?_set, List.getElem?_set, List.length_set, List.getElem?_append, List.length_take, List.getElem?_append, List.getElem?_take, List.getElem?_drop]
  by_cases h1 : j < i
  · rw [if_neg (by omega), if_neg (by omega), if_pos (by omega), if_pos h1]
  · rw [if_neg (show ¬ j < min i cs.length by omega)]
    by_cases h2 : j = i
    · subst h2
      rw [if_neg (by omega), if_pos rfl, if_pos (by omega), if_pos (by simp; omega)]
      simp [show min j cs.length = j by omega]
    · by_cases h3 : j = i + 1
      · subst h3
        rw [if_pos rfl, if_pos (by omega), if_pos (by simp; omega)]
        simp [show min i cs.length = i by omega]
      · rw [if_neg (by omega), if_neg (by omega), if_neg (by simp; omega)]
        congr 1
        simp
        omega

section
variable {α : Type} [Cod α] {σ : Sto} {w : World} {N : Nat} {e : TypeId} {v : Value} {xs : List α}
theorem dats_len (σ : Sto) (xs : List α) : ∀ d ∈ xs.map dat, ∀ ys, d.Is σ ys → ys.length = wid α := fun d hd ys hy => by
  obtain ⟨a, _, rfl⟩ := List.mem_map.1 hd
  exact Cod.len σ a ys hy
/-- The k-th thing of an owned row. -/
theorem Own.get (h : Own σ N w e v xs) (k : Nat) (a : α) (hk : xs[k]? = some a) :
    ∃ g c, v = .slice (some ⟨g, 0, none⟩) xs.length c ∧ N ≤ g ∧ g < w.heap.size ∧ ∃ cs, Cells σ cs a ∧ (∀ j x, cs[j]? = some x → w.cell? ⟨g, k * wid α + j, none⟩ = some x) ∧ ∀ j, w.frozen? ⟨g, j, none⟩ = false := by
  obtain ⟨cs, h1, h2⟩ := h.row
  have hkl := lt_of_get hk
  obtain ⟨ys, h3, h4⟩ := Dat.AggIs.get (e := wid α) (dats_len σ xs) h2 k (by simpa using hkl)
  rcases h1.2 with ⟨rfl, h0⟩ | ⟨g, cap, cur, rfl, hg, hh, hn, hm, hcs, htake⟩
  · omega
  · refine ⟨g, cap, rfl, hg, (Array.getElem?_eq_some_iff.1 hh).1, ys, ?_, fun j x hj => ?_, fun j => by simp [World.frozen?, hh]⟩
    · have : (xs.map dat)[k]'(by simpa using hkl) = dat a := by
        rw [List.getElem?_eq_getElem hkl] at hk
        simp at hk
        simp [hk]
      rw [this] at h3
      exact h3
    · have := h1.cells (g := g) rfl (k * wid α + j) x (h4 j x hj)
      rw [add_zero_off, Nat.zero_add] at this
      exact this
/-- A thing of two cells of an owned row written anew. -/
theorem Own.set2 (h : Own σ N w e v xs) (h2 : wid α = 2) (k : Nat) (hk : k < xs.length) {g : Nat} (hg : v.ownBlock = some g) (y : α) (c0 c1 : Value) (hc : Cells σ [c0, c1] y) :
    Own σ N ((w.setCell ⟨g, k * 2, none⟩ c0).setCell ⟨g, k * 2 + 1, none⟩ c1) e v (xs.set k y) := by
  obtain ⟨cs, h1, h3⟩ := h.row
  obtain ⟨p, c, rfl, _, _, _, hp⟩ := h.shape
  cases p with
  | none => simp [Value.ownBlock] at hg
  | some a =>
    obtain ⟨g', rfl, _, _⟩ := hp a rfl
    simp [Value.ownBlock] at hg
    subst hg
    rw [h2] at h1
    have k1 := ((h1.stored (k * 2) c0).1.stored (k * 2 + 1) c1).1
    have hl : k * 2 + 1 < cs.length := by have := h1.1; omega
    rw [set_two cs (k * 2) c0 c1 hl] at k1
    have k2 := Dat.AggIs.set (e := 2) (d' := dat y) (ys := [c0, c1]) hc rfl (fun d hd ys hy => h2 ▸ dats_len σ xs d hd ys hy) h3 k (by simpa using hk)
    refine ⟨⟨_, by rw [h2, List.length_set]; exact k1, by rw [List.map_set]; exact k2⟩, h.free⟩
end
/-- The k-th term of an owned row. -/
theorem Own.tm {σ : Sto} {N : Nat} {w : World} {e : TypeId} {v : Value} {xs : List Tm} (h : Own σ N w e v xs) (k : Nat) (a : Tm) (hk : xs[k]? = some a) :
    ∃ g c q l c', v = .slice (some ⟨g, 0, none⟩) xs.length c ∧ N ≤ g ∧ g < w.heap.size ∧ w.cell? ⟨g, k * 2, none⟩ = some (.string a.name) ∧ w.cell? ⟨g, k * 2 + 1, none⟩ = some (.slice q l c') ∧ a.name.size ≤ maxLen ∧ Slc σ q l c' a.args ∧ w.frozen? ⟨g, k * 2, none⟩ = false ∧ w.frozen? ⟨g, k * 2 + 1, none⟩ = false := by
  obtain ⟨g, c, hv, hg, hgl, cs, hc, h1, h2⟩ := h.get k a hk
  obtain ⟨q, l, c', rfl, h4, h5⟩ := cells_tm.1 hc
  exact ⟨g, c, q, l, c', hv, hg, hgl, h1 0 _ rfl, h1 1 _ rfl, h4, h5, h2 _, h2 _⟩
end Go.Proofs.Ytkjbaabkaboaoaa
