/-
  append onto a row that the call itself owns, at the operation: one new thing laid into a block of its own, or all of a slice.
  Conditions: none.
-/
import Derived.Test.YtkjbaabkaboaoaaSize
import Derived.Deep.RegionHeld3
import Derived.Deep.RegionLaw
import Derived.BigRegion
namespace Go.Proofs.Ytkjbaabkaboaoaa
open Go Go.RowKit
set_option linter.unusedVariables false
open Cod (wid dat)
section
variable {α : Type} [Cod α] {σ : Sto} {P : Program} {w : World}

theorem add_zero_off (b o j : Nat) : (⟨b, o, none⟩ : Addr).add j = ⟨b, o + j, none⟩ := by unfold Addr.add; split <;> simp_all

/-- Behind an append: what is known of the new row and of the world. -/
structure Grew (σ : Sto) (N : Nat) (w : World) (e : TypeId) (v : Value) (xs : List α) (v' : Value) (w' : World) : Prop where
  own : Own σ N w' e v' xs
  fit : Fit σ w'
  grown : w.grownBy w' v.ownBlock
  at_ : v'.ownBlock = v.ownBlock ∨ v'.ownBlock = some w.heap.size
  shape : ∃ p n c, v' = .slice p n c

theorem run_append_none {N : Nat} {e : TypeId} {v : Value} {xs : List α} (h : Own σ N w e v xs) (t ty : TypeId) (i : TypeInfo) (ht : P.underlying t = some (.slice e)) (hi : P.info? e = some i) (c : Nat) :
    (Builtin.append_ #[t, t] ty #[v, .slice none 0 c]).run P w = .ok v w := by
  obtain ⟨cs, h1, _⟩ := h.row
  rcases h1.2 with ⟨rfl, _⟩ | ⟨g, cap, cur, rfl, _, _, hnc, _⟩
  · simp [Builtin.append_, run_underlying ht, sizeOf, typeInfo, hi, Builtin.lenOf, Builtin.firstCells]
  · simp [Builtin.append_, run_underlying ht, sizeOf, typeInfo, hi, Builtin.lenOf, Builtin.firstCells, hnc, storeCells]

theorem grownBy_refl (w : World) (row : Option Nat) : w.grownBy w row := ⟨rfl, rfl, rfl, Nat.le_refl _, fun _ _ _ => rfl⟩

/-- What append does, the source any slice. -/
theorem run_append_slc {N : Nat} {e : TypeId} {v : Value} {xs : List α} (h : Own σ N w e v xs) (hf : Fit σ w) (t ty : TypeId) (i : TypeInfo) (z : Value) (bytes : Nat)
    (ht : P.underlying t = some (.slice e)) (hi : P.info? e = some i) (hz : i.zero = some z) (hsize : i.size = wid α) (hby : i.bytes = bytes) (hzs : z.cells.size = wid α) (hsz : 0 < wid α)
    (p : Option Addr) (m c : Nat) (ys : List α) (hsl : Slc σ p m c ys) (h63 : xs.length + ys.length ≤ maxLen) (hbytes : (xs.length + ys.length) * bytes ≤ 140737488355328) (hN : N ≤ w.heap.size) :
    ∃ v' w', (Builtin.append_ #[t, t] ty #[v, .slice p m c]).run P w = .ok v' w' ∧ Grew σ N w e v (xs ++ ys) v' w' := by
  obtain ⟨h1, h2, h3, h4, b, o, h5, h6⟩ := hsl
  subst h1
  cases p with
  | none =>
    have hc := h4 rfl
    have h0 : ys.length = 0 := by omega
    have : ys = [] := List.eq_nil_of_length_eq_zero h0
    subst this
    obtain ⟨p', c', hv, _⟩ := h.shape
    exact ⟨v, w, run_append_none h t ty i ht hi c, by simpa using h, hf, grownBy_refl w _, .inl rfl, ⟨p', _, c', hv⟩⟩
  | some ad =>
    by_cases h0 : ys.length = 0
    · have : ys = [] := List.eq_nil_of_length_eq_zero h0
      subst this
      obtain ⟨v', w', hr, k1, k2, k3, k4, p', c', k5⟩ := h.snoc (P := P) hf t ty i z bytes ht hi hz hsize hby hzs hsz ad 0 c [] [] (by simp) rfl (by simp) rfl (by simpa using h63) (by simpa using hbytes) hN
      exact ⟨v', w', hr, k1, k2, k3, k4, ⟨p', _, c', k5⟩⟩
    · have hp := h5 h0
      cases hp
      obtain ⟨news, n1, n2, n3⟩ := h6.all
      obtain ⟨v', w', hr, k1, k2, k3, k4, p', c', k5⟩ := h.snoc (P := P) hf t ty i z bytes ht hi hz hsize hby hzs hsz ⟨b, o, none⟩ ys.length c ys news (by simpa using n1) rfl (fun j u hu => by rw [add_zero_off]; exact hf _ _ (n2 j u hu)) n3 h63 hbytes hN
      exact ⟨v', w', hr, k1, k2, k3, k4, ⟨p', _, c', k5⟩⟩

/-- What append does, the source one thing in a block of its own. -/
theorem run_append_one {N : Nat} {e : TypeId} {v : Value} {xs : List α} (h : Own σ N w e v xs) (hf : Fit σ w) (t ty : TypeId) (i : TypeInfo) (z : Value) (bytes : Nat)
    (ht : P.underlying t = some (.slice e)) (hi : P.info? e = some i) (hz : i.zero = some z) (hsize : i.size = wid α) (hby : i.bytes = bytes) (hzs : z.cells.size = wid α) (hsz : 0 < wid α)
    (B : Nat) (cs : Array Value) (T : TypeId) (hB : w.heap[B]? = some (.cells cs T (0, 0))) (y : α) (hc : Cells σ cs.toList y) (h63 : xs.length + 1 ≤ maxLen) (hbytes : (xs.length + 1) * bytes ≤ 140737488355328) (hN : N ≤ w.heap.size) :
    ∃ v' w', (Builtin.append_ #[t, t] ty #[v, .slice (some ⟨B, 0, none⟩) 1 1]).run P w = .ok v' w' ∧ Grew σ N w e v (xs ++ [y]) v' w' := by
  obtain ⟨v', w', hr, k1, k2, k3, k4, p', c', k5⟩ := h.snoc (P := P) hf t ty i z bytes ht hi hz hsize hby hzs hsz ⟨B, 0, none⟩ 1 1 [y] cs.toList (by have := hc.len; simpa using this) rfl (World.news_of_block hB) (Dat.AggIs.single hc) (by simpa using h63) (by simpa using hbytes) hN
  exact ⟨v', w', hr, k1, k2, k3, k4, ⟨p', _, c', k5⟩⟩

theorem wp_of_run_append {o : Oper} {a : Act} {K : Act → World → Prop} {Q : Exit → Act → World → Prop} (s x : Operand) (t : TypeId)
    (ho : o.op = .call { callee := .builtin .append, args := #[s, x], argTypes := #[t, t] }) (v y : Value) (hs : a.eval s = v) (hx : a.eval x = y)
    (R : Value → World → Prop) (hr : ∃ v' w', (Builtin.append_ #[t, t] o.type #[v, y]).run P w = .ok v' w' ∧ R v' w')
    (h : ∀ v' w', R v' w' → K (a.put o.dst v') w') : o.wp P a w K Q := by
  obtain ⟨v', w', hr, hR⟩ := hr
  unfold Oper.wp execOp
  simp only [ho, resolve, invoke, builtin, Sem.run_bind, Sem.run_pure, Result.andThen_ok, List.map_toArray, List.map_cons, List.map_nil, hs, hx, hr]
  exact h v' w' hR

/-- append at the walk's list: the source any slice. -/
theorem wpList_slc {ops : Array Oper} {rest : List Oper} {o : Oper} {a : Act} {Q : Exit → Act → World → Prop} (hgd : o.guard = none) (s x : Operand) (t : TypeId)
    (ho : o.op = .call { callee := .builtin .append, args := #[s, x], argTypes := #[t, t] })
    {N : Nat} {e : TypeId} {v : Value} {xs : List α} (h : Own σ N w e v xs) (hf : Fit σ w) (i : TypeInfo) (z : Value) (bytes : Nat)
    (ht : P.underlying t = some (.slice e)) (hi : P.info? e = some i) (hz : i.zero = some z) (hsize : i.size = wid α) (hby : i.bytes = bytes) (hzs : z.cells.size = wid α) (hsz : 0 < wid α)
    (p : Option Addr) (m c : Nat) (ys : List α) (hsl : Slc σ p m c ys) (hs : a.eval s = v) (hx : a.eval x = .slice p m c) (h63 : xs.length + ys.length ≤ maxLen) (hbytes : (xs.length + ys.length) * bytes ≤ 140737488355328) (hN : N ≤ w.heap.size)
    (k : ∀ v' w', Grew σ N w e v (xs ++ ys) v' w' → wpList P ops Q rest (a.put o.dst v') w') : wpList P ops Q (o :: rest) a w :=
  wpList_plain hgd fun _ hK => wp_of_run_append s x t ho v _ hs hx (Grew σ N w e v (xs ++ ys)) (run_append_slc h hf t o.type i z bytes ht hi hz hsize hby hzs hsz p m c ys hsl h63 hbytes hN) fun v' w' hg => hK _ _ (k v' w' hg)
theorem wpList_one {ops : Array Oper} {rest : List Oper} {o : Oper} {a : Act} {Q : Exit → Act → World → Prop} (hgd : o.guard = none) (s x : Operand) (t : TypeId)
    (ho : o.op = .call { callee := .builtin .append, args := #[s, x], argTypes := #[t, t] })
    {N : Nat} {e : TypeId} {v : Value} {xs : List α} (h : Own σ N w e v xs) (hf : Fit σ w) (i : TypeInfo) (z : Value) (bytes : Nat)
    (ht : P.underlying t = some (.slice e)) (hi : P.info? e = some i) (hz : i.zero = some z) (hsize : i.size = wid α) (hby : i.bytes = bytes) (hzs : z.cells.size = wid α) (hsz : 0 < wid α)
    (B : Nat) (cs : Array Value) (T : TypeId) (hB : w.heap[B]? = some (.cells cs T (0, 0))) (y : α) (hc : Cells σ cs.toList y) (hs : a.eval s = v) (hx : a.eval x = .slice (some ⟨B, 0, none⟩) 1 1) (h63 : xs.length + 1 ≤ maxLen) (hbytes : (xs.length + 1) * bytes ≤ 140737488355328) (hN : N ≤ w.heap.size)
    (k : ∀ v' w', Grew σ N w e v (xs ++ [y]) v' w' → wpList P ops Q rest (a.put o.dst v') w') : wpList P ops Q (o :: rest) a w :=
  wpList_plain hgd fun _ hK => wp_of_run_append s x t ho v _ hs hx (Grew σ N w e v (xs ++ [y])) (run_append_one h hf t o.type i z bytes ht hi hz hsize hby hzs hsz B cs T hB y hc h63 hbytes hN) fun v' w' hg => hK _ _ (k v' w' hg)
/-- append at a step of a region that draws its order: the source any slice. -/
theorem step_slc {ops : Array Oper} {o : Oper} {a : Act} {K : Act → World → Prop} {Q : Exit → Act → World → Prop} {E : Prop} (hgd : o.guard = none) (s x : Operand) (t : TypeId)
    (ho : o.op = .call { callee := .builtin .append, args := #[s, x], argTypes := #[t, t] })
    {N : Nat} {e : TypeId} {v : Value} {xs : List α} (h : Own σ N w e v xs) (hf : Fit σ w) (i : TypeInfo) (z : Value) (bytes : Nat)
    (ht : P.underlying t = some (.slice e)) (hi : P.info? e = some i) (hz : i.zero = some z) (hsize : i.size = wid α) (hby : i.bytes = bytes) (hzs : z.cells.size = wid α) (hsz : 0 < wid α)
    (p : Option Addr) (m c : Nat) (ys : List α) (hsl : Slc σ p m c ys) (hs : a.eval s = v) (hx : a.eval x = .slice p m c) (h63 : xs.length + ys.length ≤ maxLen) (hbytes : (xs.length + ys.length) * bytes ≤ 140737488355328) (hN : N ≤ w.heap.size)
    (k : ∀ v' w', Grew σ N w e v (xs ++ ys) v' w' → K (a.put o.dst v') w') :
    if Region.wanted o (yielded ops a.tmps) = true then Oper.wp P o a w K Q else E := by
  have hw : Region.wanted o (yielded ops a.tmps) = true := by simp [Region.wanted, hgd]
  rw [if_pos hw]
  exact wp_of_run_append s x t ho v _ hs hx (Grew σ N w e v (xs ++ ys)) (run_append_slc h hf t o.type i z bytes ht hi hz hsize hby hzs hsz p m c ys hsl h63 hbytes hN) k
/-- append at a step of a region that draws its order: the source one thing in a block of its own. -/
theorem step_one {ops : Array Oper} {o : Oper} {a : Act} {K : Act → World → Prop} {Q : Exit → Act → World → Prop} {E : Prop} (hgd : o.guard = none) (s x : Operand) (t : TypeId)
    (ho : o.op = .call { callee := .builtin .append, args := #[s, x], argTypes := #[t, t] })
    {N : Nat} {e : TypeId} {v : Value} {xs : List α} (h : Own σ N w e v xs) (hf : Fit σ w) (i : TypeInfo) (z : Value) (bytes : Nat)
    (ht : P.underlying t = some (.slice e)) (hi : P.info? e = some i) (hz : i.zero = some z) (hsize : i.size = wid α) (hby : i.bytes = bytes) (hzs : z.cells.size = wid α) (hsz : 0 < wid α)
    (B : Nat) (cs : Array Value) (T : TypeId) (hB : w.heap[B]? = some (.cells cs T (0, 0))) (y : α) (hc : Cells σ cs.toList y) (hs : a.eval s = v) (hx : a.eval x = .slice (some ⟨B, 0, none⟩) 1 1) (h63 : xs.length + 1 ≤ maxLen) (hbytes : (xs.length + 1) * bytes ≤ 140737488355328) (hN : N ≤ w.heap.size)
    (k : ∀ v' w', Grew σ N w e v (xs ++ [y]) v' w' → K (a.put o.dst v') w') :
    if Region.wanted o (yielded ops a.tmps) = true then Oper.wp P o a w K Q else E := by
  have hw : Region.wanted o (yielded ops a.tmps) = true := by simp [Region.wanted, hgd]
  rw [if_pos hw]
  exact wp_of_run_append s x t ho v _ hs hx (Grew σ N w e v (xs ++ [y])) (run_append_one h hf t o.type i z bytes ht hi hz hsize hby hzs hsz B cs T hB y hc h63 hbytes hN) k

/-- A new block of one thing is a row of the call's own. -/
theorem Own.new (hf : Fit σ w) {N : Nat} {e : TypeId} {cs : Array Value} {a : α} (hc : Cells σ cs.toList a) (hN : N ≤ w.heap.size) : Own σ N (w.alloc (.cells cs e)) e (.slice (some ⟨w.heap.size, 0, none⟩) 1 1) [a] := by
  have hl := hc.len
  refine ⟨⟨cs.toList, ⟨by simpa using hl, .inr ⟨w.heap.size, 1, cs, rfl, hN, heap_alloc_new w _, Nat.le_refl _, by simp [maxLen], by simpa using hl, by rw [List.take_of_length_le (by simp at hl; simp [hl])]⟩⟩, Dat.AggIs.single hc⟩, fun g hg p hp => ?_⟩
  simp [Value.ownBlock] at hg
  subst hg
  exact hf.no (by omega)
end

theorem below_grown {N : Nat} {a w w' : World} {row : Option Nat} (h : Below N a w) (hg : w.grownBy w' row) (hN : N ≤ w.heap.size) (hr : ∀ k, row = some k → N ≤ k) : Below N a w' := h.grown hg hN hr

/-! ### the types' rows in the program's table -/
theorem infoTm : (Try.prog.info? 25).map (fun i => (i.zero, i.size, i.bytes)) = some (some (.agg #[.string .empty, .slice none 0 0]), 2, 40) := by kernel_rfl
end Go.Proofs.Ytkjbaabkaboaoaa
