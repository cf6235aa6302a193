/-
  Plain words for memory: what is known to stay (a store), data as trees of cells, and rows that a call owns. No program in sight.
  Conditions: none.
-/
import Derived.Test.YtpajlfdhmjgpnaaProg
import Derived.WalkKit
import Derived.Lib.Hide
import Derived.Deep.AppendLies
import Derived.Maps.AppendAt
namespace Go.Proofs.Ytpajlfdhmjgpnaa
open Go Go.RowKit
set_option linter.unusedVariables false

/-! ### what is known to stay -/
/-- A part of memory of which is known that it stays as it is. -/
def Sto := Addr → Option Value
/-- What lies at a place; at a place beside all cells: whether the block ends there. -/
def look (w : World) (p : Addr) : Option Value := match p.spot with
  | none => w.cell? p
  | some _ => match w.heap[p.block]? with
    | some (.cells c _ _) => if c.size = p.off then some .nilFunc else none
    | _ => none
theorem look_none {w : World} {p : Addr} (h : p.spot = none) : look w p = w.cell? p := by unfold look; rw [h]
theorem look_of_block {w w' : World} {p : Addr} (h : w'.heap[p.block]? = w.heap[p.block]?) : look w' p = look w p := by
  unfold look
  cases p.spot with
  | none => exact World.cell?_of_block h
  | some _ => simp only [h]
theorem look_lt {w : World} {p : Addr} {x : Value} (h : look w p = some x) : p.block < w.heap.size := by
  unfold look at h
  cases hs : p.spot with
  | none =>
    rw [hs] at h
    exact World.block_lt_of_cell? w p h
  | some _ =>
    rw [hs] at h
    simp only at h
    rcases Nat.lt_or_ge p.block w.heap.size with h1 | h1
    · exact h1
    · rw [Array.getElem?_eq_none h1] at h
      cases h
/-- The world holds that part. -/
def Fit (σ : Sto) (w : World) : Prop := ∀ p x, σ p = some x → look w p = some x
/-- More is known to stay; nothing new below block N. -/
structure Ext (N : Nat) (σ σ' : Sto) : Prop where
  keep : ∀ p x, σ p = some x → σ' p = some x
  old : ∀ p, p.block < N → σ' p = σ p

theorem Ext.refl (N : Nat) (σ : Sto) : Ext N σ σ := ⟨fun _ _ h => h, fun _ _ => rfl⟩
theorem Ext.trans {N : Nat} {a b c : Sto} (h : Ext N a b) (k : Ext N b c) : Ext N a c := ⟨fun p x e => k.keep p x (h.keep p x e), fun p hp => (k.old p hp).trans (h.old p hp)⟩
theorem Ext.mono {N M : Nat} {a b : Sto} (h : Ext N a b) (hm : M ≤ N) : Ext M a b := ⟨h.keep, fun p hp => h.old p (by omega)⟩

theorem Fit.lt {σ : Sto} {w : World} (h : Fit σ w) {p : Addr} {x : Value} (e : σ p = some x) : p.block < w.heap.size := look_lt (h p x e)
theorem Fit.no {σ : Sto} {w : World} (h : Fit σ w) {p : Addr} (hp : w.heap.size ≤ p.block) : σ p = none := by
  cases e : σ p with
  | none => rfl
  | some x => have := h.lt e; omega
theorem Fit.below {σ : Sto} {w w' : World} (h : Fit σ w) (hb : Below w.heap.size w w') : Fit σ w' := fun p x e => (look_of_block (hb.block _ (h.lt e))).trans (h p x e)
theorem Fit.alloc {σ : Sto} {w : World} (h : Fit σ w) (o : Obj) : Fit σ (w.alloc o) := h.below ((Below.refl _ _).alloc (Nat.le_refl _) _)
theorem Fit.drew {σ : Sto} {w : World} (h : Fit σ w) : Fit σ w.drew := h
theorem look_setCell {w : World} {p q : Addr} {n : Nat} (hq : q.spot = some n) (u : Value) : look (w.setCell p u) q = look w q := by
  by_cases hb : q.block = p.block
  · unfold look
    simp only [hq, World.setCell, hb]
    cases hc : w.heap[p.block]? with
    | none => simp [Array.getElem?_modify, hc]
    | some o => cases o <;> simp [Array.getElem?_modify, hc] <;> split <;> simp
  · exact look_of_block (Below.heap_setCell w p u q.block (fun e => hb e))
theorem Fit.setCell {σ : Sto} {w : World} (h : Fit σ w) {p : Addr} (hp : σ p = none) (u : Value) : Fit σ (w.setCell p u) := fun q x e => by
  cases hs : q.spot with
  | none =>
    have h1 := h q x e
    rw [look_none hs] at h1 ⊢
    exact (World.cell?_setCell_other w p q u (fun he => by subst he; rw [hp] at e; cases e)).trans h1
  | some n => exact (look_setCell hs u).trans (h q x e)
/-- What a world below which all is as it was holds of what was known ahead. -/
theorem Fit.from_ {σ : Sto} {w w' : World} {B : Nat} (h : Fit σ w) (hB : w.heap.size ≤ B) (hb : Below B w w') : Fit σ w' := h.below (hb.mono hB)
theorem fit_cells (w : World) : Fit (look w) w := fun _ _ h => h

/-! ### a block that is known whole -/
/-- Block g is just these cells, none frozen. -/
def Blk (w : World) (g : Nat) (t : TypeId) (cs : Array Value) : Prop := w.heap[g]? = some (.cells cs t (0, 0))
section
variable {w w' : World} {g : Nat} {t : TypeId} {cs : Array Value}
theorem Blk.lt (h : Blk w g t cs) : g < w.heap.size := (Array.getElem?_eq_some_iff.1 h).1
theorem Blk.cell (h : Blk w g t cs) (i : Nat) : w.cell? ⟨g, i, none⟩ = cs[i]? := cell_of_row w g i cs t (0, 0) h
theorem Blk.frozen (h : Blk w g t cs) (i : Nat) : w.frozen? ⟨g, i, none⟩ = false := by
  unfold Blk at h
  simp [World.frozen?, h]
theorem Blk.new (w : World) (t : TypeId) (cs : Array Value) : Blk (w.alloc (.cells cs t)) w.heap.size t cs := heap_alloc_new w _
theorem Blk.drew (h : Blk w g t cs) : Blk w.drew g t cs := h
theorem Blk.alloc (h : Blk w g t cs) (o : Obj) : Blk (w.alloc o) g t cs := (Below.heap_alloc w o g h.lt).trans h
theorem Blk.put (h : Blk w g t cs) (i : Nat) (u : Value) : Blk (w.setCell ⟨g, i, none⟩ u) g t (cs.setIfInBounds i u) := by
  unfold Blk at h ⊢
  simp [World.setCell, Array.getElem?_modify, h]
theorem Blk.far (h : Blk w g t cs) {p : Addr} (hp : g ≠ p.block) (u : Value) : Blk (w.setCell p u) g t cs := (Below.heap_setCell w p u g hp).trans h
theorem Blk.below {B : Nat} (h : Blk w g t cs) (hb : Below B w w') (hg : g < B) : Blk w' g t cs := (hb.block g hg).trans h
theorem Blk.call (h : Blk w g t cs) (hb : Below w.heap.size w w') : Blk w' g t cs := h.below hb h.lt
theorem Blk.grown {row : Option Nat} (h : Blk w g t cs) (hb : w.grownBy w' row) (hg : row ≠ some g) : Blk w' g t cs := (hb.block g h.lt (fun e => hg e.symm)).trans h
end

/-- A store into another block. -/
theorem cell_far {w : World} {a b : Addr} {x u : Value} (h : w.cell? b = some x) (hne : a.block ≠ b.block) : (w.setCell a u).cell? b = some x :=
  (World.cell?_setCell_other w a b u (fun e => hne (by rw [e]))).trans h

/-! ### data as trees of cells -/
inductive Dat where
  | int (k : IntKind) (n : Int)
  | str (s : ByteArray)
  | bool (b : Bool)
  | agg (ds : List Dat)
  | row (e : Nat) (ds : List Dat)

mutual
/-- So many cells hold the datum. -/
def Dat.Is (σ : Sto) : Dat → List Value → Prop
  | .int k n, cs => cs = [.int k n] ∧ (Lit.int k n).wf = true
  | .str s, cs => cs = [.string s] ∧ s.size ≤ maxLen
  | .bool b, cs => cs = [.bool b]
  | .agg ds, cs => Dat.AggIs σ ds cs
  | .row e ds, cs => ∃ p len cap, cs = [.slice p len cap] ∧ len = ds.length ∧ len ≤ cap ∧ cap ≤ maxLen ∧ (p = none → cap = 0) ∧ ∃ b o, (len ≠ 0 → p = some ⟨b, o, none⟩) ∧ Dat.RowIs σ e ds b o
def Dat.AggIs (σ : Sto) : List Dat → List Value → Prop
  | [], cs => cs = []
  | d :: ds, cs => ∃ x y, cs = x ++ y ∧ Dat.Is σ d x ∧ Dat.AggIs σ ds y
def Dat.RowIs (σ : Sto) (e : Nat) : List Dat → Nat → Nat → Prop
  | [], _, _ => True
  | d :: ds, b, o => (∃ cs, cs.length = e ∧ (∀ j x, cs[j]? = some x → σ ⟨b, o + j, none⟩ = some x) ∧ Dat.Is σ d cs) ∧ Dat.RowIs σ e ds b (o + e)
end

mutual
theorem Dat.Is.mono {σ σ' : Sto} (h : ∀ p x, σ p = some x → σ' p = some x) : ∀ {d : Dat} {cs : List Value}, d.Is σ cs → d.Is σ' cs
  | .int _ _, _, hd => hd
  | .str _, _, hd => hd
  | .bool _, _, hd => hd
  | .agg ds, cs, hd => Dat.AggIs.mono h (ds := ds) hd
  | .row e ds, cs, hd => by
    obtain ⟨p, len, cap, h1, h2, h3, h4, h5, b, o, h6, h7⟩ := hd
    exact ⟨p, len, cap, h1, h2, h3, h4, h5, b, o, h6, Dat.RowIs.mono h h7⟩
theorem Dat.AggIs.mono {σ σ' : Sto} (h : ∀ p x, σ p = some x → σ' p = some x) : ∀ {ds : List Dat} {cs : List Value}, Dat.AggIs σ ds cs → Dat.AggIs σ' ds cs
  | [], _, hd => hd
  | d :: ds, cs, hd => by
    obtain ⟨x, y, h1, h2, h3⟩ := hd
    exact ⟨x, y, h1, Dat.Is.mono h h2, Dat.AggIs.mono h h3⟩
theorem Dat.RowIs.mono {σ σ' : Sto} (h : ∀ p x, σ p = some x → σ' p = some x) {e : Nat} : ∀ {ds : List Dat} {b o : Nat}, Dat.RowIs σ e ds b o → Dat.RowIs σ' e ds b o
  | [], _, _, _ => trivial
  | d :: ds, b, o, hd => by
    obtain ⟨⟨cs, h1, h2, h3⟩, h4⟩ := hd
    exact ⟨⟨cs, h1, fun j x e => h _ _ (h2 j x e), Dat.Is.mono h h3⟩, Dat.RowIs.mono h h4⟩
end

mutual
theorem Dat.Is.one {σ : Sto} : ∀ {d : Dat} {cs : List Value}, d.Is σ cs → ∀ u ∈ cs, u.oneCell' = true
  | .int _ _, _, hd => by obtain ⟨rfl, _⟩ := hd; simp [Value.oneCell']
  | .str _, _, hd => by obtain ⟨rfl, _⟩ := hd; simp [Value.oneCell']
  | .bool _, _, hd => by obtain rfl := hd; simp [Value.oneCell']
  | .agg ds, cs, hd => Dat.AggIs.one (ds := ds) hd
  | .row e ds, cs, hd => by
    obtain ⟨p, len, cap, rfl, _⟩ := hd
    simp [Value.oneCell']
theorem Dat.AggIs.one {σ : Sto} : ∀ {ds : List Dat} {cs : List Value}, Dat.AggIs σ ds cs → ∀ u ∈ cs, u.oneCell' = true
  | [], _, hd => by obtain rfl := hd; simp
  | d :: ds, cs, hd => by
    obtain ⟨x, y, rfl, h2, h3⟩ := hd
    intro u hu
    rcases List.mem_append.1 hu with hu | hu
    · exact Dat.Is.one h2 u hu
    · exact Dat.AggIs.one h3 u hu
end

theorem Dat.AggIs.append {σ : Sto} : ∀ {ds es : List Dat} {cs xs : List Value}, Dat.AggIs σ ds cs → Dat.AggIs σ es xs → Dat.AggIs σ (ds ++ es) (cs ++ xs)
  | [], es, cs, xs, h, k => by obtain rfl := h; exact k
  | d :: ds, es, cs, xs, h, k => by
    obtain ⟨x, y, rfl, h2, h3⟩ := h
    exact ⟨x, y ++ xs, by simp, h2, Dat.AggIs.append h3 k⟩
theorem Dat.AggIs.single {σ : Sto} {d : Dat} {cs : List Value} (h : d.Is σ cs) : Dat.AggIs σ [d] cs := ⟨cs, [], by simp, h, rfl⟩

theorem Dat.RowIs.get {σ : Sto} {e : Nat} : ∀ {ds : List Dat} {b o : Nat}, Dat.RowIs σ e ds b o → ∀ k (h : k < ds.length), ∃ cs, cs.length = e ∧ (∀ j x, cs[j]? = some x → σ ⟨b, o + k * e + j, none⟩ = some x) ∧ ds[k].Is σ cs
  | [], _, _, _, k, h => absurd h (by simp)
  | d :: ds, b, o, hd, 0, h => by simpa using hd.1
  | d :: ds, b, o, hd, k + 1, h => by
    obtain ⟨cs, h1, h2, h3⟩ := Dat.RowIs.get hd.2 k (by simpa using h)
    refine ⟨cs, h1, fun j x hj => ?_, by simpa using h3⟩
    have := h2 j x hj
    rw [← this]
    congr 2
    rw [Nat.add_mul]
    omega
/-- All of a row, one cell behind the other. -/
theorem Dat.RowIs.all {σ : Sto} {e : Nat} : ∀ {ds : List Dat} {b o : Nat}, Dat.RowIs σ e ds b o → ∃ cs, cs.length = ds.length * e ∧ (∀ j x, cs[j]? = some x → σ ⟨b, o + j, none⟩ = some x) ∧ Dat.AggIs σ ds cs
  | [], b, o, _ => ⟨[], by simp, by simp, rfl⟩
  | d :: ds, b, o, hd => by
    obtain ⟨⟨xs, h1, h2, h3⟩, h4⟩ := hd
    obtain ⟨ys, k1, k2, k3⟩ := Dat.RowIs.all h4
    refine ⟨xs ++ ys, by simp [h1, k1, Nat.add_mul]; omega, fun j x hj => ?_, xs, ys, rfl, h3, k3⟩
    by_cases hlt : j < xs.length
    · rw [List.getElem?_append_left hlt] at hj
      exact h2 j x hj
    · rw [List.getElem?_append_right (by omega)] at hj
      have := k2 _ _ hj
      rw [← this]
      congr 2
      omega
theorem Dat.RowIs.of_all {σ : Sto} {e : Nat} : ∀ {ds : List Dat} {b o : Nat} {cs : List Value}, (∀ d ∈ ds, ∀ xs, d.Is σ xs → xs.length = e) → (∀ j x, cs[j]? = some x → σ ⟨b, o + j, none⟩ = some x) → Dat.AggIs σ ds cs → Dat.RowIs σ e ds b o
  | [], _, _, _, _, _, _ => trivial
  | d :: ds, b, o, cs, hl, hc, hd => by
    obtain ⟨x, y, rfl, h2, h3⟩ := hd
    have hx := hl d (by simp) x h2
    refine ⟨⟨x, hx, fun j v hj => hc j v (by
      have : j < x.length := by
        rcases Nat.lt_or_ge j x.length with h | h
        · exact h
        · rw [List.getElem?_eq_none h] at hj; cases hj
      rw [List.getElem?_append_left this]; exact hj), h2⟩, Dat.RowIs.of_all (fun d hd => hl d (by simp [hd])) (fun j v hj => ?_) h3⟩
    have := hc (e + j) v (by rw [List.getElem?_append_right (by omega)]; rw [← hj]; congr 1; omega)
    rw [← this]
    congr 2
    omega
theorem Dat.RowIs.drop {σ : Sto} {e : Nat} : ∀ {ds : List Dat} {b o : Nat} (k : Nat), Dat.RowIs σ e ds b o → Dat.RowIs σ e (ds.drop k) b (o + k * e)
  | [], _, _, k, _ => by simp [Dat.RowIs]
  | d :: ds, b, o, 0, hd => by simpa using hd
  | d :: ds, b, o, k + 1, hd => by
    have := Dat.RowIs.drop k hd.2
    rw [List.drop_succ_cons]
    rw [show o + (k + 1) * e = o + e + k * e by rw [Nat.add_mul]; omega]
    exact this
theorem Dat.RowIs.take {σ : Sto} {e : Nat} : ∀ {ds : List Dat} {b o : Nat} (k : Nat), Dat.RowIs σ e ds b o → Dat.RowIs σ e (ds.take k) b o
  | [], _, _, k, _ => by simp [Dat.RowIs]
  | d :: ds, b, o, 0, hd => by simp [Dat.RowIs]
  | d :: ds, b, o, k + 1, hd => ⟨hd.1, Dat.RowIs.take k hd.2⟩

/-! ### types that lie in cells -/
/-- A type whose things are told by trees of cells. -/
class Cod (α : Type) where
  wid : Nat
  dat : α → Dat
  len : ∀ (σ : Sto) (a : α) (cs : List Value), (dat a).Is σ cs → cs.length = wid
open Cod (wid dat)
/-- These cells hold a. -/
def Cells {α : Type} [Cod α] (σ : Sto) (cs : List Value) (a : α) : Prop := (dat a).Is σ cs
/-- The slice (p, len, cap) holds xs. -/
def Slc {α : Type} [Cod α] (σ : Sto) (p : Option Addr) (len cap : Nat) (xs : List α) : Prop :=
  len = xs.length ∧ len ≤ cap ∧ cap ≤ maxLen ∧ (p = none → cap = 0) ∧ ∃ b o, (len ≠ 0 → p = some ⟨b, o, none⟩) ∧ Dat.RowIs σ (wid α) (xs.map dat) b o

instance : Cod Int := ⟨1, fun n => .int .i64 n, fun _ _ _ h => by obtain ⟨rfl, _⟩ := h; rfl⟩
instance : Cod ByteArray := ⟨1, fun s => .str s, fun _ _ _ h => by obtain ⟨rfl, _⟩ := h; rfl⟩
instance : Cod Bool := ⟨1, fun b => .bool b, fun _ _ _ h => by obtain rfl := h; rfl⟩
instance {α : Type} [Cod α] : Cod (List α) := ⟨1, fun l => .row (wid α) (l.map dat), fun _ _ _ h => by obtain ⟨p, len, cap, rfl, _⟩ := h; rfl⟩
instance {α β : Type} [Cod α] [Cod β] : Cod (α × β) := ⟨wid α + wid β, fun x => .agg [dat x.1, dat x.2], fun σ x cs h => by
  obtain ⟨y, z, rfl, h1, y', z', rfl, h2, h3⟩ := h
  obtain rfl := h3
  simp [Cod.len σ x.1 y h1, Cod.len σ x.2 y' h2]⟩

section
variable {α β : Type} [Cod α] [Cod β] {σ σ' : Sto}
theorem Cells.len {cs : List Value} {a : α} (h : Cells σ cs a) : cs.length = wid α := Cod.len σ a cs h
theorem Cells.ext {N : Nat} {cs : List Value} {a : α} (h : Cells σ cs a) (he : Ext N σ σ') : Cells σ' cs a := Dat.Is.mono he.keep h
theorem Cells.one {cs : List Value} {a : α} (h : Cells σ cs a) : ∀ u ∈ cs, u.oneCell' = true := Dat.Is.one h
theorem Slc.ext {N : Nat} {p : Option Addr} {len cap : Nat} {xs : List α} (h : Slc σ p len cap xs) (he : Ext N σ σ') : Slc σ' p len cap xs := by
  obtain ⟨h1, h2, h3, h4, b, o, h5, h6⟩ := h
  exact ⟨h1, h2, h3, h4, b, o, h5, Dat.RowIs.mono he.keep h6⟩
theorem cells_int {cs : List Value} {n : Int} : Cells σ cs n ↔ cs = [.int .i64 n] ∧ (Lit.int .i64 n).wf = true := Iff.rfl
theorem cells_str {cs : List Value} {s : ByteArray} : Cells σ cs s ↔ cs = [.string s] ∧ s.size ≤ maxLen := Iff.rfl
theorem cells_bool {cs : List Value} {b : Bool} : Cells σ cs b ↔ cs = [.bool b] := Iff.rfl
theorem cells_list {cs : List Value} {xs : List α} : Cells σ cs xs ↔ ∃ p len cap, cs = [.slice p len cap] ∧ Slc σ p len cap xs := by
  constructor
  · rintro ⟨p, len, cap, h1, h2, h3⟩
    exact ⟨p, len, cap, h1, by simpa using h2, h3⟩
  · rintro ⟨p, len, cap, h1, h2, h3⟩
    exact ⟨p, len, cap, h1, by simpa using h2, h3⟩
theorem cells_pair {cs : List Value} {x : α × β} : Cells σ cs x ↔ ∃ y z, cs = y ++ z ∧ Cells σ y x.1 ∧ Cells σ z x.2 := by
  constructor
  · rintro ⟨y, z, rfl, h1, y', z', rfl, h2, h3⟩
    obtain rfl := h3
    exact ⟨y, y', by simp, h1, h2⟩
  · rintro ⟨y, z, rfl, h1, h2⟩
    exact ⟨y, z, rfl, h1, z, [], by simp, h2, rfl⟩

theorem Slc.length {p : Option Addr} {len cap : Nat} {xs : List α} (h : Slc σ p len cap xs) : len = xs.length := h.1
theorem Slc.max {p : Option Addr} {len cap : Nat} {xs : List α} (h : Slc σ p len cap xs) : len ≤ 9223372036854775807 := by
  have h1 := h.2.1
  have h2 := h.2.2.1
  simp only [maxLen] at h2
  omega
theorem Slc.capmax {p : Option Addr} {len cap : Nat} {xs : List α} (h : Slc σ p len cap xs) : cap ≤ 9223372036854775807 := by
  have h2 := h.2.2.1
  simp only [maxLen] at h2
  omega
/-- The k-th of a slice's things. -/
theorem Slc.get {p : Option Addr} {len cap : Nat} {xs : List α} (h : Slc σ p len cap xs) (k : Nat) (hk : k < xs.length) :
    ∃ b o, p = some ⟨b, o, none⟩ ∧ ∃ cs, cs.length = wid α ∧ (∀ j x, cs[j]? = some x → σ ⟨b, o + k * wid α + j, none⟩ = some x) ∧ Cells σ cs xs[k] := by
  obtain ⟨h1, h2, h3, h4, b, o, h5, h6⟩ := h
  refine ⟨b, o, h5 (by omega), ?_⟩
  obtain ⟨cs, c1, c2, c3⟩ := h6.get k (by simpa using hk)
  exact ⟨cs, c1, c2, by simpa [Cells] using c3⟩
theorem Slc.nil (σ : Sto) : Slc (α := α) σ none 0 0 [] := ⟨rfl, Nat.le_refl _, by simp [maxLen], fun _ => rfl, 0, 0, fun h => absurd rfl h, trivial⟩

/-! ### rows that the call itself owns -/
/-- The call's own row v of the things xs: of its block nothing is known to others. -/
structure Own (σ : Sto) (N : Nat) (w : World) (e : TypeId) (v : Value) (xs : List α) : Prop where
  row : ∃ cs : List Value, w.ownsRow N e (wid α) v xs.length cs ∧ Dat.AggIs σ (xs.map dat) cs
  free : ∀ g, v.ownBlock = some g → ∀ p : Addr, p.block = g → σ p = none

theorem Own.nil (σ : Sto) (N : Nat) (w : World) (e : TypeId) : Own (α := α) σ N w e (.slice none 0 0) [] :=
  ⟨⟨[], World.ownsRow_nil w N e _, rfl⟩, fun g h => by simp [Value.ownBlock] at h⟩
theorem Own.lt {N : Nat} {w : World} {e : TypeId} {v : Value} {xs : List α} (h : Own σ N w e v xs) : ∀ g, v.ownBlock = some g → N ≤ g ∧ g < w.heap.size := by
  obtain ⟨cs, h1, _⟩ := h.row
  exact h1.lt
theorem Own.shape {N : Nat} {w : World} {e : TypeId} {v : Value} {xs : List α} (h : Own σ N w e v xs) : ∃ p c, v = .slice p xs.length c ∧ xs.length ≤ c ∧ c ≤ maxLen ∧ (p = none → c = 0) ∧ (∀ a, p = some a → ∃ g, a = ⟨g, 0, none⟩ ∧ N ≤ g ∧ g < w.heap.size) := by
  obtain ⟨cs, ⟨h1, h2⟩, h3⟩ := h.row
  rcases h2 with ⟨rfl, h0⟩ | ⟨g, cap, cur, rfl, hg, hh, hn, hm, _⟩
  · exact ⟨none, 0, by rw [h0], by omega, by simp [maxLen], fun _ => rfl, by simp⟩
  · refine ⟨_, cap, rfl, hn, hm, by simp, fun a ha => ⟨g, by cases ha; rfl, hg, ?_⟩⟩
    exact (Array.getElem?_eq_some_iff.1 hh).1
theorem Own.mono {N M : Nat} {w : World} {e : TypeId} {v : Value} {xs : List α} (h : Own σ N w e v xs) (hm : M ≤ N) : Own σ M w e v xs := by
  obtain ⟨⟨cs, ⟨h1, h2⟩, h3⟩, h4⟩ := h
  refine ⟨⟨cs, ⟨h1, ?_⟩, h3⟩, h4⟩
  rcases h2 with h0 | ⟨g, cap, cur, hv, hg, r⟩
  · exact .inl h0
  · exact .inr ⟨g, cap, cur, hv, by omega, r⟩
/-- Other memory turned; more is known. -/
theorem Own.kept {N : Nat} {w w' : World} {e : TypeId} {v : Value} {xs : List α} (h : Own σ N w e v xs) (hb : ∀ g, v.ownBlock = some g → w'.heap[g]? = w.heap[g]?) (he : ∀ p x, σ p = some x → σ' p = some x)
    (hn : ∀ g, v.ownBlock = some g → ∀ p : Addr, p.block = g → σ' p = σ p) : Own σ' N w' e v xs := by
  obtain ⟨cs, ⟨h1, h2⟩, h3⟩ := h.row
  refine ⟨⟨cs, ⟨h1, ?_⟩, Dat.AggIs.mono he h3⟩, fun g hg p hp => (hn g hg p hp).trans (h.free g hg p hp)⟩
  rcases h2 with h0 | ⟨g, cap, cur, rfl, r⟩
  · exact .inl h0
  · exact .inr ⟨g, cap, cur, rfl, r.1, by rw [hb g rfl]; exact r.2.1, r.2.2⟩
theorem Own.call {N : Nat} {w w' : World} {e : TypeId} {v : Value} {xs : List α} (h : Own σ N w e v xs) (hb : Below w.heap.size w w') (he : Ext w.heap.size σ σ') : Own σ' N w' e v xs :=
  h.kept (fun g hg => hb.block g (h.lt g hg).2) he.keep (fun g hg p hp => he.old p (by have := (h.lt g hg).2; omega))
theorem Own.below {N : Nat} {w w' : World} {e : TypeId} {v : Value} {xs : List α} (h : Own σ N w e v xs) (hb : Below w.heap.size w w') : Own σ N w' e v xs := h.call hb (Ext.refl _ _)
theorem Own.drew {N : Nat} {w : World} {e : TypeId} {v : Value} {xs : List α} (h : Own σ N w e v xs) : Own σ N w.drew e v xs := h.kept (fun _ _ => rfl) (fun _ _ h => h) (fun _ _ _ _ => rfl)
theorem Own.alloc {N : Nat} {w : World} {e : TypeId} {v : Value} {xs : List α} (h : Own σ N w e v xs) (o : Obj) : Own σ N (w.alloc o) e v xs := h.below ((Below.refl _ _).alloc (Nat.le_refl _) _)
theorem Own.setCell {N : Nat} {w : World} {e : TypeId} {v : Value} {xs : List α} (h : Own σ N w e v xs) {p : Addr} (hp : v.ownBlock ≠ some p.block) (u : Value) : Own σ N (w.setCell p u) e v xs :=
  h.kept (fun g hg => Below.heap_setCell w p u g (fun e => hp (by rw [hg, e]))) (fun _ _ h => h) (fun _ _ _ _ => rfl)

/-- The row is done: its things are known to stay from now on. -/
theorem Own.done {N : Nat} {w : World} {e : TypeId} {v : Value} {xs : List α} (h : Own σ N w e v xs) (hf : Fit σ w) (M : Nat) (hM : M ≤ N) :
    ∃ σ', Ext M σ σ' ∧ Fit σ' w ∧ (∀ p : Addr, some p.block ≠ v.ownBlock → σ' p = σ p) ∧ ∃ p len cap, v = .slice p len cap ∧ Slc σ' p len cap xs := by
  obtain ⟨cs, ⟨h1, h2⟩, h3⟩ := h.row
  rcases h2 with ⟨rfl, h0⟩ | ⟨g, cap, cur, rfl, hg, hh, hn, hm, hcs, htake⟩
  · have : xs = [] := List.eq_nil_of_length_eq_zero h0
    subst this
    exact ⟨σ, Ext.refl _ _, hf, fun _ _ => rfl, none, 0, 0, rfl, Slc.nil σ⟩
  · have hfree := h.free g rfl
    refine ⟨fun p => if p.block = g ∧ p.off < cs.length ∧ p.spot = none then w.cell? p else σ p, ⟨fun p x hp => ?_, fun p hp => ?_⟩, fun p x hp => ?_, fun p hp => ?_, some ⟨g, 0, none⟩, xs.length, cap, rfl, rfl, hn, hm, by simp, g, 0, fun _ => rfl, ?_⟩
    · show (if _ then _ else _) = _
      split
      · rename_i hc
        rw [← look_none hc.2.2]
        exact hf p x hp
      · exact hp
    · show (if _ then _ else _) = _
      rw [if_neg (by omega)]
    · dsimp only at hp
      split at hp
      · rename_i hc
        rw [look_none hc.2.2]
        exact hp
      · exact hf p x hp
    · show (if _ then _ else _) = _
      rw [if_neg]
      rintro ⟨rfl, _⟩
      exact hp (by simp [Value.ownBlock])
    · refine Dat.RowIs.of_all (cs := cs) ?_ ?_ (Dat.AggIs.mono ?_ h3)
      · intro d hd ys hy
        obtain ⟨a, _, rfl⟩ := List.mem_map.1 hd
        exact Cod.len _ a ys hy
      · intro j x hj
        have hjl : j < cs.length := by
          rcases Nat.lt_or_ge j cs.length with h' | h'
          · exact h'
          · rw [List.getElem?_eq_none h'] at hj; cases hj
        show (if _ then _ else _) = _
        rw [if_pos ⟨rfl, by simpa using hjl, rfl⟩]
        have := World.ownsRow.cells (w := w) (base := N) (e := e) (size := wid α) (v := .slice (some ⟨g, 0, none⟩) xs.length cap) (n := xs.length) (xs := cs) ⟨h1, .inr ⟨g, cap, cur, rfl, hg, hh, hn, hm, hcs, htake⟩⟩ (g := g) rfl j x hj
        have hadd : (⟨g, 0, none⟩ : Addr).add j = ⟨g, 0 + j, none⟩ := by unfold Addr.add; split <;> simp_all
        rw [hadd] at this
        exact this
      · intro p x hp
        show (if _ then _ else _) = _
        rw [if_neg]
        · exact hp
        · rintro ⟨hb, _⟩
          rw [hfree p hb] at hp
          cases hp

/-- One thing more behind the row's: what append does (the thing's cells lie at ad). -/
theorem Own.snoc {P : Program} {N : Nat} {w : World} {e : TypeId} {v : Value} {xs : List α} (h : Own σ N w e v xs) (hf : Fit σ w) (t ty : TypeId) (i : TypeInfo) (z : Value) (bytes : Nat)
    (ht : P.underlying t = some (.slice e)) (hi : P.info? e = some i) (hz : i.zero = some z) (hsize : i.size = wid α) (hby : i.bytes = bytes) (hzs : z.cells.size = wid α) (hsz : 0 < wid α)
    (ad : Addr) (m c : Nat) (ys : List α) (news : List Value) (hl : news.length = ys.length * wid α) (hm : m = ys.length) (hnews : ∀ j u, news[j]? = some u → w.cell? (ad.add j) = some u) (hys : Dat.AggIs σ (ys.map dat) news)
    (h63 : xs.length + m ≤ maxLen) (hbytes : (xs.length + m) * bytes ≤ 140737488355328) (hN : N ≤ w.heap.size) :
    ∃ v' w', (Builtin.append_ #[t, t] ty #[v, .slice (some ad) m c]).run P w = .ok v' w' ∧ Own σ N w' e v' (xs ++ ys) ∧ Fit σ w' ∧ w.grownBy w' v.ownBlock ∧ (v'.ownBlock = v.ownBlock ∨ v'.ownBlock = some w.heap.size) ∧ ∃ p c', v' = .slice p (xs.length + m) c' := by
  subst hm
  obtain ⟨cs, h1, h2⟩ := h.row
  obtain ⟨v', w', hr, k1, k2, _, k3⟩ := run_append_own_at (P := P) w N t ty e i z (wid α) bytes ht hi hz hsize hby hzs hsz v xs.length cs h1 ad ys.length c news hl hnews (Dat.AggIs.one hys) h63 hbytes hN
  have hrow : ∃ cs' : List Value, w'.ownsRow N e (wid α) v' (xs ++ ys).length cs' ∧ Dat.AggIs σ ((xs ++ ys).map dat) cs' := ⟨cs ++ news, by simpa using k1, by rw [List.map_append]; exact h2.append hys⟩
  have hfit : Fit σ w' := fun p x hp => by
    by_cases hb : some p.block = v.ownBlock
    · exact absurd (h.free p.block hb.symm p rfl) (by rw [hp]; simp)
    · exact (look_of_block (k2.block p.block (hf.lt hp) hb)).trans (hf p x hp)
  refine ⟨v', w', hr, ⟨hrow, fun g hg p hp => ?_⟩, hfit, k2, k3, ?_⟩
  · rcases k3 with k3 | k3
    · exact h.free g (by rw [← k3]; exact hg) p hp
    · rw [hg] at k3
      exact hf.no (by simp at k3; omega)
  · rcases k1.2 with ⟨rfl, h0⟩ | ⟨g, cap, cur, rfl, _⟩
    · exact ⟨none, 0, by rw [h0]⟩
    · exact ⟨_, _, rfl⟩
end
end Go.Proofs.Ytpajlfdhmjgpnaa
