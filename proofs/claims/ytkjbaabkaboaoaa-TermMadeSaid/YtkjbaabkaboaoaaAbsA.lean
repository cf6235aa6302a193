/-
  Abstract values: what a call's slots and own blocks hold, told without addresses; how they stand for the model's values.
  Conditions: none.
-/
import Derived.Test.YtkjbaabkaboaoaaMem
namespace Go.Proofs.Ytkjbaabkaboaoaa
open Go Go.RowKit
set_option linter.unusedVariables false

/-- Cells that stay. -/
inductive SV where
  | int (k : IntKind) (n : Int)
  | str (s : ByteArray)
  | bool (b : Bool)
  | list (xs : List (List SV))
  | lit (v : Value)
/-- Cells of a call's slots and own blocks. -/
inductive AC where
  | st (c : SV)
  | full (xs : List (List SV))
  | row (id n : Nat)
  | ptr (id n k off : Nat)
  | eptr (cs : List SV)
  | fn (f : Nat) (caps : List AC)
  | any
inductive AV where
  | one (c : AC)
  | agg (cs : List AC)
  | tup (vs : List AV)
  | any
/-- A call's own block: cells of one thing; a row that only grows; a row that is written. -/
inductive ABlk where
  | box (e : TypeId) (cs : List AC)
  | arow (e : TypeId) (w : Nat) (xs : List (List SV))
  | mrow (e : TypeId) (w : Nat) (xs : List (List SV))
def ABlk.len : ABlk → Nat
  | .box _ _ => 1
  | .arow _ _ xs => xs.length
  | .mrow _ _ xs => xs.length
def ABlk.wid : ABlk → Nat
  | .box _ _ => 0
  | .arow _ w _ => w
  | .mrow _ w _ => w
abbrev AStore := Nat → Option ABlk
/-- Where a block lies: a slice's address and room; the block's number where the call owns one. -/
structure Hnd where
  p : Option Addr
  cap : Nat
  g : Option Nat
abbrev AHnd := Nat → Hnd

def inR (k : IntKind) (n : Int) : Prop := k.min ≤ n ∧ n ≤ k.max

inductive All2 {α β : Type} (R : α → β → Prop) : List α → List β → Prop
  | nil : All2 R [] []
  | cons {a b l m} : R a b → All2 R l m → All2 R (a :: l) (b :: m)
section
variable {α β : Type} {R R' : α → β → Prop}
theorem All2.mono (h : ∀ a b, R a b → R' a b) : ∀ {l m}, All2 R l m → All2 R' l m
  | _, _, .nil => .nil
  | _, _, .cons x y => .cons (h _ _ x) (All2.mono h y)
theorem All2.len : ∀ {l m}, All2 R l m → l.length = m.length
  | _, _, .nil => rfl
  | _, _, .cons x y => by simp [All2.len y]
theorem All2.get : ∀ {l m}, All2 R l m → ∀ {j : Nat} {b : β}, m[j]? = some b → ∃ a, l[j]? = some a ∧ R a b
  | _, _, .nil, j, b, h => by simp at h
  | _, _, .cons x y, 0, b, h => by simp at h; subst h; exact ⟨_, rfl, x⟩
  | _, _, .cons x y, j + 1, b, h => by simpa using All2.get y (by simpa using h)
theorem All2.get' : ∀ {l m}, All2 R l m → ∀ {j : Nat} {a : α}, l[j]? = some a → ∃ b, m[j]? = some b ∧ R a b
  | _, _, .nil, j, b, h => by simp at h
  | _, _, .cons x y, 0, b, h => by simp at h; subst h; exact ⟨_, rfl, x⟩
  | _, _, .cons x y, j + 1, b, h => by simpa using All2.get' y (by simpa using h)
theorem All2.of_get : ∀ {l : List α} {m : List β}, l.length = m.length → (∀ (j : Nat) a b, l[j]? = some a → m[j]? = some b → R a b) → All2 R l m
  | [], [], _, _ => .nil
  | a :: l, b :: m, h, hr => .cons (hr 0 a b rfl rfl) (All2.of_get (by simpa using h) fun j a b ha hb => hr (j + 1) a b (by simpa using ha) (by simpa using hb))
theorem All2.append : ∀ {l m l' m'}, All2 R l m → All2 R l' m' → All2 R (l ++ l') (m ++ m')
  | _, _, _, _, .nil, h => h
  | _, _, _, _, .cons x y, h => .cons x (All2.append y h)
theorem All2.take : ∀ {l m}, All2 R l m → ∀ k, All2 R (l.take k) (m.take k)
  | _, _, .nil, k => by simpa using All2.nil
  | _, _, .cons x y, 0 => .nil
  | _, _, .cons x y, k + 1 => .cons x (All2.take y k)
theorem All2.drop : ∀ {l m}, All2 R l m → ∀ k, All2 R (l.drop k) (m.drop k)
  | _, _, .nil, k => by simpa using All2.nil
  | _, _, .cons x y, 0 => .cons x y
  | _, _, .cons x y, k + 1 => All2.drop y k
theorem All2.map_right {γ : Type} {f : γ → β} : ∀ {l : List α} {m : List γ}, All2 (fun a c => R a (f c)) l m → All2 R l (m.map f)
  | _, _, .nil => .nil
  | _, _, .cons x y => .cons x (All2.map_right y)
theorem All2.of_map_right {γ : Type} {f : γ → β} : ∀ {l : List α} {m : List γ}, All2 R l (m.map f) → All2 (fun a c => R a (f c)) l m
  | [], [], _ => .nil
  | _ :: _, _ :: _, .cons x y => .cons x (All2.of_map_right y)
end

/-- The value v is the cell c, as long as the part σ of memory stays. -/
inductive SRep (σ : Sto) : Value → SV → Prop
  | int {k n} : inR k n → SRep σ (.int k n) (.int k n)
  | str {s} : s.size ≤ maxLen → SRep σ (.string s) (.str s)
  | bool {b} : SRep σ (.bool b) (.bool b)
  | list {p len cap b o w xs} (c : Nat → Nat → Value) : len = xs.length → len ≤ cap → cap ≤ maxLen → (p = none → cap = 0) → (len ≠ 0 → p = some ⟨b, o, none⟩) → (∀ x ∈ xs, x.length = w) →
      (∀ k x j a, xs[k]? = some x → x[j]? = some a → σ ⟨b, o + k * w + j, none⟩ = some (c k j)) → (∀ k x j a, xs[k]? = some x → x[j]? = some a → SRep σ (c k j) a) → SRep σ (.slice p len cap) (.list xs)
  | lit {v} : v.oneCell' = true → SRep σ v (.lit v)

theorem SRep.mono {σ σ' : Sto} (h : ∀ p x, σ p = some x → σ' p = some x) {v : Value} {c : SV} (hr : SRep σ v c) : SRep σ' v c := by
  induction hr with
  | int h => exact .int h
  | str h => exact .str h
  | bool => exact .bool
  | list c h1 h2 h3 h4 h5 h6 h7 h8 ih => exact .list c h1 h2 h3 h4 h5 h6 (fun k x j a hx ha => h _ _ (h7 k x j a hx ha)) ih
  | lit h => exact .lit h
theorem SRep.one {σ : Sto} {v : Value} {c : SV} (hr : SRep σ v c) : v.oneCell' = true := by
  cases hr <;> first | assumption | rfl
theorem cells_of_one {v : Value} (h : v.oneCell' = true) : v.cells = #[v] := by
  cases v <;> first | rfl | simp [Value.oneCell'] at h

inductive ARep (σ : Sto) (S : AStore) (ι : AHnd) : Value → AC → Prop
  | st {v c} : SRep σ v c → ARep σ S ι v (.st c)
  | full {p len xs} : SRep σ (.slice p len len) (.list xs) → ARep σ S ι (.slice p len len) (.full xs)
  | row {v id n b} : S id = some b → n ≤ b.len → v.oneCell' = true → (n = b.len → v = .slice (ι id).p n (ι id).cap) → ARep σ S ι v (.row id n)
  | ptr {v id n k off b} : S id = some b → n ≤ b.len → v.oneCell' = true → (n = b.len → ∃ g, (ι id).g = some g ∧ v = .pointer (some ⟨g, k * b.wid + off, none⟩)) → ARep σ S ι v (.ptr id n k off)
  | eptr {b o cs} (c : Nat → Value) : (∀ j a, cs[j]? = some a → σ ⟨b, o + j, none⟩ = some (c j)) → (∀ j a, cs[j]? = some a → SRep σ (c j) a) → ARep σ S ι (.pointer (some ⟨b, o, none⟩)) (.eptr cs)
  | fn {f vs caps} (c : Nat → Value) : vs.size = caps.length → (∀ j a, caps[j]? = some a → vs[j]? = some (c j)) → (∀ j a, caps[j]? = some a → ARep σ S ι (c j) a) → ARep σ S ι (.func (.func f) #[] vs) (.fn f caps)
  | any {v} : v.oneCell' = true → ARep σ S ι v .any

/-- What is known of blocks stays: a block may grow. -/
def Upd (S : AStore) (ι : AHnd) (S' : AStore) (ι' : AHnd) : Prop := ∀ id b, S id = some b → ∃ b', S' id = some b' ∧ b.len ≤ b'.len ∧ (b'.len = b.len → b'.wid = b.wid ∧ ι' id = ι id)
theorem Upd.refl (S : AStore) (ι : AHnd) : Upd S ι S ι := fun id b h => ⟨b, h, Nat.le_refl _, fun _ => ⟨rfl, rfl⟩⟩

theorem ARep.mono {σ σ' : Sto} {S S' : AStore} {ι ι' : AHnd} (h : ∀ p x, σ p = some x → σ' p = some x) (hu : Upd S ι S' ι') {v : Value} {c : AC} (hr : ARep σ S ι v c) : ARep σ' S' ι' v c := by
  induction hr with
  | st h1 => exact .st (h1.mono h)
  | full h1 => exact .full (h1.mono h)
  | row h1 h2 h3 h4 =>
    obtain ⟨b', k1, k2, k3⟩ := hu _ _ h1
    refine .row k1 (by omega) h3 (fun hn => ?_)
    rw [(k3 (by omega)).2]
    exact h4 (by omega)
  | ptr h1 h2 h3 h4 =>
    obtain ⟨b', k1, k2, k3⟩ := hu _ _ h1
    refine .ptr k1 (by omega) h3 (fun hn => ?_)
    obtain ⟨g, g1, g2⟩ := h4 (by omega)
    obtain ⟨e1, e2⟩ := k3 (by omega)
    exact ⟨g, by rw [e2]; exact g1, by rw [e1]; exact g2⟩
  | eptr c h1 h2 => exact .eptr c (fun j a ha => h _ _ (h1 j a ha)) (fun j a ha => (h2 j a ha).mono h)
  | fn c h1 h2 h3 ih => exact .fn c h1 h2 ih
  | any h1 => exact .any h1
theorem ARep.one {σ : Sto} {S : AStore} {ι : AHnd} {v : Value} {c : AC} (hr : ARep σ S ι v c) : v.oneCell' = true := by
  cases hr with
  | st h => exact h.one
  | full h => exact h.one
  | row _ _ h _ => exact h
  | ptr _ _ h _ => exact h
  | eptr => rfl
  | fn => rfl
  | any h => exact h

inductive VRep (σ : Sto) (S : AStore) (ι : AHnd) : Value → AV → Prop
  | one {v c} : ARep σ S ι v c → VRep σ S ι v (.one c)
  | agg {vs cs} : All2 (ARep σ S ι) vs.toList cs → VRep σ S ι (.agg vs) (.agg cs)
  | tup {vs ps} (c : Nat → Value) : vs.size = ps.length → (∀ j a, ps[j]? = some a → vs[j]? = some (c j)) → (∀ j a, ps[j]? = some a → VRep σ S ι (c j) a) → VRep σ S ι (.tuple vs) (.tup ps)
  | any {v} : VRep σ S ι v .any
theorem VRep.mono {σ σ' : Sto} {S S' : AStore} {ι ι' : AHnd} (h : ∀ p x, σ p = some x → σ' p = some x) (hu : Upd S ι S' ι') {v : Value} {c : AV} (hr : VRep σ S ι v c) : VRep σ' S' ι' v c := by
  induction hr with
  | one h1 => exact .one (h1.mono h hu)
  | agg h1 => exact .agg (h1.mono fun _ _ x => x.mono h hu)
  | tup c h1 h2 h3 ih => exact .tup c h1 h2 ih
  | any => exact .any

def AV.cells : AV → Option (List AC)
  | .one c => some [c]
  | .agg cs => some cs
  | _ => none
theorem VRep.cells {σ : Sto} {S : AStore} {ι : AHnd} {v : Value} {a : AV} {cs : List AC} (h : VRep σ S ι v a) (hc : a.cells = some cs) : All2 (ARep σ S ι) v.cells.toList cs := by
  cases h with
  | one h1 =>
    simp only [AV.cells, Option.some.injEq] at hc
    subst hc
    rw [cells_of_one h1.one]
    exact .cons h1 .nil
  | agg h1 =>
    simp only [AV.cells, Option.some.injEq] at hc
    subst hc
    exact h1
  | tup => simp [AV.cells] at hc
  | any => simp [AV.cells] at hc

/-- What a block of the call's own holds. -/
inductive BRep (σ : Sto) (S : AStore) (ι : AHnd) (w : World) (h : Hnd) : ABlk → Prop
  | box {e cs g vs} : h.g = some g → h.p = some ⟨g, 0, none⟩ → w.heap[g]? = some (.cells vs e (0, 0)) → All2 (ARep σ S ι) vs.toList cs → (∀ p : Addr, p.block = g → σ p = none) → BRep σ S ι w h (.box e cs)
  | afull {e wd xs} : h.g = none → h.cap = xs.length → (∀ x ∈ xs, x.length = wd) → SRep σ (.slice h.p xs.length h.cap) (.list xs) → BRep σ S ι w h (.arow e wd xs)
  | arow {e wd xs g vs} : h.g = some g → h.p = some ⟨g, 0, none⟩ → w.heap[g]? = some (.cells vs e (0, 0)) → xs.length ≤ h.cap → h.cap ≤ maxLen → vs.size = h.cap * wd → (∀ x ∈ xs, x.length = wd) →
      (∀ k x j a, xs[k]? = some x → x[j]? = some a → ∃ v, vs[k * wd + j]? = some v ∧ SRep σ v a ∧ σ ⟨g, k * wd + j, none⟩ = some v) → (∀ p : Addr, p.block = g → σ p ≠ none → p.off < xs.length * wd) → BRep σ S ι w h (.arow e wd xs)
  | mnil {e wd} : h.g = none → h.cap = 0 → BRep σ S ι w h (.mrow e wd [])
  | mrow {e wd xs g vs} : h.g = some g → h.p = some ⟨g, 0, none⟩ → w.heap[g]? = some (.cells vs e (0, 0)) → xs.length ≤ h.cap → h.cap ≤ maxLen → vs.size = h.cap * wd → (∀ x ∈ xs, x.length = wd) →
      (∀ k x j a, xs[k]? = some x → x[j]? = some a → ∃ v, vs[k * wd + j]? = some v ∧ SRep σ v a) → (∀ p : Addr, p.block = g → σ p = none) → BRep σ S ι w h (.mrow e wd xs)

theorem BRep.gsome {σ : Sto} {S : AStore} {ι : AHnd} {w : World} {h : Hnd} {b : ABlk} (hr : BRep σ S ι w h b) {g : Nat} (hg : h.g = some g) : g < w.heap.size := by
  cases hr with
  | box h1 h2 h3 => rw [h1] at hg; cases hg; exact (Array.getElem?_eq_some_iff.1 h3).1
  | afull h1 => rw [h1] at hg; cases hg
  | arow h1 h2 h3 => rw [h1] at hg; cases hg; exact (Array.getElem?_eq_some_iff.1 h3).1
  | mnil h1 => rw [h1] at hg; cases hg
  | mrow h1 h2 h3 => rw [h1] at hg; cases hg; exact (Array.getElem?_eq_some_iff.1 h3).1
/-- Other memory turned; more is known. -/
theorem BRep.mono {σ σ' : Sto} {S S' : AStore} {ι ι' : AHnd} {w w' : World} {h : Hnd} {b : ABlk} (hr : BRep σ S ι w h b) (hs : ∀ p x, σ p = some x → σ' p = some x) (hu : Upd S ι S' ι')
    (hw : ∀ g, h.g = some g → w'.heap[g]? = w.heap[g]?) (hn : ∀ g, h.g = some g → ∀ p : Addr, p.block = g → σ' p = σ p) : BRep σ' S' ι' w' h b := by
  cases hr with
  | box h1 h2 h3 h4 h5 => exact .box h1 h2 ((hw _ h1).trans h3) (h4.mono fun _ _ x => x.mono hs hu) fun p hp => (hn _ h1 p hp).trans (h5 p hp)
  | afull h1 h2 h3 h4 => exact .afull h1 h2 h3 (h4.mono hs)
  | arow h1 h2 h3 h4 h5 h6 h7 h8 h9 =>
    refine .arow h1 h2 ((hw _ h1).trans h3) h4 h5 h6 h7 (fun k x j a hx ha => ?_) fun p hp hne => h9 p hp (by rw [← hn _ h1 p hp]; exact hne)
    obtain ⟨v, v1, v2, v3⟩ := h8 k x j a hx ha
    exact ⟨v, v1, v2.mono hs, hs _ _ v3⟩
  | mnil h1 h2 => exact .mnil h1 h2
  | mrow h1 h2 h3 h4 h5 h6 h7 h8 h9 =>
    refine .mrow h1 h2 ((hw _ h1).trans h3) h4 h5 h6 h7 (fun k x j a hx ha => ?_) fun p hp => (hn _ h1 p hp).trans (h9 p hp)
    obtain ⟨v, v1, v2⟩ := h8 k x j a hx ha
    exact ⟨v, v1, v2.mono hs⟩

/-- A growing row, read as a slice that stays. -/
theorem BRep.srep {σ : Sto} {S : AStore} {ι : AHnd} {w : World} {h : Hnd} {e : TypeId} {wd : Nat} {xs : List (List SV)} (hr : BRep σ S ι w h (.arow e wd xs)) : SRep σ (.slice h.p xs.length h.cap) (.list xs) := by
  cases hr with
  | afull h1 h2 h3 h4 => exact h4
  | @arow _ _ _ g vs h1 h2 h3 h4 h5 h6 h7 h8 h9 =>
    refine .list (b := g) (o := 0) (w := wd) (fun k j => (σ ⟨g, k * wd + j, none⟩).getD undef) rfl h4 h5 (by simp [h2]) (fun _ => h2) h7 (fun k x j a hx ha => ?_) (fun k x j a hx ha => ?_)
    · obtain ⟨v, v1, v2, v3⟩ := h8 k x j a hx ha
      simp [v3]
    · obtain ⟨v, v1, v2, v3⟩ := h8 k x j a hx ha
      simpa [v3] using v2
end Go.Proofs.Ytkjbaabkaboaoaa
