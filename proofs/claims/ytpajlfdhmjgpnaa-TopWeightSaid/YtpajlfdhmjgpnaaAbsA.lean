/-
  Abstract values: what a call's slots and own blocks hold, told without addresses; how they stand for the model's values.
  Conditions: none.
-/
import Derived.Test.YtpajlfdhmjgpnaaMem
namespace Go.Proofs.Ytpajlfdhmjgpnaa
open Go Go.RowKit
set_option linter.unusedVariables false

/-- Cells that stay. -/
inductive SV where
  | int (k : IntKind) (n : Int)
  | str (s : ByteArray)
  | bool (b : Bool)
  | list (xs : List (List SV))
  | lit (v : Value)
  | err
/-- Cells of a call's slots and own blocks. -/
inductive AC where
  | st (c : SV)
  | full (xs : List (List SV))
  | row (id n : Nat)
  | part (id k n : Nat)
  | rest (id o n : Nat)
  | ptr (id n k off : Nat)
  | eptr (cs : List SV)
  | mptr (id : Nat)
  | ubool
  | fn (f : Nat) (caps : List AC)
  | any
inductive AV where
  | one (c : AC)
  | agg (cs : List AC)
  | tup (vs : List AV)
  | any
/-- Keys of a map: texts, or numbers of one kind. -/
inductive KV where
  | s (b : ByteArray)
  | i (n : Int)
  deriving DecidableEq
def KV.sv : Option IntKind → KV → Option SV
  | none, .s b => some (.str b)
  | some k, .i n => some (.int k n)
  | _, _ => none
def KV.of : Option IntKind → SV → Option KV
  | none, .str b => some (.s b)
  | some k, .int k' n => if k' = k then some (.i n) else none
  | _, _ => none
/-- A call's own block: cells of one thing; a row that only grows; a row that is written; a map (keys and what they hold, as they came in); a walk through a map that had n entries (those that it has met). -/
inductive ABlk where
  | box (e : TypeId) (cs : List AC)
  | arow (e : TypeId) (w : Nat) (xs : List (List SV))
  | mrow (e : TypeId) (w : Nat) (xs : List (List SV))
  | map (kt : Option IntKind) (es : List (KV × AV))
  | iter (x : AC) (n : Nat) (seen : List Nat)
  | dead (n w : Nat)
def ABlk.len : ABlk → Nat
  | .box _ _ => 1
  | .arow _ _ xs => xs.length
  | .mrow _ _ xs => xs.length
  | .map _ _ => 1
  | .iter _ _ _ => 1
  | .dead n _ => n
def ABlk.wid : ABlk → Nat
  | .box _ _ => 0
  | .arow _ w _ => w
  | .mrow _ w _ => w
  | .map _ _ => 0
  | .iter _ _ _ => 0
  | .dead _ w => w
abbrev AStore := Nat → Option ABlk
/-- Where a block lies: a slice's address and room; the block's number where the call owns one. -/
structure Hnd where
  p : Option Addr
  cap : Nat
  g : Option Nat
abbrev AHnd := Nat → Hnd
def noS : AStore := fun _ => none
def noH : AHnd := fun _ => ⟨none, 0, none⟩

def inR (k : IntKind) (n : Int) : Prop := k.min ≤ n ∧ n ≤ k.max

inductive All2 {α β : Type} (R : α → β → Prop) : List α → List β → Prop
  | nil : All2 R [] []
  | cons {a b l m} : R a b → All2 R l m → All2 R (a :: l) (b :: m)
section
variable {α β : Type} {R R' : α → β → Prop}
theorem All2.mono (h : ∀ a b, R a b → R' a b) : ∀ {l m}, All2 R l m → All2 R' l m
  | _, _, .nil => .nil
  | _, _, .cons x y => .cons (h _ _ x) (All2.mono h y)
theorem All2.len : ∀ {l m}, All2 R l m → l.length = m.length
  | _, _, .nil => rfl
  | _, _, .cons x y => by simp [All2.len y]
theorem All2.get : ∀ {l m}, All2 R l m → ∀ {j : Nat} {b : β}, m[j]? = some b → ∃ a, l[j]? = some a ∧ R a b
  | _, _, .nil, j, b, h => by simp at h
  | _, _, .cons x y, 0, b, h => by simp at h; subst h; exact ⟨_, rfl, x⟩
  | _, _, .cons x y, j + 1, b, h => by simpa using All2.get y (by simpa using h)
theorem All2.get' : ∀ {l m}, All2 R l m → ∀ {j : Nat} {a : α}, l[j]? = some a → ∃ b, m[j]? = some b ∧ R a b
  | _, _, .nil, j, b, h => by simp at h
  | _, _, .cons x y, 0, b, h => by simp at h; subst h; exact ⟨_, rfl, x⟩
  | _, _, .cons x y, j + 1, b, h => by simpa using All2.get' y (by simpa using h)
theorem All2.of_get : ∀ {l : List α} {m : List β}, l.length = m.length → (∀ (j : Nat) a b, l[j]? = some a → m[j]? = some b → R a b) → All2 R l m
  | [], [], _, _ => .nil
  | a :: l, b :: m, h, hr => .cons (hr 0 a b rfl rfl) (All2.of_get (by simpa using h) fun j a b ha hb => hr (j + 1) a b (by simpa using ha) (by simpa using hb))
theorem All2.append : ∀ {l m l' m'}, All2 R l m → All2 R l' m' → All2 R (l ++ l') (m ++ m')
  | _, _, _, _, .nil, h => h
  | _, _, _, _, .cons x y, h => .cons x (All2.append y h)
theorem All2.take : ∀ {l m}, All2 R l m → ∀ k, All2 R (l.take k) (m.take k)
  | _, _, .nil, k => by simpa using All2.nil
  | _, _, .cons x y, 0 => .nil
  | _, _, .cons x y, k + 1 => .cons x (All2.take y k)
theorem All2.drop : ∀ {l m}, All2 R l m → ∀ k, All2 R (l.drop k) (m.drop k)
  | _, _, .nil, k => by simpa using All2.nil
  | _, _, .cons x y, 0 => .cons x y
  | _, _, .cons x y, k + 1 => All2.drop y k
theorem All2.map_right {γ : Type} {f : γ → β} : ∀ {l : List α} {m : List γ}, All2 (fun a c => R a (f c)) l m → All2 R l (m.map f)
  | _, _, .nil => .nil
  | _, _, .cons x y => .cons x (All2.map_right y)
theorem All2.of_map_right {γ : Type} {f : γ → β} : ∀ {l : List α} {m : List γ}, All2 R l (m.map f) → All2 (fun a c => R a (f c)) l m
  | [], [], _ => .nil
  | _ :: _, _ :: _, .cons x y => .cons x (All2.of_map_right y)
end

/-- The value v is the cell c, as long as the part σ of memory stays. -/
inductive SRep (σ : Sto) : Value → SV → Prop
  | int {k n} : inR k n → SRep σ (.int k n) (.int k n)
  | str {s} : s.size ≤ maxLen → SRep σ (.string s) (.str s)
  | bool {b} : SRep σ (.bool b) (.bool b)
  | list {p len cap b o w xs} (c : Nat → Nat → Value) : len = xs.length → len ≤ cap → cap ≤ maxLen → (p = none → cap = 0) → (len ≠ 0 → p = some ⟨b, o, none⟩) → (∀ x ∈ xs, x.length = w) →
      (∀ k x j a, xs[k]? = some x → x[j]? = some a → σ ⟨b, o + k * w + j, none⟩ = some (c k j)) → (∀ k x j a, xs[k]? = some x → x[j]? = some a → SRep σ (c k j) a) → SRep σ (.slice p len cap) (.list xs)
  | lit {v} : v.oneCell' = true → SRep σ v (.lit v)
  | err {t x} : SRep σ (.iface t x) .err

theorem SRep.mono {σ σ' : Sto} (h : ∀ p x, σ p = some x → σ' p = some x) {v : Value} {c : SV} (hr : SRep σ v c) : SRep σ' v c := by
  induction hr with
  | int h => exact .int h
  | str h => exact .str h
  | bool => exact .bool
  | list c h1 h2 h3 h4 h5 h6 h7 h8 ih => exact .list c h1 h2 h3 h4 h5 h6 (fun k x j a hx ha => h _ _ (h7 k x j a hx ha)) ih
  | lit h => exact .lit h
  | err => exact .err
theorem SRep.one {σ : Sto} {v : Value} {c : SV} (hr : SRep σ v c) : v.oneCell' = true := by
  cases hr <;> first | assumption | rfl
theorem cells_of_one {v : Value} (h : v.oneCell' = true) : v.cells = #[v] := by
  cases v <;> first | rfl | simp [Value.oneCell'] at h

inductive ARep (σ : Sto) (S : AStore) (ι : AHnd) : Value → AC → Prop
  | st {v c} : SRep σ v c → ARep σ S ι v (.st c)
  | full {p len xs} : SRep σ (.slice p len len) (.list xs) → ARep σ S ι (.slice p len len) (.full xs)
  | row {v id n b} : S id = some b → n ≤ b.len → v.oneCell' = true → (n = b.len → v = .slice (ι id).p n (ι id).cap) → ARep σ S ι v (.row id n)
  | part {v id k n b} : S id = some b → n ≤ b.len → v.oneCell' = true → (n = b.len → k ≤ n ∧ v = .slice (ι id).p k (ι id).cap) → ARep σ S ι v (.part id k n)
  | rest {v id o n b} : S id = some b → n ≤ b.len → v.oneCell' = true → (n = b.len → o ≤ n ∧ v = .slice (if (ι id).cap = o then (ι id).p else (ι id).p.map (·.add (o * b.wid))) (n - o) ((ι id).cap - o)) → ARep σ S ι v (.rest id o n)
  | ptr {v id n k off b} : S id = some b → n ≤ b.len → v.oneCell' = true → (n = b.len → ∃ g, (ι id).g = some g ∧ v = .pointer (some ⟨g, k * b.wid + off, none⟩)) → ARep σ S ι v (.ptr id n k off)
  | mptr {v id b} : S id = some b → 1 ≤ b.len → v.oneCell' = true → (1 = b.len → ∃ g, (ι id).g = some g ∧ v = .map (some g)) → ARep σ S ι v (.mptr id)
  | ubool {b} : ARep σ S ι (.bool b) .ubool
  | eptr {b o cs} (c : Nat → Value) : (∀ j a, cs[j]? = some a → σ ⟨b, o + j, none⟩ = some (c j)) → (∀ j a, cs[j]? = some a → SRep σ (c j) a) → ARep σ S ι (.pointer (some ⟨b, o, none⟩)) (.eptr cs)
  | fn {f vs caps} (c : Nat → Value) : vs.size = caps.length → (∀ j a, caps[j]? = some a → vs[j]? = some (c j)) → (∀ j a, caps[j]? = some a → ARep σ S ι (c j) a) → ARep σ S ι (.func (.func f) #[] vs) (.fn f caps)
  | any {v} : v.oneCell' = true → ARep σ S ι v .any

/-- What is known of blocks stays: a block may grow. -/
def Upd (S : AStore) (ι : AHnd) (S' : AStore) (ι' : AHnd) : Prop := ∀ id b, S id = some b → ∃ b', S' id = some b' ∧ b.len ≤ b'.len ∧ (b'.len = b.len → b'.wid = b.wid ∧ ι' id = ι id)
theorem Upd.trans {S1 S2 S3 : AStore} {ι1 ι2 ι3 : AHnd} (h : Upd S1 ι1 S2 ι2) (k : Upd S2 ι2 S3 ι3) : Upd S1 ι1 S3 ι3 := fun id b hb => by
  obtain ⟨b2, h1, h2, h3⟩ := h id b hb
  obtain ⟨b3, k1, k2, k3⟩ := k id b2 h1
  refine ⟨b3, k1, by omega, fun he => ?_⟩
  obtain ⟨q1, q2⟩ := h3 (by omega)
  obtain ⟨p1, p2⟩ := k3 (by omega)
  exact ⟨p1.trans q1, p2.trans q2⟩
theorem Upd.refl (S : AStore) (ι : AHnd) : Upd S ι S ι := fun id b h => ⟨b, h, Nat.le_refl _, fun _ => ⟨rfl, rfl⟩⟩

theorem ARep.mono {σ σ' : Sto} {S S' : AStore} {ι ι' : AHnd} (h : ∀ p x, σ p = some x → σ' p = some x) (hu : Upd S ι S' ι') {v : Value} {c : AC} (hr : ARep σ S ι v c) : ARep σ' S' ι' v c := by
  induction hr with
  | st h1 => exact .st (h1.mono h)
  | full h1 => exact .full (h1.mono h)
  | row h1 h2 h3 h4 =>
    obtain ⟨b', k1, k2, k3⟩ := hu _ _ h1
    refine .row k1 (by omega) h3 (fun hn => ?_)
    rw [(k3 (by omega)).2]
    exact h4 (by omega)
  | part h1 h2 h3 h4 =>
    obtain ⟨b', k1, k2, k3⟩ := hu _ _ h1
    refine .part k1 (by omega) h3 (fun hn => ?_)
    rw [(k3 (by omega)).2]
    exact h4 (by omega)
  | rest h1 h2 h3 h4 =>
    obtain ⟨b', k1, k2, k3⟩ := hu _ _ h1
    refine .rest k1 (by omega) h3 (fun hn => ?_)
    obtain ⟨e1, e2⟩ := k3 (by omega)
    rw [e1, e2]
    exact h4 (by omega)
  | ptr h1 h2 h3 h4 =>
    obtain ⟨b', k1, k2, k3⟩ := hu _ _ h1
    refine .ptr k1 (by omega) h3 (fun hn => ?_)
    obtain ⟨g, g1, g2⟩ := h4 (by omega)
    obtain ⟨e1, e2⟩ := k3 (by omega)
    exact ⟨g, by rw [e2]; exact g1, by rw [e1]; exact g2⟩
  | mptr h1 h2 h3 h4 =>
    obtain ⟨b', k1, k2, k3⟩ := hu _ _ h1
    refine .mptr k1 (by omega) h3 (fun hn => ?_)
    obtain ⟨g, g1, g2⟩ := h4 (by omega)
    obtain ⟨e1, e2⟩ := k3 (by omega)
    exact ⟨g, by rw [e2]; exact g1, g2⟩
  | ubool => exact .ubool
  | eptr c h1 h2 => exact .eptr c (fun j a ha => h _ _ (h1 j a ha)) (fun j a ha => (h2 j a ha).mono h)
  | fn c h1 h2 h3 ih => exact .fn c h1 h2 ih
  | any h1 => exact .any h1
theorem ARep.one {σ : Sto} {S : AStore} {ι : AHnd} {v : Value} {c : AC} (hr : ARep σ S ι v c) : v.oneCell' = true := by
  cases hr with
  | st h => exact h.one
  | full h => exact h.one
  | row _ _ h _ => exact h
  | part _ _ h _ => exact h
  | rest _ _ h _ => exact h
  | ptr _ _ h _ => exact h
  | mptr _ _ h _ => exact h
  | ubool => rfl
  | eptr => rfl
  | fn => rfl
  | any h => exact h

inductive VRep (σ : Sto) (S : AStore) (ι : AHnd) : Value → AV → Prop
  | one {v c} : ARep σ S ι v c → VRep σ S ι v (.one c)
  | agg {vs cs} : All2 (ARep σ S ι) vs.toList cs → VRep σ S ι (.agg vs) (.agg cs)
  | tup {vs ps} (c : Nat → Value) : vs.size = ps.length → (∀ j a, ps[j]? = some a → vs[j]? = some (c j)) → (∀ j a, ps[j]? = some a → VRep σ S ι (c j) a) → VRep σ S ι (.tuple vs) (.tup ps)
  | any {v} : VRep σ S ι v .any
theorem VRep.mono {σ σ' : Sto} {S S' : AStore} {ι ι' : AHnd} (h : ∀ p x, σ p = some x → σ' p = some x) (hu : Upd S ι S' ι') {v : Value} {c : AV} (hr : VRep σ S ι v c) : VRep σ' S' ι' v c := by
  induction hr with
  | one h1 => exact .one (h1.mono h hu)
  | agg h1 => exact .agg (h1.mono fun _ _ x => x.mono h hu)
  | tup c h1 h2 h3 ih => exact .tup c h1 h2 ih
  | any => exact .any

def AV.cells : AV → Option (List AC)
  | .one c => some [c]
  | .agg cs => some cs
  | _ => none
theorem VRep.cells {σ : Sto} {S : AStore} {ι : AHnd} {v : Value} {a : AV} {cs : List AC} (h : VRep σ S ι v a) (hc : a.cells = some cs) : All2 (ARep σ S ι) v.cells.toList cs := by
  cases h with
  | one h1 =>
    simp only [AV.cells, Option.some.injEq] at hc
    subst hc
    rw [cells_of_one h1.one]
    exact .cons h1 .nil
  | agg h1 =>
    simp only [AV.cells, Option.some.injEq] at hc
    subst hc
    exact h1
  | tup => simp [AV.cells] at hc
  | any => simp [AV.cells] at hc

/-- The entries of a map, in the order in which they came in. -/
structure MapRep (σ : Sto) (kt : Option IntKind) (ents : List MapEntry) (es : List (KV × AV)) : Prop where
  all : All2 (fun e x => (∃ c, x.1.sv kt = some c ∧ SRep σ e.key c) ∧ VRep σ noS noH e.val x.2) ents es
  born : ents.map (·.born) = List.range ents.length
theorem MapRep.mono {σ σ' : Sto} {kt : Option IntKind} {ents : List MapEntry} {es : List (KV × AV)} (h : MapRep σ kt ents es) (hs : ∀ p x, σ p = some x → σ' p = some x) : MapRep σ' kt ents es :=
  ⟨h.all.mono fun _ _ x => ⟨x.1.elim fun c y => ⟨c, y.1, y.2.mono hs⟩, x.2.mono hs (Upd.refl _ _)⟩, h.born⟩
/-- What a block of the call's own holds. -/
inductive BRep (σ : Sto) (S : AStore) (ι : AHnd) (w : World) (h : Hnd) : ABlk → Prop
  | box {e cs g vs} : h.g = some g → h.p = some ⟨g, 0, none⟩ → w.heap[g]? = some (.cells vs e (0, 0)) → All2 (ARep σ S ι) vs.toList cs → (∀ p : Addr, p.block = g → σ p = none) → BRep σ S ι w h (.box e cs)
  | afull {e wd xs} : h.g = none → h.cap = xs.length → (∀ x ∈ xs, x.length = wd) → SRep σ (.slice h.p xs.length h.cap) (.list xs) → BRep σ S ι w h (.arow e wd xs)
  | arow {e wd xs g vs} : h.g = some g → h.p = some ⟨g, 0, none⟩ → w.heap[g]? = some (.cells vs e (0, 0)) → xs.length ≤ h.cap → h.cap ≤ maxLen → vs.size = h.cap * wd → (∀ x ∈ xs, x.length = wd) →
      (∀ k x j a, xs[k]? = some x → x[j]? = some a → ∃ v, vs[k * wd + j]? = some v ∧ SRep σ v a ∧ σ ⟨g, k * wd + j, none⟩ = some v) → (∀ p : Addr, p.block = g → σ p ≠ none → p.off < xs.length * wd) → BRep σ S ι w h (.arow e wd xs)
  | mnil {e wd} : h.g = none → h.cap = 0 → BRep σ S ι w h (.mrow e wd [])
  | mrow {e wd xs g vs} : h.g = some g → h.p = some ⟨g, 0, none⟩ → w.heap[g]? = some (.cells vs e (0, 0)) → xs.length ≤ h.cap → h.cap ≤ maxLen → vs.size = h.cap * wd → (∀ x ∈ xs, x.length = wd) →
      (∀ k x j a, xs[k]? = some x → x[j]? = some a → ∃ v, vs[k * wd + j]? = some v ∧ SRep σ v a) → (∀ p : Addr, p.block = g → σ p = none) → BRep σ S ι w h (.mrow e wd xs)
  | map {kt es g ents} : h.g = some g → w.heap[g]? = some (.map ents ents.size) → MapRep σ kt ents.toList es → (∀ p : Addr, p.block = g → σ p = none) → BRep σ S ι w h (.map kt es)
  | iter {x n seen g m} : h.g = some g → w.heap[g]? = some (.mapIter (some m) n seen.toArray n) → ARep σ S ι (.map (some m)) x → (∀ p : Addr, p.block = g → σ p = none) → BRep σ S ι w h (.iter x n seen)
  | dead {n wd} : (∀ g, h.g = some g → g < w.heap.size) → BRep σ S ι w h (.dead n wd)

theorem BRep.gsome {σ : Sto} {S : AStore} {ι : AHnd} {w : World} {h : Hnd} {b : ABlk} (hr : BRep σ S ι w h b) {g : Nat} (hg : h.g = some g) : g < w.heap.size := by
  cases hr with
  | box h1 h2 h3 => rw [h1] at hg; cases hg; exact (Array.getElem?_eq_some_iff.1 h3).1
  | afull h1 => rw [h1] at hg; cases hg
  | arow h1 h2 h3 => rw [h1] at hg; cases hg; exact (Array.getElem?_eq_some_iff.1 h3).1
  | mnil h1 => rw [h1] at hg; cases hg
  | mrow h1 h2 h3 => rw [h1] at hg; cases hg; exact (Array.getElem?_eq_some_iff.1 h3).1
  | map h1 h2 => rw [h1] at hg; cases hg; exact (Array.getElem?_eq_some_iff.1 h2).1
  | iter h1 h2 => rw [h1] at hg; cases hg; exact (Array.getElem?_eq_some_iff.1 h2).1
  | dead h1 => exact h1 _ hg
/-- Other memory turned; more is known. -/
theorem BRep.mono {σ σ' : Sto} {S S' : AStore} {ι ι' : AHnd} {w w' : World} {h : Hnd} {b : ABlk} (hr : BRep σ S ι w h b) (hs : ∀ p x, σ p = some x → σ' p = some x) (hu : Upd S ι S' ι')
    (hw : ∀ g, h.g = some g → w'.heap[g]? = w.heap[g]?) (hn : ∀ g, h.g = some g → ∀ p : Addr, p.block = g → σ' p = σ p) : BRep σ' S' ι' w' h b := by
  cases hr with
  | box h1 h2 h3 h4 h5 => exact .box h1 h2 ((hw _ h1).trans h3) (h4.mono fun _ _ x => x.mono hs hu) fun p hp => (hn _ h1 p hp).trans (h5 p hp)
  | afull h1 h2 h3 h4 => exact .afull h1 h2 h3 (h4.mono hs)
  | arow h1 h2 h3 h4 h5 h6 h7 h8 h9 =>
    refine .arow h1 h2 ((hw _ h1).trans h3) h4 h5 h6 h7 (fun k x j a hx ha => ?_) fun p hp hne => h9 p hp (by rw [← hn _ h1 p hp]; exact hne)
    obtain ⟨v, v1, v2, v3⟩ := h8 k x j a hx ha
    exact ⟨v, v1, v2.mono hs, hs _ _ v3⟩
  | mnil h1 h2 => exact .mnil h1 h2
  | mrow h1 h2 h3 h4 h5 h6 h7 h8 h9 =>
    refine .mrow h1 h2 ((hw _ h1).trans h3) h4 h5 h6 h7 (fun k x j a hx ha => ?_) fun p hp => (hn _ h1 p hp).trans (h9 p hp)
    obtain ⟨v, v1, v2⟩ := h8 k x j a hx ha
    exact ⟨v, v1, v2.mono hs⟩
  | map h1 h2 h3 h4 => exact .map h1 ((hw _ h1).trans h2) (h3.mono hs) fun p hp => (hn _ h1 p hp).trans (h4 p hp)
  | iter h1 h2 h3 h4 => exact .iter h1 ((hw _ h1).trans h2) (h3.mono hs hu) fun p hp => (hn _ h1 p hp).trans (h4 p hp)
  | dead h1 => exact .dead fun g hg => (Array.getElem?_eq_some_iff.1 ((hw g hg).trans (Array.getElem?_eq_getElem (h1 g hg)))).1

/-- A growing row, read as a slice that stays. -/
theorem BRep.srep {σ : Sto} {S : AStore} {ι : AHnd} {w : World} {h : Hnd} {e : TypeId} {wd : Nat} {xs : List (List SV)} (hr : BRep σ S ι w h (.arow e wd xs)) : SRep σ (.slice h.p xs.length h.cap) (.list xs) := by
  cases hr with
  | afull h1 h2 h3 h4 => exact h4
  | @arow _ _ _ g vs h1 h2 h3 h4 h5 h6 h7 h8 h9 =>
    refine .list (b := g) (o := 0) (w := wd) (fun k j => (σ ⟨g, k * wd + j, none⟩).getD undef) rfl h4 h5 (by simp [h2]) (fun _ => h2) h7 (fun k x j a hx ha => ?_) (fun k x j a hx ha => ?_)
    · obtain ⟨v, v1, v2, v3⟩ := h8 k x j a hx ha
      simp [v3]
    · obtain ⟨v, v1, v2, v3⟩ := h8 k x j a hx ha
      simpa [v3] using v2

/-! ### other names for blocks -/
mutual
def AC.ren (ρ : Nat → Nat) : AC → AC
  | .st c => .st c
  | .full xs => .full xs
  | .row id n => .row (ρ id) n
  | .part id k n => .part (ρ id) k n
  | .rest id k n => .rest (ρ id) k n
  | .ptr id n k off => .ptr (ρ id) n k off
  | .mptr id => .mptr (ρ id)
  | .ubool => .ubool
  | .eptr cs => .eptr cs
  | .fn f caps => .fn f (AC.rens ρ caps)
  | .any => .any
def AC.rens (ρ : Nat → Nat) : List AC → List AC
  | [] => []
  | c :: cs => c.ren ρ :: AC.rens ρ cs
end
mutual
def AV.ren (ρ : Nat → Nat) : AV → AV
  | .one c => .one (c.ren ρ)
  | .agg cs => .agg (AC.rens ρ cs)
  | .tup vs => .tup (AV.rens ρ vs)
  | .any => .any
def AV.rens (ρ : Nat → Nat) : List AV → List AV
  | [] => []
  | c :: cs => c.ren ρ :: AV.rens ρ cs
end
def ABlk.ren (ρ : Nat → Nat) : ABlk → ABlk
  | .box e cs => .box e (AC.rens ρ cs)
  | .iter x n seen => .iter (x.ren ρ) n seen
  | b => b
theorem AC.rens_eq (ρ : Nat → Nat) : ∀ cs : List AC, AC.rens ρ cs = cs.map (AC.ren ρ)
  | [] => rfl
  | c :: cs => by rw [AC.rens, AC.rens_eq ρ cs]; rfl
theorem AV.rens_eq (ρ : Nat → Nat) : ∀ cs : List AV, AV.rens ρ cs = cs.map (AV.ren ρ)
  | [] => rfl
  | c :: cs => by rw [AV.rens, AV.rens_eq ρ cs]; rfl
theorem ren_len (ρ : Nat → Nat) (b : ABlk) : (b.ren ρ).len = b.len := by cases b <;> rfl
theorem ren_wid (ρ : Nat → Nat) (b : ABlk) : (b.ren ρ).wid = b.wid := by cases b <;> rfl
section
variable {σ : Sto} {S S2 : AStore} {ι ι2 : AHnd} {ρ : Nat → Nat}
theorem ARep.ren (hS : ∀ i b, S i = some b → S2 (ρ i) = some (b.ren ρ)) (hι : ∀ i b, S i = some b → ι2 (ρ i) = ι i) {v : Value} {c : AC} (h : ARep σ S ι v c) : ARep σ S2 ι2 v (c.ren ρ) := by
  induction h with
  | st h => exact .st h
  | full h => exact .full h
  | row h1 h2 h3 h4 => exact .row (hS _ _ h1) (by rw [ren_len]; exact h2) h3 (fun hn => by rw [hι _ _ h1]; exact h4 (by rw [ren_len] at hn; exact hn))
  | part h1 h2 h3 h4 => exact .part (hS _ _ h1) (by rw [ren_len]; exact h2) h3 (fun hn => by rw [hι _ _ h1]; exact h4 (by rw [ren_len] at hn; exact hn))
  | rest h1 h2 h3 h4 => exact .rest (hS _ _ h1) (by rw [ren_len]; exact h2) h3 (fun hn => by rw [hι _ _ h1, ren_wid]; exact h4 (by rw [ren_len] at hn; exact hn))
  | ptr h1 h2 h3 h4 => exact .ptr (hS _ _ h1) (by rw [ren_len]; exact h2) h3 (fun hn => by rw [hι _ _ h1, ren_wid]; exact h4 (by rw [ren_len] at hn; exact hn))
  | ubool => exact .ubool
  | mptr h1 h2 h3 h4 => exact .mptr (hS _ _ h1) (by rw [ren_len]; exact h2) h3 (fun hn => by rw [hι _ _ h1]; exact h4 (by rw [ren_len] at hn; exact hn))
  | eptr c h1 h2 => exact .eptr c h1 h2
  | @fn f vs caps c h1 h2 h3 ih =>
    have key : ∀ (j : Nat) (b : AC), (AC.rens ρ caps)[j]? = some b → ∃ a, caps[j]? = some a ∧ b = a.ren ρ := fun j b hb => by
      rw [AC.rens_eq, List.getElem?_map, Option.map_eq_some_iff] at hb
      obtain ⟨a, ha, rfl⟩ := hb
      exact ⟨a, ha, rfl⟩
    refine .fn c (by rw [AC.rens_eq]; simpa using h1) (fun j b hb => ?_) (fun j b hb => ?_)
    · obtain ⟨a, ha, rfl⟩ := key j b hb
      exact h2 j a ha
    · obtain ⟨a, ha, rfl⟩ := key j b hb
      exact ih j a ha
  | any h => exact .any h
mutual
theorem VRep.ren (hS : ∀ i b, S i = some b → S2 (ρ i) = some (b.ren ρ)) (hι : ∀ i b, S i = some b → ι2 (ρ i) = ι i) : ∀ {v : Value} {c : AV}, VRep σ S ι v c → VRep σ S2 ι2 v (c.ren ρ)
  | v, .one c, h => by cases h with | one h => exact .one (h.ren hS hι)
  | v, .agg cs, h => by
    cases h with
    | agg h =>
      show VRep σ S2 ι2 _ (.agg (AC.rens ρ cs))
      rw [AC.rens_eq]
      exact .agg ((h.mono fun _ _ x => x.ren hS hι).map_right)
  | v, .tup vs, h => by
    cases h with
    | tup c h1 h2 h3 =>
      obtain ⟨k1, k2⟩ := VRep.rens hS hι (c := c) h3
      exact .tup c (by rw [h1, k1]) (fun j b hb => by
        rcases Nat.lt_or_ge j vs.length with hj | hj
        · exact h2 j _ (List.getElem?_eq_getElem hj)
        · rw [List.getElem?_eq_none (by omega)] at hb; cases hb) k2
  | v, .any, h => .any
theorem VRep.rens (hS : ∀ i b, S i = some b → S2 (ρ i) = some (b.ren ρ)) (hι : ∀ i b, S i = some b → ι2 (ρ i) = ι i) : ∀ {vs : List AV} {c : Nat → Value}, (∀ j b, vs[j]? = some b → VRep σ S ι (c j) b) → vs.length = (AV.rens ρ vs).length ∧ ∀ j b, (AV.rens ρ vs)[j]? = some b → VRep σ S2 ι2 (c j) b
  | [], c, h => by simp [AV.rens]
  | x :: xs, c, h => by
    obtain ⟨m1, m2⟩ := VRep.rens hS hι (vs := xs) (c := fun j => c (j + 1)) (fun j b hb => h (j + 1) b (by simpa using hb))
    refine ⟨by simp [AV.rens, ← m1], fun j b hb => ?_⟩
    cases j with
    | zero =>
      simp [AV.rens] at hb
      subst hb
      exact VRep.ren hS hι (h 0 x rfl)
    | succ j => exact m2 j b (by simpa [AV.rens] using hb)
end
theorem BRep.ren (hS : ∀ i b, S i = some b → S2 (ρ i) = some (b.ren ρ)) (hι : ∀ i b, S i = some b → ι2 (ρ i) = ι i) {w : World} {h : Hnd} {b : ABlk} (hr : BRep σ S ι w h b) : BRep σ S2 ι2 w h (b.ren ρ) := by
  cases hr with
  | box h1 h2 h3 h4 h5 =>
    refine .box h1 h2 h3 ?_ h5
    rw [AC.rens_eq]
    exact (h4.mono fun _ _ x => x.ren hS hι).map_right
  | afull h1 h2 h3 h4 => exact .afull h1 h2 h3 h4
  | arow h1 h2 h3 h4 h5 h6 h7 h8 h9 => exact .arow h1 h2 h3 h4 h5 h6 h7 h8 h9
  | mnil h1 h2 => exact .mnil h1 h2
  | mrow h1 h2 h3 h4 h5 h6 h7 h8 h9 => exact .mrow h1 h2 h3 h4 h5 h6 h7 h8 h9
  | map h1 h2 h3 h4 => exact .map h1 h2 h3 h4
  | iter h1 h2 h3 h4 => exact .iter h1 h2 (h3.ren hS hι) h4
  | dead h1 => exact .dead h1
end
mutual
theorem AC.ren_ren (ρ τ : Nat → Nat) (h : ∀ i, τ (ρ i) = i) : ∀ c : AC, (c.ren ρ).ren τ = c
  | .st c => rfl
  | .full xs => rfl
  | .row id n => by simp only [AC.ren, h]
  | .part id k n => by simp only [AC.ren, h]
  | .rest id k n => by simp only [AC.ren, h]
  | .ptr id n k off => by simp only [AC.ren, h]
  | .mptr id => by simp only [AC.ren, h]
  | .ubool => rfl
  | .eptr cs => rfl
  | .fn f caps => by simp only [AC.ren, AC.rens_rens ρ τ h caps]
  | .any => rfl
theorem AC.rens_rens (ρ τ : Nat → Nat) (h : ∀ i, τ (ρ i) = i) : ∀ c : List AC, AC.rens τ (AC.rens ρ c) = c
  | [] => rfl
  | c :: cs => by simp only [AC.rens, AC.ren_ren ρ τ h c, AC.rens_rens ρ τ h cs]
end
theorem ABlk.ren_ren (ρ τ : Nat → Nat) (h : ∀ i, τ (ρ i) = i) (b : ABlk) : (b.ren ρ).ren τ = b := by
  cases b with
  | box e cs => simp only [ABlk.ren, AC.rens_rens ρ τ h]
  | arow => rfl
  | mrow => rfl
  | map => rfl
  | iter x => simp only [ABlk.ren, AC.ren_ren ρ τ h]
  | dead => rfl

/-! ### names from 1000 on are a caller's -/
mutual
def AC.high : AC → Bool
  | .row id _ => decide (1000 ≤ id)
  | .part id _ _ => decide (1000 ≤ id)
  | .rest id _ _ => decide (1000 ≤ id)
  | .ptr id _ _ _ => decide (1000 ≤ id)
  | .mptr id => decide (1000 ≤ id)
  | .ubool => true
  | .fn _ caps => AC.highs caps
  | .st _ => true
  | .full _ => true
  | .eptr _ => true
  | .any => true
def AC.highs : List AC → Bool
  | [] => true
  | c :: cs => c.high && AC.highs cs
end
mutual
def AV.high : AV → Bool
  | .one c => c.high
  | .agg cs => AC.highs cs
  | .tup vs => AV.highs vs
  | .any => true
def AV.highs : List AV → Bool
  | [] => true
  | v :: vs => v.high && AV.highs vs
end
def ABlk.high : ABlk → Bool
  | .box _ cs => AC.highs cs
  | .iter x _ _ => x.high
  | _ => true
def up1 (i : Nat) : Nat := i + 1000
def dn1 (i : Nat) : Nat := i - 1000
def upS (S : AStore) : AStore := fun i => if i < 1000 then none else (S (i - 1000)).map (ABlk.ren up1)
def dnS (S : AStore) : AStore := fun i => (S (i + 1000)).map (ABlk.ren dn1)
def lowS (S : AStore) : AStore := fun i => if i < 1000 then none else S i
def Clean (S : AStore) : Prop := ∀ i b, S i = some b → 1000 ≤ i ∧ b.high = true
theorem up1_le (i : Nat) : 1000 ≤ up1 i := Nat.le_add_left 1000 i
theorem high_row {i n : Nat} (h : 1000 ≤ i) : (AC.row i n).high = true := by rw [AC.high]; exact decide_eq_true h
theorem high_part {i k n : Nat} (h : 1000 ≤ i) : (AC.part i k n).high = true := by rw [AC.high]; exact decide_eq_true h
theorem high_rest {i k n : Nat} (h : 1000 ≤ i) : (AC.rest i k n).high = true := by rw [AC.high]; exact decide_eq_true h
theorem high_mptr {i : Nat} (h : 1000 ≤ i) : (AC.mptr i).high = true := by rw [AC.high]; exact decide_eq_true h
theorem high_ptr {i n k o : Nat} (h : 1000 ≤ i) : (AC.ptr i n k o).high = true := by rw [AC.high]; exact decide_eq_true h
mutual
theorem AC.ren_high : ∀ c : AC, (c.ren up1).high = true
  | .st c => rfl
  | .full xs => rfl
  | .row id n => by rw [AC.ren]; exact high_row (up1_le id)
  | .part id k n => by rw [AC.ren]; exact high_part (up1_le id)
  | .rest id k n => by rw [AC.ren]; exact high_rest (up1_le id)
  | .ptr id n k off => by rw [AC.ren]; exact high_ptr (up1_le id)
  | .mptr id => by rw [AC.ren]; exact high_mptr (up1_le id)
  | .ubool => rfl
  | .eptr cs => rfl
  | .fn f caps => by rw [AC.ren, AC.high]; exact AC.rens_high caps
  | .any => rfl
theorem AC.rens_high : ∀ cs : List AC, AC.highs (AC.rens up1 cs) = true
  | [] => rfl
  | c :: cs => by rw [AC.rens, AC.highs, AC.ren_high c, AC.rens_high cs]; rfl
end
theorem ABlk.ren_high (b : ABlk) : (b.ren up1).high = true := by
  cases b with
  | box e cs => exact AC.rens_high cs
  | arow => rfl
  | mrow => rfl
  | map => rfl
  | iter x => exact AC.ren_high x
  | dead => rfl
theorem upS_some {S : AStore} {i : Nat} {b : ABlk} (h : S i = some b) : upS S (up1 i) = some (b.ren up1) := by
  show (if i + 1000 < 1000 then none else (S (i + 1000 - 1000)).map (ABlk.ren up1)) = _
  rw [if_neg (by omega), Nat.add_sub_cancel, h]
  rfl
theorem clean_upS (S : AStore) : Clean (upS S) := fun i b h => by
  simp only [upS] at h
  split at h
  · cases h
  · rw [Option.map_eq_some_iff] at h
    obtain ⟨b', _, rfl⟩ := h
    exact ⟨by omega, ABlk.ren_high b'⟩
theorem dn_up (i : Nat) : dn1 (up1 i) = i := Nat.add_sub_cancel i 1000
theorem up_dn {i : Nat} (h : 1000 ≤ i) : up1 (dn1 i) = i := Nat.sub_add_cancel h
theorem upS_inv {S : AStore} {i : Nat} {b : ABlk} (h : upS S i = some b) : 1000 ≤ i ∧ ∃ b', S (dn1 i) = some b' ∧ b = b'.ren up1 := by
  simp only [upS] at h
  split at h
  · cases h
  · rw [Option.map_eq_some_iff] at h
    obtain ⟨b', h1, h2⟩ := h
    exact ⟨by omega, b', h1, h2.symm⟩
theorem dnS_some {S : AStore} {i : Nat} {b : ABlk} (hi : 1000 ≤ i) (h : S i = some b) : dnS S (dn1 i) = some (b.ren dn1) := by
  show (S (i - 1000 + 1000)).map (ABlk.ren dn1) = _
  rw [Nat.sub_add_cancel hi, h]
  rfl
theorem dnS_inv {S : AStore} {i : Nat} {b : ABlk} (h : dnS S i = some b) : ∃ b', S (up1 i) = some b' ∧ b = b'.ren dn1 := by
  simp only [dnS, Option.map_eq_some_iff] at h
  obtain ⟨b', h1, h2⟩ := h
  exact ⟨b', h1, h2.symm⟩
theorem dn_upS (S : AStore) : dnS (upS S) = S := by
  funext i
  show ((if i + 1000 < 1000 then none else (S (i + 1000 - 1000)).map (ABlk.ren up1)) : Option ABlk).map (ABlk.ren dn1) = _
  rw [if_neg (by omega), Nat.add_sub_cancel]
  cases S i with
  | none => rfl
  | some b => exact congrArg some (ABlk.ren_ren up1 dn1 (fun i => Nat.add_sub_cancel i 1000) b)
theorem lowS_clean {S : AStore} (h : Clean S) : lowS S = S := by
  funext i
  simp only [lowS]
  split
  · rename_i hi
    cases e : S i with
    | none => rfl
    | some b => have := (h i b e).1; omega
  · rfl
theorem clean_none {S : AStore} (h : Clean S) {i : Nat} (hi : i < 1000) : S i = none := by
  cases e : S i with
  | none => rfl
  | some b => have := (h i b e).1; omega
end Go.Proofs.Ytpajlfdhmjgpnaa
