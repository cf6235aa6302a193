/-
  When an abstract state stands for a frame and a world; how it is kept.
  Conditions: none.
-/
import Derived.Test.YtpajlfdhmjgpnaaAbsB
namespace Go.Proofs.Ytpajlfdhmjgpnaa
open Go Go.RowKit
set_option linter.unusedVariables false

structure Ctx where
  n : Nat
  N : Nat
  G : Nat → Prop
  σ0 : Sto
  w0 : World
  S0 : AStore
  ι0 : AHnd
  clean : Clean S0
  glob : GlobIn σ0
structure Refs (C : Ctx) (σ : Sto) (ι : AHnd) (s : AS) (a : Act) (w : World) : Prop where
  size : C.n ≤ a.tmps.size
  env : ∀ i, i < C.n → VRep σ s.S ι (a.tmps.getD i undef) (s.env i)
  nod : a.defers = []
  fit : Fit σ w
  blk : ∀ id b, s.S id = some b → BRep σ s.S ι w (ι id) b
  inj : ∀ id id' b b' g, s.S id = some b → s.S id' = some b' → (ι id).g = some g → (ι id').g = some g → id = id'
  base : ∀ id b g, s.S id = some b → (ι id).g = some g → C.N ≤ g ∨ C.G g
  ext : ∀ p x, C.σ0 p = some x → σ p = some x
  old : ∀ p : Addr, p.block < C.N → ¬ C.G p.block → σ p = C.σ0 p
  os : w.os = C.w0.os ∧ w.tape = C.w0.tape ∧ w.output = C.w0.output
  grown : C.N ≤ w.heap.size ∧ C.w0.heap.size ≤ w.heap.size
  same : ∀ g, g < C.N → ¬ C.G g → w.heap[g]? = C.w0.heap[g]?
  upd : Upd C.S0 C.ι0 s.S ι

/-- w' is w with new blocks. -/
def More (w w' : World) : Prop := Below w.heap.size w w'
theorem More.drew (w : World) : More w w.drew := (Below.refl _ _).drew
theorem More.alloc (w : World) (o : Obj) : More w (w.alloc o) := (Below.refl _ _).alloc (Nat.le_refl _) o

section
variable {C : Ctx} {σ : Sto} {ι : AHnd} {s : AS} {a : Act} {w : World}
theorem Refs.put (R : Refs C σ ι s a w) {d : Option Nat} {v : Value} {av : AV} (hv : VRep σ s.S ι v av) : Refs C σ ι (s.put d av) (a.put d v) w := by
  cases d with
  | none => exact R
  | some d =>
    refine { R with size := ?_, env := fun i hi => ?_, nod := R.nod }
    · simpa [Act.put] using R.size
    · have hs := R.size
      show VRep σ s.S ι ((a.tmps.setIfInBounds d v).getD i undef) (updE s.env d av i)
      unfold updE
      by_cases h : i = d
      · subst h
        rw [if_pos rfl]
        rw [show (a.tmps.setIfInBounds i v).getD i undef = v by
          simp only [Array.getD_eq_getD_getElem?]
          rw [Array.getElem?_setIfInBounds_self_of_lt (by omega)]
          rfl]
        exact hv
      · rw [if_neg h]
        rw [show (a.tmps.setIfInBounds d v).getD i undef = a.tmps.getD i undef by
          simp only [Array.getD_eq_getD_getElem?]
          rw [Array.getElem?_setIfInBounds_ne (by omega)]]
        exact R.env i hi
/-- Behind a call, a draw, or new memory: more is known to stay. -/
theorem Refs.more (R : Refs C σ ι s a w) {σ' : Sto} {w' : World} (he : Ext w.heap.size σ σ') (hf : Fit σ' w') (hb : More w w') : Refs C σ' ι s a w' := by
  have hlt : ∀ id b g, s.S id = some b → (ι id).g = some g → g < w.heap.size := fun id b g h1 h2 => (R.blk id b h1).gsome h2
  refine ⟨R.size, fun i hi => (R.env i hi).mono he.keep (Upd.refl _ _), R.nod, hf, fun id b h => (R.blk id b h).mono he.keep (Upd.refl _ _) (fun g hg => hb.block g (hlt id b g h hg)) (fun g hg p hp => he.old p (by have := hlt id b g h hg; omega)), R.inj, R.base,
    fun p x h => he.keep _ _ (R.ext p x h), fun p h1 h2 => (he.old p (by have := R.grown.1; omega)).trans (R.old p h1 h2), ⟨hb.os.trans R.os.1, hb.tape.trans R.os.2.1, hb.output.trans R.os.2.2⟩, ⟨Nat.le_trans R.grown.1 hb.size, Nat.le_trans R.grown.2 hb.size⟩, fun g h1 h2 => (hb.block g (by have := R.grown.1; omega)).trans (R.same g h1 h2), R.upd⟩
theorem Refs.world (R : Refs C σ ι s a w) {w' : World} (hb : More w w') : Refs C σ ι s a w' := R.more (Ext.refl _ _) (R.fit.below hb) hb
theorem Refs.drew (R : Refs C σ ι s a w) : Refs C σ ι s a w.drew := R.world (More.drew w)

theorem updE_same {α : Type} (f : Nat → α) (d : Nat) (v : α) : updE f d v d = v := by simp [updE]
theorem updE_ne {α : Type} (f : Nat → α) {d i : Nat} (h : i ≠ d) (v : α) : updE f d v i = f i := by simp [updE, h]

/-- A new block of the call's own at the name id. -/
theorem Refs.fresh (R : Refs C σ ι s a w) {w' : World} {id : Nat} (hid : s.S id = none) (b : ABlk) (h : Hnd) {σ' : Sto} (he : Ext w.heap.size σ σ') (hf : Fit σ' w') (hb : More w w') (hg : ∀ g, h.g = some g → w.heap.size ≤ g)
    (hr : ∀ S' ι', Upd s.S ι S' ι' → BRep σ' S' ι' w' h b) :
    Upd s.S ι (s.set id b).S (updE ι id h) ∧ Refs C σ' (updE ι id h) (s.set id b) a w' := by
  have hu : Upd s.S ι (s.set id b).S (updE ι id h) := fun id' b' hb' => by
    have hne : id' ≠ id := by intro e; subst e; rw [hid] at hb'; cases hb'
    exact ⟨b', by simp [AS.set, updE_ne _ hne, hb'], Nat.le_refl _, fun _ => ⟨rfl, updE_ne _ hne _⟩⟩
  have R' := R.more he hf hb
  have hlt : ∀ id b g, s.S id = some b → (ι id).g = some g → g < w.heap.size := fun id b g h1 h2 => (R.blk id b h1).gsome h2
  have hcase : ∀ id' b', (s.set id b).S id' = some b' → (id' = id ∧ b' = b) ∨ (id' ≠ id ∧ s.S id' = some b') := by
    intro id' b' h'
    by_cases e : id' = id
    · subst e
      simp only [AS.set, updE_same, Option.some.injEq] at h'
      exact .inl ⟨rfl, h'.symm⟩
    · simp only [AS.set, updE_ne _ e] at h'
      exact .inr ⟨e, h'⟩
  refine ⟨hu, ⟨R'.size, fun i hi => (R'.env i hi).mono (fun _ _ h => h) hu, R'.nod, hf, fun id' b' h' => ?_, fun id1 id2 b1 b2 g h1 h2 g1 g2 => ?_, fun id' b' g h' hg' => ?_, R'.ext, R'.old, R'.os, R'.grown, R'.same, R.upd.trans hu⟩⟩
  · rcases hcase id' b' h' with ⟨rfl, rfl⟩ | ⟨hne, h''⟩
    · rw [updE_same]
      exact hr _ _ hu
    · rw [updE_ne _ hne]
      exact (R'.blk id' b' h'').mono (fun _ _ h => h) hu (fun _ _ => rfl) (fun _ _ _ _ => rfl)
  · rcases hcase id1 b1 h1 with ⟨rfl, rfl⟩ | ⟨hne1, k1⟩ <;> rcases hcase id2 b2 h2 with ⟨rfl, rfl⟩ | ⟨hne2, k2⟩
    · rfl
    · rw [updE_same] at g1
      rw [updE_ne _ hne2] at g2
      have := hlt _ _ _ k2 g2
      have := hg _ g1
      omega
    · rw [updE_same] at g2
      rw [updE_ne _ hne1] at g1
      have := hlt _ _ _ k1 g1
      have := hg _ g2
      omega
    · rw [updE_ne _ hne1] at g1
      rw [updE_ne _ hne2] at g2
      exact R.inj _ _ _ _ _ k1 k2 g1 g2
  · rcases hcase id' b' h' with ⟨rfl, rfl⟩ | ⟨hne, h''⟩
    · rw [updE_same] at hg'
      have := hg _ hg'
      exact .inl (by have := R.grown.1; omega)
    · rw [updE_ne _ hne] at hg'
      exact R.base _ _ _ h'' hg'

/-- The block id turns (its own cells alone were written; it may have moved to a new place). -/
theorem Refs.turn (R : Refs C σ ι s a w) {w' : World} {id : Nat} {b : ABlk} (hid : s.S id = some b) (b' : ABlk) (h : Hnd) {σ' : Sto} (hs : ∀ p x, σ p = some x → σ' p = some x)
    (hn : ∀ p : Addr, (ι id).g ≠ some p.block → p.block < w.heap.size → σ' p = σ p) (hf : Fit σ' w') (hlen : b.len ≤ b'.len) (hsame : b'.len = b.len → b'.wid = b.wid ∧ h = ι id)
    (hos : w'.os = w.os ∧ w'.tape = w.tape ∧ w'.output = w.output) (hsz : w.heap.size ≤ w'.heap.size) (hw : ∀ g, g < w.heap.size → (ι id).g ≠ some g → w'.heap[g]? = w.heap[g]?)
    (hg : ∀ g, h.g = some g → (ι id).g = some g ∨ w.heap.size ≤ g) (hr : Upd s.S ι (s.set id b').S (updE ι id h) → BRep σ' (s.set id b').S (updE ι id h) w' h b') :
    Upd s.S ι (s.set id b').S (updE ι id h) ∧ Refs C σ' (updE ι id h) (s.set id b') a w' := by
  have hu : Upd s.S ι (s.set id b').S (updE ι id h) := fun id' c hc => by
    by_cases e : id' = id
    · subst e
      rw [hid] at hc
      cases hc
      exact ⟨b', by simp [AS.set, updE_same], hlen, fun he => ⟨(hsame he).1, by rw [updE_same]; exact (hsame he).2⟩⟩
    · exact ⟨c, by simp [AS.set, updE_ne _ e, hc], Nat.le_refl _, fun _ => ⟨rfl, updE_ne _ e _⟩⟩
  have hlt : ∀ id b g, s.S id = some b → (ι id).g = some g → g < w.heap.size := fun id b g h1 h2 => (R.blk id b h1).gsome h2
  have hcase : ∀ id' c, (s.set id b').S id' = some c → (id' = id ∧ c = b') ∨ (id' ≠ id ∧ s.S id' = some c) := by
    intro id' c h'
    by_cases e : id' = id
    · subst e
      simp only [AS.set, updE_same, Option.some.injEq] at h'
      exact .inl ⟨rfl, h'.symm⟩
    · simp only [AS.set, updE_ne _ e] at h'
      exact .inr ⟨e, h'⟩
  have hold : ∀ g, g < C.N → ¬ C.G g → (ι id).g ≠ some g := fun g h1 h2 e => by
    rcases R.base _ _ _ hid e with h | h
    · omega
    · exact h2 h
  refine ⟨hu, ⟨R.size, fun i hi => (R.env i hi).mono hs hu, R.nod, hf, fun id' c h' => ?_, fun id1 id2 b1 b2 g h1 h2 g1 g2 => ?_, fun id' c g h' hg' => ?_, fun p x hx => hs _ _ (R.ext p x hx), fun p h1 h2 => ?_, ⟨hos.1.trans R.os.1, hos.2.1.trans R.os.2.1, hos.2.2.trans R.os.2.2⟩, ⟨Nat.le_trans R.grown.1 hsz, Nat.le_trans R.grown.2 hsz⟩, fun g h1 h2 => ?_, R.upd.trans hu⟩⟩
  · rcases hcase id' c h' with ⟨rfl, rfl⟩ | ⟨hne, h''⟩
    · rw [updE_same]
      exact hr hu
    · rw [updE_ne _ hne]
      have hother : ∀ g, (ι id').g = some g → (ι id).g ≠ some g := fun g h1 h2 => hne (R.inj _ _ _ _ _ h'' hid h1 h2)
      refine (R.blk id' c h'').mono hs hu (fun g hg' => hw g (hlt _ _ _ h'' hg') (hother g hg')) (fun g hg' p hp => hn p (by rw [hp]; exact hother g hg') (by rw [hp]; exact hlt _ _ _ h'' hg'))
  · rcases hcase id1 b1 h1 with ⟨rfl, rfl⟩ | ⟨hne1, k1⟩ <;> rcases hcase id2 b2 h2 with ⟨rfl, rfl⟩ | ⟨hne2, k2⟩
    · rfl
    · rw [updE_same] at g1
      rw [updE_ne _ hne2] at g2
      rcases hg _ g1 with h | h
      · exact (R.inj _ _ _ _ _ k2 hid g2 h).symm
      · have := hlt _ _ _ k2 g2
        omega
    · rw [updE_same] at g2
      rw [updE_ne _ hne1] at g1
      rcases hg _ g2 with h | h
      · exact R.inj _ _ _ _ _ k1 hid g1 h
      · have := hlt _ _ _ k1 g1
        omega
    · rw [updE_ne _ hne1] at g1
      rw [updE_ne _ hne2] at g2
      exact R.inj _ _ _ _ _ k1 k2 g1 g2
  · rcases hcase id' c h' with ⟨rfl, rfl⟩ | ⟨hne, h''⟩
    · rw [updE_same] at hg'
      rcases hg _ hg' with h | h
      · exact R.base _ _ _ hid h
      · exact .inl (by have := R.grown.1; omega)
    · rw [updE_ne _ hne] at hg'
      exact R.base _ _ _ h'' hg'
  · exact (hn p (hold _ h1 h2) (by have := R.grown.1; omega)).trans (R.old p h1 h2)
  · exact (hw g (by have := R.grown.1; omega) (hold g h1 h2)).trans (R.same g h1 h2)

/-! ### reading -/
theorem Refs.row_srep (R : Refs C σ ι s a w) {v : Value} {id n : Nat} {e : TypeId} {wd : Nat} {xs : List (List SV)} (hv : ARep σ s.S ι v (.row id n)) (hS : s.S id = some (.arow e wd xs)) (hn : n = xs.length) : SRep σ v (.list xs) := by
  cases hv with
  | row h1 h2 h3 h4 =>
    rw [hS] at h1
    cases h1
    rw [h4 hn, hn]
    exact (R.blk _ _ hS).srep
theorem Refs.stC (R : Refs C σ ι s a w) {v : Value} {c : AC} {x : SV} (hv : ARep σ s.S ι v c) (h : stC s.S c = some x) : SRep σ v x := by
  unfold Go.Proofs.Ytpajlfdhmjgpnaa.stC at h
  split at h
  · cases h
    cases hv with | st h => exact h
  · cases h
    cases hv with | full h => exact h
  · split at h
    · rename_i hS
      split at h
      · rename_i hn
        cases h
        exact R.row_srep hv hS hn
      · cases h
    · cases h
  · cases h
    cases hv with
    | fn c h1 h2 h3 =>
      rename_i vs
      have : vs = #[] := Array.eq_empty_of_size_eq_zero (by simpa using h1)
      subst this
      exact .lit rfl
  · cases h
theorem Refs.stCs (R : Refs C σ ι s a w) : ∀ {vs : List Value} {cs : List AC} {xs : List SV}, All2 (ARep σ s.S ι) vs cs → stCs s.S cs = some xs → All2 (SRep σ) vs xs
  | _, _, _, .nil, h => by
    simp only [Go.Proofs.Ytpajlfdhmjgpnaa.stCs, Option.some.injEq] at h
    subst h
    exact .nil
  | _, _, _, .cons h1 h2, h => by
    simp only [Go.Proofs.Ytpajlfdhmjgpnaa.stCs] at h
    split at h
    · rename_i k1 k2
      cases h
      exact .cons (R.stC h1 k1) (R.stCs h2 k2)
    · cases h
theorem upd_noS (S : AStore) (ι : AHnd) : Upd noS noH S ι := fun id b h => by simp [noS] at h
theorem Refs.outC (R : Refs C σ ι s a w) {v : Value} {c c' : AC} (hv : ARep σ s.S ι v c) (h : outC s.S c = some c') : ARep σ noS noH v c' := by
  unfold Go.Proofs.Ytpajlfdhmjgpnaa.outC at h
  split at h
  · cases h
    cases hv with | eptr c h1 h2 => exact .eptr c h1 h2
  · cases h
    cases hv
    exact .ubool
  · cases h
    cases hv with
    | fn c h1 h2 h3 => exact .fn c h1 h2 (by simp)
  · rw [Option.map_eq_some_iff] at h
    obtain ⟨x, h1, rfl⟩ := h
    exact .st (R.stC hv h1)
theorem Refs.outCs (R : Refs C σ ι s a w) : ∀ {vs : List Value} {cs xs : List AC}, All2 (ARep σ s.S ι) vs cs → outCs s.S cs = some xs → All2 (ARep σ noS noH) vs xs
  | _, _, _, .nil, h => by
    simp only [Go.Proofs.Ytpajlfdhmjgpnaa.outCs, Option.some.injEq] at h
    subst h
    exact .nil
  | _, _, _, .cons h1 h2, h => by
    simp only [Go.Proofs.Ytpajlfdhmjgpnaa.outCs] at h
    split at h
    · rename_i k1 k2
      cases h
      exact .cons (R.outC h1 k1) (R.outCs h2 k2)
    · cases h
mutual
theorem Refs.outV (R : Refs C σ ι s a w) : ∀ {v : Value} {c c' : AV}, VRep σ s.S ι v c → outV s.S c = some c' → VRep σ noS noH v c'
  | v, .one c, c', hv, h => by
    simp only [Go.Proofs.Ytpajlfdhmjgpnaa.outV, Option.map_eq_some_iff] at h
    obtain ⟨x, h1, rfl⟩ := h
    cases hv with | one h2 => exact .one (R.outC h2 h1)
  | v, .agg cs, c', hv, h => by
    simp only [Go.Proofs.Ytpajlfdhmjgpnaa.outV, Option.map_eq_some_iff] at h
    obtain ⟨x, h1, rfl⟩ := h
    cases hv with | agg h2 => exact .agg (R.outCs h2 h1)
  | v, .tup cs, c', hv, h => by
    simp only [Go.Proofs.Ytpajlfdhmjgpnaa.outV, Option.map_eq_some_iff] at h
    obtain ⟨x, h1, rfl⟩ := h
    cases hv with
    | tup c h2 h3 h4 =>
      obtain ⟨k1, k2⟩ := Refs.outVs R (c := c) h4 h1
      exact .tup c (by rw [h2, k1]) (fun j b hb => by
        rcases Nat.lt_or_ge j cs.length with hj | hj
        · exact h3 j _ (List.getElem?_eq_getElem hj)
        · rw [List.getElem?_eq_none (by omega)] at hb; cases hb) k2
  | v, .any, c', hv, h => by
    simp only [Go.Proofs.Ytpajlfdhmjgpnaa.outV, Option.some.injEq] at h
    subst h
    exact .any
theorem Refs.outVs (R : Refs C σ ι s a w) : ∀ {cs cs' : List AV} {c : Nat → Value}, (∀ j b, cs[j]? = some b → VRep σ s.S ι (c j) b) → outVs s.S cs = some cs' → cs.length = cs'.length ∧ ∀ j b, cs'[j]? = some b → VRep σ noS noH (c j) b
  | [], cs', c, hv, h => by
    simp only [Go.Proofs.Ytpajlfdhmjgpnaa.outVs, Option.some.injEq] at h
    subst h
    simp
  | x :: xs, cs', c, hv, h => by
    simp only [Go.Proofs.Ytpajlfdhmjgpnaa.outVs] at h
    split at h
    · rename_i k1 k2
      cases h
      have h0 := Refs.outV R (hv 0 x rfl) k1
      obtain ⟨m1, m2⟩ := Refs.outVs R (c := fun j => c (j + 1)) (fun j b hb => hv (j + 1) b (by simpa using hb)) k2
      refine ⟨by simp [m1], fun j b hb => ?_⟩
      cases j with
      | zero => simp at hb; subst hb; exact h0
      | succ j => exact m2 j b (by simpa using hb)
    · cases h
end
end
end Go.Proofs.Ytpajlfdhmjgpnaa
