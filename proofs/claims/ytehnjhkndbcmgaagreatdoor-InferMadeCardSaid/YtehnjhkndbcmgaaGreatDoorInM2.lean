/-
  Part 2 of the texts: AbsC; AbsD; AbsE; AbsF. Conditions: none.
-/
import Derived.Test.YtehnjhkndbcmgaaGreatDoorInM1
import Derived.Great.BuildSlice
namespace Go.Proofs.YtehnjhkndbcmgaaGreatDoor
open Go Go.RowKit
set_option linter.unusedVariables false
structure Ctx where
  n : Nat
  N : Nat
  G : Nat → Prop
  σ0 : Sto
  w0 : World
  S0 : AStore
  ι0 : AHnd
  clean : Clean S0
  glob : GlobIn σ0
  ds : List Deferred
structure Refs (C : Ctx) (σ : Sto) (ι : AHnd) (s : AS) (a : Act) (w : World) : Prop where
  size : C.n ≤ a.tmps.size
  env : ∀ i, i < C.n → VRep σ s.S ι (a.tmps.getD i undef) (s.env i)
  nod : a.defers = C.ds
  fit : Fit σ w
  blk : ∀ id b, s.S id = some b → BRep σ s.S ι w (ι id) b
  inj : ∀ id id' b b' g, s.S id = some b → s.S id' = some b' → (ι id).g = some g → (ι id').g = some g → id = id'
  base : ∀ id b g, s.S id = some b → (ι id).g = some g → C.N ≤ g ∨ C.G g
  ext : ∀ p x, C.σ0 p = some x → σ p = some x
  old : ∀ p : Addr, p.block < C.N → ¬ C.G p.block → σ p = C.σ0 p
  os : w.os = C.w0.os ∧ w.tape = C.w0.tape ∧ w.output = C.w0.output
  grown : C.N ≤ w.heap.size ∧ C.w0.heap.size ≤ w.heap.size
  same : ∀ g, g < C.N → ¬ C.G g → w.heap[g]? = C.w0.heap[g]?
  upd : Upd C.S0 C.ι0 s.S ι
def More (w w' : World) : Prop := Below w.heap.size w w'
theorem More.drew (w : World) : More w w.drew := (Below.refl _ _).drew
theorem More.alloc (w : World) (o : Obj) : More w (w.alloc o) := (Below.refl _ _).alloc (Nat.le_refl _) o
section
variable {C : Ctx} {σ : Sto} {ι : AHnd} {s : AS} {a : Act} {w : World}
theorem Refs.put (R : Refs C σ ι s a w) {d : Option Nat} {v : Value} {av : AV} (hv : VRep σ s.S ι v av) : Refs C σ ι (s.put d av) (a.put d v) w := by
  cases d with
  | none => exact R
  | some d =>
    refine { R with size := ?_, env := fun i hi => ?_, nod := R.nod }
    · simpa [Act.put] using R.size
    · have hs := R.size
      show VRep σ s.S ι ((a.tmps.setIfInBounds d v).getD i undef) (updE s.env d av i)
      unfold updE
      by_cases h : i = d
      · subst h
        rw [if_pos rfl]
        rw [show (a.tmps.setIfInBounds i v).getD i undef = v by
          simp only [Array.getD_eq_getD_getElem?]
          rw [Array.getElem?_setIfInBounds_self_of_lt (by omega)]
          rfl]
        exact hv
      · rw [if_neg h]
        rw [show (a.tmps.setIfInBounds d v).getD i undef = a.tmps.getD i undef by
          simp only [Array.getD_eq_getD_getElem?]
          rw [Array.getElem?_setIfInBounds_ne (by omega)]]
        exact R.env i hi
theorem Refs.more (R : Refs C σ ι s a w) {σ' : Sto} {w' : World} (he : Ext w.heap.size σ σ') (hf : Fit σ' w') (hb : More w w') : Refs C σ' ι s a w' := by
  have hlt : ∀ id b g, s.S id = some b → (ι id).g = some g → g < w.heap.size := fun id b g h1 h2 => (R.blk id b h1).gsome h2
  refine ⟨R.size, fun i hi => (R.env i hi).mono he.keep (Upd.refl _ _), R.nod, hf, fun id b h => (R.blk id b h).mono he.keep (Upd.refl _ _) (fun g hg => hb.block g (hlt id b g h hg)) (fun g hg p hp => he.old p (by have := hlt id b g h hg; omega)), R.inj, R.base,
    fun p x h => he.keep _ _ (R.ext p x h), fun p h1 h2 => (he.old p (by have := R.grown.1; omega)).trans (R.old p h1 h2), ⟨hb.os.trans R.os.1, hb.tape.trans R.os.2.1, hb.output.trans R.os.2.2⟩, ⟨Nat.le_trans R.grown.1 hb.size, Nat.le_trans R.grown.2 hb.size⟩, fun g h1 h2 => (hb.block g (by have := R.grown.1; omega)).trans (R.same g h1 h2), R.upd⟩
theorem Refs.world (R : Refs C σ ι s a w) {w' : World} (hb : More w w') : Refs C σ ι s a w' := R.more (Ext.refl _ _) (R.fit.below hb) hb
theorem Refs.drew (R : Refs C σ ι s a w) : Refs C σ ι s a w.drew := R.world (More.drew w)
theorem updE_same {α : Type} (f : Nat → α) (d : Nat) (v : α) : updE f d v d = v := by simp [updE]
theorem updE_ne {α : Type} (f : Nat → α) {d i : Nat} (h : i ≠ d) (v : α) : updE f d v i = f i := by simp [updE, h]
theorem Refs.fresh (R : Refs C σ ι s a w) {w' : World} {id : Nat} (hid : s.S id = none) (b : ABlk) (h : Hnd) {σ' : Sto} (he : Ext w.heap.size σ σ') (hf : Fit σ' w') (hb : More w w') (hg : ∀ g, h.g = some g → w.heap.size ≤ g)
    (hr : ∀ S' ι', Upd s.S ι S' ι' → BRep σ' S' ι' w' h b) :
    Upd s.S ι (s.set id b).S (updE ι id h) ∧ Refs C σ' (updE ι id h) (s.set id b) a w' := by
  have hu : Upd s.S ι (s.set id b).S (updE ι id h) := fun id' b' hb' => by
    have hne : id' ≠ id := by intro e; subst e; rw [hid] at hb'; cases hb'
    exact ⟨b', by simp [AS.set, updE_ne _ hne, hb'], Nat.le_refl _, fun _ => ⟨rfl, updE_ne _ hne _⟩⟩
  have R' := R.more he hf hb
  have hlt : ∀ id b g, s.S id = some b → (ι id).g = some g → g < w.heap.size := fun id b g h1 h2 => (R.blk id b h1).gsome h2
  have hcase : ∀ id' b', (s.set id b).S id' = some b' → (id' = id ∧ b' = b) ∨ (id' ≠ id ∧ s.S id' = some b') := by
    intro id' b' h'
    by_cases e : id' = id
    · subst e
      simp only [AS.set, updE_same, Option.some.injEq] at h'
      exact .inl ⟨rfl, h'.symm⟩
    · simp only [AS.set, updE_ne _ e] at h'
      exact .inr ⟨e, h'⟩
  refine ⟨hu, ⟨R'.size, fun i hi => (R'.env i hi).mono (fun _ _ h => h) hu, R'.nod, hf, fun id' b' h' => ?_, fun id1 id2 b1 b2 g h1 h2 g1 g2 => ?_, fun id' b' g h' hg' => ?_, R'.ext, R'.old, R'.os, R'.grown, R'.same, R.upd.trans hu⟩⟩
  · rcases hcase id' b' h' with ⟨rfl, rfl⟩ | ⟨hne, h''⟩
    · rw [updE_same]
      exact hr _ _ hu
    · rw [updE_ne _ hne]
      exact (R'.blk id' b' h'').mono (fun _ _ h => h) hu (fun _ _ => rfl) (fun _ _ _ _ => rfl)
  · rcases hcase id1 b1 h1 with ⟨rfl, rfl⟩ | ⟨hne1, k1⟩ <;> rcases hcase id2 b2 h2 with ⟨rfl, rfl⟩ | ⟨hne2, k2⟩
    · rfl
    · rw [updE_same] at g1
      rw [updE_ne _ hne2] at g2
      have := hlt _ _ _ k2 g2
      have := hg _ g1
      omega
    · rw [updE_same] at g2
      rw [updE_ne _ hne1] at g1
      have := hlt _ _ _ k1 g1
      have := hg _ g2
      omega
    · rw [updE_ne _ hne1] at g1
      rw [updE_ne _ hne2] at g2
      exact R.inj _ _ _ _ _ k1 k2 g1 g2
  · rcases hcase id' b' h' with ⟨rfl, rfl⟩ | ⟨hne, h''⟩
    · rw [updE_same] at hg'
      have := hg _ hg'
      exact .inl (by have := R.grown.1; omega)
    · rw [updE_ne _ hne] at hg'
      exact R.base _ _ _ h'' hg'
theorem Refs.turn (R : Refs C σ ι s a w) {w' : World} {id : Nat} {b : ABlk} (hid : s.S id = some b) (b' : ABlk) (h : Hnd) {σ' : Sto} (hs : ∀ p x, σ p = some x → σ' p = some x)
    (hn : ∀ p : Addr, (ι id).g ≠ some p.block → p.block < w.heap.size → σ' p = σ p) (hf : Fit σ' w') (hlen : b.len ≤ b'.len) (hsame : b'.len = b.len → b'.wid = b.wid ∧ h = ι id)
    (hos : w'.os = w.os ∧ w'.tape = w.tape ∧ w'.output = w.output) (hsz : w.heap.size ≤ w'.heap.size) (hw : ∀ g, g < w.heap.size → (ι id).g ≠ some g → w'.heap[g]? = w.heap[g]?)
    (hg : ∀ g, h.g = some g → (ι id).g = some g ∨ w.heap.size ≤ g) (hr : Upd s.S ι (s.set id b').S (updE ι id h) → BRep σ' (s.set id b').S (updE ι id h) w' h b') :
    Upd s.S ι (s.set id b').S (updE ι id h) ∧ Refs C σ' (updE ι id h) (s.set id b') a w' := by
  have hu : Upd s.S ι (s.set id b').S (updE ι id h) := fun id' c hc => by
    by_cases e : id' = id
    · subst e
      rw [hid] at hc
      cases hc
      exact ⟨b', by simp [AS.set, updE_same], hlen, fun he => ⟨(hsame he).1, by rw [updE_same]; exact (hsame he).2⟩⟩
    · exact ⟨c, by simp [AS.set, updE_ne _ e, hc], Nat.le_refl _, fun _ => ⟨rfl, updE_ne _ e _⟩⟩
  have hlt : ∀ id b g, s.S id = some b → (ι id).g = some g → g < w.heap.size := fun id b g h1 h2 => (R.blk id b h1).gsome h2
  have hcase : ∀ id' c, (s.set id b').S id' = some c → (id' = id ∧ c = b') ∨ (id' ≠ id ∧ s.S id' = some c) := by
    intro id' c h'
    by_cases e : id' = id
    · subst e
      simp only [AS.set, updE_same, Option.some.injEq] at h'
      exact .inl ⟨rfl, h'.symm⟩
    · simp only [AS.set, updE_ne _ e] at h'
      exact .inr ⟨e, h'⟩
  have hold : ∀ g, g < C.N → ¬ C.G g → (ι id).g ≠ some g := fun g h1 h2 e => by
    rcases R.base _ _ _ hid e with h | h
    · omega
    · exact h2 h
  refine ⟨hu, ⟨R.size, fun i hi => (R.env i hi).mono hs hu, R.nod, hf, fun id' c h' => ?_, fun id1 id2 b1 b2 g h1 h2 g1 g2 => ?_, fun id' c g h' hg' => ?_, fun p x hx => hs _ _ (R.ext p x hx), fun p h1 h2 => ?_, ⟨hos.1.trans R.os.1, hos.2.1.trans R.os.2.1, hos.2.2.trans R.os.2.2⟩, ⟨Nat.le_trans R.grown.1 hsz, Nat.le_trans R.grown.2 hsz⟩, fun g h1 h2 => ?_, R.upd.trans hu⟩⟩
  · rcases hcase id' c h' with ⟨rfl, rfl⟩ | ⟨hne, h''⟩
    · rw [updE_same]
      exact hr hu
    · rw [updE_ne _ hne]
      have hother : ∀ g, (ι id').g = some g → (ι id).g ≠ some g := fun g h1 h2 => hne (R.inj _ _ _ _ _ h'' hid h1 h2)
      refine (R.blk id' c h'').mono hs hu (fun g hg' => hw g (hlt _ _ _ h'' hg') (hother g hg')) (fun g hg' p hp => hn p (by rw [hp]; exact hother g hg') (by rw [hp]; exact hlt _ _ _ h'' hg'))
  · rcases hcase id1 b1 h1 with ⟨rfl, rfl⟩ | ⟨hne1, k1⟩ <;> rcases hcase id2 b2 h2 with ⟨rfl, rfl⟩ | ⟨hne2, k2⟩
    · rfl
    · rw [updE_same] at g1
      rw [updE_ne _ hne2] at g2
      rcases hg _ g1 with h | h
      · exact (R.inj _ _ _ _ _ k2 hid g2 h).symm
      · have := hlt _ _ _ k2 g2
        omega
    · rw [updE_same] at g2
      rw [updE_ne _ hne1] at g1
      rcases hg _ g2 with h | h
      · exact R.inj _ _ _ _ _ k1 hid g1 h
      · have := hlt _ _ _ k1 g1
        omega
    · rw [updE_ne _ hne1] at g1
      rw [updE_ne _ hne2] at g2
      exact R.inj _ _ _ _ _ k1 k2 g1 g2
  · rcases hcase id' c h' with ⟨rfl, rfl⟩ | ⟨hne, h''⟩
    · rw [updE_same] at hg'
      rcases hg _ hg' with h | h
      · exact R.base _ _ _ hid h
      · exact .inl (by have := R.grown.1; omega)
    · rw [updE_ne _ hne] at hg'
      exact R.base _ _ _ h'' hg'
  · exact (hn p (hold _ h1 h2) (by have := R.grown.1; omega)).trans (R.old p h1 h2)
  · exact (hw g (by have := R.grown.1; omega) (hold g h1 h2)).trans (R.same g h1 h2)
theorem Refs.row_srep (R : Refs C σ ι s a w) {v : Value} {id n : Nat} {e : TypeId} {wd : Nat} {xs : List (List SV)} (hv : ARep σ s.S ι v (.row id n)) (hS : s.S id = some (.arow e wd xs)) (hn : n = xs.length) : SRep σ v (.list xs) := by
  cases hv with
  | row h1 h2 h3 h4 =>
    rw [hS] at h1
    cases h1
    rw [h4 hn, hn]
    exact (R.blk _ _ hS).srep
theorem Refs.stC (R : Refs C σ ι s a w) {v : Value} {c : AC} {x : SV} (hv : ARep σ s.S ι v c) (h : stC s.S c = some x) : SRep σ v x := by
  unfold Go.Proofs.YtehnjhkndbcmgaaGreatDoor.stC at h
  split at h
  · cases h
    cases hv with | st h => exact h
  · cases h
    cases hv with | full h => exact h
  · split at h
    · rename_i hS
      split at h
      · rename_i hn
        cases h
        exact R.row_srep hv hS hn
      · cases h
    · cases h
  · cases h
    cases hv with
    | fn c h1 h2 h3 =>
      rename_i vs
      have : vs = #[] := Array.eq_empty_of_size_eq_zero (by simpa using h1)
      subst this
      exact .lit rfl
  · cases h
theorem Refs.stCs (R : Refs C σ ι s a w) : ∀ {vs : List Value} {cs : List AC} {xs : List SV}, All2 (ARep σ s.S ι) vs cs → stCs s.S cs = some xs → All2 (SRep σ) vs xs
  | _, _, _, .nil, h => by
    simp only [Go.Proofs.YtehnjhkndbcmgaaGreatDoor.stCs, Option.some.injEq] at h
    subst h
    exact .nil
  | _, _, _, .cons h1 h2, h => by
    simp only [Go.Proofs.YtehnjhkndbcmgaaGreatDoor.stCs] at h
    split at h
    · rename_i k1 k2
      cases h
      exact .cons (R.stC h1 k1) (R.stCs h2 k2)
    · cases h
theorem upd_noS (S : AStore) (ι : AHnd) : Upd noS noH S ι := fun id b h => by simp [noS] at h
theorem Refs.outC (R : Refs C σ ι s a w) {v : Value} {c c' : AC} (hv : ARep σ s.S ι v c) (h : outC s.S c = some c') : ARep σ noS noH v c' := by
  unfold Go.Proofs.YtehnjhkndbcmgaaGreatDoor.outC at h
  split at h
  · cases h
    cases hv with | eptr c h1 h2 hh => exact .eptr c h1 h2 hh
  · cases h
    cases hv
    exact .ubool
  · cases h
    cases hv with
    | fn c h1 h2 h3 => exact .fn c h1 h2 (by simp)
  · rw [Option.map_eq_some_iff] at h
    obtain ⟨x, h1, rfl⟩ := h
    exact .st (R.stC hv h1)
theorem Refs.outCs (R : Refs C σ ι s a w) : ∀ {vs : List Value} {cs xs : List AC}, All2 (ARep σ s.S ι) vs cs → outCs s.S cs = some xs → All2 (ARep σ noS noH) vs xs
  | _, _, _, .nil, h => by
    simp only [Go.Proofs.YtehnjhkndbcmgaaGreatDoor.outCs, Option.some.injEq] at h
    subst h
    exact .nil
  | _, _, _, .cons h1 h2, h => by
    simp only [Go.Proofs.YtehnjhkndbcmgaaGreatDoor.outCs] at h
    split at h
    · rename_i k1 k2
      cases h
      exact .cons (R.outC h1 k1) (R.outCs h2 k2)
    · cases h
mutual
theorem Refs.outV (R : Refs C σ ι s a w) : ∀ {v : Value} {c c' : AV}, VRep σ s.S ι v c → outV s.S c = some c' → VRep σ noS noH v c'
  | v, .one c, c', hv, h => by
    simp only [Go.Proofs.YtehnjhkndbcmgaaGreatDoor.outV, Option.map_eq_some_iff] at h
    obtain ⟨x, h1, rfl⟩ := h
    cases hv with | one h2 => exact .one (R.outC h2 h1)
  | v, .agg cs, c', hv, h => by
    simp only [Go.Proofs.YtehnjhkndbcmgaaGreatDoor.outV, Option.map_eq_some_iff] at h
    obtain ⟨x, h1, rfl⟩ := h
    cases hv with | agg h2 => exact .agg (R.outCs h2 h1)
  | v, .tup cs, c', hv, h => by
    simp only [Go.Proofs.YtehnjhkndbcmgaaGreatDoor.outV, Option.map_eq_some_iff] at h
    obtain ⟨x, h1, rfl⟩ := h
    cases hv with
    | tup c h2 h3 h4 =>
      obtain ⟨k1, k2⟩ := Refs.outVs R (c := c) h4 h1
      exact .tup c (by rw [h2, k1]) (fun j b hb => by
        rcases Nat.lt_or_ge j cs.length with hj | hj
        · exact h3 j _ (List.getElem?_eq_getElem hj)
        · rw [List.getElem?_eq_none (by omega)] at hb; cases hb) k2
  | v, .any, c', hv, h => by
    simp only [Go.Proofs.YtehnjhkndbcmgaaGreatDoor.outV, Option.some.injEq] at h
    subst h
    exact .any
theorem Refs.outVs (R : Refs C σ ι s a w) : ∀ {cs cs' : List AV} {c : Nat → Value}, (∀ j b, cs[j]? = some b → VRep σ s.S ι (c j) b) → outVs s.S cs = some cs' → cs.length = cs'.length ∧ ∀ j b, cs'[j]? = some b → VRep σ noS noH (c j) b
  | [], cs', c, hv, h => by
    simp only [Go.Proofs.YtehnjhkndbcmgaaGreatDoor.outVs, Option.some.injEq] at h
    subst h
    simp
  | x :: xs, cs', c, hv, h => by
    simp only [Go.Proofs.YtehnjhkndbcmgaaGreatDoor.outVs] at h
    split at h
    · rename_i k1 k2
      cases h
      have h0 := Refs.outV R (hv 0 x rfl) k1
      obtain ⟨m1, m2⟩ := Refs.outVs R (c := fun j => c (j + 1)) (fun j b hb => hv (j + 1) b (by simpa using hb)) k2
      refine ⟨by simp [m1], fun j b hb => ?_⟩
      cases j with
      | zero => simp at hb; subst hb; exact h0
      | succ j => exact m2 j b (by simpa using hb)
    · cases h
end
end
end Go.Proofs.YtehnjhkndbcmgaaGreatDoor

namespace Go.Proofs.YtehnjhkndbcmgaaGreatDoor
open Go Go.RowKit
set_option linter.unusedVariables false
set_option maxHeartbeats 400000
theorem inR_wrap {k : IntKind} {n : Int} (h : inR k n) : k.wrap n = n := by
  cases k <;> simp [inR, IntKind.min, IntKind.max, IntKind.wrap, IntKind.signed, IntKind.bits] at h ⊢ <;> omega
instance (k : IntKind) (n : Int) : Decidable (inR k n) := by unfold inR; exact inferInstance
def Good (P : Program) (C : Ctx) (o : Oper) (a : Act) (w : World) (K : AV → AS → Prop) : Prop :=
  ∃ v av s' σ' ι' w', ((execOp a.eval o).run P w = .ok (.value v) w' ∨ (v = undef ∧ (execOp a.eval o).run P w = .ok .skip w')) ∧ K av s' ∧ Refs C σ' ι' s' a w' ∧ VRep σ' s'.S ι' v av
section
variable {P : Program} {C : Ctx} {o : Oper} {a : Act} {w : World} {K : AV → AS → Prop} {σ : Sto} {ι : AHnd} {s : AS} {d : Nat} {S : AStore}
theorem good_val (R : Refs C σ ι s a w) (v : Value) (av : AV) (hr : (execOp a.eval o).run P w = .ok (.value v) w) (hK : K av s) (hv : VRep σ s.S ι v av) : Good P C o a w K :=
  ⟨v, av, s, σ, ι, w, .inl hr, hK, R, hv⟩
theorem Good.wp (h : Good P C o a w K) {Q : Exit → Act → World → Prop} {next : Act → World → Prop} (hn : ∀ av s' σ' ι' a' w', K av s' → Refs C σ' ι' (s'.put o.dst av) a' w' → next a' w') : o.wp P a w next Q := by
  obtain ⟨v, av, s', σ', ι', w', hr, hK, R, hv⟩ := h
  unfold Oper.wp
  rcases hr with hr | ⟨rfl, hr⟩
  · rw [hr]
    exact hn _ _ _ _ _ _ hK (R.put hv)
  · rw [hr]
    exact hn _ _ _ _ _ _ hK (R.put hv)
end
def ofCell : Value → Option AC
  | .int k n => if inR k n then some (.st (.int k n)) else none
  | .string b => if b.size ≤ maxLen then some (.st (.str b)) else none
  | .bool b => some (.st (.bool b))
  | .slice none 0 0 => some (.full [])
  | .func (.func f) x y => if x.size = 0 ∧ y.size = 0 then some (.fn f []) else none
  | v => if v.oneCell' then some (.st (.lit v)) else none
def ofCells : List Value → Option (List AC)
  | [] => some []
  | v :: vs => match ofCell v, ofCells vs with
    | some c, some cs => some (c :: cs)
    | _, _ => none
def ofVal (v : Value) : Option AV := match v with
  | .agg cs => (ofCells cs.toList).map .agg
  | .tuple cs => if cs.size = 0 then some (.tup []) else none
  | v => (ofCell v).map .one
def trOpd (n : Nat) : Operand → Option Opd
  | .tmp t => if t < n then some (.t t) else none
  | .const v => (ofVal v).map .c
  | .func f => some (.c (.one (.fn f [])))
  | .global g => some (.c (.one (match globOf g with | some cs => .eptr cs | none => .st (.lit (.pointer (some ⟨g, 0, none⟩))))))
def trOpds (n : Nat) : List Operand → Option (List Opd)
  | [] => some []
  | x :: xs => match trOpd n x, trOpds n xs with
    | some c, some cs => some (c :: cs)
    | _, _ => none
section
variable {σ : Sto} {S : AStore} {ι : AHnd}
theorem srep_nil : SRep σ (.slice none 0 0) (.list []) := .list (b := 0) (o := 0) (w := 0) (fun _ _ => undef) rfl (Nat.le_refl _) (by simp [maxLen]) (fun _ => rfl) (by simp) (by simp) (fun _ h _ => absurd h (by omega)) (by simp) (by simp)
theorem ofCell_rep {v : Value} {c : AC} (h : ofCell v = some c) : ARep σ S ι v c := by
  unfold ofCell at h
  split at h
  · split at h
    · cases h; exact .st (.int ‹_›)
    · cases h
  · split at h
    · cases h; exact .st (.str ‹_›)
    · cases h
  · cases h; exact .st .bool
  · cases h; exact .full srep_nil
  · split at h
    · rename_i x y hxy
      cases h
      have e1 : x = #[] := Array.eq_empty_of_size_eq_zero hxy.1
      have e2 : y = #[] := Array.eq_empty_of_size_eq_zero hxy.2
      subst e1 e2
      exact .fn (fun _ => undef) rfl (by simp) (by simp)
    · cases h
  · split at h
    · cases h; exact .st (.lit ‹_›)
    · cases h
theorem ofCells_rep : ∀ {vs : List Value} {cs : List AC}, ofCells vs = some cs → All2 (ARep σ S ι) vs cs
  | [], cs, h => by simp only [ofCells, Option.some.injEq] at h; subst h; exact .nil
  | v :: vs, cs, h => by
    simp only [ofCells] at h
    split at h
    · rename_i k1 k2
      cases h
      exact .cons (ofCell_rep k1) (ofCells_rep k2)
    · cases h
theorem ofVal_rep {v : Value} {c : AV} (h : ofVal v = some c) : VRep σ S ι v c := by
  unfold ofVal at h
  split at h
  · rw [Option.map_eq_some_iff] at h
    obtain ⟨x, h1, rfl⟩ := h
    exact .agg (ofCells_rep h1)
  · split at h
    · rename_i cs hcs
      cases h
      have e1 : cs = #[] := Array.eq_empty_of_size_eq_zero hcs
      subst e1
      exact .tup (fun _ => undef) rfl (by simp) (by simp)
    · cases h
  · rw [Option.map_eq_some_iff] at h
    obtain ⟨x, h1, rfl⟩ := h
    exact .one (ofCell_rep h1)
end
section
variable {P : Program} {C : Ctx} {o : Oper} {a : Act} {w : World} {K : AV → AS → Prop} {σ : Sto} {ι : AHnd} {s : AS} {d : Nat} {S : AStore}
theorem Refs.ev (R : Refs C σ ι s a w) {x : Operand} {x' : Opd} (h : trOpd C.n x = some x') : VRep σ s.S ι (a.eval x) (s.ev x') := by
  unfold trOpd at h
  split at h
  · split at h
    · cases h; exact R.env _ ‹_›
    · cases h
  · rw [Option.map_eq_some_iff] at h
    obtain ⟨c, h1, rfl⟩ := h
    exact ofVal_rep h1
  · cases h
    exact .one (.fn (fun _ => undef) rfl (by simp) (by simp))
  · rename_i g
    cases h
    refine .one ?_
    show ARep σ s.S ι (.pointer (some ⟨g, 0, none⟩)) (match globOf g with | some cs => .eptr cs | none => .st (.lit (.pointer (some ⟨g, 0, none⟩))))
    split
    · rename_i cs hcs
      exact (C.glob.mono R.ext).of hcs
    · exact .st (.lit rfl)
theorem Refs.evs (R : Refs C σ ι s a w) : ∀ {xs : List Operand} {xs' : List Opd}, trOpds C.n xs = some xs' → All2 (VRep σ s.S ι) (xs.map a.eval) (s.evs xs')
  | [], xs', h => by simp only [trOpds, Option.some.injEq] at h; subst h; exact .nil
  | x :: xs, xs', h => by
    simp only [trOpds] at h
    split at h
    · rename_i k1 k2
      cases h
      exact .cons (R.ev k1) (R.evs k2)
    · cases h
theorem vrep_one {v : Value} {c : AC} (h : VRep σ S ι v (.one c)) : ARep σ S ι v c := by cases h; assumption
theorem arep_eptr {v : Value} {cs : List SV} (h : ARep σ S ι v (.eptr cs)) : ∃ b oo, v = .pointer (some ⟨b, oo, none⟩) ∧ ∃ c : Nat → Value, (∀ j x, cs[j]? = some x → σ ⟨b, oo + j, none⟩ = some (c j)) ∧ (∀ j x, cs[j]? = some x → SRep σ (c j) x) := by
  cases h with | eptr c h1 h2 => exact ⟨_, _, rfl, c, h1, h2⟩
theorem arep_eptrH {v : Value} {cs : List SV} (h : ARep σ S ι v (.eptr cs)) : ∃ b oo, v = .pointer (some ⟨b, oo, none⟩) ∧ ∃ c : Nat → Value, (∀ j x, cs[j]? = some x → σ ⟨b, oo + j, none⟩ = some (c j)) ∧ (∀ j x, cs[j]? = some x → SRep σ (c j) x) ∧ (hardRows = true → 2 ≤ cs.length → σ ⟨b, 0, some 1⟩ = some .nilFunc) := by
  cases h with | eptr c h1 h2 hh => exact ⟨_, _, rfl, c, h1, h2, hh⟩
theorem arep_ptr {v : Value} {id m k off : Nat} (h : ARep σ S ι v (.ptr id m k off)) : ∃ b, S id = some b ∧ m ≤ b.len ∧ (m = b.len → ∃ g, (ι id).g = some g ∧ v = .pointer (some ⟨g, k * b.wid + off, none⟩)) := by
  cases h with | ptr h1 h2 h3 h4 => exact ⟨_, h1, h2, h4⟩
theorem arep_row {v : Value} {id m : Nat} (h : ARep σ S ι v (.row id m)) : ∃ b, S id = some b ∧ m ≤ b.len ∧ (m = b.len → v = .slice (ι id).p m (ι id).cap) := by
  cases h with | row h1 h2 h3 h4 => exact ⟨_, h1, h2, h4⟩
theorem arep_part {v : Value} {id k m : Nat} (h : ARep σ S ι v (.part id k m)) : ∃ b, S id = some b ∧ m ≤ b.len ∧ (m = b.len → k ≤ m ∧ v = .slice (ι id).p k (ι id).cap) := by
  cases h with | part h1 h2 h3 h4 => exact ⟨_, h1, h2, h4⟩
theorem arep_rest {v : Value} {id o m : Nat} (h : ARep σ S ι v (.rest id o m)) : ∃ b, S id = some b ∧ m ≤ b.len ∧ (m = b.len → o ≤ m ∧ v = .slice (if (ι id).cap = o then (ι id).p else (ι id).p.map (·.add (o * b.wid))) (m - o) ((ι id).cap - o)) := by
  cases h with | rest h1 h2 h3 h4 => exact ⟨_, h1, h2, h4⟩
theorem arep_st {v : Value} {c : SV} (h : ARep σ S ι v (.st c)) : SRep σ v c := by cases h; assumption
def isAggD : TypeDesc → Bool
  | .struct _ | .array _ _ => true
  | _ => false
theorem addr_add (b o j : Nat) : (⟨b, o, none⟩ : Addr).add j = ⟨b, o + j, none⟩ := by unfold Addr.add; split <;> simp_all
theorem run_loadCellsL {b o : Nat} {cs : List Value} (h : ∀ j v, cs[j]? = some v → w.cell? ⟨b, o + j, none⟩ = some v) : (loadCells ⟨b, o, none⟩ cs.length).run P w = .ok cs.toArray w :=
  run_loadCells_list w ⟨b, o, none⟩ cs fun j v hj => by rw [addr_add]; exact h j v hj
theorem run_loadAt {t : TypeId} {d : TypeDesc} {i : TypeInfo} (hd : P.underlying t = some d) (hi : P.info? t = some i) {b o : Nat} {cs : List Value} (h : ∀ j v, cs[j]? = some v → w.cell? ⟨b, o + j, none⟩ = some v)
    (g : Bool) (hg : g = isAggD d) (hn : cs.length = if g then i.size else 1) :
    ∃ v, (Instr.loadAt t (.pointer (some ⟨b, o, none⟩))).run P w = .ok v w ∧ (if g then v = .agg cs.toArray else cs = [v]) := by
  cases g with
  | true =>
    refine ⟨.agg cs.toArray, ?_, rfl⟩
    have hl := run_loadCellsL (P := P) h
    simp only [if_true] at hn
    rw [hn] at hl
    have ha : (isAgg t).run P w = .ok true w := by
      simp only [isAgg, Sem.run_bind, run_underlying hd, Result.andThen_ok]
      cases d <;> first | rfl | simp [isAggD] at hg
    simp [Instr.loadAt, Instr.sureAddr, loadVar, ha, sizeOf, typeInfo, hi, hl]
  | false =>
    simp only [Bool.false_eq_true, if_false] at hn ⊢
    obtain ⟨v, rfl⟩ : ∃ v, cs = [v] := by
      match cs, hn with
      | [v], _ => exact ⟨v, rfl⟩
    refine ⟨v, ?_, rfl⟩
    have ha : (isAgg t).run P w = .ok false w := by
      simp only [isAgg, Sem.run_bind, run_underlying hd, Result.andThen_ok]
      cases d <;> first | rfl | simp [isAggD] at hg
    have h0 := h 0 v rfl
    simp only [Nat.add_zero] at h0
    simp [Instr.loadAt, Instr.sureAddr, loadVar, ha, load, Sem.run, h0]
theorem vrep_pack {g : Bool} {v : Value} {cs : List Value} {xs : List AC} (h : All2 (ARep σ s.S ι) cs xs) (hv : if g then v = .agg cs.toArray else cs = [v]) : VRep σ s.S ι v (pack g xs) := by
  cases g with
  | true =>
    simp only [if_true] at hv
    subst hv
    exact .agg (by simpa using h)
  | false =>
    simp only [Bool.false_eq_true, if_false] at hv
    subst hv
    cases h with
    | cons h1 h2 => cases h2; exact .one h1
theorem eptr_cells (hf : Fit σ w) {b o : Nat} {cs : List SV} {c : Nat → Value} (h1 : ∀ j x, cs[j]? = some x → σ ⟨b, o + j, none⟩ = some (c j)) (h2 : ∀ j x, cs[j]? = some x → SRep σ (c j) x) (n : Nat) (hn : n ≤ cs.length) :
    ∃ vs : List Value, vs.length = n ∧ (∀ j v, vs[j]? = some v → w.cell? ⟨b, o + j, none⟩ = some v) ∧ All2 (ARep σ S ι) vs ((cs.take n).map .st) := by
  refine ⟨(List.range n).map c, by simp, fun j v hj => ?_, ?_⟩
  · rw [List.getElem?_map] at hj
    by_cases hlt : j < n
    · rw [List.getElem?_range hlt] at hj
      simp only [Option.map_some, Option.some.injEq] at hj
      subst hj
      exact hf _ _ (h1 j _ (List.getElem?_eq_getElem (by omega)))
    · rw [List.getElem?_eq_none (by simp; omega)] at hj
      simp at hj
  · refine All2.of_get (by simp; omega) fun j v x hv hx => ?_
    have hlt : j < n := by
      rcases Nat.lt_or_ge j n with h | h
      · exact h
      · rw [List.getElem?_eq_none (by simp; omega)] at hv; cases hv
    rw [List.getElem?_map, List.getElem?_range hlt] at hv
    simp only [Option.map_some, Option.some.injEq] at hv
    subst hv
    rw [List.getElem?_map, List.getElem?_take, if_pos hlt, List.getElem?_eq_getElem (by omega)] at hx
    simp only [Option.map_some, Option.some.injEq] at hx
    subst hx
    exact .st (h2 j _ (List.getElem?_eq_getElem (by omega)))
theorem Refs.ptr_cells (R : Refs C σ ι s a w) {v : Value} {id m k off : Nat} (hv : ARep σ s.S ι v (.ptr id m k off)) {cs : List AC} (h : blkCells s.S id m k = some cs) :
    ∃ b o, v = .pointer (some ⟨b, o + off, none⟩) ∧ ∃ vs : List Value, (∀ j v, vs[j]? = some v → w.cell? ⟨b, o + j, none⟩ = some v) ∧ All2 (ARep σ s.S ι) vs cs := by
  cases hv with
  | ptr h1 h2 h3 h4 =>
  unfold blkCells at h
  rw [h1] at h
  have hb := R.blk _ _ h1
  split at h
  · rename_i heq
    cases heq
    split at h
    · rename_i hk
      cases h
      obtain ⟨g, g1, rfl⟩ := h4 hk.2
      cases hb with
      | box k1 k2 k3 k4 k5 =>
        rename_i vs
        rw [k1] at g1
        cases g1
        refine ⟨g, 0, by simp [ABlk.wid], vs.toList, fun j v hj => ?_, k4⟩
        rw [Nat.zero_add, cell_of_row w g j _ _ _ k3]
        simpa using hj
    · cases h
  · rename_i heq
    cases heq
    split at h
    · rename_i hk
      rw [Option.map_eq_some_iff] at h
      obtain ⟨x, hx, rfl⟩ := h
      obtain ⟨g, g1, rfl⟩ := h4 hk
      cases hb with
      | mnil k1 => simp at hx
      | mrow k1 k2 k3 k4 k5 k6 k7 k8 k9 =>
        rename_i wd xs g' vs
        rw [k1] at g1
        cases g1
        have hxm := k7 x (List.mem_of_getElem? hx)
        have key : ∀ j c, x[j]? = some c → vs[k * wd + j]? = some ((vs[k * wd + j]?).getD undef) ∧ SRep σ ((vs[k * wd + j]?).getD undef) c := fun j c hc => by
          obtain ⟨v, v1, v2⟩ := k8 k x j c hx hc
          rw [v1]
          exact ⟨rfl, v2⟩
        refine ⟨g, k * wd, rfl, (List.range x.length).map (fun j => (vs[k * wd + j]?).getD undef), fun j v hj => ?_, ?_⟩
        · rw [List.getElem?_map] at hj
          by_cases hlt : j < x.length
          · rw [List.getElem?_range hlt] at hj
            simp only [Option.map_some, Option.some.injEq] at hj
            subst hj
            rw [cell_of_row w g _ _ _ _ k3]
            exact (key j _ (List.getElem?_eq_getElem hlt)).1
          · rw [List.getElem?_eq_none (by simp; omega)] at hj
            simp at hj
        · refine All2.of_get (by simp) fun j v c hv hc => ?_
          rw [List.getElem?_map, Option.map_eq_some_iff] at hc
          obtain ⟨c', hc', rfl⟩ := hc
          have hlt : j < x.length := (List.getElem?_eq_some_iff.1 hc').1
          rw [List.getElem?_map, List.getElem?_range hlt] at hv
          simp only [Option.map_some, Option.some.injEq] at hv
          subst hv
          exact .st (key j _ hc').2
    · cases h
  · cases h
theorem snd_mov {x : Operand} {x' : Opd} (ho : o.op = .move x ∨ o.op = .assign x) (hx : trOpd C.n x = some x') (R : Refs C σ ι s a w) (h : Kd.go P d s K (.mov x')) : Good P C o a w K :=
  good_val R _ _ (by rcases ho with ho | ho <;> simp [execOp, ho]) h (R.ev hx)
theorem vrep_bool {v : Value} {b : Bool} (h : VRep σ S ι v (.one (.st (.bool b)))) : v = .bool b := by
  cases h with | one h => cases h with | st h => cases h; rfl
theorem vrep_ubool {v : Value} (h : VRep σ S ι v (.one .ubool)) : ∃ b, v = .bool b := by
  cases h with
  | one h =>
    cases h
    exact ⟨_, rfl⟩
theorem vrep_int {v : Value} {k : IntKind} {n : Int} (h : VRep σ S ι v (.one (.st (.int k n)))) : v = .int k n ∧ inR k n := by
  cases h with | one h => cases h with | st h => cases h with | int h => exact ⟨rfl, h⟩
theorem vrep_str {v : Value} {b : ByteArray} (h : VRep σ S ι v (.one (.st (.str b)))) : v = .string b ∧ b.size ≤ maxLen := by
  cases h with | one h => cases h with | st h => cases h with | str h => exact ⟨rfl, h⟩
theorem snd_pick {c x y : Operand} {c' x' y' : Opd} (ho : o.op = .pick c x y) (hc : trOpd C.n c = some c') (hx : trOpd C.n x = some x') (hy : trOpd C.n y = some y') (R : Refs C σ ι s a w) (h : Kd.go P d s K (.pick c' x' y')) : Good P C o a w K := by
  have rc := R.ev hc
  simp only [Kd.go] at h
  split at h
  · rename_i t heq
    rw [heq] at rc
    have := vrep_bool rc
    cases t with
    | true => exact good_val R _ _ (by simp [execOp, ho, this, asBool]) (h.1 rfl) (R.ev hx)
    | false => exact good_val R _ _ (by simp [execOp, ho, this, asBool]) (h.2 rfl) (R.ev hy)
  · exact h.elim
theorem snd_load {t : TypeId} {x : Operand} {x' : Opd} {dd : TypeDesc} {i : TypeInfo} (ho : o.op = .load t x) (hx : trOpd C.n x = some x') (hd : P.underlying t = some dd) (hi : P.info? t = some i)
    (g : Bool) (hg : g = isAggD dd) (n : Nat) (hn : n = if g then i.size else 1) (R : Refs C σ ι s a w) (h : Kd.go P d s K (.load g n x')) : Good P C o a w K := by
  have rx := R.ev hx
  simp only [Kd.go] at h
  split at h
  · rename_i cs heq
    obtain ⟨hle, hK⟩ := h
    rw [heq] at rx
    obtain ⟨b, oo, hex, c, h1, h2⟩ := arep_eptr (vrep_one rx)
    obtain ⟨vs, v1, v2, v3⟩ := eptr_cells (w := w) (S := s.S) (ι := ι) R.fit h1 h2 n hle
    obtain ⟨v, r1, r2⟩ := run_loadAt (P := P) hd hi v2 g hg (by rw [v1, hn])
    exact good_val R v _ (by simp [execOp, ho, hex, r1]) hK (vrep_pack v3 r2)
  · rename_i id m k off heq
    split at h
    · rename_i cs hb
      obtain ⟨hle, hK⟩ := h
      rw [heq] at rx
      obtain ⟨b, oo, hex, vs, v2, v3⟩ := R.ptr_cells (vrep_one rx) hb
      have hlen := v3.len
      have v4 : All2 (ARep σ s.S ι) ((vs.drop off).take n) ((cs.drop off).take n) := (v3.drop off).take n
      obtain ⟨v, r1, r2⟩ := run_loadAt (P := P) (w := w) (b := b) (o := oo + off) (cs := (vs.drop off).take n) hd hi (fun j v hj => by
        rw [List.getElem?_take] at hj
        split at hj
        · rw [List.getElem?_drop] at hj
          rw [Nat.add_assoc]
          exact v2 _ _ hj
        · cases hj) g hg (by simp; omega)
      exact good_val R v _ (by simp [execOp, ho, hex, r1]) hK (vrep_pack v4 r2)
    · exact h.elim
  · exact h.elim
theorem snd_fieldAddr {t f : TypeId} {x : Operand} {x' : Opd} {fs : Array Field} {fd : Field} {i : TypeInfo} (ho : o.op = .fieldAddr t x f) (hx : trOpd C.n x = some x') (hd : P.underlying t = some (.struct fs)) (hf : fs[f]? = some fd) (hi : P.info? fd.type = some i) (hz : i.size ≠ 0)
    (R : Refs C σ ι s a w) (h : Kd.go P d s K (.fieldAddr fd.offset x')) : Good P C o a w K := by
  have rx := R.ev hx
  have run : ∀ b oo, a.eval x = .pointer (some ⟨b, oo, none⟩) → (execOp a.eval o).run P w = .ok (.value (.pointer (some ⟨b, oo + fd.offset, none⟩))) w := fun b oo he => by
    simp [execOp, ho, he, Instr.fieldAt, run_underlying hd, hf, Instr.sureAddr, fieldPlace, sizeOf, typeInfo, hi, hz, addr_add]
  simp only [Kd.go] at h
  split at h
  · rename_i cs heq
    rw [heq] at rx
    obtain ⟨b, oo, hex, c, h1, h2, hh⟩ := arep_eptrH (vrep_one rx)
    refine good_val R _ _ (run _ _ hex) h (.one (.eptr (fun j => c (fd.offset + j)) (fun j y hy => ?_) (fun j y hy => ?_) (fun q1 q2 => hh q1 (by rw [List.length_drop] at q2; omega))))
    · rw [Nat.add_assoc]; exact h1 _ _ (by rw [← List.getElem?_drop]; exact hy)
    · exact h2 _ _ (by rw [← List.getElem?_drop]; exact hy)
  · rename_i id m k off heq
    rw [heq] at rx
    obtain ⟨b, h1, h2, h4⟩ := arep_ptr (vrep_one rx)
    · rw [h1] at h
      obtain ⟨hm, h⟩ := h
      obtain ⟨g, g1, g2⟩ := h4 hm
      exact good_val R _ _ (run _ _ g2) h (.one (.ptr h1 h2 rfl fun _ => ⟨g, g1, by rw [Nat.add_assoc]⟩))
  · exact h.elim
end
end Go.Proofs.YtehnjhkndbcmgaaGreatDoor

namespace Go.Proofs.YtehnjhkndbcmgaaGreatDoor
open Go Go.RowKit
set_option linter.unusedVariables false
set_option maxHeartbeats 400000
section
variable {P : Program} {C : Ctx} {o : Oper} {a : Act} {w : World} {K : AV → AS → Prop} {σ : Sto} {ι : AHnd} {s : AS} {d : Nat} {S : AStore}
theorem snd_nilCheck {x : Operand} {x' : Opd} (ho : o.op = .nilCheck x) (hx : trOpd C.n x = some x') (R : Refs C σ ι s a w) (h : Kd.go P d s K (.nilCheck x')) : Good P C o a w K := by
  have rx := R.ev hx
  simp only [Kd.go] at h
  split at h
  · rename_i cs heq
    have rx' := rx
    rw [heq] at rx
    obtain ⟨b, oo, hex, c, h1, h2⟩ := arep_eptr (vrep_one rx)
    exact good_val R (.pointer (some ⟨b, oo, none⟩)) _ (by simp [execOp, ho, hex]) h (by rw [hex] at rx; exact rx)
  · rename_i id m k off heq
    rw [heq] at rx
    obtain ⟨b, h1, h2, h4⟩ := arep_ptr (vrep_one rx)
    rw [h1] at h
    obtain ⟨hm, h⟩ := h
    obtain ⟨g, g1, g2⟩ := h4 hm
    exact good_val R (.pointer (some ⟨g, k * b.wid + off, none⟩)) _ (by simp [execOp, ho, g2]) h (by rw [g2] at rx; exact rx)
  · exact h.elim
theorem run_part {t : TypeId} {d : TypeDesc} {i : TypeInfo} (hd : P.underlying t = some d) (hi : P.info? t = some i) {cs : Array Value} {off n : Nat} (g : Bool) (hg : g = isAggD d) (hn : n = if g then i.size else 1) (hle : off + n ≤ cs.size) :
    ∃ v, (part t cs off).run P w = .ok v w ∧ (if g then v = .agg ((cs.toList.drop off).take n).toArray else (cs.toList.drop off).take n = [v]) := by
  cases g with
  | true =>
    simp only [if_true] at hn
    have ha : (isAgg t).run P w = .ok true w := by
      simp only [isAgg, Sem.run_bind, run_underlying hd, Result.andThen_ok]
      cases d <;> first | rfl | simp [isAggD] at hg
    refine ⟨.agg (cs.extract off (off + i.size)), by simp [part, ha, sizeOf, typeInfo, hi], ?_⟩
    subst hn
    apply congrArg Value.agg
    apply Array.ext'
    simp
  | false =>
    simp only [Bool.false_eq_true, if_false] at hn ⊢
    subst hn
    have ha : (isAgg t).run P w = .ok false w := by
      simp only [isAgg, Sem.run_bind, run_underlying hd, Result.andThen_ok]
      cases d <;> first | rfl | simp [isAggD] at hg
    have hlt : off < cs.size := by omega
    refine ⟨cs[off], by simp [part, ha, Array.getElem?_eq_getElem hlt], ?_⟩
    rw [List.take_one]
    simp [List.head?_drop, Array.getElem?_eq_getElem hlt]
theorem vrep_agg {v : Value} {cs : List AC} (h : VRep σ S ι v (.agg cs)) : ∃ vs, v = .agg vs ∧ All2 (ARep σ S ι) vs.toList cs := by
  cases h with | agg h => exact ⟨_, rfl, h⟩
theorem snd_field {t f : TypeId} {x : Operand} {x' : Opd} {fs : Array Field} {fd : Field} {dd : TypeDesc} {i : TypeInfo} (ho : o.op = .field t x f) (hx : trOpd C.n x = some x') (hd : P.underlying t = some (.struct fs)) (hf : fs[f]? = some fd) (hdd : P.underlying fd.type = some dd) (hi : P.info? fd.type = some i)
    (g : Bool) (hg : g = isAggD dd) (n : Nat) (hn : n = if g then i.size else 1) (R : Refs C σ ι s a w) (h : Kd.go P d s K (.field g fd.offset n x')) : Good P C o a w K := by
  have rx := R.ev hx
  simp only [Kd.go] at h
  split at h
  · rename_i cs heq
    obtain ⟨hle, hK⟩ := h
    rw [heq] at rx
    obtain ⟨vs, hex, hvs⟩ := vrep_agg rx
    have hl := hvs.len
    obtain ⟨v, r1, r2⟩ := run_part (P := P) (w := w) hdd hi (cs := vs) (off := fd.offset) g hg hn (by simp at hl; omega)
    refine good_val R v _ ?_ hK (vrep_pack ((hvs.drop _).take n) r2)
    simp [execOp, ho, hex, Instr.field, run_underlying hd, hf, asAgg, r1]
  · exact h.elim
theorem arep_full {v : Value} {xs : List (List SV)} (h : ARep σ S ι v (.full xs)) : SRep σ v (.list xs) := by
  cases h with | full h => exact h
theorem srep_idx {v : Value} {xs : List (List SV)} (h : SRep σ v (.list xs)) {k : Nat} {x : List SV} (hx : xs[k]? = some x) {wd : Nat} (hw : x.length = wd) :
    ∃ b oo len cap, v = .slice (some ⟨b, oo, none⟩) len cap ∧ len = xs.length ∧ ∃ c : Nat → Value, (∀ j y, x[j]? = some y → σ ⟨b, oo + k * wd + j, none⟩ = some (c j)) ∧ (∀ j y, x[j]? = some y → SRep σ (c j) y) ∧ (hardRows = true → 2 ≤ wd → σ ⟨b, 0, some 1⟩ = some .nilFunc) := by
  cases h with
  | list c h1 h2 h3 h4 h5 h6 hh h7 h8 =>
    have hlt := (List.getElem?_eq_some_iff.1 hx).1
    have hp := h5 (by omega)
    have hw' := h6 x (List.mem_of_getElem? hx)
    subst hp
    rw [hw] at hw'
    subst hw'
    exact ⟨_, _, _, _, rfl, h1, c k, fun j y hy => h7 k x j y hx hy, fun j y hy => h8 k x j y hx hy, fun q1 q2 => hh q1 q2 (List.ne_nil_of_mem (List.mem_of_getElem? hx))⟩
theorem run_indexAt {t e : TypeId} {i : TypeInfo} (ht : P.underlying t = some (.slice e)) (hi : P.info? e = some i) {b oo len cap : Nat} {kk : IntKind} {n : Int} (h0 : 0 ≤ n) (hn : n.toNat < len) :
    (Instr.indexAt t (.slice (some ⟨b, oo, none⟩) len cap) (.int kk n)).run P w = .ok (.pointer (some ⟨b, oo + n.toNat * i.size, none⟩)) w := by
  have h1 : n < (len : Int) := by omega
  simp [Instr.indexAt, asIntOf, run_underlying ht, h0, h1, sizeOf, typeInfo, hi, addr_add]
theorem run_indexArr {t e : TypeId} {len : Nat} {i : TypeInfo} (ht : P.underlying t = some (.array len e)) (hi : P.info? e = some i) {b oo : Nat} {kk : IntKind} {n : Int} (h0 : 0 ≤ n) (h1 : n < len) :
    (Instr.indexAt t (.pointer (some ⟨b, oo, none⟩)) (.int kk n)).run P w = .ok (.pointer (some ⟨b, oo + n.toNat * i.size, none⟩)) w := by
  simp [Instr.indexAt, asIntOf, run_underlying ht, Instr.sureAddr, h0, h1, sizeOf, typeInfo, hi, addr_add]
theorem snd_indexArr {t e : TypeId} {len : Nat} {x y : Operand} {x' y' : Opd} {i : TypeInfo} (ho : o.op = .indexAddr t x y) (hx : trOpd C.n x = some x') (hy : trOpd C.n y = some y') (ht : P.underlying t = some (.array len e)) (hi : P.info? e = some i)
    (R : Refs C σ ι s a w) (h : Kd.go P d s K (.indexArr len i.size x' y')) : Good P C o a w K := by
  have rx := R.ev hx
  have ry := R.ev hy
  simp only [Kd.go] at h
  split at h
  · rename_i cs kk n e1 e2
    rw [e1] at rx
    rw [e2] at ry
    obtain ⟨hey, -⟩ := vrep_int ry
    obtain ⟨b, oo, hex, c, h1, h2, hh⟩ := arep_eptrH (vrep_one rx)
    refine good_val R (.pointer (some ⟨b, oo + n.toNat * i.size, none⟩)) _ (by simp [execOp, ho, hex, hey, run_indexArr ht hi h.1.1 h.1.2]) h.2 (.one (.eptr (fun j => c (n.toNat * i.size + j)) (fun j y hy => ?_) (fun j y hy => ?_) (fun q1 q2 => hh q1 (by rw [List.length_drop] at q2; omega))))
    · rw [Nat.add_assoc]; exact h1 _ _ (by rw [← List.getElem?_drop]; exact hy)
    · exact h2 _ _ (by rw [← List.getElem?_drop]; exact hy)
  · rename_i id m k off kk n e1 e2
    rw [e1] at rx
    rw [e2] at ry
    obtain ⟨hey, -⟩ := vrep_int ry
    obtain ⟨b, h1, h2, h4⟩ := arep_ptr (vrep_one rx)
    rw [h1] at h
    obtain ⟨hn, hm, h⟩ := h
    obtain ⟨g, g1, g2⟩ := h4 hm
    exact good_val R (.pointer (some ⟨g, k * b.wid + off + n.toNat * i.size, none⟩)) _ (by simp [execOp, ho, g2, hey, run_indexArr ht hi hn.1 hn.2]) h (.one (.ptr h1 h2 rfl fun _ => ⟨g, g1, by rw [Nat.add_assoc]⟩))
  · exact h.elim
theorem snd_indexAddr {t e : TypeId} {x y : Operand} {x' y' : Opd} {i : TypeInfo} (ho : o.op = .indexAddr t x y) (hx : trOpd C.n x = some x') (hy : trOpd C.n y = some y') (ht : P.underlying t = some (.slice e)) (hi : P.info? e = some i)
    (R : Refs C σ ι s a w) (h : Kd.go P d s K (.indexAddr i.size x' y')) : Good P C o a w K := by
  have rx := R.ev hx
  have ry := R.ev hy
  simp only [Kd.go] at h
  split at h
  · rename_i c kk n e1 e2
    rw [e1] at rx
    rw [e2] at ry
    replace rx := vrep_one rx
    obtain ⟨hey, -⟩ := vrep_int ry
    have fin : ∀ (xs : List (List SV)) (x1 : List SV), SRep σ (a.eval x) (.list xs) → 0 ≤ n → xs[n.toNat]? = some x1 → x1.length = i.size → K (.one (.eptr x1)) s → Good P C o a w K := fun xs x1 hr h0 hx1 hw hK => by
      obtain ⟨b, oo, len, cap, hex, hl, c, c1, c2, c3⟩ := srep_idx hr hx1 hw
      have hlt := (List.getElem?_eq_some_iff.1 hx1).1
      refine good_val R _ _ (by simp [execOp, ho, hex, hey, run_indexAt ht hi h0 (show n.toNat < len by omega)]) hK (.one (.eptr c c1 c2 fun q1 q2 => c3 q1 (by rw [← hw]; exact q2)))
    split at h
    · rename_i xs
      unfold idxK at h
      obtain ⟨h0, h⟩ := h
      split at h
      · rename_i x1 hx1
        exact fin xs x1 (arep_st rx) h0 hx1 h.1 h.2
      · exact h.elim
    · rename_i xs
      unfold idxK at h
      obtain ⟨h0, h⟩ := h
      split at h
      · rename_i x1 hx1
        refine fin xs x1 ?_ h0 hx1 h.1 h.2
        exact arep_full rx
      · exact h.elim
    · rename_i id m
      split at h
      · rename_i e' w' xs hS
        obtain ⟨hm, rfl, h⟩ := h
        unfold idxK at h
        obtain ⟨h0, h⟩ := h
        split at h
        · rename_i x1 hx1
          refine fin xs x1 (R.row_srep rx hS hm) h0 hx1 ?_ h
          have hb := R.blk _ _ hS
          cases hb with
          | afull _ _ h7 => exact h7 x1 (List.mem_of_getElem? hx1)
          | arow _ _ _ _ _ _ h7 => exact h7 x1 (List.mem_of_getElem? hx1)
        · exact h.elim
      · rename_i e' w' xs hS
        obtain ⟨hm, rfl, h0, hlt, hK⟩ := h
        obtain ⟨b, hb1, hb2, hb3⟩ := arep_row rx
        rw [hS] at hb1
        cases hb1
        have hex := hb3 hm
        have hb := R.blk _ _ hS
        cases hb with
        | mnil => simp at hlt
        | @mrow _ _ _ g vs k1 k2 =>
          rw [k2] at hex
          refine good_val R (.pointer (some ⟨g, n.toNat * i.size, none⟩)) _ (by simp [execOp, ho, hex, hey, run_indexAt ht hi h0 (show n.toNat < m by omega)]) hK (.one (.ptr hS (by simpa [ABlk.len] using Nat.le_of_eq hm) rfl fun _ => ⟨g, k1, by simp [ABlk.wid]⟩))
      · exact h.elim
    · exact h.elim
  · exact h.elim
theorem snd_indexP {t e : TypeId} {x y : Operand} {x' y' : Opd} {i : TypeInfo} (ho : o.op = .indexAddr t x y) (hx : trOpd C.n x = some x') (hy : trOpd C.n y = some y') (ht : P.underlying t = some (.slice e)) (hi : P.info? e = some i)
    (R : Refs C σ ι s a w) (h : Kd.go P d s K (.indexP i.size x' y')) : Good P C o a w K := by
  have rx := R.ev hx
  have ry := R.ev hy
  simp only [Kd.go] at h
  split at h
  · rename_i id k m kk n e1 e2
    rw [e1] at rx
    rw [e2] at ry
    replace rx := vrep_one rx
    obtain ⟨hey, -⟩ := vrep_int ry
    split at h
    · rename_i e' w' xs hS
      obtain ⟨⟨hm, rfl⟩, ⟨h0, hlt⟩, hK⟩ := h
      obtain ⟨b, hb1, hb2, hb3⟩ := arep_part rx
      rw [hS] at hb1
      cases hb1
      obtain ⟨hkm, hex⟩ := hb3 hm
      have hb := R.blk _ _ hS
      cases hb with
      | mnil => simp at hm; omega
      | @mrow _ _ _ g vs k1 k2 =>
        rw [k2] at hex
        refine good_val R (.pointer (some ⟨g, n.toNat * i.size, none⟩)) _ (by simp [execOp, ho, hex, hey, run_indexAt ht hi h0 (show n.toNat < k by omega)]) hK (.one (.ptr hS (by simpa [ABlk.len] using Nat.le_of_eq hm) rfl fun _ => ⟨g, k1, by simp [ABlk.wid]⟩))
    · exact h.elim
  · exact h.elim
theorem snd_indexStr {t : TypeId} {x y : Operand} {x' y' : Opd} (ho : o.op = .index t x y) (hx : trOpd C.n x = some x') (hy : trOpd C.n y = some y') (ht : P.underlying t = some .string)
    (R : Refs C σ ι s a w) (h : Kd.go P d s K (.indexStr x' y')) : Good P C o a w K := by
  have rx := R.ev hx
  have ry := R.ev hy
  simp only [Kd.go] at h
  split at h
  · rename_i b kk n e1 e2
    rw [e1] at rx
    rw [e2] at ry
    obtain ⟨hex, hb⟩ := vrep_str rx
    obtain ⟨hey, -⟩ := vrep_int ry
    obtain ⟨⟨h0, hlt⟩, hK⟩ := h
    have hget : b[n.toNat]? = some (b[n.toNat]'hlt) := by simp [getElem?_pos, hlt]
    have e3 : ((b[n.toNat]'hlt).toNat : Int) = byteN b n.toNat := by
      unfold byteN
      have h2 : n.toNat < b.data.toList.length := by simpa using hlt
      rw [List.getD_eq_getElem?_getD, List.getElem?_eq_getElem h2]
      rfl
    refine good_val R (.int .u8 (byteN b n.toNat)) _ ?_ hK (.one (.st (.int ?_)))
    · simp only [execOp, ho, hex, hey, Instr.index, asIntOf]
      simp [run_underlying ht, h0, hget, e3]
    · unfold byteN
      have := (b.data.toList.getD n.toNat 0).toNat_lt
      constructor
      · simp [IntKind.min, IntKind.signed]
      · simp only [IntKind.max, IntKind.signed, IntKind.bits, Bool.false_eq_true, if_false]; omega
  · exact h.elim
theorem toList_eq_iff {x y : ByteArray} : (x.toList == y.toList) = decide (x = y) := by
  rw [Bool.eq_iff_iff]
  simp only [beq_iff_eq, decide_eq_true_eq]
  constructor
  · intro h
    rw [ByteArray.toList_eq, ByteArray.toList_eq] at h
    cases x; cases y
    simp only [ByteArray.mk.injEq]
    exact Array.toList_inj.1 h
  · rintro rfl; rfl
theorem run_binI {op : BinOp} {t : TypeId} {k : IntKind} {x y : Int} {K' : SV → Prop} (h : binI op k x y K') :
    ∃ v c, (binOp op t (.int k x) (.int k y)).run P w = .ok v w ∧ SRep σ v c ∧ K' c := by
  cases op <;> simp only [binI] at h
  · exact ⟨_, _, by simp [binOp, Op.intArith, inR_wrap h.1], .int h.1, h.2⟩
  · exact ⟨_, _, by simp [binOp, Op.intArith, inR_wrap h.1], .int h.1, h.2⟩
  · exact ⟨_, _, by simp [binOp, Op.intArith, inR_wrap h.1], .int h.1, h.2⟩
  · exact ⟨_, _, by simp [binOp, Op.intDiv, h.1, inR_wrap h.2.1], .int h.2.1, h.2.2⟩
  · exact ⟨_, _, by simp [binOp, Op.intDiv, h.1], .int h.2.1, h.2.2⟩
  · refine ⟨_, _, ?_, .int h.2.1, h.2.2⟩
    obtain ⟨⟨h1, h2⟩, _⟩ := h
    simp only [binOp, Op.shift]
    rw [if_neg (by omega), Nat.min_eq_left h2]
    rfl
  · exact ⟨.bool (decide (x = y)), _, by simp [binOp, Op.intCmp, BEq.beq], .bool, h⟩
  · exact ⟨.bool (decide (¬ x = y)), _, by simp [binOp, Op.intCmp, bne, BEq.beq], .bool, h⟩
  · exact ⟨.bool (decide (x < y)), _, by simp [binOp, Op.intCmp], .bool, h⟩
  · exact ⟨.bool (decide (x ≤ y)), _, by simp [binOp, Op.intCmp], .bool, h⟩
  · exact ⟨.bool (decide (y < x)), _, by simp [binOp, Op.intCmp], .bool, h⟩
  · exact ⟨.bool (decide (y ≤ x)), _, by simp [binOp, Op.intCmp], .bool, h⟩
theorem run_binS {op : BinOp} {t : TypeId} {x y : ByteArray} {K' : SV → Prop} (h : binS op x y K') :
    ∃ v c, (binOp op t (.string x) (.string y)).run P w = .ok v w ∧ SRep σ v c ∧ K' c := by
  cases op <;> simp only [binS] at h
  · refine ⟨_, _, ?_, .str (s := x ++ y) (by simpa using h.1), h.2⟩
    have h1 := h.1
    have : ¬ (((x.size + y.size : Nat) : Int) > IntKind.i64.max) := by
      simp [maxLen] at h1
      simp [IntKind.max, IntKind.signed, IntKind.bits]
      omega
    simp only [binOp, Op.stringOp, this, if_false]
    rfl
  all_goals first | exact h.elim | skip
  · exact ⟨.bool (decide (x = y)), _, by simp only [binOp, Op.stringOp, toList_eq_iff]; rfl, .bool, h⟩
  · exact ⟨.bool (decide (¬ x = y)), _, by simp only [binOp, Op.stringOp, toList_eq_iff, decide_not]; rfl, .bool, h⟩
  · exact ⟨.bool (sLt x y), _, by simp only [binOp, Op.stringOp]; rfl, .bool, h⟩
  · exact ⟨.bool (sLt x y || decide (x = y)), _, by simp only [binOp, Op.stringOp, toList_eq_iff]; rfl, .bool, h⟩
  · exact ⟨.bool (!(sLt x y || decide (x = y))), _, by simp only [binOp, Op.stringOp, toList_eq_iff]; rfl, .bool, h⟩
  · exact ⟨.bool (!sLt x y), _, by simp only [binOp, Op.stringOp]; rfl, .bool, h⟩
theorem run_eqGuard_int {op : BinOp} {t : TypeId} {x y : Operand} {k k' : IntKind} {m n : Int} : (eqGuard op t x y (.int k m) (.int k' n)).run P w = .ok () w := by
  unfold eqGuard; split <;> rfl
theorem run_eqGuard_str {op : BinOp} {t : TypeId} {x y : Operand} {m n : ByteArray} : (eqGuard op t x y (.string m) (.string n)).run P w = .ok () w := by
  unfold eqGuard; split <;> rfl
theorem run_eqGuard_bool {op : BinOp} {t : TypeId} {x y : Operand} {m n : Bool} : (eqGuard op t x y (.bool m) (.bool n)).run P w = .ok () w := by
  unfold eqGuard; split <;> rfl
theorem snd_bin {op : BinOp} {t t' : TypeId} {x y : Operand} {x' y' : Opd} (ho : o.op = .binOp op t x y t') (hx : trOpd C.n x = some x') (hy : trOpd C.n y = some y')
    (R : Refs C σ ι s a w) (h : Kd.go P d s K (.bin op x' y')) : Good P C o a w K := by
  have rx := R.ev hx
  have ry := R.ev hy
  simp only [Kd.go] at h
  split at h
  · rename_i k m k' n e1 e2
    rw [e1] at rx
    rw [e2] at ry
    obtain ⟨hex, -⟩ := vrep_int rx
    obtain ⟨hey, -⟩ := vrep_int ry
    obtain ⟨rfl, h⟩ := h
    obtain ⟨v, c, r1, r2, r3⟩ := run_binI (P := P) (w := w) (σ := σ) (t := t) h
    exact good_val R v _ (by simp [execOp, ho, hex, hey, run_eqGuard_int, r1]) r3 (.one (.st r2))
  · rename_i m n e1 e2
    rw [e1] at rx
    rw [e2] at ry
    obtain ⟨hex, -⟩ := vrep_str rx
    obtain ⟨hey, -⟩ := vrep_str ry
    obtain ⟨v, c, r1, r2, r3⟩ := run_binS (P := P) (w := w) (σ := σ) (t := t) h
    exact good_val R v _ (by simp [execOp, ho, hex, hey, run_eqGuard_str, r1]) r3 (.one (.st r2))
  · exact h.elim
theorem snd_eqB {neg : Bool} {t t' : TypeId} {x y : Operand} {x' y' : Opd} (ho : o.op = .binOp (if neg then .neq else .eql) t x y t') (hx : trOpd C.n x = some x') (hy : trOpd C.n y = some y') (ht : P.underlying t = some .bool)
    (R : Refs C σ ι s a w) (h : Kd.go P d s K (.eqB neg x' y')) : Good P C o a w K := by
  have rx := R.ev hx
  have ry := R.ev hy
  simp only [Kd.go] at h
  split at h
  · rename_i m n e1 e2
    rw [e1] at rx
    rw [e2] at ry
    have hex := vrep_bool rx
    have hey := vrep_bool ry
    refine good_val R _ _ ?_ h (.one (.st .bool))
    have he : (Op.equal t (.bool m) (.bool n)).run P w = .ok (m == n) w := by
      show (Op.equalIn (_ + 1) t (.bool m) (.bool n)).run P w = _
      rw [Op.equalIn]
      simp only [Sem.run_bind, run_underlying ht, Result.andThen_ok, Sem.run_pure]
    cases neg with
    | true =>
      simp only [if_true] at ho
      simp only [execOp, ho, hex, hey, binOp, Sem.run_bind, run_eqGuard_bool, he, Result.andThen_ok, Sem.run_pure]
      rfl
    | false =>
      simp only [Bool.false_eq_true, if_false] at ho
      simp only [execOp, ho, hex, hey, binOp, Sem.run_bind, run_eqGuard_bool, he, Result.andThen_ok, Sem.run_pure]
      rfl
  · exact h.elim
theorem run_eqGuard_slice {op : BinOp} {t : TypeId} {x y : Operand} {p q : Option Addr} {m n m' n' : Nat} : (eqGuard op t x y (.slice p m n) (.slice q m' n')).run P w = .ok () w := by
  unfold eqGuard; split <;> rfl
theorem srep_nilOr {σ : Sto} {v : Value} {xs : List (List SV)} (h : SRep σ v (.list xs)) : ∃ p len cap, v = .slice p len cap ∧ (0 < xs.length → p.isSome = true) := by
  cases h with
  | @list p len cap b o w _ c h1 h2 h3 h4 h5 h6 hh h7 h8 => exact ⟨p, len, cap, rfl, fun h0 => by rw [h5 (by omega)]; rfl⟩
theorem snd_eqN {neg : Bool} {t t' e : TypeId} {x : Operand} {x' : Opd} (ho : o.op = .binOp (if neg then .neq else .eql) t x (.const (.slice none 0 0)) t') (hx : trOpd C.n x = some x') (ht : P.underlying t = some (.slice e))
    (R : Refs C σ ι s a w) (h : Kd.go P d s K (.eqN neg x')) : Good P C o a w K := by
  have rx := R.ev hx
  simp only [Kd.go] at h
  split at h
  · rename_i xs e1
    rw [e1] at rx
    obtain ⟨p, len, cap, hex, hp⟩ := srep_nilOr (arep_st (vrep_one rx))
    have hey : a.eval (.const (.slice none 0 0)) = .slice none 0 0 := rfl
    have he : (Op.equal t (.slice p len cap) (.slice none 0 0)).run P w = .ok p.isNone w := by
      show (Op.equalIn (_ + 1) t (.slice p len cap) (.slice none 0 0)).run P w = _
      rw [Op.equalIn]
      cases p <;> simp only [Sem.run_bind, run_underlying ht, Result.andThen_ok, Sem.run_pure, Option.isNone]
    have hv : VRep σ s.S ι (.bool (if neg then !p.isNone else p.isNone)) (.one (if xs.length = 0 then .ubool else .st (.bool neg))) := by
      by_cases h0 : xs.length = 0
      · rw [if_pos h0]
        exact .one .ubool
      · rw [if_neg h0]
        have := hp (by omega)
        have e2 : p.isNone = false := by cases p <;> simp_all
        rw [e2]
        cases neg <;> exact .one (.st .bool)
    refine good_val R _ _ ?_ h hv
    cases neg with
    | true =>
      simp only [if_true] at ho
      simp only [execOp, ho, hex, hey, binOp, Sem.run_bind, run_eqGuard_slice, he, Result.andThen_ok, Sem.run_pure]
      try rfl
    | false =>
      simp only [Bool.false_eq_true, if_false] at ho
      simp only [execOp, ho, hex, hey, binOp, Sem.run_bind, run_eqGuard_slice, he, Result.andThen_ok, Sem.run_pure]
      try rfl
  · exact h.elim
theorem srep_err {σ : Sto} {v : Value} (h : SRep σ v .err) : ∃ t x, v = .iface t x := by
  cases h with
  | @err t x => exact ⟨t, x, rfl⟩
theorem srep_lit {σ : Sto} {v u : Value} (h : SRep σ v (.lit u)) : v = u := by
  cases h with
  | lit => rfl
theorem under_iface {t : TypeId} {ms : Array (String × TypeId)} (ht : P.underlying t = some (.interface ms)) : P.underlying t = some (.interface (P.methodsAt t)) := by
  simp [Program.methodsAt, ht]
theorem snd_eqE {neg : Bool} {t t' : TypeId} {ms : Array (String × TypeId)} {x : Operand} {x' : Opd} (ho : o.op = .binOp (if neg then .neq else .eql) t x (.const .nilIface) t') (hx : trOpd C.n x = some x') (ht : P.underlying t = some (.interface ms))
    (R : Refs C σ ι s a w) (h : Kd.go P d s K (.eqE neg x')) : Good P C o a w K := by
  have rx := R.ev hx
  have hey : a.eval (.const .nilIface) = .nilIface := rfl
  have ht' := under_iface ht
  simp only [Kd.go] at h
  split at h
  · rename_i e1
    rw [e1] at rx
    obtain ⟨u, y, hex⟩ := srep_err (arep_st (vrep_one rx))
    refine good_val R (.bool neg) _ ?_ h (.one (.st .bool))
    cases neg with
    | true =>
      simp only [if_true] at ho
      simp only [execOp, ho, hex, hey, Sem.run_bind, eqGuard_at_iface, run_neq_held_nil w t u y ht', Result.andThen_ok, Sem.run_pure]
    | false =>
      simp only [Bool.false_eq_true, if_false] at ho
      simp only [execOp, ho, hex, hey, Sem.run_bind, eqGuard_at_iface, run_eql_held_nil w t u y ht', Result.andThen_ok, Sem.run_pure]
  · rename_i e1
    rw [e1] at rx
    have hex := srep_lit (arep_st (vrep_one rx))
    refine good_val R (.bool !neg) _ ?_ h (.one (.st .bool))
    cases neg with
    | true =>
      simp only [if_true] at ho
      simp only [execOp, ho, hex, hey, Sem.run_bind, eqGuard_nil_constR, run_neq_nil_nil w t ht', Result.andThen_ok, Sem.run_pure, Bool.not_true]
    | false =>
      simp only [Bool.false_eq_true, if_false] at ho
      simp only [execOp, ho, hex, hey, Sem.run_bind, eqGuard_nil_constR, run_eql_nil_nil w t ht', Result.andThen_ok, Sem.run_pure, Bool.not_false]
  · exact h.elim
theorem bytesOf_get : ∀ {ys : List (List SV)} {ns : List Int}, bytesOf ys = some ns → ns.length = ys.length ∧ ∀ (i : Nat), i < ns.length → ys[i]? = some [.int .u8 (ns.getD i 0)]
  | [], ns, h => by
    cases h
    exact ⟨rfl, fun i hi => by simp at hi⟩
  | y :: r, ns, h => by
    unfold bytesOf at h
    split at h
    · rename_i e
      cases e
    · rename_i n r' e
      cases e
      rw [Option.map_eq_some_iff] at h
      obtain ⟨ms, h1, rfl⟩ := h
      obtain ⟨a1, a2⟩ := bytesOf_get h1
      refine ⟨by simp [a1], fun i hi => ?_⟩
      cases i with
      | zero => rfl
      | succ i =>
        have := a2 i (by simpa using hi)
        simpa using this
    · cases h
theorem snd_strOf {src dst e : TypeId} {x : Operand} {x' : Opd} (ho : o.op = .convert src dst x) (hx : trOpd C.n x = some x') (hs : P.underlying src = some (.slice e)) (he : P.underlying e = some (.int .u8)) (hd : P.underlying dst = some .string)
    (R : Refs C σ ι s a w) (h : Kd.go P d s K (.strOf x')) : Good P C o a w K := by
  have rx := R.ev hx
  simp only [Kd.go] at h
  split at h
  · rename_i ys e1
    rw [e1] at rx
    split at h
    · rename_i ns e2
      obtain ⟨⟨h0, h1⟩, hK⟩ := h
      obtain ⟨b1, b2⟩ := bytesOf_get e2
      have rs := arep_full (vrep_one rx)
      generalize hv : a.eval x = v at rs
      cases rs with
      | @list p len cap b o' w' _ c q1 q2 q3 q4 q5 q6 qh q7 q8 =>
        have hp := q5 (by omega)
        subst hp
        have hw1 : w' = 1 := by
          have := q6 _ (List.mem_of_getElem? (b2 0 h0))
          simpa using this.symm
        subst hw1
        refine good_val R (.string (strOfNums ns)) _ ?_ hK (.one (.st (.str (by rw [strOfNums_size]; exact h1))))
        have hc := run_convert_bytes_arg (P := P) w src e hs he b o' len cap ns (by omega) (fun i hi => by
          have hy := b2 i (by omega)
          have k1 := q7 i _ 0 _ hy rfl
          have k2 := q8 i _ 0 _ hy rfl
          have k3 := R.fit _ _ k1
          rw [(vrep_int (S := s.S) (ι := ι) (.one (.st k2))).1] at k3
          rw [look_none rfl] at k3
          simpa using k3) dst hd
        simp only [execOp, ho, hv, Sem.run_bind, hc, Result.andThen_ok, Sem.run_pure]
    · exact h.elim
  · exact h.elim
theorem snd_un {op : UnOp} {t : TypeId} {x : Operand} {x' : Opd} (ho : o.op = .unOp op t x) (hx : trOpd C.n x = some x') (R : Refs C σ ι s a w) (h : Kd.go P d s K (.un op x')) : Good P C o a w K := by
  have rx := R.ev hx
  simp only [Kd.go] at h
  split at h
  · rename_i b e1
    rw [e1] at rx
    have hex := vrep_bool rx
    exact good_val R _ _ (by simp [execOp, ho, hex, Op.unary]) h (.one (.st .bool))
  · rename_i k n e1
    rw [e1] at rx
    obtain ⟨hex, -⟩ := vrep_int rx
    obtain ⟨h1, hK⟩ := h
    refine good_val R _ _ ?_ hK (.one (.st (.int h1)))
    have := inR_wrap h1
    simp only [execOp, ho, hex, Op.unary, Op.intArith, this]
    rfl
  · exact h.elim
theorem snd_conv {src dst : TypeId} {k : IntKind} {x : Operand} {x' : Opd} (ho : o.op = .convert src dst x) (hx : trOpd C.n x = some x') (hs : (P.underlying src).isSome) (hd : P.underlying dst = some (.int k)) (R : Refs C σ ι s a w) (h : Kd.go P d s K (.conv k x')) : Good P C o a w K := by
  have rx := R.ev hx
  simp only [Kd.go] at h
  split at h
  · rename_i k' n e1
    rw [e1] at rx
    obtain ⟨hex, -⟩ := vrep_int rx
    obtain ⟨h1, hK⟩ := h
    obtain ⟨ds, hds⟩ := Option.isSome_iff_exists.1 hs
    refine good_val R _ _ ?_ hK (.one (.st (.int h1)))
    have e2 := inR_wrap h1
    simp [execOp, ho, hex, convert, run_underlying hds, run_underlying hd, Conv.intToInt, e2]
  · exact h.elim
theorem snd_iface {t : TypeId} {k0 : IntKind} {x : Operand} {x' : Opd} (ho : o.op = .makeInterface t x) (hx : trOpd C.n x = some x') (ht : P.underlying t = some (.int k0)) (R : Refs C σ ι s a w) (h : Kd.go P d s K (.iface t x')) : Good P C o a w K := by
  have rx := R.ev hx
  simp only [Kd.go] at h
  split at h
  · rename_i k n e1
    rw [e1] at rx
    obtain ⟨hex, -⟩ := vrep_int rx
    refine good_val R (.iface t (.int k n)) _ ?_ h (.one (.st (.lit rfl)))
    simp [execOp, ho, hex, Instr.makeInterface, run_underlying ht]
  · exact h.elim
theorem snd_extract {i : Nat} {x : Operand} {x' : Opd} (ho : o.op = .extract x i) (hx : trOpd C.n x = some x') (R : Refs C σ ι s a w) (h : Kd.go P d s K (.extract i x')) : Good P C o a w K := by
  have rx := R.ev hx
  simp only [Kd.go] at h
  split at h
  · rename_i vs e1
    rw [e1] at rx
    split at h
    · rename_i v hv
      generalize hex : a.eval x = y at rx
      cases rx with
      | tup c h1 h2 h3 =>
        exact good_val R _ _ (by simp [execOp, ho, hex, Instr.extract, h2 _ _ hv]) h (h3 _ _ hv)
    · exact h.elim
  · exact h.elim
theorem inR_len {n : Nat} (hn : n ≤ maxLen) : inR .i64 (n : Int) := by
  simp [maxLen] at hn
  constructor <;> simp [IntKind.min, IntKind.max, IntKind.signed, IntKind.bits] <;> omega
theorem srep_slice {v : Value} {xs : List (List SV)} (h : SRep σ v (.list xs)) : ∃ p cap, v = .slice p xs.length cap ∧ xs.length ≤ maxLen := by
  cases h with
  | list c h1 h2 h3 => exact ⟨_, _, by rw [h1], by omega⟩
theorem snd_len {t : TypeId} {str : Bool} {x : Operand} {x' : Opd} (ho : o.op = .call { callee := .builtin .len, args := #[x], argTypes := #[t] }) (hx : trOpd C.n x = some x') (ht : if str then P.underlying t = some .string else ∃ e, P.underlying t = some (.slice e)) (R : Refs C σ ι s a w) (h : Kd.go P d s K (.len str x')) : Good P C o a w K := by
  have rx := R.ev hx
  simp only [Kd.go] at h
  split at h
  · rename_i c e1
    rw [e1] at rx
    replace rx := vrep_one rx
    split at h
    · rename_i n hn
      have sl : ∀ (p : Option Addr) (n cap : Nat), str = false → a.eval x = .slice p n cap → n ≤ maxLen → K (.one (.st (.int .i64 n))) s → Good P C o a w K := fun p n cap hs he hm hK => by
        subst hs
        obtain ⟨e, hte⟩ := ht
        exact good_val R _ _ (by simp [execOp, ho, resolve, invoke, builtin, Builtin.len_, run_underlying hte, he, goInt]) hK (.one (.st (.int (inR_len hm))))
      have arow : ∀ (id n : Nat) (b : ABlk), str = false → ARep σ s.S ι (a.eval x) (.row id n) → s.S id = some b → n = b.len → n ≤ maxLen → K (.one (.st (.int .i64 n))) s → Good P C o a w K := fun id n b hs hr hS hn hm hK => by
        obtain ⟨b', k1, k2, k3⟩ := arep_row hr
        rw [hS] at k1
        cases k1
        exact sl _ _ _ hs (k3 hn) hm hK
      unfold lenOfA at hn
      split at hn
      · rename_i xs
        split at hn
        · cases hn
        · rename_i hs
          cases hn
          obtain ⟨p, cap, k1, k2⟩ := srep_slice (arep_st rx)
          exact sl _ _ _ (by simpa using hs) k1 k2 h
      · rename_i b
        split at hn
        · rename_i hs
          cases hn
          subst hs
          obtain ⟨hex, hb⟩ := vrep_str (.one rx)
          simp only [if_true] at ht
          exact good_val R _ _ (by simp [execOp, ho, resolve, invoke, builtin, Builtin.len_, run_underlying ht, hex, goInt]) h (.one (.st (.int (inR_len hb))))
        · cases hn
      · rename_i xs
        split at hn
        · cases hn
        · rename_i hs
          cases hn
          obtain ⟨p, cap, k1, k2⟩ := srep_slice (arep_full rx)
          exact sl _ _ _ (by simpa using hs) k1 k2 h
      · rename_i id m
        split at hn
        · rename_i e w' xs hS
          split at hn
          · rename_i hs
            cases hn
            have hb := R.blk _ _ hS
            refine arow id m _ hs.1 rx hS hs.2 ?_ h
            rw [hs.2]
            cases hb with
            | afull _ _ _ h4 => exact (srep_slice h4).choose_spec.choose_spec.2
            | arow => omega
          · cases hn
        · rename_i e w' xs hS
          split at hn
          · rename_i hs
            cases hn
            have hb := R.blk _ _ hS
            refine arow id m _ hs.1 rx hS hs.2 ?_ h
            rw [hs.2]
            cases hb with
            | mnil => simp [maxLen]
            | mrow => omega
          · cases hn
        · cases hn
      · rename_i id k m
        split at hn
        · rename_i e w' xs hS
          split at hn
          · rename_i hs
            cases hn
            obtain ⟨b', k1, k2, k3⟩ := arep_part rx
            rw [hS] at k1
            cases k1
            obtain ⟨q1, q2⟩ := k3 hs.2
            refine sl _ _ _ hs.1 q2 ?_ h
            have hb := R.blk _ _ hS
            cases hb with
            | mnil => simp [hs.2] at q1; simp [q1]
            | mrow => omega
          · cases hn
        · cases hn
      · cases hn
    · exact h.elim
  · exact h.elim
end
end Go.Proofs.YtehnjhkndbcmgaaGreatDoor

namespace Go.Proofs.YtehnjhkndbcmgaaGreatDoor
open Go Go.RowKit
set_option linter.unusedVariables false
set_option maxHeartbeats 400000
section
variable {P : Program} {C : Ctx} {o : Oper} {a : Act} {w : World} {K : AV → AS → Prop} {σ : Sto} {ι : AHnd} {s : AS} {d : Nat} {S : AStore}
def trOptOpd (n : Nat) : Option Operand → Option (Option Opd)
  | none => some none
  | some x => (trOpd n x).map some
theorem Refs.optI (R : Refs C σ ι s a w) {x : Option Operand} {x' : Option Opd} (h : trOptOpd C.n x = some x') {dd l : Int} (hl : optI s dd x' = some l) : (x.map a.eval = none ∧ l = dd) ∨ ∃ k, x.map a.eval = some (.int k l) := by
  cases x with
  | none =>
    simp only [trOptOpd, Option.some.injEq] at h
    subst h
    simp only [Go.Proofs.YtehnjhkndbcmgaaGreatDoor.optI, Option.some.injEq] at hl
    exact .inl ⟨rfl, hl.symm⟩
  | some x =>
    simp only [trOptOpd, Option.map_eq_some_iff] at h
    obtain ⟨y, hy, rfl⟩ := h
    have ry := R.ev hy
    simp only [Go.Proofs.YtehnjhkndbcmgaaGreatDoor.optI] at hl
    split at hl
    · rename_i k n e1
      cases hl
      rw [e1] at ry
      exact .inr ⟨k, by rw [Option.map_some, (vrep_int ry).1]⟩
    · cases hl
theorem run_bounds {isS : Bool} {len cap : Nat} {lo hi : Option Value} {l h : Int} (hl : (lo = none ∧ l = 0) ∨ ∃ k, lo = some (.int k l)) (hh : (hi = none ∧ h = len) ∨ ∃ k, hi = some (.int k h)) (h0 : 0 ≤ l) (h1 : l ≤ h) (h2 : h ≤ len) (h3 : len ≤ cap) :
    (Instr.sliceBounds isS len cap lo hi none).run P w = .ok (l.toNat, h.toNat, cap) w := by
  have hb : ∀ (k : IntKind) (i : Int) (y : Nat) (c : BoundsCode), 0 ≤ i → i ≤ y → (Instr.sliceBound (.int k i) y c).run P w = .ok i.toNat w := fun k i y c a1 a2 => by
    simp [Instr.sliceBound, asIntOf, a1, a2]
  have hh' : h ≤ (cap : Int) := by omega
  have h4 : l ≤ (h.toNat : Int) := by omega
  have h5 : 0 ≤ h := by omega
  rcases hl with ⟨rfl, rfl⟩ | ⟨k, rfl⟩ <;> rcases hh with ⟨rfl, rfl⟩ | ⟨k', rfl⟩
  · simp [Instr.sliceBounds]
  · simp [Instr.sliceBounds, hb k' h cap _ h5 hh']
  · simp [Instr.sliceBounds, hb k l len _ h0 (by omega)]
  · simp [Instr.sliceBounds, hb k' h cap _ h5 hh', hb k l h.toNat _ h0 h4]
theorem snd_sliceS {t : TypeId} {x : Operand} {lo hi : Option Operand} {x' : Opd} {lo' hi' : Option Opd} (ho : o.op = .slice t x lo hi none) (hx : trOpd C.n x = some x') (hlo : trOptOpd C.n lo = some lo') (hhi : trOptOpd C.n hi = some hi') (ht : P.underlying t = some .string)
    (R : Refs C σ ι s a w) (h : Kd.go P d s K (.sliceS x' lo' hi')) : Good P C o a w K := by
  have rx := R.ev hx
  simp only [Kd.go] at h
  split at h
  · rename_i b e1
    rw [e1] at rx
    obtain ⟨hex, hb⟩ := vrep_str rx
    split at h
    · rename_i l hh e2 e3
      obtain ⟨⟨h0, h1, h2⟩, hK⟩ := h
      have rb := run_bounds (P := P) (w := w) (isS := false) (R.optI hlo e2) (R.optI hhi e3) h0 h1 h2 (Nat.le_refl _)
      refine good_val R _ _ ?_ hK (.one (.st (.str ?_)))
      · simp [execOp, ho, hex, Instr.sliceAt, Instr.slice, run_underlying ht, rb]
      · simp only [ByteArray.size_extract]
        omega
    · exact h.elim
  · exact h.elim
theorem srep_part {v : Value} {xs : List (List SV)} (h : SRep σ v (.list xs)) {wd : Nat} (hw : ∀ x ∈ xs, x.length = wd) {l hh : Nat} (h1 : l ≤ hh) (h2 : hh ≤ xs.length) :
    ∃ p cap, v = .slice p xs.length cap ∧ xs.length ≤ cap ∧ SRep σ (.slice (if cap = l then p else p.map (·.add (l * wd))) (hh - l) (cap - l)) (.list ((xs.take hh).drop l)) := by
  cases h with
  | @list p len cap b o w' _ c k1 k2 k3 k4 k5 k6 kh k7 k8 =>
  subst k1
  refine ⟨p, cap, rfl, k2, ?_⟩
  have hget : ∀ k x, ((xs.take hh).drop l)[k]? = some x → xs[l + k]? = some x := fun k x hx => by
    rw [List.getElem?_drop, List.getElem?_take] at hx
    split at hx
    · exact hx
    · cases hx
  refine .list (b := b) (o := o + l * wd) (w := wd) (fun k j => c (l + k) j) (by simp; omega) (by omega) (by omega) (fun hp => ?_) (fun hne => ?_) (fun x hx => hw x (List.mem_of_mem_take (List.mem_of_mem_drop hx))) (fun q1 q2 q3 => ?_) (fun k x j y hx hy => ?_) (fun k x j y hx hy => k8 _ x j y (hget _ _ hx) hy)
  · split at hp
    · omega
    · have := k4 (by cases p <;> simp at hp ⊢)
      omega
  · rw [if_neg (by omega), k5 (by omega), Option.map_some, addr_add]
  · obtain ⟨x, hx⟩ := List.exists_mem_of_ne_nil _ q3
    have hm := List.mem_of_mem_take (List.mem_of_mem_drop hx)
    exact kh q1 (by rw [← k6 x hm, hw x hm]; exact q2) (List.ne_nil_of_mem hm)
  · have hx' := hget _ _ hx
    have hm := List.mem_of_getElem? hx'
    have e : w' = wd := (k6 x hm).symm.trans (hw x hm)
    have := k7 _ x j y hx' hy
    rw [e] at this
    rw [← this]
    congr 2
    rw [Nat.add_mul]
    omega
theorem snd_sliceL {t e : TypeId} {i : TypeInfo} {x : Operand} {lo hi : Option Operand} {x' : Opd} {lo' hi' : Option Opd} (ho : o.op = .slice t x lo hi none) (hx : trOpd C.n x = some x') (hlo : trOptOpd C.n lo = some lo') (hhi : trOptOpd C.n hi = some hi') (ht : P.underlying t = some (.slice e)) (hi : P.info? e = some i)
    (R : Refs C σ ι s a w) (h : Kd.go P d s K (.sliceL i.size x' lo' hi')) : Good P C o a w K := by
  have rx := R.ev hx
  simp only [Kd.go] at h
  split at h
  · rename_i c e1
    rw [e1] at rx
    split at h
    · rename_i xs e0
      have rs := R.stC (vrep_one rx) e0
      split at h
      · rename_i l hh e2 e3
        obtain ⟨⟨h0, h1, h2⟩, hw, hK⟩ := h
        obtain ⟨p, cap, hex, hc, hr⟩ := srep_part rs hw (l := l.toNat) (hh := hh.toNat) (by omega) (by omega)
        have rb := run_bounds (P := P) (w := w) (isS := true) (R.optI hlo e2) (R.optI hhi e3) h0 h1 h2 hc
        refine good_val R _ _ ?_ hK (.one (.st hr))
        simp [execOp, ho, hex, Instr.sliceAt, Instr.slice, run_underlying ht, rb, sizeOf, typeInfo, hi]
      · exact h.elim
    · exact h.elim
  · exact h.elim
theorem snd_cutP {t e : TypeId} {i : TypeInfo} {x : Operand} {lo hi : Option Operand} {x' h' : Opd} (ho : o.op = .slice t x lo hi none) (hx : trOpd C.n x = some x') (hlo : trOptOpd C.n lo = some none) (hhi : trOptOpd C.n hi = some (some h')) (ht : P.underlying t = some (.slice e)) (hi : P.info? e = some i)
    (R : Refs C σ ι s a w) (h : Kd.go P d s K (.cutP i.size x' h')) : Good P C o a w K := by
  have rx := R.ev hx
  simp only [Kd.go] at h
  split at h
  · rename_i id k m kk n e1 e2
    split at h
    · rename_i e' w' xs hS
      obtain ⟨⟨hm, rfl⟩, ⟨h0, hle⟩, hK⟩ := h
      obtain ⟨hb2, hb3⟩ : m ≤ (ABlk.mrow e' i.size xs).len ∧ (m = (ABlk.mrow e' i.size xs).len → k ≤ m ∧ a.eval x = .slice (ι id).p k (ι id).cap) := by
        unfold cutOf at e1
        split at e1
        · rename_i e0
          cases e1
          rw [e0] at rx
          obtain ⟨b, hb1, hb2, hb3⟩ := arep_part (vrep_one rx)
          rw [hS] at hb1
          cases hb1
          exact ⟨hb2, hb3⟩
        · rename_i e0
          cases e1
          rw [e0] at rx
          obtain ⟨b, hb1, hb2, hb3⟩ := arep_row (vrep_one rx)
          rw [hS] at hb1
          cases hb1
          exact ⟨hb2, fun hl => ⟨Nat.le_refl _, hb3 hl⟩⟩
        · cases e1
      obtain ⟨hkm, hex⟩ := hb3 hm
      have hb := R.blk _ _ hS
      have e3 : optI s 0 (none : Option Opd) = some 0 := rfl
      have e4 : optI s k (some h') = some n := by simp only [Go.Proofs.YtehnjhkndbcmgaaGreatDoor.optI, e2]
      have hmm : m = xs.length := hm
      have hcap : xs.length ≤ (ι id).cap := by cases hb <;> first | exact Nat.zero_le _ | assumption
      have hp : ∀ c : Nat, (if (ι id).cap = 0 then (ι id).p else (ι id).p.map (·.add (0 * c))) = (ι id).p := fun c => by
        split
        · rfl
        · rename_i hne
          cases hb with
          | mnil q1 q2 => exact absurd q2 hne
          | mrow q1 q2 => rw [q2]; simp [addr_add]
      have rb := run_bounds (P := P) (w := w) (isS := true) (len := k) (cap := (ι id).cap) (R.optI hlo e3) (R.optI hhi e4) (Int.le_refl _) h0 hle (by omega)
      refine good_val R (.slice (ι id).p n.toNat (ι id).cap) _ ?_ hK (.one (.part hS hb2 rfl fun _ => ⟨by omega, rfl⟩))
      have hp' := hp i.size
      simp [execOp, ho, hex, Instr.sliceAt, Instr.slice, run_underlying ht, rb, sizeOf, typeInfo, hi]
      simpa using hp'
    · exact h.elim
  · exact h.elim
theorem snd_restP {t e : TypeId} {i : TypeInfo} {x : Operand} {lo hi : Option Operand} {x' o' : Opd} (ho : o.op = .slice t x lo hi none) (hx : trOpd C.n x = some x') (hlo : trOptOpd C.n lo = some (some o')) (hhi : trOptOpd C.n hi = some none) (ht : P.underlying t = some (.slice e)) (hi : P.info? e = some i)
    (R : Refs C σ ι s a w) (h : Kd.go P d s K (.restP i.size x' o')) : Good P C o a w K := by
  have rx := R.ev hx
  simp only [Kd.go] at h
  split at h
  · rename_i id m kk n e1 e2
    rw [e1] at rx
    replace rx := vrep_one rx
    split at h
    · rename_i e' w' xs hS
      obtain ⟨⟨hm, rfl⟩, ⟨h0, hle⟩, hK⟩ := h
      obtain ⟨b, hb1, hb2, hb3⟩ := arep_row rx
      rw [hS] at hb1
      cases hb1
      have hex := hb3 hm
      have hb := R.blk _ _ hS
      have e3 : optI s 0 (some o') = some n := by simp only [Go.Proofs.YtehnjhkndbcmgaaGreatDoor.optI, e2]
      have e4 : optI s m (none : Option Opd) = some (m : Int) := rfl
      have hmm : m = xs.length := hm
      have hcap : xs.length ≤ (ι id).cap := by cases hb <;> first | exact Nat.zero_le _ | assumption
      have rb := run_bounds (P := P) (w := w) (isS := true) (len := m) (cap := (ι id).cap) (R.optI hlo e3) (R.optI hhi e4) h0 hle (Int.le_refl _) (by omega)
      refine good_val R (.slice (if (ι id).cap = n.toNat then (ι id).p else (ι id).p.map (·.add (n.toNat * i.size))) (m - n.toNat) ((ι id).cap - n.toNat)) _ ?_ hK (.one (.rest hS hb2 rfl fun _ => ⟨by omega, rfl⟩))
      simp [execOp, ho, hex, Instr.sliceAt, Instr.slice, run_underlying ht, rb, sizeOf, typeInfo, hi]
    · exact h.elim
  · exact h.elim
theorem Refs.newbox (R : Refs C σ ι s a w) (hid : s.S d = none) {e : TypeId} {vs : Array Value} {cs : List AC} (h : All2 (ARep σ s.S ι) vs.toList cs) :
    ∃ ι', Refs C σ ι' (s.set d (.box e cs)) a (w.alloc (.cells vs e)) ∧ VRep σ (s.set d (.box e cs)).S ι' (.pointer (some ⟨w.heap.size, 0, none⟩)) (.one (.ptr d 1 0 0)) := by
  obtain ⟨hu, R'⟩ := R.fresh (w' := w.alloc (.cells vs e)) hid (.box e cs) ⟨some ⟨w.heap.size, 0, none⟩, 0, some w.heap.size⟩ (Ext.refl _ _) (R.fit.alloc _) (More.alloc _ _) (by simp) (fun S' ι' hu => .box rfl rfl (heap_alloc_new w _) (h.mono fun _ _ x => x.mono (fun _ _ h => h) hu) (fun p hp => R.fit.no (by omega)))
  exact ⟨_, R', .one (.ptr (b := .box e cs) (by simp [AS.set, updE_same]) (Nat.le_refl _) rfl fun _ => ⟨w.heap.size, by simp [updE_same], by simp [ABlk.wid]⟩)⟩
theorem snd_alloc {e : TypeId} {i : TypeInfo} {z : Value} {cs : List AC} (ho : o.op = .alloc e) (hi : P.info? e = some i) (hz : i.zero = some z) (hcs : ofCells z.cells.toList = some cs) (R : Refs C σ ι s a w) (h : Kd.go P d s K (.alloc e cs)) : Good P C o a w K := by
  simp only [Kd.go] at h
  obtain ⟨hid, hK⟩ := h
  obtain ⟨ι', R', hv⟩ := R.newbox (d := d) hid (e := e) (ofCells_rep hcs)
  exact ⟨_, _, _, σ, ι', _, .inl (by simp [execOp, ho, Instr.alloc, zeroValue, typeInfo, hi, hz, newVar, newRow]), hK, R', hv⟩
theorem snd_box {e : TypeId} {x : Operand} {x' : Opd} (ho : o.op = .box e x) (hx : trOpd C.n x = some x') (R : Refs C σ ι s a w) (h : Kd.go P d s K (.box e x')) : Good P C o a w K := by
  have rx := R.ev hx
  simp only [Kd.go] at h
  split at h
  · rename_i cs e1
    obtain ⟨hid, hK⟩ := h
    obtain ⟨ι', R', hv⟩ := R.newbox (d := d) hid (e := e) (rx.cells e1)
    exact ⟨_, _, _, σ, ι', _, .inl (by simp [execOp, ho, Instr.box, newVar, newRow]), hK, R', hv⟩
  · exact h.elim
theorem take_set_succ {α : Type} {L : List α} {k : Nat} {v : α} (h : k < L.length) : (L.set k v).take (k + 1) = L.take k ++ [v] := by
  rw [List.take_add_one, List.getElem?_set_self h, List.take_set, List.set_eq_of_length_le (by simp; omega)]
  rfl
theorem drop_set_succ {α : Type} {L : List α} {k m : Nat} {v : α} (h : k < m) : (L.set k v).drop m = L.drop m := by
  rw [List.drop_set_of_lt h]
theorem foldl_set (off : Nat) : ∀ (l : List Value) (n : Nat) (cells : Array Value), off + n + l.length ≤ cells.size →
    ((l.zipIdx n).foldl (fun cs (x : Value × Nat) => cs.setIfInBounds (off + x.2) x.1) cells).toList = cells.toList.take (off + n) ++ l ++ cells.toList.drop (off + n + l.length)
  | [], n, cells, h => by simp
  | v :: l, n, cells, h => by
    simp only [List.zipIdx_cons, List.foldl_cons]
    simp only [List.length_cons] at h
    rw [foldl_set off l (n + 1) _ (by simp; omega)]
    have hlt : off + n < cells.toList.length := by simp; omega
    simp only [Array.toList_setIfInBounds, List.length_cons]
    rw [show off + (n + 1) = off + n + 1 by omega, take_set_succ hlt, drop_set_succ (by omega), show off + n + 1 + l.length = off + n + (l.length + 1) by omega]
    simp
theorem fill_one {place : Nat → Option (Nat × Nat)} {cells : Array Value} {i off size : Nat} {v : Value} {rest : List (Nat × Value)} (hp : place i = some (off, size)) (hs : v.cells.size = size) (hle : off + size ≤ cells.size) :
    ∃ cells' : Array Value, Instr.fill place cells ((i, v) :: rest) = Instr.fill place cells' rest ∧ cells'.toList = splice cells.toList off v.cells.toList := by
  refine ⟨_, ?_, foldl_set off v.cells.toList 0 cells (by simp; omega)⟩
  rw [Instr.fill, hp]
  simp only
  rw [if_neg (by simp; omega)]
  congr 1
  rw [← Array.foldl_toList, Array.toList_zipIdx]
theorem All2.splice {α β : Type} {R : α → β → Prop} {l l' : List α} {m m' : List β} (h : All2 R l m) (h' : All2 R l' m') (off : Nat) : All2 R (splice l off l') (splice m off m') := by
  unfold Go.Proofs.YtehnjhkndbcmgaaGreatDoor.splice
  rw [h'.len]
  exact ((h.take off).append h').append (h.drop _)
def trParts (n : Nat) (places : List (Nat × Nat)) : List (Nat × Operand) → Option (List (Nat × Nat × Opd))
  | [] => some []
  | (i, x) :: ps => match places[i]?, trOpd n x, trParts n places ps with
    | some (off, size), some x', some ps' => some ((off, size, x') :: ps')
    | _, _, _ => none
theorem fills_sound (R : Refs C σ ι s a w) {places : List (Nat × Nat)} : ∀ {ps : List (Nat × Operand)} {ps' : List (Nat × Nat × Opd)} {cells : Array Value} {cs cs' : List AC}, trParts C.n places ps = some ps' → All2 (ARep σ s.S ι) cells.toList cs → fills s cs ps' = some cs' →
    ∃ cells', Instr.fill (fun i => places[i]?) cells (ps.map fun x => (x.1, a.eval x.2)) = some cells' ∧ All2 (ARep σ s.S ι) cells'.toList cs'
  | [], ps', cells, cs, cs', h1, h2, h3 => by
    simp only [trParts, Option.some.injEq] at h1
    subst h1
    simp only [fills, Option.some.injEq] at h3
    subst h3
    exact ⟨cells, rfl, h2⟩
  | (i, x) :: ps, ps', cells, cs, cs', h1, h2, h3 => by
    simp only [trParts] at h1
    split at h1
    · rename_i off size x' ps1 e1 e2 e3
      cases h1
      simp only [fills] at h3
      split at h3
      · rename_i c e4
        split at h3
        · rename_i hc
          have rx := (R.ev e2).cells e4
          have hl := rx.len
          have hl2 := h2.len
          obtain ⟨cells1, f1, f2⟩ := fill_one (place := fun i => places[i]?) (cells := cells) (i := i) (v := a.eval x) (rest := ps.map fun x => (x.1, a.eval x.2)) (off := off) (size := size) e1 (by simp at hl; omega) (by simp at hl2; omega)
          obtain ⟨cells2, g1, g2⟩ := fills_sound R (cells := cells1) e3 (by rw [f2]; exact h2.splice rx off) h3
          exact ⟨cells2, by rw [List.map_cons, f1, g1], g2⟩
        · cases h3
      · cases h3
    · cases h1
theorem snd_build {t : TypeId} {it : TypeInfo} {z : Value} {fs : Array Field} {places : List (Nat × Nat)} {ps : Array (Nat × Operand)} {ps' : List (Nat × Nat × Opd)} {cs : List AC} (ho : o.op = .build t ps) (hit : P.info? t = some it) (hz : it.zero = some z) (hu : P.underlying t = some (.struct fs))
    (hpl : fs.toList.mapM (fun f => (P.info? f.type).map fun i => (f.offset, i.size)) = some places) (hps : trParts C.n places ps.toList = some ps') (hcs : ofCells z.cells.toList = some cs) (R : Refs C σ ι s a w) (h : Kd.go P d s K (.build cs ps')) : Good P C o a w K := by
  simp only [Kd.go] at h
  split at h
  · rename_i cs' e1
    obtain ⟨cells', f1, f2⟩ := fills_sound R (cells := z.cells) hps (ofCells_rep hcs) e1
    have hb : P.built t (ps.map fun x => (x.1, a.eval x.2)).toList = some cells' := by
      unfold Program.built
      simp only [hit, hu, hz, hpl]
      rw [← f1]
      simp
    exact good_val R _ _ (by simp only [execOp, ho, Sem.run_bind, run_build w t _ _ hb, Result.andThen_ok]; rfl) h (.agg f2)
  · exact h.elim
def Laid (σ : Sto) (vs : List Value) (wd : Nat) (xs : List (List SV)) : Prop := (∀ x ∈ xs, x.length = wd) ∧ ∀ k x j y, xs[k]? = some x → x[j]? = some y → ∃ v, vs[k * wd + j]? = some v ∧ SRep σ v y
theorem Laid.nil {vs : List Value} {wd : Nat} : Laid σ vs wd [] := ⟨by simp, by simp⟩
theorem Laid.append {vs vs' : List Value} {wd : Nat} {xs ys : List (List SV)} (h : Laid σ vs wd xs) (h' : Laid σ vs' wd ys) (hl : vs.length = xs.length * wd) : Laid σ (vs ++ vs') wd (xs ++ ys) := by
  refine ⟨fun x hx => ?_, fun k x j y hx hy => ?_⟩
  · rcases List.mem_append.1 hx with hx | hx
    · exact h.1 x hx
    · exact h'.1 x hx
  · by_cases hlt : k < xs.length
    · rw [List.getElem?_append_left hlt] at hx
      obtain ⟨v, v1, v2⟩ := h.2 k x j y hx hy
      exact ⟨v, by rw [List.getElem?_append_left (List.getElem?_eq_some_iff.1 v1).1]; exact v1, v2⟩
    · rw [List.getElem?_append_right (by omega)] at hx
      obtain ⟨v, v1, v2⟩ := h'.2 (k - xs.length) x j y hx hy
      refine ⟨v, ?_, v2⟩
      have e : k * wd = vs.length + (k - xs.length) * wd := by
        rw [hl, ← Nat.add_mul]
        congr 1
        omega
      rw [List.getElem?_append_right (by omega), show k * wd + j - vs.length = (k - xs.length) * wd + j by omega]
      exact v1
theorem Laid.more {vs : List Value} {wd : Nat} {xs : List (List SV)} (h : Laid σ vs wd xs) (vs' : List Value) : Laid σ (vs ++ vs') wd xs :=
  ⟨h.1, fun k x j y hx hy => by
    obtain ⟨v, v1, v2⟩ := h.2 k x j y hx hy
    exact ⟨v, by rw [List.getElem?_append_left (List.getElem?_eq_some_iff.1 v1).1]; exact v1, v2⟩⟩
theorem Laid.mono {σ' : Sto} {vs : List Value} {wd : Nat} {xs : List (List SV)} (h : Laid σ vs wd xs) (hs : ∀ p x, σ p = some x → σ' p = some x) : Laid σ' vs wd xs :=
  ⟨h.1, fun k x j y hx hy => by
    obtain ⟨v, v1, v2⟩ := h.2 k x j y hx hy
    exact ⟨v, v1, v2.mono hs⟩⟩
theorem Laid.cons {vs vs' : List Value} {wd : Nat} {x : List SV} {xs : List (List SV)} (h : All2 (SRep σ) vs x) (hx : x.length = wd) (h' : Laid σ vs' wd xs) : Laid σ (vs ++ vs') wd (x :: xs) := by
  have h0 : Laid σ vs wd [x] := by
    refine ⟨by simpa using hx, fun k y j z hy hz => ?_⟩
    cases k with
    | zero =>
      simp at hy
      subst hy
      simpa using h.get hz
    | succ k => simp at hy
  exact h0.append h' (by rw [h.len, hx]; simp)
theorem srep_laid {v : Value} {xs : List (List SV)} (h : SRep σ v (.list xs)) {wd : Nat} (hw : ∀ x ∈ xs, x.length = wd) (hpos : 0 < wd) :
    ∃ p cap vs, v = .slice p xs.length cap ∧ xs.length ≤ cap ∧ cap ≤ maxLen ∧ (p = none → cap = 0) ∧ vs.length = xs.length * wd ∧ Laid σ vs wd xs ∧ (∀ u ∈ vs, u.oneCell' = true) ∧
      ∃ b o, (xs ≠ [] → p = some ⟨b, o, none⟩) ∧ ∀ j u, vs[j]? = some u → σ ⟨b, o + j, none⟩ = some u := by
  cases h with
  | @list p len cap b o w' _ c k1 k2 k3 k4 k5 k6 kh k7 k8 =>
  subst k1
  have hall : ∀ i, i < xs.length * wd → ∃ x y, xs[i / wd]? = some x ∧ x[i % wd]? = some y := fun i hi => by
    have h1 : i / wd < xs.length := by rw [Nat.div_lt_iff_lt_mul hpos]; exact hi
    have h2 : xs[i / wd].length = wd := hw _ (List.getElem_mem h1)
    exact ⟨xs[i / wd], xs[i / wd][i % wd]'(by rw [h2]; exact Nat.mod_lt _ hpos), List.getElem?_eq_getElem h1, List.getElem?_eq_getElem _⟩
  have hvs : ∀ i, i < xs.length * wd → ((List.range (xs.length * wd)).map fun i => c (i / wd) (i % wd))[i]? = some (c (i / wd) (i % wd)) := fun i hi => by
    rw [List.getElem?_map, List.getElem?_range hi]; rfl
  have hwb : ∀ k x, xs[k]? = some x → w' = wd := fun k x hx => (k6 x (List.mem_of_getElem? hx)).symm.trans (hw x (List.mem_of_getElem? hx))
  refine ⟨p, cap, (List.range (xs.length * wd)).map (fun i => c (i / wd) (i % wd)), rfl, k2, k3, k4, by simp, ⟨hw, fun k x j y hx hy => ?_⟩, fun u hu => ?_, b, o, fun hne => k5 (by simpa using hne), fun j u hu => ?_⟩
  · have hk := (List.getElem?_eq_some_iff.1 hx).1
    have hj : j < wd := by
      rw [← hw x (List.mem_of_getElem? hx)]
      exact (List.getElem?_eq_some_iff.1 hy).1
    have hlt : k * wd + j < xs.length * wd := by
      have : (k + 1) * wd ≤ xs.length * wd := Nat.mul_le_mul_right _ hk
      rw [Nat.add_mul] at this
      omega
    have e1 : (k * wd + j) / wd = k := by rw [Nat.mul_comm, Nat.mul_add_div hpos, Nat.div_eq_of_lt hj]; omega
    have e2 : (k * wd + j) % wd = j := by rw [Nat.mul_comm, Nat.mul_add_mod, Nat.mod_eq_of_lt hj]
    refine ⟨c k j, ?_, k8 k x j y hx hy⟩
    rw [hvs _ hlt, e1, e2]
  · obtain ⟨i, hi, rfl⟩ := List.mem_map.1 hu
    obtain ⟨x, y, hx, hy⟩ := hall i (by simpa using hi)
    exact (k8 _ x _ y hx hy).one
  · have hj : j < xs.length * wd := by
      have := (List.getElem?_eq_some_iff.1 hu).1
      simpa using this
    obtain ⟨x, y, hx, hy⟩ := hall j hj
    rw [hvs j hj] at hu
    cases hu
    have := k7 _ x _ y hx hy
    rw [hwb _ x hx] at this
    rw [← this]
    congr 2
    rw [Nat.add_assoc, Nat.mul_comm, Nat.div_add_mod]
def layS (σ : Sto) (w : World) (g k : Nat) : Sto := fun p => if p.block = g ∧ (p.spot = none ∨ p.spot = some 1) ∧ p.off < k then look w p else σ p
theorem layS_in {g k j : Nat} (h : j < k) : layS σ w g k ⟨g, j, none⟩ = w.cell? ⟨g, j, none⟩ := by simp [layS, h, look_none]
theorem layS_hard {g k j : Nat} (h : j < k) : layS σ w g k ⟨g, j, some 1⟩ = look w ⟨g, j, some 1⟩ := by simp [layS, h]
theorem layS_out {g k : Nat} {p : Addr} (h : p.block ≠ g) : layS σ w g k p = σ p := by simp [layS, h]
theorem layS_keep {w' : World} {g k : Nat} (h : ∀ p x, p.block = g → σ p = some x → look w' p = some x) : ∀ p x, σ p = some x → layS σ w' g k p = some x := fun p x hp => by
  unfold layS
  split
  · rename_i hh
    exact h _ _ hh.1 hp
  · exact hp
theorem layS_fit {w' : World} {g k : Nat} (h : Fit σ w') : Fit (layS σ w' g k) w' := fun p x hp => by
  unfold layS at hp
  split at hp
  · exact hp
  · exact h _ _ hp
theorem Ext.lay {w w' : World} {g k : Nat} (hf : Fit σ w) (hg : w.heap.size ≤ g) : Ext w.heap.size σ (layS σ w' g k) :=
  ⟨layS_keep (fun p x e h => by rw [hf.no (by rw [e]; exact hg)] at h; cases h), fun p hp => layS_out (by omega)⟩
theorem srep_lay {w' : World} {g : Nat} {vs : Array Value} {e : TypeId} {n cap wd : Nat} {xs : List (List SV)} (hf : Fit σ w) (hg : w.heap.size ≤ g) (hw : w'.heap[g]? = some (.cells vs e (0, 0))) (hl : Laid σ vs.toList wd xs) (hn : n = xs.length) (hc : n ≤ cap) (hcm : cap ≤ maxLen) :
    SRep (layS σ w' g (n * wd)) (.slice (some ⟨g, 0, none⟩) n cap) (.list xs) := by
  have key : ∀ k x j y, xs[k]? = some x → x[j]? = some y → ∃ v, vs[k * wd + j]? = some v ∧ SRep σ v y ∧ layS σ w' g (n * wd) ⟨g, k * wd + j, none⟩ = some v := fun k x j y hx hy => by
    obtain ⟨v, v1, v2⟩ := hl.2 k x j y hx hy
    have hk := (List.getElem?_eq_some_iff.1 hx).1
    have hj : j < wd := by
      rw [← hl.1 x (List.mem_of_getElem? hx)]
      exact (List.getElem?_eq_some_iff.1 hy).1
    have hlt : k * wd + j < n * wd := by
      have : (k + 1) * wd ≤ n * wd := Nat.mul_le_mul_right _ (by omega)
      rw [Nat.add_mul] at this
      omega
    refine ⟨v, by simpa using v1, v2, ?_⟩
    rw [layS_in hlt, cell_of_row w' g _ _ _ _ hw]
    simpa using v1
  refine .list (b := g) (o := 0) (w := wd) (fun k j => (vs[k * wd + j]?).getD undef) hn hc hcm (by simp) (fun _ => rfl) hl.1 (fun _ q2 q3 => by rw [layS_hard (Nat.mul_pos (by rw [hn]; exact List.length_pos_iff.2 q3) (by omega)), look_hard hw]) (fun k x j y hx hy => ?_) (fun k x j y hx hy => ?_)
  · obtain ⟨v, v1, v2, v3⟩ := key k x j y hx hy
    rw [Nat.zero_add, v3, v1]
    rfl
  · obtain ⟨v, v1, v2, v3⟩ := key k x j y hx hy
    rw [v1]
    exact v2.mono (Ext.lay hf hg).keep
end
end Go.Proofs.YtehnjhkndbcmgaaGreatDoor
