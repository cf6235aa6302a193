/-
  Steps that only forget or rename what is known of a state.
  Conditions: none.
-/
import Derived.Test.YtkjbaabkaboaoaaAbsM
namespace Go.Proofs.Ytkjbaabkaboaoaa
open Go Go.RowKit
set_option linter.unusedVariables false
set_option linter.unusedSimpArgs false
set_option maxHeartbeats 400000

def AC.purge (ds : List Nat) : AC → AC
  | .row id n => if ds.contains id then .any else .row id n
  | .ptr id n k off => if ds.contains id then .any else .ptr id n k off
  | .fn f [] => .fn f []
  | .fn _ (_ :: _) => .any
  | c => c
mutual
def AV.purge (ds : List Nat) : AV → AV
  | .one c => .one (c.purge ds)
  | .agg cs => .agg (cs.map (AC.purge ds))
  | .tup vs => .tup (AV.purges ds vs)
  | .any => .any
def AV.purges (ds : List Nat) : List AV → List AV
  | [] => []
  | v :: vs => v.purge ds :: AV.purges ds vs
end
def ABlk.purge (ds : List Nat) : ABlk → ABlk
  | .box e cs => .box e (cs.map (AC.purge ds))
  | b => b
/-- The blocks ds are forgotten. -/
def AS.drop (ds : List Nat) (s : AS) : AS := ⟨fun i => (s.env i).purge ds, fun id => if ds.contains id then none else (s.S id).map (ABlk.purge ds)⟩

section
variable {C : Ctx} {σ : Sto} {ι : AHnd} {s : AS} {a : Act} {w : World} {ds : List Nat}
theorem purge_len (b : ABlk) : (b.purge ds).len = b.len := by cases b <;> rfl
theorem purge_wid (b : ABlk) : (b.purge ds).wid = b.wid := by cases b <;> rfl
theorem ARep.purge {v : Value} {c : AC} (h : ARep σ s.S ι v c) : ARep σ (s.drop ds).S ι v (c.purge ds) := by
  cases h with
  | st h => exact .st h
  | full h => exact .full h
  | @row _ id n b h1 h2 h3 h4 =>
    simp only [AC.purge]
    split
    · exact .any h3
    · rename_i hn
      exact .row (b := b.purge ds) (by simp only [AS.drop, hn]; rw [h1]; rfl) (by rw [purge_len]; exact h2) h3 (by rw [purge_len]; exact h4)
  | @ptr _ id n k off b h1 h2 h3 h4 =>
    simp only [AC.purge]
    split
    · exact .any h3
    · rename_i hn
      exact .ptr (b := b.purge ds) (by simp only [AS.drop, hn]; rw [h1]; rfl) (by rw [purge_len]; exact h2) h3 (by rw [purge_len, purge_wid]; exact h4)
  | eptr c h1 h2 => exact .eptr c h1 h2
  | @fn f vs caps c h1 h2 h3 =>
    cases caps with
    | nil => exact .fn c h1 h2 (by simp)
    | cons x xs => exact .any rfl
  | any h => exact .any h
mutual
theorem VRep.purge : ∀ {v : Value} {c : AV}, VRep σ s.S ι v c → VRep σ (s.drop ds).S ι v (c.purge ds)
  | v, .one c, h => by cases h with | one h => exact .one h.purge
  | v, .agg cs, h => by cases h with | agg h => exact .agg ((h.mono fun _ _ x => x.purge).map_right)
  | v, .tup vs, h => by
    cases h with
    | tup c h1 h2 h3 =>
      obtain ⟨k1, k2⟩ := VRep.purges (c := c) h3
      exact .tup c (by rw [h1, k1]) (fun j b hb => by
        rcases Nat.lt_or_ge j vs.length with hj | hj
        · exact h2 j _ (List.getElem?_eq_getElem hj)
        · rw [List.getElem?_eq_none (by omega)] at hb; cases hb) k2
  | v, .any, h => .any
theorem VRep.purges : ∀ {vs : List AV} {c : Nat → Value}, (∀ j b, vs[j]? = some b → VRep σ s.S ι (c j) b) → vs.length = (AV.purges ds vs).length ∧ ∀ j b, (AV.purges ds vs)[j]? = some b → VRep σ (s.drop ds).S ι (c j) b
  | [], c, h => by simp [AV.purges]
  | x :: xs, c, h => by
    obtain ⟨m1, m2⟩ := VRep.purges (vs := xs) (c := fun j => c (j + 1)) (fun j b hb => h (j + 1) b (by simpa using hb))
    refine ⟨by simp [AV.purges, ← m1], fun j b hb => ?_⟩
    cases j with
    | zero =>
      simp [AV.purges] at hb
      subst hb
      exact VRep.purge (h 0 x rfl)
    | succ j => exact m2 j b (by simpa [AV.purges] using hb)
end
theorem BRep.purge {h : Hnd} {b : ABlk} (hr : BRep σ s.S ι w h b) : BRep σ (s.drop ds).S ι w h (b.purge ds) := by
  cases hr with
  | box h1 h2 h3 h4 h5 => exact .box h1 h2 h3 ((h4.mono fun _ _ x => x.purge).map_right) h5
  | afull h1 h2 h3 h4 => exact .afull h1 h2 h3 h4
  | arow h1 h2 h3 h4 h5 h6 h7 h8 h9 => exact .arow h1 h2 h3 h4 h5 h6 h7 h8 h9
  | mnil h1 h2 => exact .mnil h1 h2
  | mrow h1 h2 h3 h4 h5 h6 h7 h8 h9 => exact .mrow h1 h2 h3 h4 h5 h6 h7 h8 h9
theorem drop_some {id : Nat} {b : ABlk} (h : (s.drop ds).S id = some b) : ∃ b', s.S id = some b' ∧ b = b'.purge ds := by
  simp only [AS.drop] at h
  split at h
  · cases h
  · rw [Option.map_eq_some_iff] at h
    obtain ⟨b', h1, h2⟩ := h
    exact ⟨b', h1, h2.symm⟩
theorem Ghost.drop (ds : List Nat) (s : AS) : Ghost C s (s.drop ds) := fun a w ⟨σ, ι, R⟩ => by
  refine ⟨σ, ι, R.size, fun i hi => (R.env i hi).purge, R.nod, R.fit, fun id b h => ?_, fun id id' b b' g h1 h2 g1 g2 => ?_, fun id b g h hg => ?_, R.ext, R.old, R.os, R.grown, R.same⟩
  · obtain ⟨b', h1, rfl⟩ := drop_some h
    exact (R.blk id b' h1).purge
  · obtain ⟨c1, k1, _⟩ := drop_some h1
    obtain ⟨c2, k2, _⟩ := drop_some h2
    exact R.inj _ _ _ _ _ k1 k2 g1 g2
  · obtain ⟨c1, k1, _⟩ := drop_some h
    exact R.base _ _ _ k1 hg
/-- A written row is written no more: its things stay from now on. -/
theorem Ghost.share {id : Nat} {e : TypeId} {wd : Nat} {xs : List (List SV)} (hS : s.S id = some (.mrow e wd xs)) : Ghost C s (s.set id (.arow e wd xs)) := fun a w ⟨σ, ι, R⟩ => by
  have hb := R.blk _ _ hS
  have hι : updE ι id (ι id) = ι := by
    funext k
    unfold updE
    split
    · rename_i h; rw [h]
    · rfl
  cases hb with
  | mnil h1 h2 =>
    obtain ⟨hu, R'⟩ := R.turn (w' := w) hS (.arow e wd []) (ι id) (σ' := σ) (fun _ _ h => h) (fun _ _ _ => rfl) R.fit (Nat.le_refl _) (fun _ => ⟨rfl, rfl⟩) ⟨rfl, rfl, rfl⟩ (Nat.le_refl _) (fun _ _ _ => rfl) (fun g h => .inl h) (fun hu => .afull h1 (by simpa using h2) (by simp) (.list (b := 0) (o := 0) (w := 0) (fun _ _ => undef) rfl (by simp) (by rw [h2]; simp [maxLen]) (fun _ => h2) (by simp) (by simp) (by simp) (by simp)))
    exact ⟨σ, _, R'⟩
  | @mrow _ _ _ g vs h1 h2 h3 h4 h5 h6 h7 h8 h9 =>
    have hl : Laid σ vs.toList wd xs := ⟨h7, fun k x j y hx hy => by simpa using h8 k x j y hx hy⟩
    have hkeep := layS_keep (σ := σ) (w' := w) (g := g) (k := xs.length * wd) (fun j x hx => by rw [h9 _ rfl] at hx; cases hx)
    obtain ⟨hu, R'⟩ := R.turn (w' := w) hS (.arow e wd xs) (ι id) (σ' := layS σ w g (xs.length * wd)) hkeep (fun p hp _ => layS_out (fun e => hp (by rw [e]; exact h1))) (layS_fit R.fit) (Nat.le_refl _) (fun _ => ⟨rfl, rfl⟩) ⟨rfl, rfl, rfl⟩ (Nat.le_refl _) (fun _ _ _ => rfl) (fun g h => .inl h)
      (fun hu => by
        have := brep_arow (S' := (s.set id (.arow e wd xs)).S) (ι' := updE ι id (ι id)) (w' := w) (p := (ι id).p) h2 h3 h4 h5 h6 hl hkeep (fun p hp hne => absurd (h9 p hp) hne)
        rw [← h1] at this
        exact this)
    exact ⟨_, _, R'⟩
/-- A slice without spare room, as a row of the call's own. -/
theorem Ghost.own (t id : Nat) (e : TypeId) (wd : Nat) {xs : List (List SV)} (ht : s.env t = .one (.full xs)) (hid : s.S id = none) (hw : ∀ x ∈ xs, x.length = wd) (hn : t < C.n) : Ghost C s ⟨updE s.env t (.one (.row id xs.length)), updE s.S id (some (.arow e wd xs))⟩ := fun a w ⟨σ, ι, R⟩ => by
  have rt := R.env t hn
  rw [ht] at rt
  generalize hv : a.tmps.getD t undef = v at rt
  cases vrep_one rt with
  | @full p len xs hs =>
    have hl : len = xs.length := by
      obtain ⟨p', cap', e1, _⟩ := srep_slice hs
      cases e1
      rfl
    subst hl
    obtain ⟨hu, R'⟩ := R.fresh (w' := w) hid (.arow e wd xs) ⟨p, xs.length, none⟩ (Ext.refl _ _) R.fit (Below.refl _ _) (by simp) (fun S' ι' hu => .afull rfl rfl hw hs)
    refine ⟨σ, _, R'.size, fun i hi => ?_, R'.nod, R'.fit, R'.blk, R'.inj, R'.base, R'.ext, R'.old, R'.os, R'.grown, R'.same⟩
    show VRep σ (s.set id (.arow e wd xs)).S _ _ (updE s.env t _ i)
    unfold updE
    split
    · rename_i e1
      subst e1
      rw [hv]
      exact .one (.row (b := .arow e wd xs) (by simp [AS.set, updE_same]) (Nat.le_refl _) rfl fun _ => by simp [updE])
    · exact R'.env i hi
theorem noS_upd {v : Value} {c : AV} (h : VRep σ noS noH v c) : VRep σ s.S ι v c := h.mono (fun _ _ h => h) (upd_noS _ _)
/-- A slot's value, as a callee would have it. -/
theorem Ghost.settle (t : Nat) {v : AV} (h : outV s.S (s.env t) = some v) : Ghost C s ⟨updE s.env t v, s.S⟩ := fun a w ⟨σ, ι, R⟩ => by
  refine ⟨σ, ι, R.size, fun i hi => ?_, R.nod, R.fit, R.blk, R.inj, R.base, R.ext, R.old, R.os, R.grown, R.same⟩
  show VRep σ s.S ι _ (updE s.env t v i)
  unfold updE
  split
  · rename_i e
    subst e
    exact noS_upd (R.outV (R.env i hi) h)
  · exact R.env i hi
/-- A slot's value is forgotten. -/
theorem Ghost.forget (t : Nat) : Ghost C s ⟨updE s.env t .any, s.S⟩ := fun a w ⟨σ, ι, R⟩ => by
  refine ⟨σ, ι, R.size, fun i hi => ?_, R.nod, R.fit, R.blk, R.inj, R.base, R.ext, R.old, R.os, R.grown, R.same⟩
  show VRep σ s.S ι _ (updE s.env t .any i)
  unfold updE
  split
  · exact .any
  · exact R.env i hi
end
/-- A loop whose rounds make blocks of their own (ds), forgotten behind each. -/
theorem IWP.loopD {P : Program} {C : Ctx} {mu : List Nat} {Q : AX → AS → Prop} {s : AS} {x : IR} (ds : List Nat) (Inv : Nat → AS → Prop) (m0 : Nat) (h0 : Inv m0 s) (h : ∀ m s, Inv m s → IWP P C mu x (AX.then (fun s' => ∃ m', m' < m ∧ Inv m' (s'.drop ds)) Q) s) : IWP P C mu (.loop x) Q s := by
  refine IWP.loop (fun m s => ∃ s1, Ghost C s s1 ∧ Inv m s1) m0 ⟨s, Ghost.refl _ _, h0⟩ fun m s ⟨s1, hg, hi⟩ => ?_
  refine (IWP.ghost hg (h m s1 hi)).mono fun e s2 he => ?_
  cases e with
  | normal =>
    obtain ⟨m', h1, h2⟩ := he
    exact ⟨m', h1, _, Ghost.drop ds s2, h2⟩
  | _ => exact he
end Go.Proofs.Ytkjbaabkaboaoaa
