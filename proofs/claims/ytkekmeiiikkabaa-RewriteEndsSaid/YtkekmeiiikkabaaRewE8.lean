/-
  Part 8 of the texts: AbsN; Data; AbsT; AbsU; PTerm. Conditions: none.
-/
import Derived.Test.YtkekmeiiikkabaaRewE7
namespace Go.Proofs.Ytkekmeiiikkabaa
open Go Go.RowKit
set_option linter.unusedVariables false
set_option linter.unusedSimpArgs false
set_option maxHeartbeats 400000

mutual
/-- It names none of the blocks ds. -/
def AC.clear (ds : List Nat) : AC → Bool
  | .row id _ => !ds.contains id
  | .part id _ _ => !ds.contains id
  | .rest id _ _ => !ds.contains id
  | .ptr id _ _ _ => !ds.contains id
  | .mptr id => !ds.contains id
  | .ubool => true
  | .fn _ caps => AC.clears ds caps
  | .st _ => true
  | .full _ => true
  | .eptr _ => true
  | .any => true
def AC.clears (ds : List Nat) : List AC → Bool
  | [] => true
  | c :: cs => c.clear ds && AC.clears ds cs
end
theorem clears_mem {ds : List Nat} : ∀ {l : List AC}, AC.clears ds l = true → ∀ a ∈ l, a.clear ds = true
  | [], _, a, ha => by simp at ha
  | x :: xs, hx, a, ha => by
    rw [AC.clears, Bool.and_eq_true] at hx
    rcases List.mem_cons.1 ha with rfl | ha
    · exact hx.1
    · exact clears_mem hx.2 a ha
def AC.purge (ds : List Nat) : AC → AC
  | .row id n => if ds.contains id then .any else .row id n
  | .part id k n => if ds.contains id then .any else .part id k n
  | .rest id k n => if ds.contains id then .any else .rest id k n
  | .ptr id n k off => if ds.contains id then .any else .ptr id n k off
  | .mptr id => if ds.contains id then .any else .mptr id
  | .fn f caps => if AC.clears ds caps then .fn f caps else .any
  | c => c
mutual
def AV.purge (ds : List Nat) : AV → AV
  | .one c => .one (c.purge ds)
  | .agg cs => .agg (cs.map (AC.purge ds))
  | .tup vs => .tup (AV.purges ds vs)
  | .any => .any
def AV.purges (ds : List Nat) : List AV → List AV
  | [] => []
  | v :: vs => v.purge ds :: AV.purges ds vs
end
def ABlk.purge (ds : List Nat) : ABlk → ABlk
  | .box e cs => .box e (cs.map (AC.purge ds))
  | .iter x n seen => .iter (x.purge ds) n seen
  | b => b
/-- The blocks ds are forgotten. -/
def dropS (ds : List Nat) (S : AStore) : AStore := fun id => if ds.contains id then none else (S id).map (ABlk.purge ds)
def AS.drop (ds : List Nat) (s : AS) : AS := ⟨fun i => (s.env i).purge ds, dropS ds s.S⟩
theorem highs_mem : ∀ {l : List AC}, AC.highs l = true → ∀ a ∈ l, a.high = true
  | [], _, a, ha => by simp at ha
  | x :: xs, hx, a, ha => by
    rw [AC.highs, Bool.and_eq_true] at hx
    rcases List.mem_cons.1 ha with rfl | ha
    · exact hx.1
    · exact highs_mem hx.2 a ha
theorem not_ds {ds : List Nat} (hds : ∀ d ∈ ds, d < 1000) {id : Nat} (h : 1000 ≤ id) : ds.contains id = false := by
  cases hc : ds.contains id with
  | false => rfl
  | true =>
    have := hds id (List.contains_iff_mem.1 hc)
    omega
mutual
theorem AC.clear_high {ds : List Nat} (hds : ∀ d ∈ ds, d < 1000) : ∀ {c : AC}, c.high = true → c.clear ds = true
  | .st _, _ => rfl
  | .full _, _ => rfl
  | .row id n, h => by
    rw [AC.high] at h
    rw [AC.clear, not_ds hds (of_decide_eq_true h)]
    rfl
  | .part id k n, h => by
    rw [AC.high] at h
    rw [AC.clear, not_ds hds (of_decide_eq_true h)]
    rfl
  | .rest id k n, h => by
    rw [AC.high] at h
    rw [AC.clear, not_ds hds (of_decide_eq_true h)]
    rfl
  | .ptr id n k off, h => by
    rw [AC.high] at h
    rw [AC.clear, not_ds hds (of_decide_eq_true h)]
    rfl
  | .mptr id, h => by
    rw [AC.high] at h
    rw [AC.clear, not_ds hds (of_decide_eq_true h)]
    rfl
  | .ubool, _ => rfl
  | .eptr _, _ => rfl
  | .fn f caps, h => by
    rw [AC.high] at h
    rw [AC.clear]
    exact AC.clears_highs hds h
  | .any, _ => rfl
theorem AC.clears_highs {ds : List Nat} (hds : ∀ d ∈ ds, d < 1000) : ∀ {cs : List AC}, AC.highs cs = true → AC.clears ds cs = true
  | [], _ => rfl
  | c :: cs, h => by
    rw [AC.highs, Bool.and_eq_true] at h
    rw [AC.clears, AC.clear_high hds h.1, AC.clears_highs hds h.2]
    rfl
end
theorem AC.purge_high {ds : List Nat} (hds : ∀ d ∈ ds, d < 1000) : ∀ {c : AC}, c.high = true → c.purge ds = c
  | .st _, _ => rfl
  | .full _, _ => rfl
  | .row id n, h => by
    rw [AC.high] at h
    simp only [AC.purge, not_ds hds (of_decide_eq_true h), Bool.false_eq_true, if_false]
  | .part id k n, h => by
    rw [AC.high] at h
    simp only [AC.purge, not_ds hds (of_decide_eq_true h), Bool.false_eq_true, if_false]
  | .rest id k n, h => by
    rw [AC.high] at h
    simp only [AC.purge, not_ds hds (of_decide_eq_true h), Bool.false_eq_true, if_false]
  | .ptr id n k off, h => by
    rw [AC.high] at h
    simp only [AC.purge, not_ds hds (of_decide_eq_true h), Bool.false_eq_true, if_false]
  | .mptr id, h => by
    rw [AC.high] at h
    simp only [AC.purge, not_ds hds (of_decide_eq_true h), Bool.false_eq_true, if_false]
  | .ubool, _ => rfl
  | .eptr _, _ => rfl
  | .fn f caps, h => by
    rw [AC.high] at h
    simp only [AC.purge, AC.clears_highs hds h, if_true]
  | .any, _ => rfl
theorem ABlk.purge_high {ds : List Nat} (hds : ∀ d ∈ ds, d < 1000) {b : ABlk} (h : b.high = true) : b.purge ds = b := by
  cases b with
  | box e cs =>
    rw [ABlk.high] at h
    simp only [ABlk.purge]
    congr 1
    exact (List.map_congr_left fun a ha => AC.purge_high hds (highs_mem h a ha)).trans (List.map_id _)
  | arow => rfl
  | mrow => rfl
  | map => rfl
  | memo => rfl
  | iter x =>
    rw [ABlk.high] at h
    simp only [ABlk.purge, AC.purge_high hds h]
  | dead => rfl
theorem dropS_clean {ds : List Nat} (hds : ∀ d ∈ ds, d < 1000) {S : AStore} (h : Clean S) : dropS ds S = S := by
  funext id
  unfold dropS
  cases hb : S id with
  | none => split <;> rfl
  | some b =>
    obtain ⟨h1, h2⟩ := h id b hb
    rw [not_ds hds h1, if_neg (by simp), Option.map_some, ABlk.purge_high hds h2]
theorem dropS_in {ds : List Nat} {S : AStore} {i : Nat} {b : Option ABlk} (h : ds.contains i = true) : dropS ds (updE S i b) = dropS ds S := by
  funext k
  unfold dropS
  by_cases e : k = i
  · subst e
    rw [if_pos h, if_pos h]
  · rw [updE_ne _ e]
theorem dropS_out {ds : List Nat} {S : AStore} {i : Nat} {b : ABlk} (h : ds.contains i = false) : dropS ds (updE S i (some b)) = updE (dropS ds S) i (some (b.purge ds)) := by
  funext k
  unfold dropS
  by_cases e : k = i
  · subst e
    rw [updE_same, updE_same, if_neg (by rw [h]; simp)]
    rfl
  · rw [updE_ne _ e, updE_ne _ e]

section
variable {C : Ctx} {σ : Sto} {ι : AHnd} {s : AS} {a : Act} {w : World} {ds : List Nat}
theorem purge_len (b : ABlk) : (b.purge ds).len = b.len := by cases b <;> rfl
theorem purge_wid (b : ABlk) : (b.purge ds).wid = b.wid := by cases b <;> rfl
theorem ARep.keepClear {ds : List Nat} {S S2 : AStore} (hS : ∀ id b, ds.contains id = false → S id = some b → ∃ b', S2 id = some b' ∧ b'.len = b.len ∧ b'.wid = b.wid) {v : Value} {c : AC} (h : ARep σ S ι v c) (hc : c.clear ds = true) : ARep σ S2 ι v c := by
  induction h with
  | st h => exact .st h
  | full h => exact .full h
  | row h1 h2 h3 h4 =>
    rw [AC.clear] at hc
    obtain ⟨b', q1, q2, q3⟩ := hS _ _ (by simpa using hc) h1
    exact .row q1 (by rw [q2]; exact h2) h3 (by rw [q2]; exact h4)
  | part h1 h2 h3 h4 =>
    rw [AC.clear] at hc
    obtain ⟨b', q1, q2, q3⟩ := hS _ _ (by simpa using hc) h1
    exact .part q1 (by rw [q2]; exact h2) h3 (by rw [q2]; exact h4)
  | rest h1 h2 h3 h4 =>
    rw [AC.clear] at hc
    obtain ⟨b', q1, q2, q3⟩ := hS _ _ (by simpa using hc) h1
    exact .rest q1 (by rw [q2]; exact h2) h3 (by rw [q2, q3]; exact h4)
  | ptr h1 h2 h3 h4 =>
    rw [AC.clear] at hc
    obtain ⟨b', q1, q2, q3⟩ := hS _ _ (by simpa using hc) h1
    exact .ptr q1 (by rw [q2]; exact h2) h3 (by rw [q2, q3]; exact h4)
  | mptr h1 h2 h3 h4 =>
    rw [AC.clear] at hc
    obtain ⟨b', q1, q2, q3⟩ := hS _ _ (by simpa using hc) h1
    exact .mptr q1 (by rw [q2]; exact h2) h3 (by rw [q2]; exact h4)
  | ubool => exact .ubool
  | eptr c h1 h2 hh => exact .eptr c h1 h2 hh
  | fn c h1 h2 h3 ih =>
    rw [AC.clear] at hc
    exact .fn c h1 h2 (fun j a ha => ih j a ha (clears_mem hc a (List.mem_of_getElem? ha)))
  | any h => exact .any h
theorem ARep.purge (hds : ∀ d ∈ ds, d < 1000) {v : Value} {c : AC} (h : ARep σ s.S ι v c) : ARep σ (s.drop ds).S ι v (c.purge ds) := by
  have h0 := h
  cases h with
  | st h => exact .st h
  | full h => exact .full h
  | @row _ id n b h1 h2 h3 h4 =>
    simp only [AC.purge]
    split
    · exact .any h3
    · rename_i hn
      exact .row (b := b.purge ds) (by simp only [AS.drop, dropS, hn]; rw [h1]; rfl) (by rw [purge_len]; exact h2) h3 (by rw [purge_len]; exact h4)
  | @part _ id k n b h1 h2 h3 h4 =>
    simp only [AC.purge]
    split
    · exact .any h3
    · rename_i hn
      exact .part (b := b.purge ds) (by simp only [AS.drop, dropS, hn]; rw [h1]; rfl) (by rw [purge_len]; exact h2) h3 (by rw [purge_len]; exact h4)
  | @rest _ id k n b h1 h2 h3 h4 =>
    simp only [AC.purge]
    split
    · exact .any h3
    · rename_i hn
      exact .rest (b := b.purge ds) (by simp only [AS.drop, dropS, hn]; rw [h1]; rfl) (by rw [purge_len]; exact h2) h3 (by rw [purge_len, purge_wid]; exact h4)
  | @ptr _ id n k off b h1 h2 h3 h4 =>
    simp only [AC.purge]
    split
    · exact .any h3
    · rename_i hn
      exact .ptr (b := b.purge ds) (by simp only [AS.drop, dropS, hn]; rw [h1]; rfl) (by rw [purge_len]; exact h2) h3 (by rw [purge_len, purge_wid]; exact h4)
  | @mptr _ id b h1 h2 h3 h4 =>
    simp only [AC.purge]
    split
    · exact .any h3
    · rename_i hn
      exact .mptr (b := b.purge ds) (by simp only [AS.drop, dropS, hn]; rw [h1]; rfl) (by rw [purge_len]; exact h2) h3 (by rw [purge_len]; exact h4)
  | ubool => exact .ubool
  | eptr c h1 h2 hh => exact .eptr c h1 h2 hh
  | @fn f vs caps c h1 h2 h3 =>
    simp only [AC.purge]
    split
    · rename_i hh
      exact h0.keepClear (ds := ds) (fun id b hid hb => ⟨b.purge ds, by
        show dropS ds s.S id = _
        unfold dropS
        rw [hid, hb]
        rfl, purge_len b, purge_wid b⟩) (by rw [AC.clear]; exact hh)
    · exact .any rfl
  | any h => exact .any h
mutual
theorem VRep.purge (hds : ∀ d ∈ ds, d < 1000) : ∀ {v : Value} {c : AV}, VRep σ s.S ι v c → VRep σ (s.drop ds).S ι v (c.purge ds)
  | v, .one c, h => by cases h with | one h => exact .one (h.purge hds)
  | v, .agg cs, h => by cases h with | agg h => exact .agg ((h.mono fun _ _ x => x.purge hds).map_right)
  | v, .tup vs, h => by
    cases h with
    | tup c h1 h2 h3 =>
      obtain ⟨k1, k2⟩ := VRep.purges hds (c := c) h3
      exact .tup c (by rw [h1, k1]) (fun j b hb => by
        rcases Nat.lt_or_ge j vs.length with hj | hj
        · exact h2 j _ (List.getElem?_eq_getElem hj)
        · rw [List.getElem?_eq_none (by omega)] at hb; cases hb) k2
  | v, .any, h => .any
theorem VRep.purges (hds : ∀ d ∈ ds, d < 1000) : ∀ {vs : List AV} {c : Nat → Value}, (∀ j b, vs[j]? = some b → VRep σ s.S ι (c j) b) → vs.length = (AV.purges ds vs).length ∧ ∀ j b, (AV.purges ds vs)[j]? = some b → VRep σ (s.drop ds).S ι (c j) b
  | [], c, h => by simp [AV.purges]
  | x :: xs, c, h => by
    obtain ⟨m1, m2⟩ := VRep.purges hds (vs := xs) (c := fun j => c (j + 1)) (fun j b hb => h (j + 1) b (by simpa using hb))
    refine ⟨by simp [AV.purges, ← m1], fun j b hb => ?_⟩
    cases j with
    | zero =>
      simp [AV.purges] at hb
      subst hb
      exact VRep.purge hds (h 0 x rfl)
    | succ j => exact m2 j b (by simpa [AV.purges] using hb)
end
theorem BRep.purge (hds : ∀ d ∈ ds, d < 1000) {h : Hnd} {b : ABlk} (hr : BRep σ s.S ι w h b) : BRep σ (s.drop ds).S ι w h (b.purge ds) := by
  cases hr with
  | box h1 h2 h3 h4 h5 => exact .box h1 h2 h3 ((h4.mono fun _ _ x => x.purge hds).map_right) h5
  | afull h1 h2 h3 h4 => exact .afull h1 h2 h3 h4
  | arow h1 h2 h3 h4 h5 h6 h7 h8 h9 hh => exact .arow h1 h2 h3 h4 h5 h6 h7 h8 h9 hh
  | mnil h1 h2 => exact .mnil h1 h2
  | mrow h1 h2 h3 h4 h5 h6 h7 h8 h9 => exact .mrow h1 h2 h3 h4 h5 h6 h7 h8 h9
  | map h1 h2 h3 h4 => exact .map h1 h2 h3 h4
  | memo h1 h2 h3 h4 => exact .memo h1 h2 h3 h4
  | iter h1 h2 h3 h4 => exact .iter h1 h2 (h3.purge hds) h4
  | dead h1 => exact .dead h1
theorem drop_some {id : Nat} {b : ABlk} (h : (s.drop ds).S id = some b) : ∃ b', s.S id = some b' ∧ b = b'.purge ds := by
  simp only [AS.drop, dropS] at h
  split at h
  · cases h
  · rw [Option.map_eq_some_iff] at h
    obtain ⟨b', h1, h2⟩ := h
    exact ⟨b', h1, h2.symm⟩
theorem Ghost.drop (ds : List Nat) (s : AS) (hds : ∀ d ∈ ds, d < 1000) : Ghost C s (s.drop ds) := fun a w ⟨σ, ι, R⟩ => by
  refine ⟨σ, ι, R.size, fun i hi => (R.env i hi).purge hds, R.nod, R.fit, fun id b h => ?_, fun id id' b b' g h1 h2 g1 g2 => ?_, fun id b g h hg => ?_, R.ext, R.old, R.os, R.grown, R.same, fun id b hb => ?_⟩
  · obtain ⟨b', h1, rfl⟩ := drop_some h
    exact (R.blk id b' h1).purge hds
  · obtain ⟨c1, k1, _⟩ := drop_some h1
    obtain ⟨c2, k2, _⟩ := drop_some h2
    exact R.inj _ _ _ _ _ k1 k2 g1 g2
  · obtain ⟨c1, k1, _⟩ := drop_some h
    exact R.base _ _ _ k1 hg
  · obtain ⟨b', h1, h2, h3⟩ := R.upd id b hb
    have hid := (C.clean id b hb).1
    have hnc : ds.contains id = false := by
      cases hc : ds.contains id with
      | false => rfl
      | true =>
        have := hds id (List.contains_iff_mem.1 hc)
        omega
    refine ⟨b'.purge ds, by simp only [AS.drop, dropS, hnc]; rw [h1]; rfl, by rw [purge_len]; exact h2, fun hl => ?_⟩
    rw [purge_len] at hl
    rw [purge_wid]
    exact h3 hl
/-- A written row is written no more: its things stay from now on. -/
theorem Ghost.share {id : Nat} {e : TypeId} {wd : Nat} {xs : List (List SV)} (hS : s.S id = some (.mrow e wd xs)) : Ghost C s (s.set id (.arow e wd xs)) := fun a w ⟨σ, ι, R⟩ => by
  have hb := R.blk _ _ hS
  have hι : updE ι id (ι id) = ι := by
    funext k
    unfold updE
    split
    · rename_i h; rw [h]
    · rfl
  cases hb with
  | mnil h1 h2 =>
    obtain ⟨hu, R'⟩ := R.turn (w' := w) hS (.arow e wd []) (ι id) (σ' := σ) (fun _ _ h => h) (fun _ _ _ => rfl) R.fit (Nat.le_refl _) (fun _ => ⟨rfl, rfl⟩) ⟨rfl, rfl, rfl⟩ (Nat.le_refl _) (fun _ _ _ => rfl) (fun g h => .inl h) (fun hu => .afull h1 (by simpa using h2) (by simp) (.list (b := 0) (o := 0) (w := 0) (fun _ _ => undef) rfl (by simp) (by rw [h2]; simp [maxLen]) (fun _ => h2) (by simp) (by simp) (fun _ h _ => absurd h (by omega)) (by simp) (by simp)))
    exact ⟨σ, _, R'⟩
  | @mrow _ _ _ g vs h1 h2 h3 h4 h5 h6 h7 h8 h9 =>
    have hl : Laid σ vs.toList wd xs := ⟨h7, fun k x j y hx hy => by simpa using h8 k x j y hx hy⟩
    have hkeep := layS_keep (σ := σ) (w' := w) (g := g) (k := xs.length * wd) (fun p x e hx => by rw [h9 _ e] at hx; cases hx)
    obtain ⟨hu, R'⟩ := R.turn (w' := w) hS (.arow e wd xs) (ι id) (σ' := layS σ w g (xs.length * wd)) hkeep (fun p hp _ => layS_out (fun e => hp (by rw [e]; exact h1))) (layS_fit R.fit) (Nat.le_refl _) (fun _ => ⟨rfl, rfl⟩) ⟨rfl, rfl, rfl⟩ (Nat.le_refl _) (fun _ _ _ => rfl) (fun g h => .inl h)
      (fun hu => by
        have := brep_arow (S' := (s.set id (.arow e wd xs)).S) (ι' := updE ι id (ι id)) (w' := w) (p := (ι id).p) h2 h3 h4 h5 h6 hl hkeep (fun p hp hne => absurd (h9 p hp) hne)
        rw [← h1] at this
        exact this)
    exact ⟨_, _, R'⟩
/-- A slice without spare room, as a row of the call's own. -/
theorem Ghost.own (t id : Nat) (e : TypeId) (wd : Nat) {xs : List (List SV)} (ht : s.env t = .one (.full xs)) (hid : s.S id = none) (hw : ∀ x ∈ xs, x.length = wd) (hn : t < C.n) : Ghost C s ⟨updE s.env t (.one (.row id xs.length)), updE s.S id (some (.arow e wd xs))⟩ := fun a w ⟨σ, ι, R⟩ => by
  have rt := R.env t hn
  rw [ht] at rt
  generalize hv : a.tmps.getD t undef = v at rt
  cases vrep_one rt with
  | @full p len xs hs =>
    have hl : len = xs.length := by
      obtain ⟨p', cap', e1, _⟩ := srep_slice hs
      cases e1
      rfl
    subst hl
    obtain ⟨hu, R'⟩ := R.fresh (w' := w) hid (.arow e wd xs) ⟨p, xs.length, none⟩ (Ext.refl _ _) R.fit (Below.refl _ _) (by simp) (fun S' ι' hu => .afull rfl rfl hw hs)
    refine ⟨σ, _, R'.size, fun i hi => ?_, R'.nod, R'.fit, R'.blk, R'.inj, R'.base, R'.ext, R'.old, R'.os, R'.grown, R'.same, R'.upd⟩
    show VRep σ (s.set id (.arow e wd xs)).S _ _ (updE s.env t _ i)
    unfold updE
    split
    · rename_i e1
      subst e1
      rw [hv]
      exact .one (.row (b := .arow e wd xs) (by simp [AS.set, updE_same]) (Nat.le_refl _) rfl fun _ => by simp [updE])
    · exact R'.env i hi
/-- Nothing yet, as a row that is written. -/
theorem Ghost.ownM (t id : Nat) (e : TypeId) (wd : Nat) (ht : s.env t = .one (.full [])) (hid : s.S id = none) (hn : t < C.n) : Ghost C s ⟨updE s.env t (.one (.row id 0)), updE s.S id (some (.mrow e wd []))⟩ := fun a w ⟨σ, ι, R⟩ => by
  have rt := R.env t hn
  rw [ht] at rt
  generalize hv : a.tmps.getD t undef = v at rt
  cases vrep_one rt with
  | @full p len xs hs =>
    have hl : len = 0 := by
      obtain ⟨p', cap', e1, _⟩ := srep_slice hs
      cases e1
      rfl
    subst hl
    obtain ⟨hu, R'⟩ := R.fresh (w' := w) hid (.mrow e wd []) ⟨p, 0, none⟩ (Ext.refl _ _) R.fit (Below.refl _ _) (by simp) (fun S' ι' hu => .mnil rfl rfl)
    refine ⟨σ, _, R'.size, fun i hi => ?_, R'.nod, R'.fit, R'.blk, R'.inj, R'.base, R'.ext, R'.old, R'.os, R'.grown, R'.same, R'.upd⟩
    show VRep σ (s.set id (.mrow e wd [])).S _ _ (updE s.env t _ i)
    unfold updE
    split
    · rename_i e1
      subst e1
      rw [hv]
      exact .one (.row (b := .mrow e wd []) (by simp [AS.set, updE_same]) (Nat.le_refl _) rfl fun _ => by simp [updE])
    · exact R'.env i hi
/-- The first things of a row that is written no more, as a slice that stays. -/
theorem Ghost.keep (t id k n : Nat) {e : TypeId} {wd : Nat} {xs : List (List SV)} (ht : s.env t = .one (.part id k n)) (hS : s.S id = some (.arow e wd xs)) (hl : n = xs.length) (hn : t < C.n) : Ghost C s ⟨updE s.env t (.one (.st (.list (xs.take k)))), s.S⟩ := fun a w ⟨σ, ι, R⟩ => by
  have rt := R.env t hn
  rw [ht] at rt
  refine ⟨σ, ι, R.size, fun i hi => ?_, R.nod, R.fit, R.blk, R.inj, R.base, R.ext, R.old, R.os, R.grown, R.same, R.upd⟩
  show VRep σ s.S ι _ (updE s.env t _ i)
  unfold updE
  split
  · rename_i e1
    subst e1
    obtain ⟨b, h1, h2, h3⟩ := arep_part (vrep_one rt)
    rw [hS] at h1
    cases h1
    obtain ⟨h4, h5⟩ := h3 hl
    rw [h5]
    have hb := R.blk _ _ hS
    have hr := hb.srep
    have hmem : ∀ {kk x}, (xs.take k)[kk]? = some x → xs[kk]? = some x := fun hx => by
      rw [List.getElem?_take] at hx
      split at hx
      · exact hx
      · cases hx
    cases hr with
    | @list p len cap b o w' _ c q1 q2 q3 q4 q5 q6 qh q7 q8 =>
      exact .one (.st (.list (b := b) (o := o) (w := w') c (by rw [List.length_take]; omega) (by omega) q3 q4 (fun hne => q5 (by omega)) (fun x hx => q6 x (List.mem_of_mem_take hx)) (fun e1 e2 e3 => qh e1 e2 (fun e4 => e3 (by rw [e4]; exact List.take_nil))) (fun kk x j a hx ha => q7 kk x j a (hmem hx) ha) (fun kk x j a hx ha => q8 kk x j a (hmem hx) ha)))
  · exact R.env i hi
/-- The same of a slice that stands in a box. -/
theorem Ghost.ownC (id j nid : Nat) (e : TypeId) (wd : Nat) {xs : List (List SV)} {ty : TypeId} {cs : List AC} (hb : s.S id = some (.box ty cs)) (hc : cs[j]? = some (.full xs)) (hn : s.S nid = none) (hw : ∀ x ∈ xs, x.length = wd) :
    Ghost C s ((s.set nid (.arow e wd xs)).set id (.box ty (cs.set j (.row nid xs.length)))) := fun a w ⟨σ, ι, R⟩ => by
  have hbk := R.blk id _ hb
  have hne : id ≠ nid := fun e => by subst e; rw [hb] at hn; cases hn
  cases hbk with
  | @box _ _ g vs h1 h2 h3 h4 h5 =>
    obtain ⟨v, hv, hr⟩ := h4.get hc
    cases hr with
    | @full p len xs hs =>
      have hl : len = xs.length := by
        obtain ⟨p', cap', e1, _⟩ := srep_slice hs
        cases e1
        rfl
      subst hl
      obtain ⟨hu, R'⟩ := R.fresh (w' := w) hn (.arow e wd xs) ⟨p, xs.length, none⟩ (Ext.refl _ _) R.fit (Below.refl _ _) (by simp) (fun S' ι' hu => .afull rfl rfl hw hs)
      have hb' : (s.set nid (.arow e wd xs)).S id = some (.box ty cs) := by simp [AS.set, updE_ne _ hne, hb]
      have hι : updE ι nid ⟨p, xs.length, none⟩ id = ι id := updE_ne _ hne _
      obtain ⟨hu2, R2⟩ := R'.turn (w' := w) hb' (.box ty (cs.set j (.row nid xs.length))) (updE ι nid ⟨p, xs.length, none⟩ id) (σ' := σ) (fun _ _ h => h) (fun _ _ _ => rfl) R.fit (Nat.le_refl _) (fun _ => ⟨by simp [ABlk.wid], rfl⟩) ⟨rfl, rfl, rfl⟩ (Nat.le_refl _) (fun _ _ _ => rfl) (fun g h => .inl h) (fun hu2 => by
        refine .box (by rw [hι]; exact h1) (by rw [hι]; exact h2) h3 (All2.of_get (by rw [List.length_set]; exact h4.len) fun k u c hu' hck => ?_) h5
        by_cases hk : k = j
        · subst hk
          rw [hv] at hu'
          cases hu'
          have hlt : k < cs.length := (List.getElem?_eq_some_iff.1 hc).1
          rw [List.getElem?_set_self hlt] at hck
          cases hck
          exact .row (b := .arow e wd xs) (by simp [AS.set, updE, hne.symm]) (Nat.le_refl _) rfl fun _ => by simp [updE, hne.symm]
        · rw [List.getElem?_set_ne (fun e => hk e.symm)] at hck
          obtain ⟨u', q1, q2⟩ := h4.get hck
          rw [hu'] at q1
          cases q1
          exact (q2.mono (fun _ _ h => h) hu).mono (fun _ _ h => h) hu2)
      exact ⟨_, _, R2⟩
theorem noS_upd {v : Value} {c : AV} (h : VRep σ noS noH v c) : VRep σ s.S ι v c := h.mono (fun _ _ h => h) (upd_noS _ _)
/-- The call's own blocks are forgotten at its end. -/
def AV.low (v : AV) : AV := if v.high then v else .any
theorem ARep.low {σ : Sto} {S S2 : AStore} {ι : AHnd} (hS : ∀ i b, 1000 ≤ i → S i = some b → S2 i = some b) {v : Value} {c : AC} (h : ARep σ S ι v c) (hc : c.high = true) : ARep σ S2 ι v c := by
  induction h with
  | st h => exact .st h
  | full h => exact .full h
  | row h1 h2 h3 h4 => exact .row (hS _ _ (by rw [AC.high] at hc; exact of_decide_eq_true hc) h1) h2 h3 h4
  | part h1 h2 h3 h4 => exact .part (hS _ _ (by rw [AC.high] at hc; exact of_decide_eq_true hc) h1) h2 h3 h4
  | rest h1 h2 h3 h4 => exact .rest (hS _ _ (by rw [AC.high] at hc; exact of_decide_eq_true hc) h1) h2 h3 h4
  | ptr h1 h2 h3 h4 => exact .ptr (hS _ _ (by rw [AC.high] at hc; exact of_decide_eq_true hc) h1) h2 h3 h4
  | mptr h1 h2 h3 h4 => exact .mptr (hS _ _ (by rw [AC.high] at hc; exact of_decide_eq_true hc) h1) h2 h3 h4
  | ubool => exact .ubool
  | eptr c h1 h2 hh => exact .eptr c h1 h2 hh
  | @fn f vs caps c h1 h2 h3 ih =>
    have key : ∀ (l : List AC), AC.highs l = true → ∀ a ∈ l, a.high = true := by
      intro l
      induction l with
      | nil => simp
      | cons x xs ih2 =>
        intro hx a ha
        rw [AC.highs, Bool.and_eq_true] at hx
        rcases List.mem_cons.1 ha with rfl | ha
        · exact hx.1
        · exact ih2 hx.2 a ha
    rw [AC.high] at hc
    exact .fn c h1 h2 (fun j a ha => ih j a ha (key _ hc a (List.mem_of_getElem? ha)))
  | any h => exact .any h
theorem all2_low {S S2 : AStore} (hS : ∀ i b, 1000 ≤ i → S i = some b → S2 i = some b) {vs : List Value} {cs : List AC} (h : All2 (ARep σ S ι) vs cs) (hc : AC.highs cs = true) : All2 (ARep σ S2 ι) vs cs :=
  All2.of_get h.len fun j v c hv hcj => by
    obtain ⟨v', h1, h2⟩ := h.get hcj
    rw [hv] at h1
    cases h1
    exact h2.low hS (highs_mem hc c (List.mem_of_getElem? hcj))
mutual
theorem VRep.low {S S2 : AStore} (hS : ∀ i b, 1000 ≤ i → S i = some b → S2 i = some b) : ∀ {v : Value} {c : AV}, VRep σ S ι v c → c.high = true → VRep σ S2 ι v c
  | v, .one c, h, hc => by cases h with | one h => exact .one (h.low hS (by rw [AV.high] at hc; exact hc))
  | v, .agg cs, h, hc => by cases h with | agg h => exact .agg (all2_low hS h (by rw [AV.high] at hc; exact hc))
  | v, .tup vs, h, hc => by
    cases h with
    | tup c h1 h2 h3 => exact .tup c h1 h2 (VRep.lows hS h3 (by rw [AV.high] at hc; exact hc))
  | v, .any, h, _ => .any
theorem VRep.lows {S S2 : AStore} (hS : ∀ i b, 1000 ≤ i → S i = some b → S2 i = some b) : ∀ {vs : List AV} {c : Nat → Value}, (∀ j b, vs[j]? = some b → VRep σ S ι (c j) b) → AV.highs vs = true → ∀ j b, vs[j]? = some b → VRep σ S2 ι (c j) b
  | [], c, h, _, j, b, hb => by simp at hb
  | x :: xs, c, h, hc, j, b, hb => by
    rw [AV.highs, Bool.and_eq_true] at hc
    cases j with
    | zero =>
      simp at hb
      subst hb
      exact VRep.low hS (h 0 x rfl) hc.1
    | succ j => exact VRep.lows hS (vs := xs) (c := fun j => c (j + 1)) (fun j b hb => h (j + 1) b (by simpa using hb)) hc.2 j b (by simpa using hb)
end
theorem Refs.low (R : Refs C σ ι s a w) (hb : ∀ i b, 1000 ≤ i → s.S i = some b → b.high = true) : Refs C σ ι ⟨fun i => (s.env i).low, lowS s.S⟩ a w := by
  have hS : ∀ i b, 1000 ≤ i → s.S i = some b → lowS s.S i = some b := fun i b hi h => by
    show (if i < 1000 then none else s.S i) = some b
    rw [if_neg (by omega), h]
  have hinv : ∀ i b, lowS s.S i = some b → 1000 ≤ i ∧ s.S i = some b := fun i b h => by
    have h' : (if i < 1000 then none else s.S i) = some b := h
    split at h'
    · cases h'
    · exact ⟨by omega, h'⟩
  refine ⟨R.size, fun i hi => ?_, R.nod, R.fit, fun id b h => ?_, fun id id' b b' g h1 h2 g1 g2 => R.inj _ _ _ _ g (hinv _ _ h1).2 (hinv _ _ h2).2 g1 g2, fun id b g h hg => R.base _ _ g (hinv _ _ h).2 hg, R.ext, R.old, R.os, R.grown, R.same, fun id b h => ?_⟩
  · show VRep σ (lowS s.S) ι _ ((s.env i).low)
    unfold AV.low
    split
    · rename_i hh
      exact (R.env i hi).low hS hh
    · exact .any
  · obtain ⟨h1, h2⟩ := hinv _ _ h
    have hh := hb id b h1 h2
    cases R.blk id b h2 with
    | box k1 k2 k3 k4 k5 => exact .box k1 k2 k3 (all2_low hS k4 hh) k5
    | afull k1 k2 k3 k4 => exact .afull k1 k2 k3 k4
    | arow k1 k2 k3 k4 k5 k6 k7 k8 k9 kh => exact .arow k1 k2 k3 k4 k5 k6 k7 k8 k9 kh
    | mnil k1 k2 => exact .mnil k1 k2
    | mrow k1 k2 k3 k4 k5 k6 k7 k8 k9 => exact .mrow k1 k2 k3 k4 k5 k6 k7 k8 k9
    | map k1 k2 k3 k4 => exact .map k1 k2 k3 k4
    | memo k1 k2 k3 k4 => exact .memo k1 k2 k3 k4
    | iter k1 k2 k3 k4 => exact .iter k1 k2 (k3.low hS hh) k4
    | dead k1 => exact .dead k1
  · obtain ⟨b', h1, h2⟩ := R.upd id b h
    exact ⟨b', hS _ _ (C.clean id b h).1 h1, h2⟩
theorem Ghost.low (hb : ∀ i b, 1000 ≤ i → s.S i = some b → b.high = true) : Ghost C s ⟨fun i => (s.env i).low, lowS s.S⟩ := fun a w ⟨σ, ι, R⟩ => ⟨σ, ι, R.low hb⟩
/-- A block of the call's own is handed to the caller, under the name a. -/
def oneTo (id a : Nat) (i : Nat) : Nat := if i = id then a else i
def AV.hand (id a : Nat) (v : AV) : AV := if (v.ren (oneTo id a)).high then v.ren (oneTo id a) else .any
section
variable {S S2 : AStore} {ι2 : AHnd} {id a0 : Nat}
theorem ARep.hand (hS : ∀ i b, 1000 ≤ oneTo id a0 i → S i = some b → S2 (oneTo id a0 i) = some b ∧ ι2 (oneTo id a0 i) = ι i) {v : Value} {c : AC} (h : ARep σ S ι v c) (hc : (c.ren (oneTo id a0)).high = true) : ARep σ S2 ι2 v (c.ren (oneTo id a0)) := by
  induction h with
  | st h => exact .st h
  | full h => exact .full h
  | row h1 h2 h3 h4 =>
    rw [AC.ren, AC.high] at hc
    obtain ⟨q1, q2⟩ := hS _ _ (of_decide_eq_true hc) h1
    rw [AC.ren]
    exact .row q1 h2 h3 (fun hn => by rw [q2]; exact h4 hn)
  | part h1 h2 h3 h4 =>
    rw [AC.ren, AC.high] at hc
    obtain ⟨q1, q2⟩ := hS _ _ (of_decide_eq_true hc) h1
    rw [AC.ren]
    exact .part q1 h2 h3 (fun hn => by rw [q2]; exact h4 hn)
  | rest h1 h2 h3 h4 =>
    rw [AC.ren, AC.high] at hc
    obtain ⟨q1, q2⟩ := hS _ _ (of_decide_eq_true hc) h1
    rw [AC.ren]
    exact .rest q1 h2 h3 (fun hn => by rw [q2]; exact h4 hn)
  | ptr h1 h2 h3 h4 =>
    rw [AC.ren, AC.high] at hc
    obtain ⟨q1, q2⟩ := hS _ _ (of_decide_eq_true hc) h1
    rw [AC.ren]
    exact .ptr q1 h2 h3 (fun hn => by rw [q2]; exact h4 hn)
  | mptr h1 h2 h3 h4 =>
    rw [AC.ren, AC.high] at hc
    obtain ⟨q1, q2⟩ := hS _ _ (of_decide_eq_true hc) h1
    rw [AC.ren]
    exact .mptr q1 h2 h3 (fun hn => by rw [q2]; exact h4 hn)
  | ubool => exact .ubool
  | eptr c h1 h2 hh => exact .eptr c h1 h2 hh
  | @fn f vs caps c h1 h2 h3 ih =>
    rw [AC.ren, AC.high] at hc
    rw [AC.ren]
    have key : ∀ (j : Nat) (b : AC), (AC.rens (oneTo id a0) caps)[j]? = some b → ∃ a, caps[j]? = some a ∧ b = a.ren (oneTo id a0) := fun j b hb => by
      rw [AC.rens_eq, List.getElem?_map, Option.map_eq_some_iff] at hb
      obtain ⟨a, ha, rfl⟩ := hb
      exact ⟨a, ha, rfl⟩
    refine .fn c (by rw [AC.rens_eq]; simpa using h1) (fun j b hb => ?_) (fun j b hb => ?_)
    · obtain ⟨a, ha, rfl⟩ := key j b hb
      exact h2 j a ha
    · have hm := highs_mem hc b (List.mem_of_getElem? hb)
      obtain ⟨a, ha, rfl⟩ := key j b hb
      exact ih j a ha hm
  | any h => exact .any h
mutual
theorem VRep.hand (hS : ∀ i b, 1000 ≤ oneTo id a0 i → S i = some b → S2 (oneTo id a0 i) = some b ∧ ι2 (oneTo id a0 i) = ι i) : ∀ {v : Value} {c : AV}, VRep σ S ι v c → (c.ren (oneTo id a0)).high = true → VRep σ S2 ι2 v (c.ren (oneTo id a0))
  | v, .one c, h, hc => by
    rw [AV.ren] at hc ⊢
    rw [AV.high] at hc
    cases h with | one h => exact .one (h.hand hS hc)
  | v, .agg cs, h, hc => by
    rw [AV.ren] at hc ⊢
    rw [AV.high] at hc
    cases h with
    | agg h =>
      refine .agg (All2.of_get (by rw [AC.rens_eq]; simpa using h.len) fun j x c hx hcj => ?_)
      have hm := highs_mem hc c (List.mem_of_getElem? hcj)
      rw [AC.rens_eq, List.getElem?_map, Option.map_eq_some_iff] at hcj
      obtain ⟨c', hc', rfl⟩ := hcj
      obtain ⟨x', h1, h2⟩ := h.get hc'
      rw [hx] at h1
      cases h1
      exact h2.hand hS hm
  | v, .tup vs, h, hc => by
    rw [AV.ren] at hc ⊢
    rw [AV.high] at hc
    cases h with
    | tup c h1 h2 h3 =>
      obtain ⟨k1, k2⟩ := VRep.hands hS h3 hc
      exact .tup c (by rw [h1, k1]) (fun j b hb => by
        rcases Nat.lt_or_ge j vs.length with hj | hj
        · exact h2 j _ (List.getElem?_eq_getElem hj)
        · rw [List.getElem?_eq_none (by omega)] at hb; cases hb) k2
  | v, .any, h, _ => .any
theorem VRep.hands (hS : ∀ i b, 1000 ≤ oneTo id a0 i → S i = some b → S2 (oneTo id a0 i) = some b ∧ ι2 (oneTo id a0 i) = ι i) : ∀ {vs : List AV} {c : Nat → Value}, (∀ j b, vs[j]? = some b → VRep σ S ι (c j) b) → AV.highs (AV.rens (oneTo id a0) vs) = true → vs.length = (AV.rens (oneTo id a0) vs).length ∧ ∀ j b, (AV.rens (oneTo id a0) vs)[j]? = some b → VRep σ S2 ι2 (c j) b
  | [], c, h, _ => by simp [AV.rens]
  | x :: xs, c, h, hc => by
    rw [AV.rens, AV.highs, Bool.and_eq_true] at hc
    obtain ⟨m1, m2⟩ := VRep.hands hS (vs := xs) (c := fun j => c (j + 1)) (fun j b hb => h (j + 1) b (by simpa using hb)) hc.2
    refine ⟨by simp [AV.rens, ← m1], fun j b hb => ?_⟩
    cases j with
    | zero =>
      simp [AV.rens] at hb
      subst hb
      exact VRep.hand hS (h 0 x rfl) hc.1
    | succ j => exact m2 j b (by simpa [AV.rens] using hb)
end
end
theorem BRep.samecells {S S2 : AStore} {ι2 : AHnd} {h : Hnd} {b : ABlk} (hr : BRep σ S ι w h b) (hc : ∀ v c, ARep σ S ι v c → c.high = true → ARep σ S2 ι2 v c) (hb : b.high = true) : BRep σ S2 ι2 w h b := by
  cases hr with
  | box k1 k2 k3 k4 k5 =>
    refine .box k1 k2 k3 (All2.of_get k4.len fun j v c hv hcj => ?_) k5
    obtain ⟨v', h1, h2⟩ := k4.get hcj
    rw [hv] at h1
    cases h1
    exact hc _ _ h2 (highs_mem hb c (List.mem_of_getElem? hcj))
  | afull k1 k2 k3 k4 => exact .afull k1 k2 k3 k4
  | arow k1 k2 k3 k4 k5 k6 k7 k8 k9 kh => exact .arow k1 k2 k3 k4 k5 k6 k7 k8 k9 kh
  | mnil k1 k2 => exact .mnil k1 k2
  | mrow k1 k2 k3 k4 k5 k6 k7 k8 k9 => exact .mrow k1 k2 k3 k4 k5 k6 k7 k8 k9
  | map k1 k2 k3 k4 => exact .map k1 k2 k3 k4
  | memo k1 k2 k3 k4 => exact .memo k1 k2 k3 k4
  | iter k1 k2 k3 k4 => exact .iter k1 k2 (hc _ _ k3 hb) k4
  | dead k1 => exact .dead k1
theorem ARep.stay {S S2 : AStore} {ι2 : AHnd} (hS : ∀ i b, 1000 ≤ i → S i = some b → S2 i = some b ∧ ι2 i = ι i) {v : Value} {c : AC} (h : ARep σ S ι v c) (hc : c.high = true) : ARep σ S2 ι2 v c := by
  induction h with
  | st h => exact .st h
  | full h => exact .full h
  | row h1 h2 h3 h4 =>
    rw [AC.high] at hc
    obtain ⟨q1, q2⟩ := hS _ _ (of_decide_eq_true hc) h1
    exact .row q1 h2 h3 (fun hn => by rw [q2]; exact h4 hn)
  | part h1 h2 h3 h4 =>
    rw [AC.high] at hc
    obtain ⟨q1, q2⟩ := hS _ _ (of_decide_eq_true hc) h1
    exact .part q1 h2 h3 (fun hn => by rw [q2]; exact h4 hn)
  | rest h1 h2 h3 h4 =>
    rw [AC.high] at hc
    obtain ⟨q1, q2⟩ := hS _ _ (of_decide_eq_true hc) h1
    exact .rest q1 h2 h3 (fun hn => by rw [q2]; exact h4 hn)
  | ptr h1 h2 h3 h4 =>
    rw [AC.high] at hc
    obtain ⟨q1, q2⟩ := hS _ _ (of_decide_eq_true hc) h1
    exact .ptr q1 h2 h3 (fun hn => by rw [q2]; exact h4 hn)
  | mptr h1 h2 h3 h4 =>
    rw [AC.high] at hc
    obtain ⟨q1, q2⟩ := hS _ _ (of_decide_eq_true hc) h1
    exact .mptr q1 h2 h3 (fun hn => by rw [q2]; exact h4 hn)
  | ubool => exact .ubool
  | eptr c h1 h2 hh => exact .eptr c h1 h2 hh
  | fn c h1 h2 h3 ih =>
    rw [AC.high] at hc
    exact .fn c h1 h2 (fun j a ha => ih j a ha (highs_mem hc a (List.mem_of_getElem? ha)))
  | any h => exact .any h
theorem Refs.hand (R : Refs C σ ι s a w) (id a0 : Nat) {b0 : ABlk} (hid : id < 1000) (ha : 1000 ≤ a0) (hSa : s.S a0 = none) (hb0 : s.S id = some b0) (hbh : b0.high = true) (hb : ∀ i b, 1000 ≤ i → s.S i = some b → b.high = true) :
    Refs C σ (updE ι a0 (ι id)) ⟨fun i => (s.env i).hand id a0, updE (lowS s.S) a0 (some b0)⟩ a w ∧ ∀ i b, 1000 ≤ oneTo id a0 i → s.S i = some b → updE (lowS s.S) a0 (some b0) (oneTo id a0 i) = some b ∧ updE ι a0 (ι id) (oneTo id a0 i) = ι i := by
  have hlow : ∀ i, 1000 ≤ i → lowS s.S i = s.S i := fun i hi => by
    show (if i < 1000 then none else s.S i) = _
    rw [if_neg (by omega)]
  have hS : ∀ i b, 1000 ≤ oneTo id a0 i → s.S i = some b → updE (lowS s.S) a0 (some b0) (oneTo id a0 i) = some b ∧ updE ι a0 (ι id) (oneTo id a0 i) = ι i := fun i b hi h => by
    unfold oneTo at hi ⊢
    by_cases e : i = id
    · subst e
      rw [if_pos rfl, updE_same, updE_same, ← hb0, h]
      exact ⟨rfl, rfl⟩
    · rw [if_neg e] at hi ⊢
      have hne : i ≠ a0 := fun e => by subst e; rw [hSa] at h; cases h
      rw [updE_ne _ hne, updE_ne _ hne, hlow i hi]
      exact ⟨h, rfl⟩
  have hS' : ∀ i b, 1000 ≤ i → s.S i = some b → updE (lowS s.S) a0 (some b0) i = some b ∧ updE ι a0 (ι id) i = ι i := fun i b hi h => by
    have hne : i ≠ a0 := fun e => by subst e; rw [hSa] at h; cases h
    rw [updE_ne _ hne, updE_ne _ hne, hlow i hi]
    exact ⟨h, rfl⟩
  have hinv : ∀ i b, updE (lowS s.S) a0 (some b0) i = some b → (i = a0 ∧ b = b0) ∨ (i ≠ a0 ∧ 1000 ≤ i ∧ s.S i = some b) := fun i b h => by
    by_cases e : i = a0
    · subst e
      rw [updE_same] at h
      cases h
      exact .inl ⟨rfl, rfl⟩
    · rw [updE_ne _ e] at h
      have h' : (if i < 1000 then none else s.S i) = some b := h
      split at h'
      · cases h'
      · exact .inr ⟨e, by omega, h'⟩
  refine ⟨⟨R.size, fun i hi => ?_, R.nod, R.fit, fun i b h => ?_, fun i j b c g h1 h2 g1 g2 => ?_, fun i b g h hg => ?_, R.ext, R.old, R.os, R.grown, R.same, fun i b h => ?_⟩, hS⟩
  · show VRep σ (updE (lowS s.S) a0 (some b0)) _ _ ((s.env i).hand id a0)
    unfold AV.hand
    split
    · rename_i hh
      exact (R.env i hi).hand hS hh
    · exact .any
  · rcases hinv i b h with ⟨rfl, rfl⟩ | ⟨hne, h1, h2⟩
    · rw [updE_same]
      exact (R.blk id _ hb0).samecells (fun v c hv hc => hv.stay hS' hc) hbh
    · rw [updE_ne _ hne]
      exact (R.blk i b h2).samecells (fun v c hv hc => hv.stay hS' hc) (hb i b h1 h2)
  · rcases hinv i b h1 with ⟨rfl, rfl⟩ | ⟨hne, k1, k2⟩ <;> rcases hinv j c h2 with ⟨rfl, rfl⟩ | ⟨hne', k1', k2'⟩
    · rfl
    · rw [updE_same] at g1
      rw [updE_ne _ hne'] at g2
      have := R.inj _ _ _ _ g hb0 k2' g1 g2
      omega
    · rw [updE_same] at g2
      rw [updE_ne _ hne] at g1
      have := R.inj _ _ _ _ g k2 hb0 g1 g2
      omega
    · rw [updE_ne _ hne] at g1
      rw [updE_ne _ hne'] at g2
      exact R.inj _ _ _ _ g k2 k2' g1 g2
  · rcases hinv i b h with ⟨rfl, rfl⟩ | ⟨hne, k1, k2⟩
    · rw [updE_same] at hg
      exact R.base _ _ g hb0 hg
    · rw [updE_ne _ hne] at hg
      exact R.base _ _ g k2 hg
  · obtain ⟨b', h1, h2, h3⟩ := R.upd i b h
    obtain ⟨q1, q2⟩ := hS' i b' (C.clean i b h).1 h1
    exact ⟨b', q1, h2, fun hl => ⟨(h3 hl).1, by rw [q2]; exact (h3 hl).2⟩⟩
theorem Ghost.hand (id a0 : Nat) {b0 : ABlk} (hid : id < 1000) (ha : 1000 ≤ a0) (hSa : s.S a0 = none) (hb0 : s.S id = some b0) (hbh : b0.high = true) (hb : ∀ i b, 1000 ≤ i → s.S i = some b → b.high = true) : Ghost C s ⟨fun i => (s.env i).hand id a0, updE (lowS s.S) a0 (some b0)⟩ := fun a w ⟨σ, ι, R⟩ =>
  ⟨σ, _, (R.hand id a0 hid ha hSa hb0 hbh hb).1⟩
/-- The end of a call that hands a block of its own to the caller, under the name a0. -/
theorem finS_hand {C : Ctx} {rs : List RV} {S' : AStore} {e : AX} {s : AS} (he : match e with | .normal => True | .ret => True | _ => False) (id a0 : Nat) (r0 : AV) {b0 : ABlk} (hid : id < 1000) (ha : 1000 ≤ a0) (hSa : s.S a0 = none) (hb0 : s.S id = some b0) (hbh : b0.high = true) (hb : ∀ i b, 1000 ≤ i → s.S i = some b → b.high = true)
    (h1 : (resAll s rs).map tupV = some r0) (hh : (r0.ren (oneTo id a0)).high = true) (h3 : updE (lowS s.S) a0 (some b0) = S') (hc : Clean S') : FinS C rs (r0.ren (oneTo id a0)) S' e s :=
  ⟨he, s, ⟨fun i => (s.env i).hand id a0, updE (lowS s.S) a0 (some b0)⟩, r0, Ghost.refl _ _, h1, fun σ ι a w R => ⟨σ, _, (R.hand id a0 hid ha hSa hb0 hbh hb).1, fun v hv => hv.hand (R.hand id a0 hid ha hSa hb0 hbh hb).2 hh⟩, h3, hc⟩
theorem upS_up (S : AStore) (i : Nat) : upS S (up1 i) = (S i).map (ABlk.ren up1) := by
  show (if i + 1000 < 1000 then none else (S (i + 1000 - 1000)).map (ABlk.ren up1)) = _
  rw [if_neg (by omega), Nat.add_sub_cancel]
theorem dnS_upd (S : AStore) (i : Nat) (b : ABlk) : dnS (updE S (up1 i) (some b)) = updE (dnS S) i (some (b.ren dn1)) := by
  funext k
  show (updE S (up1 i) (some b) (up1 k)).map _ = updE (dnS S) i _ k
  by_cases h : k = i
  · subst h
    rw [updE_same, updE_same]
    rfl
  · have hne : up1 k ≠ up1 i := fun e => h (by have := congrArg dn1 e; rw [dn_up, dn_up] at this; exact this)
    rw [updE_ne _ hne, updE_ne _ h]
    rfl
theorem lowS_low (S : AStore) {i : Nat} (h : i < 1000) (b : Option ABlk) : lowS (updE S i b) = lowS S := by
  funext k
  show (if k < 1000 then none else updE S i b k) = (if k < 1000 then none else S k)
  split
  · rfl
  · exact updE_ne _ (by omega) _
theorem lowS_high (S : AStore) {i : Nat} (h : 1000 ≤ i) (b : Option ABlk) : lowS (updE S i b) = updE (lowS S) i b := by
  funext k
  show (if k < 1000 then none else updE S i b k) = updE (lowS S) i b k
  by_cases e : k = i
  · subst e
    rw [if_neg (by omega), updE_same, updE_same]
  · rw [updE_ne _ e, updE_ne _ e]
    rfl
theorem clean_upd {S : AStore} (h : Clean S) {i : Nat} (hi : 1000 ≤ i) {b : ABlk} (hb : b.high = true) : Clean (updE S i (some b)) := fun k c hk => by
  by_cases e : k = i
  · subst e
    rw [updE_same] at hk
    cases hk
    exact ⟨hi, hb⟩
  · rw [updE_ne _ e] at hk
    exact h k c hk
theorem high_upd {S : AStore} {i : Nat} {b : ABlk} (h : ∀ k c, 1000 ≤ k → S k = some c → c.high = true) (hb : b.high = true) : ∀ k c, 1000 ≤ k → updE S i (some b) k = some c → c.high = true := fun k c hk hc => by
  by_cases e : k = i
  · subst e
    rw [updE_same] at hc
    cases hc
    exact hb
  · rw [updE_ne _ e] at hc
    exact h k c hk hc
theorem high_updL {S : AStore} {i : Nat} (hi : i < 1000) {b : Option ABlk} (h : ∀ k c, 1000 ≤ k → S k = some c → c.high = true) : ∀ k c, 1000 ≤ k → updE S i b k = some c → c.high = true := fun k c hk hc => by
  rw [updE_ne _ (by omega)] at hc
  exact h k c hk hc
end
/-- A loop whose rounds make blocks of their own (ds), forgotten behind each. -/
theorem IWP.loopD {P : Program} {C : Ctx} {mu : List Nat} {Q : AX → AS → Prop} {s : AS} {x : IR} (ds : List Nat) (Inv : Nat → AS → Prop) (m0 : Nat) (h0 : Inv m0 s) (h : ∀ m s, Inv m s → IWP P C mu x (AX.then (fun s' => ∃ m', m' < m ∧ Inv m' (s'.drop ds)) Q) s) (hds : ∀ d ∈ ds, d < 1000 := by decide) : IWP P C mu (.loop x) Q s := by
  refine IWP.loop (fun m s => ∃ s1, Ghost C s s1 ∧ Inv m s1) m0 ⟨s, Ghost.refl _ _, h0⟩ fun m s ⟨s1, hg, hi⟩ => ?_
  refine (IWP.ghost hg (h m s1 hi)).mono fun e s2 he => ?_
  cases e with
  | normal =>
    obtain ⟨m', h1, h2⟩ := he
    exact ⟨m', h1, _, Ghost.drop ds s2 hds, h2⟩
  | _ => exact he

/-! ### a call that turns nothing, where blocks are in hand -/
theorem ARep.out {σ : Sto} {S : AStore} {ι : AHnd} {v : Value} {c : AC} (h : ARep σ S ι v c) (hc : outC noS c = some c) : ARep σ noS noH v c := by
  cases h with
  | st h => exact .st h
  | full h => simp [outC, stC] at hc
  | row h1 h2 h3 h4 => simp [outC, stC, noS] at hc
  | part h1 h2 h3 h4 => simp [outC, stC, noS] at hc
  | rest h1 h2 h3 h4 => simp [outC, stC, noS] at hc
  | ptr h1 h2 h3 h4 => simp [outC, stC] at hc
  | mptr h1 h2 h3 h4 => simp [outC, stC] at hc
  | ubool => exact .ubool
  | eptr c h1 h2 hh => exact .eptr c h1 h2 hh
  | @fn f vs caps c h1 h2 h3 =>
    cases caps with
    | nil => exact .fn c h1 h2 (by simp)
    | cons x xs => simp [outC, stC] at hc
  | any h => simp [outC, stC] at hc
theorem outCs_self : ∀ {cs : List AC}, outCs noS cs = some cs → ∀ c ∈ cs, outC noS c = some c
  | [], _, c, hc => by simp at hc
  | x :: xs, h, c, hc => by
    simp only [outCs] at h
    split at h
    · rename_i y ys h1 h2
      simp only [Option.some.injEq, List.cons.injEq] at h
      obtain ⟨rfl, rfl⟩ := h
      rcases List.mem_cons.1 hc with rfl | hc
      · exact h1
      · exact outCs_self h2 c hc
    · cases h
mutual
theorem VRep.out {σ : Sto} {S : AStore} {ι : AHnd} : ∀ {v : Value} {c : AV}, VRep σ S ι v c → outV noS c = some c → VRep σ noS noH v c
  | v, .one c, h, hc => by
    rw [outV, Option.map_eq_some_iff] at hc
    obtain ⟨a, h1, h2⟩ := hc
    cases h2
    cases h with | one h => exact .one (h.out h1)
  | v, .agg cs, h, hc => by
    rw [outV, Option.map_eq_some_iff] at hc
    obtain ⟨a, h1, h2⟩ := hc
    cases h2
    cases h with
    | agg h => exact .agg (All2.of_get h.len fun j x c hx hcj => by
        obtain ⟨x', q1, q2⟩ := h.get hcj
        rw [hx] at q1
        cases q1
        exact q2.out (outCs_self h1 c (List.mem_of_getElem? hcj)))
  | v, .tup vs, h, hc => by
    rw [outV, Option.map_eq_some_iff] at hc
    obtain ⟨a, h1, h2⟩ := hc
    cases h2
    cases h with
    | tup c k1 k2 k3 => exact .tup c k1 k2 (VRep.outs k3 h1)
  | v, .any, h, _ => .any
theorem VRep.outs {σ : Sto} {S : AStore} {ι : AHnd} : ∀ {vs : List AV} {c : Nat → Value}, (∀ j b, vs[j]? = some b → VRep σ S ι (c j) b) → outVs noS vs = some vs → ∀ j b, vs[j]? = some b → VRep σ noS noH (c j) b
  | [], c, h, _, j, b, hb => by simp at hb
  | x :: xs, c, h, hc, j, b, hb => by
    rw [outVs] at hc
    split at hc
    · rename_i y ys h1 h2
      simp only [Option.some.injEq, List.cons.injEq] at hc
      obtain ⟨rfl, rfl⟩ := hc
      cases j with
      | zero =>
        simp at hb
        subst hb
        exact VRep.out (h 0 _ rfl) h1
      | succ j => exact VRep.outs (c := fun j => c (j + 1)) (fun j b hb => h (j + 1) b (by simpa using hb)) h2 j b (by simpa using hb)
    · cases hc
end
theorem ACalls.toS {P : Program} {f : FuncId} {xs : List AV} {S : AStore} {r : AV} (h : ACalls P f xs r) (hx : outVs noS xs = some xs) : ACallsS P f xs S r S := by
  intro hclean σ w vs ι hglob hfit hown hvs
  have hvs' : All2 (VRep σ noS noH) vs xs := All2.of_get hvs.len fun j v x hv hxj => by
    have := VRep.outs (c := fun j => (vs[j]?).getD undef) (σ := σ) (S := S) (ι := ι) (vs := xs) (fun j b hb => by
      obtain ⟨v', h1, h2⟩ := hvs.get hb
      rw [h1]
      exact h2) hx j x hxj
    rw [hv] at this
    exact this
  refine (h σ w vs hglob hfit hvs').mono fun e w' he => ?_
  obtain ⟨v, σ', he1, he2, hf, hext, hb⟩ := he
  have hlt : ∀ id b g, S id = some b → (ι id).g = some g → g < w.heap.size := fun id b g h1 h2 => (hown.1 id b h1).gsome h2
  refine ⟨v, σ', ι, he1, hclean, Upd.refl _ _, ⟨fun id b hid => (hown.1 id b hid).mono hext.keep (Upd.refl _ _) (fun g hg => hb.block g (hlt id b g hid hg)) (fun g hg p hp => hext.old p (by have := hlt id b g hid hg; omega)), hown.2⟩,
    noS_upd (s := ⟨fun _ => .any, S⟩) he2, hf, hext.keep, fun p hp _ => hext.old p hp, ⟨hb.os, hb.tape, hb.output⟩, hb.size, fun g hg _ => hb.block g hg, fun id b g h1 h2 => .inr fun hn => hn id b h1 h2⟩

/-- The results of a call are read, what is its own is forgotten. -/
theorem finS_low {C : Ctx} {rs : List RV} {r : AV} {S' : AStore} {e : AX} {s : AS} (he : match e with | .normal => True | .ret => True | _ => False) (r0 : AV) (h1 : (resAll s rs).map tupV = some r0) (h2 : outV s.S r0 = some r) (hb : ∀ i b, 1000 ≤ i → s.S i = some b → b.high = true) (h3 : lowS s.S = S') (hc : Clean S') : FinS C rs r S' e s := by
  refine ⟨he, s, ⟨fun i => (s.env i).low, lowS s.S⟩, r0, Ghost.refl _ _, h1, fun σ ι a w R => ?_, h3, hc⟩
  exact ⟨σ, ι, R.low hb, fun v hv => noS_upd (s := ⟨fun i => (s.env i).low, lowS s.S⟩) (R.outV hv h2)⟩
/-- The end of a call whose results are told as they stand. -/
theorem finS_high {C : Ctx} {rs : List RV} {r : AV} {S' : AStore} {e : AX} {s : AS} (he : match e with | .normal => True | .ret => True | _ => False) (h1 : (resAll s rs).map tupV = some r) (hh : r.high = true) (hb : ∀ i b, 1000 ≤ i → s.S i = some b → b.high = true) (h3 : lowS s.S = S') (hc : Clean S') : FinS C rs r S' e s :=
  ⟨he, s, ⟨fun i => (s.env i).low, lowS s.S⟩, r, Ghost.refl _ _, h1, fun σ ι a w R => ⟨σ, ι, R.low hb, fun v hv => hv.low (fun i b hi hS => by
    show lowS s.S i = some b
    unfold lowS
    rw [if_neg (by omega)]
    exact hS) hh⟩, h3, hc⟩
theorem finS_same {C : Ctx} {rs : List RV} {r : AV} {e : AX} {s : AS} {S : AStore} (r0 : AV) (hS : Clean S) (he : match e with | .normal => True | .ret => True | _ => False)
    (h1 : (resAll s rs).map tupV = some r0) (h2 : outV s.S r0 = some r) (h4 : ∀ i, 1000 ≤ i → s.S i = S i) : FinS C rs r S e s :=
  finS_low he r0 h1 h2 (fun i b hi hb => (hS i b (by rw [← h4 i hi]; exact hb)).2) (by
    funext i
    unfold lowS
    split
    · exact (clean_none hS (by omega)).symm
    · exact h4 i (by omega)) hS
/-- The end of a call that hands over a new row. -/
theorem finN {C : Ctx} {rs : List RV} {e : AX} {s : AS} {ty : TypeId} {w n : Nat} {ys : List (List SV)} {mu : Bool} (he : match e with | .normal => True | .ret => True | _ => False) (id : Nat) (hid : id < 1000) (hb0 : s.S id = some (rowB mu ty w ys)) (hlow : ∀ i, 1000 ≤ i → s.S i = none)
    (h1 : (resAll s rs).map tupV = some (.one (.row id n))) : FinS C rs (.one (.row 1000 n)) (fun i => if i = 1000 then some (rowB mu ty w ys) else noS i) e s := by
  have e1 : (AV.one (.row id n)).ren (oneTo id 1000) = .one (.row 1000 n) := by simp [AV.ren, AC.ren, oneTo]
  rw [← e1]
  refine finS_hand he id 1000 _ hid (by decide) (hlow 1000 (by decide)) hb0 (by cases mu <;> rfl) (fun i b hi hb => by rw [hlow i hi] at hb; cases hb) h1 (by rw [e1]; rfl) ?_ ?_
  · funext i
    unfold updE lowS noS
    by_cases h2 : i = 1000
    · rw [if_pos h2, if_pos h2]
    · rw [if_neg h2, if_neg h2]
      split
      · rfl
      · exact hlow i (by omega)
  · intro i b hb
    have hb : (if i = 1000 then some (rowB mu ty w ys) else noS i) = some b := hb
    split at hb
    · rename_i h2
      cases hb
      exact ⟨by omega, by cases mu <;> rfl⟩
    · cases hb
end Go.Proofs.Ytkekmeiiikkabaa

namespace Go.Proofs.Ytkekmeiiikkabaa
open Go Go.RowKit
set_option linter.unusedVariables false
open Cod (wid dat)

/-! ### terms -/
inductive Tm where
  | mk (name : ByteArray) (args : List Tm)
def Tm.name : Tm → ByteArray | .mk n _ => n
def Tm.args : Tm → List Tm | .mk _ xs => xs
theorem Tm.eta (t : Tm) : Tm.mk t.name t.args = t := by cases t; rfl
mutual
def Tm.dat : Tm → Dat
  | .mk n xs => .agg [.str n, .row 2 (Tm.dats xs)]
def Tm.dats : List Tm → List Dat
  | [] => []
  | t :: ts => t.dat :: Tm.dats ts
end
theorem Tm.dats_eq : ∀ xs : List Tm, Tm.dats xs = xs.map Tm.dat
  | [] => rfl
  | t :: ts => by rw [Tm.dats, Tm.dats_eq ts]; rfl
theorem Tm.dat_is {σ : Sto} {n : ByteArray} {xs : List Tm} {cs : List Value} (h : (Tm.dat (.mk n xs)).Is σ cs) :
    ∃ p len cap, cs = [.string n, .slice p len cap] ∧ n.size ≤ maxLen ∧ len = xs.length ∧ len ≤ cap ∧ cap ≤ maxLen ∧ (p = none → cap = 0) ∧ ∃ b o, (len ≠ 0 → p = some ⟨b, o, none⟩) ∧ Dat.RowIs σ 2 (xs.map Tm.dat) b o := by
  rw [Tm.dat, Tm.dats_eq] at h
  obtain ⟨x, y, rfl, ⟨rfl, hn⟩, x', y', rfl, ⟨p, len, cap, rfl, hl, r⟩, rfl⟩ := h
  exact ⟨p, len, cap, rfl, hn, by simpa using hl, r⟩
instance : Cod Tm := ⟨2, Tm.dat, fun σ t cs h => by
  cases t
  obtain ⟨p, len, cap, rfl, _⟩ := Tm.dat_is h
  rfl⟩
/-- The value v is the term t. -/
def TmV (σ : Sto) (v : Value) (t : Tm) : Prop := ∃ p len cap, v = .agg #[.string t.name, .slice p len cap] ∧ t.name.size ≤ maxLen ∧ Slc σ p len cap t.args
theorem TmV.ext {σ σ' : Sto} {N : Nat} {v : Value} {t : Tm} (h : TmV σ v t) (he : Ext N σ σ') : TmV σ' v t := by
  obtain ⟨p, len, cap, h1, h2, h3⟩ := h
  exact ⟨p, len, cap, h1, h2, h3.ext he⟩
/-! ### strings and numbers in slices -/
theorem Slc.str {σ : Sto} {p : Option Addr} {len cap : Nat} {xs : List ByteArray} (h : Slc σ p len cap xs) (k : Nat) (hk : k < len) :
    ∃ b o a, p = some ⟨b, o, none⟩ ∧ Hid (xs[k]? = some a) ∧ σ ⟨b, o + k, none⟩ = some (.string a) ∧ a.size ≤ maxLen := by
  have hl := h.length
  obtain ⟨b, o, hp, cs, h1, h2, h3⟩ := h.get k (by omega)
  obtain ⟨rfl, h4⟩ := cells_str.1 h3
  have := h2 0 _ rfl
  exact ⟨b, o, xs[k], hp, Lib.hid (List.getElem?_eq_getElem (by omega)), by simpa [Cod.wid] using this, h4⟩
theorem wf_bounds {n : Int} (h : (Lit.int .i64 n).wf = true) : -9223372036854775808 ≤ n ∧ n ≤ 9223372036854775807 := by
  simpa [Lit.wf, IntKind.min, IntKind.max, IntKind.signed, IntKind.bits] using h
theorem Slc.int {σ : Sto} {p : Option Addr} {len cap : Nat} {xs : List Int} (h : Slc σ p len cap xs) (k : Nat) (hk : k < len) :
    ∃ b o a, p = some ⟨b, o, none⟩ ∧ Hid (xs[k]? = some a) ∧ σ ⟨b, o + k, none⟩ = some (.int .i64 a) ∧ -9223372036854775808 ≤ a ∧ a ≤ 9223372036854775807 := by
  have hl := h.length
  obtain ⟨b, o, hp, cs, h1, h2, h3⟩ := h.get k (by omega)
  obtain ⟨rfl, h4⟩ := cells_int.1 h3
  have := h2 0 _ rfl
  exact ⟨b, o, xs[k], hp, Lib.hid (List.getElem?_eq_getElem (by omega)), by simpa [Cod.wid] using this, wf_bounds h4⟩
theorem take_snoc {α : Type} {xs : List α} {k : Nat} {a : α} (h : xs[k]? = some a) : xs.take (k + 1) = xs.take k ++ [a] := by
  rw [List.take_add_one, h]; rfl
theorem lt_of_get {α : Type} {xs : List α} {k : Nat} {a : α} (h : xs[k]? = some a) : k < xs.length := by
  rcases Nat.lt_or_ge k xs.length with h' | h'
  · exact h'
  · rw [List.getElem?_eq_none h'] at h; cases h
theorem mem_of_get {α : Type} {xs : List α} {k : Nat} {a : α} (h : xs[k]? = some a) : a ∈ xs := List.mem_of_getElem? h
theorem Tm.lt_of_mem {a : Tm} {n : ByteArray} {xs : List Tm} (h : a ∈ xs) : SizeOf.sizeOf a < SizeOf.sizeOf (Tm.mk n xs) := by
  have := List.sizeOf_lt_of_mem h
  simp only [Tm.mk.sizeOf_spec]
  omega
end Go.Proofs.Ytkekmeiiikkabaa

namespace Go.Proofs.Ytkekmeiiikkabaa
open Go Go.RowKit
set_option linter.unusedVariables false
/-- A guard, or a choice, as a test: what is not reached is not looked at. -/
theorem guard_ite (c P Q : Prop) [Decidable c] : ((c → P) ∧ (¬ c → Q)) = if c then P else Q := by
  by_cases h : c <;> simp [h]
theorem ite_conj {c A B : Prop} [Decidable c] (h : (c → A) ∧ (¬ c → B)) : if c then A else B := by
  by_cases hc : c
  · rw [if_pos hc]; exact h.1 hc
  · rw [if_neg hc]; exact h.2 hc
theorem pick_ite (b : Bool) (P Q : Prop) : ((b = true → P) ∧ (b = false → Q)) = if b = true then P else Q := by
  cases b <;> simp
attribute [congr] CallK.congr CallSK.congr
mutual
def encT : Tm → List SV
  | .mk n xs => [.str n, .list (encTs xs)]
def encTs : List Tm → List (List SV)
  | [] => []
  | t :: ts => encT t :: encTs ts
end
theorem encTs_eq : ∀ xs : List Tm, encTs xs = xs.map encT
  | [] => rfl
  | t :: ts => by rw [encTs, encTs_eq ts]; rfl
theorem encT_eq (t : Tm) : encT t = [.str t.name, .list (t.args.map encT)] := by
  cases t
  rw [encT, encTs_eq]
  rfl
theorem len_encT (t : Tm) : (encT t).length = 2 := by rw [encT_eq]; rfl
theorem lens_encT {ts : List Tm} : ∀ x ∈ ts.map encT, x.length = 2 := by
  intro x hx
  obtain ⟨a, _, rfl⟩ := List.mem_map.1 hx
  exact len_encT a
theorem Tm.args_mk (n : ByteArray) (xs : List Tm) : (Tm.mk n xs).args = xs := rfl
theorem Tm.name_mk (n : ByteArray) (xs : List Tm) : (Tm.mk n xs).name = n := rfl
abbrev aInt (n : Int) : AV := .one (.st (.int .i64 n))
abbrev aBool (b : Bool) : AV := .one (.st (.bool b))
abbrev aStr (s : ByteArray) : AV := .one (.st (.str s))
abbrev aTm (t : Tm) : AV := .agg [.st (.str t.name), .st (.list (t.args.map encT))]
abbrev encI (n : Int) : List SV := [.int .i64 n]
abbrev encS (s : ByteArray) : List SV := [.str s]
abbrev encIs (p : List Int) : List SV := [.list (p.map encI)]
abbrev aIss (l : List (List Int)) : AV := .one (.st (.list (l.map encIs)))
abbrev aInts (l : List Int) : AV := .one (.st (.list (l.map encI)))
abbrev aStrs (l : List ByteArray) : AV := .one (.st (.list (l.map encS)))
abbrev aTms (l : List Tm) : AV := .one (.st (.list (l.map encT)))
theorem get_lt {α : Type} {xs : List α} {k : Nat} (h : k < xs.length) : ∃ a, xs[k]? = some a := ⟨xs[k], List.getElem?_eq_getElem h⟩
theorem inR_i64 (n : Int) : inR .i64 n ↔ -9223372036854775808 ≤ n ∧ n ≤ 9223372036854775807 := by
  simp [inR, IntKind.min, IntKind.max, IntKind.signed, IntKind.bits]
theorem maxLen_eq : maxLen = 9223372036854775807 := by simp [maxLen]
theorem known_len {S : AStore} {xs : List (List SV)} (h : (AV.one (.st (.list xs))).known S) : xs.length ≤ 9223372036854775807 := by
  simp only [AV.known, AC.known, SV.known] at h
  rw [maxLen_eq] at h
  exact h.1
theorem known_tm {S : AStore} {t : Tm} (h : (aTm t).known S) : t.name.size ≤ 9223372036854775807 ∧ t.args.length ≤ 9223372036854775807 := by
  have h1 : t.name.size ≤ maxLen := by
    have := h (.st (.str t.name)) (by simp)
    simpa [AC.known, SV.known] using this
  have h2 : t.args.length ≤ maxLen := by
    have := h (.st (.list (t.args.map encT))) (by simp)
    simp only [AC.known, SV.known, List.length_map] at this
    exact this.1
  rw [maxLen_eq] at h1 h2
  exact ⟨h1, h2⟩
end Go.Proofs.Ytkekmeiiikkabaa

namespace Go.Proofs.Ytkekmeiiikkabaa
open Go Go.RowKit
set_option linter.unusedVariables false

def Kd.isCall : Kd → Bool
  | .call _ _ => true
  | .callS _ _ => true
  | .callV _ _ => true
  | .callN _ _ => true
  | .callR _ _ => true
  | .callW _ _ => true
  | .buildFlat _ => false
  | .cutP _ _ _ => false
  | .indexP _ _ _ => false
  | .appP _ _ _ _ _ => false
  | .restP _ _ _ => false
  | .clearP _ _ _ _ => false
  | .mov _ => false
  | .pick _ _ _ => false
  | .alloc _ _ => false
  | .box _ _ => false
  | .build _ _ => false
  | .buildSlice _ _ _ _ => false
  | .load _ _ _ => false
  | .store _ _ _ => false
  | .fieldAddr _ _ => false
  | .field _ _ _ _ => false
  | .indexAddr _ _ _ => false
  | .indexArr _ _ _ _ => false
  | .indexStr _ _ => false
  | .bin _ _ _ => false
  | .eqB _ _ _ => false
  | .eqN _ _ => false
  | .eqE _ _ => false
  | .never => false
  | .pan _ => false
  | .iface _ _ => false
  | .strOf _ => false
  | .un _ _ => false
  | .sliceS _ _ _ => false
  | .sliceL _ _ _ _ => false
  | .extract _ _ => false
  | .len _ _ => false
  | .append _ _ _ _ _ _ => false
  | .conv _ _ => false
  | .nilCheck _ => false
  | .mm _ _ _ => false
  | .makeSlice _ _ _ _ _ _ => false
  | .makeFunc _ _ => false
  | .makeMap _ => false
  | .lookup _ _ _ _ _ => false
  | .mapSet _ _ _ _ => false
  | .mapEntry _ _ _ _ => false
  | .entrySet _ _ _ => false
  | .rangeM _ => false
  | .next _ => false
  | .entry _ => false
  | .lenM _ => false
  | .buildArr _ => false
  | .makeMemo => false
  | .memoGet _ _ _ _ => false
  | .memoSet _ _ _ => false
/-- A call stands ahead; then the operations l. -/
inductive CallG (P : Program) (f : FuncId) (vs : List AV) (d : Option Nat) (l : List Ins) (s : AS) (K : AS → Prop) : Prop
  | mk (r : AV) (h1 : ACalls P f vs r) (h2 : Run P l (s.put d r) K)
inductive CallSG (P : Program) (f : FuncId) (vs : List AV) (S : AStore) (ks : List Nat) (d : Option Nat) (l : List Ins) (env : Nat → AV) (K : AS → Prop) : Prop
  | mk (r : AV) (S' : AStore) (h1 : ACallsS P f vs (upS S) r S') (h2 : (∀ k ∈ ks, dnS S' k = S k) ∧ Run P l ((⟨env, dnS S'⟩ : AS).put d (r.ren dn1)) K)
inductive CallNG (P : Program) (f : FuncId) (vs : List AV) (ks : List Nat) (d : Option Nat) (l : List Ins) (s : AS) (K : AS → Prop) : Prop
  | mk (mu : Bool) (e : TypeId) (w : Nat) (ys : List (List SV)) (h1 : ACallsN P f vs e w ys mu) (h2 : s.S (d.getD 0) = none ∧ (∀ k ∈ ks, (s.set (d.getD 0) (rowB mu e w ys)).S k = s.S k) ∧ Run P l ((s.set (d.getD 0) (rowB mu e w ys)).put d (.one (.row (d.getD 0) ys.length))) K)
inductive CallRG (P : Program) (f : FuncId) (vs : List AV) (d : Option Nat) (l : List Ins) (s : AS) (K : AS → Prop) : Prop
  | mk (r : AV) (rows : List (Nat × ABlk)) (h0 : ∀ q ∈ rows, s.S q.1 = some q.2) (h1 : ∀ T : AStore, (∀ q ∈ rows, T q.1 = some q.2) → ACallsS P f vs (upS T) r (upS T)) (h2 : Run P l (s.put d (r.ren dn1)) K)
inductive CallWG (P : Program) (f : FuncId) (vs : List AV) (ks : List Nat) (d : Option Nat) (l : List Ins) (s : AS) (K : AS → Prop) : Prop
  | mk (r : AV) (rows : List (Nat × ABlk × ABlk)) (h0 : holdS s.S rows) (h1 : ∀ T : AStore, holdS T rows → ACallsS P f vs (upS T) r (upS (turnS T rows))) (h2 : (∀ k ∈ ks, turnS s.S rows k = s.S k) ∧ Run P l ((⟨s.env, turnS s.S rows⟩ : AS).put d (r.ren dn1)) K)
def Kd.goC (P : Program) (d : Option Nat) (s : AS) (t : Tag) (l : List Ins) (K : AS → Prop) : Kd → Prop
  | .call f xs => match t with
    | .no => match outVs s.S (s.evs xs) with
      | some vs => CallG P f vs d l s K
      | none => False
    | _ => False
  | .callR f xs => match t with
    | .no => CallRG P f (AV.rens up1 (s.evs xs)) d l s K
    | _ => False
  | .callW f xs => match t with
    | .no => CallWG P f (AV.rens up1 (s.evs xs)) [] d l s K
    | .keeps ks => CallWG P f (AV.rens up1 (s.evs xs)) ks d l s K
    | .onb _ => False
  | .callN f xs => match t with
    | .no => match outVs s.S (s.evs xs) with
      | some vs => CallNG P f vs [] d l s K
      | none => False
    | .keeps ks => match outVs s.S (s.evs xs) with
      | some vs => CallNG P f vs ks d l s K
      | none => False
    | .onb _ => False
  | .callS f xs => match t with
    | .no => CallSG P f (AV.rens up1 (s.evs xs)) s.S [] d l s.env K
    | .keeps ks => CallSG P f (AV.rens up1 (s.evs xs)) s.S ks d l s.env K
    | .onb _ => False
  | .callV f xs => match s.ev f with
    | .one (.fn g caps) => plainF P g = true ∧ match t with
      | .no => CallSG P g (AV.rens up1 (s.evs xs ++ caps.map .one)) s.S [] d l s.env K
      | .keeps ks => CallSG P g (AV.rens up1 (s.evs xs ++ caps.map .one)) s.S ks d l s.env K
      | .onb _ => False
    | _ => False
  | _ => False
/-- Run, stopped at calls. -/
def Run2 (P : Program) : List Ins → AS → (AS → Prop) → Prop
  | [], s, K => K s
  | i :: l, s, K => match i.kd.isCall with
    | false => match i.guard with
      | none => i.kd.goT P (i.dst.getD 0) s i.tag fun v s' => Run2 P l (s'.put i.dst v) K
      | some (g, want) => match s.env g with
        | .one (.st (.bool b)) => (b = want → i.kd.goT P (i.dst.getD 0) s i.tag fun v s' => Run2 P l (s'.put i.dst v) K) ∧ (¬ b = want → Run2 P l (s.put i.dst (.tup [])) K)
        | .tup [] => Run2 P l (s.put i.dst (.tup [])) K
        | _ => False
    | true => match i.guard with
      | none => i.kd.goC P i.dst s i.tag l K
      | some (g, want) => match s.env g with
        | .one (.st (.bool b)) => (b = want → i.kd.goC P i.dst s i.tag l K) ∧ (¬ b = want → Run2 P l (s.put i.dst (.tup [])) K)
        | .tup [] => Run2 P l (s.put i.dst (.tup [])) K
        | _ => False
section
variable {P : Program}
theorem goC_run {kd : Kd} {d : Option Nat} {s : AS} {t : Tag} {l : List Ins} {K : AS → Prop} (h : kd.goC P d s t l K) : kd.goT P (d.getD 0) s t fun v s' => Run P l (s'.put d v) K := by
  cases kd <;> simp only [Kd.goC] at h
  case call f xs =>
    cases t <;> simp only at h
    split at h
    · rename_i vs e
      obtain ⟨r, h1, h2⟩ := h
      simp only [Kd.goT, Kd.go, e]
      exact ⟨r, h1, trivial, h2⟩
    · exact h.elim
  case callN f xs =>
    cases t <;> simp only at h
    · split at h
      · rename_i vs e
        obtain ⟨mu, ty, w, ys, h1, h2, _, h3⟩ := h
        simp only [Kd.goT, Kd.go, e]
        exact ⟨mu, ty, w, ys, h1, h2, trivial, h3⟩
      · exact h.elim
    · split at h
      · rename_i vs e
        obtain ⟨mu, ty, w, ys, h1, h2, h4, h3⟩ := h
        simp only [Kd.goT, Kd.go, e]
        exact ⟨mu, ty, w, ys, h1, h2, h4, h3⟩
      · exact h.elim
  case callW f xs =>
    cases t <;> simp only at h
    · obtain ⟨r, rows, h0, h1, _, h2⟩ := h
      simp only [Kd.goT, Kd.go]
      exact ⟨r, rows, h0, h1, trivial, h2⟩
    · obtain ⟨r, rows, h0, h1, hk, h2⟩ := h
      simp only [Kd.goT, Kd.go]
      exact ⟨r, rows, h0, h1, hk, h2⟩
  case callR f xs =>
    cases t <;> simp only at h
    obtain ⟨r, rows, h0, h1, h2⟩ := h
    simp only [Kd.goT, Kd.go]
    exact ⟨r, rows, h0, h1, trivial, h2⟩
  case callS f xs =>
    cases t <;> simp only at h
    · obtain ⟨r, S', h1, h2, h3⟩ := h
      exact ⟨r, S', h1, trivial, h3⟩
    · obtain ⟨r, S', h1, h2, h3⟩ := h
      exact ⟨r, S', h1, h2, h3⟩
  case callV f xs =>
    split at h
    · rename_i g caps e
      obtain ⟨hp, h⟩ := h
      cases t <;> simp only at h
      · obtain ⟨r, S', h1, h2, h3⟩ := h
        simp only [Kd.goT, Kd.go, e]
        exact ⟨hp, r, S', h1, trivial, h3⟩
      · obtain ⟨r, S', h1, h2, h3⟩ := h
        simp only [Kd.goT, Kd.go, e]
        exact ⟨hp, r, S', h1, h2, h3⟩
    · exact h.elim
theorem run2_run : ∀ {l : List Ins} {s : AS} {K : AS → Prop}, Run2 P l s K → Run P l s K
  | [], s, K, h => h
  | i :: l, s, K, h => by
    unfold Run2 at h
    unfold Run
    split at h
    · split at h
      · rename_i e
        simp only [e]
        exact goT_mono h fun v s' _ h' => run2_run h'
      · rename_i g want e
        simp only [e]
        split at h
        · rename_i b e2
          simp only [e2]
          exact ⟨fun hb => goT_mono (h.1 hb) fun v s' _ h' => run2_run h', fun hb => run2_run (h.2 hb)⟩
        · rename_i e2
          simp only [e2]
          exact run2_run h
        · exact h.elim
    · split at h
      · rename_i e
        simp only [e]
        exact goC_run h
      · rename_i g want e
        simp only [e]
        split at h
        · rename_i b e2
          simp only [e2]
          exact ⟨fun hb => goC_run (h.1 hb), fun hb => run2_run (h.2 hb)⟩
        · rename_i e2
          simp only [e2]
          exact run2_run h
        · exact h.elim
theorem keep_run2 {l : List Ins} {s : AS} {K : AS → Prop} {A : Prop} (h : A ∧ Run2 P l s K) : A ∧ Run P l s K := ⟨h.1, run2_run h.2⟩
theorem IWP.ops2 {C : Ctx} {mu : List Nat} {Q : AX → AS → Prop} {s : AS} {l : List Ins} (h : ∀ K : AS → Prop, (∀ s, Q .normal s → K s) → Run2 P l s K) : IWP P C mu (.ops l) Q s := IWP.opsK fun K hK => run2_run (h K hK)
end
-- the walk's own equations
attribute [go_sem] rowB turnS Run2 Kd.isCall Kd.goC Kd.goT Tag.ok Kd.ptrOpd ptrIs List.forall_mem_cons List.not_mem_nil Kd.go AS.ev AS.evs AS.put AS.set updE AV.cells fills elems stC stCs outC outCs outV outVs flats blkCells idxK listOf cutOf lenOfA binI binS optI pack splice ABlk.len AS.start AS.startS noS List.getElem?_cons_zero List.getElem?_cons_succ List.getElem?_nil List.getElem?_map Option.isSome_none Option.isSome_some Option.map_some Option.map_none Option.getD_some Option.getD_none List.length_map List.length_cons List.length_nil List.length_append List.map_cons List.map_nil List.take_succ_cons List.take_zero List.take_nil List.drop_succ_cons List.drop_zero List.drop_nil List.nil_append List.cons_append List.append_nil Nat.zero_add Nat.add_zero Nat.le_refl Nat.zero_le if_true if_false Bool.false_eq_true true_and and_true Option.some.injEq Int.toNat_natCast Int.natCast_nonneg Int.ofNat_eq_natCast ite_self decide_true decide_false not_true_eq_false not_false_eq_true true_implies false_implies implies_true Bool.true_eq_false eq_self Bool.not_true Bool.not_false beq_self_eq_true Tm.args_mk Tm.name_mk AV.rens AV.ren AC.ren AC.rens ABlk.ren upS_up dn_up dnS_upd dn_upS

/-! short names for the rules -/
abbrev Wa := @IWP.seq
abbrev Wb := @seqQ_normal
abbrev Wc := @IWP.block
abbrev Wd := @IWP.skip
abbrev We := @IWP.exit
abbrev Wf := @IWP.ret
abbrev Wg := @seqQ_exit
abbrev Wh := @seqQ_ret
abbrev Wi := @inBlock_normal
abbrev Wj := @inBlock_here
abbrev Wk := @inBlock_away
abbrev Wl := @inBlock_ret
abbrev Wm := @then_exit
abbrev Wn := @then_ret
abbrev Wo := @IWP.ops2
abbrev Wp := @IWP.cond
abbrev Wq := @run2_run
abbrev Wr := @keep_run2

/-- All own blocks are forgotten; what stays is known. -/
theorem IWP.fresh {P : Program} {C : Ctx} {mu : List Nat} {x : IR} {Q : AX → AS → Prop} {s : AS} (h1000 : ∀ i, 1000 ≤ i → s.S i = none) (h : ∀ env' : Nat → AV, (∀ i v, s.env i = .one (.st v) → env' i = .one (.st v)) → IWP P C mu x Q ⟨env', noS⟩) : IWP P C mu x Q s := by
  refine IWP.ghost (Ghost.low (s := s) fun i b hi hb => by rw [h1000 i hi] at hb; cases hb) ?_
  have e : lowS s.S = noS := by
    funext i
    show (if i < 1000 then none else s.S i) = none
    split
    · rfl
    · exact h1000 i (by omega)
  rw [e]
  exact h _ fun i v hv => by rw [hv]; rfl
/-- What must hold between two pieces of code. -/
theorem IWP.mid {P : Program} {C : Ctx} {mu : List Nat} {x y : IR} {Q : AX → AS → Prop} {s : AS} (M : AS → Prop) (h1 : IWP P C mu x (fun e s => e = .normal ∧ M s) s) (h2 : ∀ s, M s → IWP P C mu y Q s) : IWP P C mu (x.seq y) Q s :=
  IWP.seq (h1.mono fun e s ⟨he, hm⟩ => by subst he; exact seqQ_normal (h2 s hm))
end Go.Proofs.Ytkekmeiiikkabaa

namespace Go.Proofs.Ytkekmeiiikkabaa
open Go Go.RowKit
set_option linter.unusedVariables false

def letterI (n : Int) : Bool := decide (97 ≤ n ∧ n ≤ 122) || decide (65 ≤ n ∧ n ≤ 90) || decide (48 ≤ n ∧ n ≤ 57)
def byteAt (s : ByteArray) (k : Nat) : Int := ((s.data.toList.getD k 0).toNat : Int)
theorem byteAt_range (s : ByteArray) (k : Nat) : 0 ≤ byteAt s k ∧ byteAt s k ≤ 255 := by
  unfold byteAt
  have := (s.data.toList.getD k 0).toNat_lt
  omega
def isVar (s : ByteArray) : Bool := decide (0 < s.size) && decide (65 ≤ byteAt s 0) && decide (byteAt s 0 ≤ 90)
def lettersTo (s : ByteArray) (k : Nat) : Bool := (s.data.toList.take k).all fun c => letterI c.toNat
def nameOk (s : ByteArray) : Bool := decide (1 ≤ s.size) && decide (s.size ≤ 8) && !(decide (48 ≤ byteAt s 0) && decide (byteAt s 0 ≤ 57)) && lettersTo s s.size
theorem lettersTo_succ (s : ByteArray) (k : Nat) (h : k < s.size) : lettersTo s (k + 1) = (lettersTo s k && letterI (byteAt s k)) := by
  unfold lettersTo byteAt
  have h2 : k < s.data.toList.length := by simpa using h
  rw [List.take_add_one, List.getD_eq_getElem?_getD, List.getElem?_eq_getElem h2]
  simp
theorem lettersTo_no (s : ByteArray) (k : Nat) (h : k < s.size) (hn : letterI (byteAt s k) = false) : lettersTo s s.size = false := by
  unfold lettersTo byteAt at *
  have h2 : k < s.data.toList.length := by simpa using h
  rw [List.getD_eq_getElem?_getD, List.getElem?_eq_getElem h2] at hn
  rw [List.all_eq_false]
  refine ⟨s.data.toList[k], ?_, by simpa using hn⟩
  rw [List.take_of_length_le (by simp)]
  exact List.getElem_mem h2
mutual
def Tm.size : Tm → Nat
  | .mk _ xs => 1 + Tm.sizes xs
def Tm.sizes : List Tm → Nat
  | [] => 0
  | t :: ts => t.size + Tm.sizes ts
end
theorem Tm.sizes_append (xs ys : List Tm) : Tm.sizes (xs ++ ys) = Tm.sizes xs + Tm.sizes ys := by
  induction xs with
  | nil => simp [Tm.sizes]
  | cons t ts ih => simp only [List.cons_append, Tm.sizes, ih]; omega
theorem Tm.sizes_take {xs : List Tm} {k : Nat} {a : Tm} (h : xs[k]? = some a) : Tm.sizes (xs.take (k+1)) = Tm.sizes (xs.take k) + a.size := by
  rw [take_snoc h, Tm.sizes_append]; simp [Tm.sizes]
theorem Tm.sizes_take_le (xs : List Tm) (k : Nat)  : Tm.sizes (xs.take k) ≤ Tm.sizes xs := by
  have := Tm.sizes_append (xs.take k) (xs.drop k)
  rw [List.take_append_drop] at this
  omega
theorem Tm.size_eq (t : Tm) : t.size = 1 + Tm.sizes t.args := by cases t; rfl
theorem Tm.size_pos (t : Tm) : 1 ≤ t.size := by rw [Tm.size_eq]; omega
theorem Tm.size_mem {a : Tm} {xs : List Tm} (h : a ∈ xs) : a.size ≤ Tm.sizes xs := by
  induction xs with
  | nil => simp at h
  | cons t ts ih =>
    rcases List.mem_cons.1 h with rfl | h
    · simp only [Tm.sizes]; omega
    · have := ih h; simp only [Tm.sizes]; omega
theorem Tm.length_le (xs : List Tm) : xs.length ≤ Tm.sizes xs := by
  induction xs with
  | nil => simp [Tm.sizes]
  | cons t ts ih => have := Tm.size_pos t; simp only [Tm.sizes, List.length_cons]; omega
theorem Tm.lt_of_arg {a t : Tm} (h : a ∈ t.args) : SizeOf.sizeOf a < SizeOf.sizeOf t := by
  cases t
  exact Tm.lt_of_mem h
/-- m less s, but -1 at the least -/
def lessBy (s : Nat) (m : Int) : Int := if m < s then -1 else m - s
/-- s, but m + 1 at the most -/
def capTo (s : Nat) (m : Int) : Int := if m < s then m + 1 else s



mutual
def Tm.knots : Tm → List Tm
  | .mk n xs => .mk n xs :: Tm.knotsL xs
def Tm.knotsL : List Tm → List Tm
  | [] => []
  | t :: ts => t.knots ++ Tm.knotsL ts
end
theorem Tm.knots_eq (t : Tm) : t.knots = t :: Tm.knotsL t.args := by cases t; rfl
theorem Tm.knotsL_append (xs ys : List Tm) : Tm.knotsL (xs ++ ys) = Tm.knotsL xs ++ Tm.knotsL ys := by
  induction xs with
  | nil => simp [Tm.knotsL]
  | cons t ts ih => simp [Tm.knotsL, ih]
theorem Tm.knotsL_take {xs : List Tm} {k : Nat} {a : Tm} (h : xs[k]? = some a) : Tm.knotsL (xs.take (k+1)) = Tm.knotsL (xs.take k) ++ a.knots := by
  rw [take_snoc h, Tm.knotsL_append]; simp [Tm.knotsL]
mutual
theorem Tm.knots_length : ∀ t : Tm, t.knots.length = t.size
  | .mk n xs => by simp only [Tm.knots, Tm.size, List.length_cons, Tm.knotsL_length xs]; omega
theorem Tm.knotsL_length : ∀ xs : List Tm, (Tm.knotsL xs).length = Tm.sizes xs
  | [] => rfl
  | t :: ts => by simp only [Tm.knotsL, Tm.sizes, List.length_append, Tm.knots_length t, Tm.knotsL_length ts]
end


def chkOne (t : Tm) : Int := if nameOk t.name = true then (if isVar t.name = true ∧ 0 < t.args.length then 2 else 0) else 1
mutual
def Tm.chk : Tm → Int
  | .mk n xs => if chkOne (.mk n xs) = 0 then Tm.chkL xs else chkOne (.mk n xs)
def Tm.chkL : List Tm → Int
  | [] => 0
  | t :: ts => if t.chk = 0 then Tm.chkL ts else t.chk
end
def firstErr : List Tm → Int
  | [] => 0
  | t :: ts => if chkOne t = 0 then firstErr ts else chkOne t
theorem Tm.chk_eq (t : Tm) : t.chk = if chkOne t = 0 then Tm.chkL t.args else chkOne t := by cases t; rfl
theorem firstErr_append (xs ys : List Tm) : firstErr (xs ++ ys) = if firstErr xs = 0 then firstErr ys else firstErr xs := by
  induction xs with
  | nil => simp [firstErr]
  | cons t ts ih =>
    simp only [List.cons_append, firstErr]
    by_cases h : chkOne t = 0
    · simp only [h, if_true, ih]
    · simp only [h, if_false]
mutual
theorem Tm.firstErr_knots : ∀ t : Tm, firstErr t.knots = t.chk
  | .mk n xs => by
    simp only [Tm.knots, firstErr, Tm.chk]
    split
    · exact Tm.firstErr_knotsL xs
    · rfl
theorem Tm.firstErr_knotsL : ∀ xs : List Tm, firstErr (Tm.knotsL xs) = Tm.chkL xs
  | [] => rfl
  | t :: ts => by
    simp only [Tm.knotsL, firstErr_append, Tm.firstErr_knots t, Tm.firstErr_knotsL ts, Tm.chkL]
end
theorem Tm.chkL_append (xs ys : List Tm) : Tm.chkL (xs ++ ys) = if Tm.chkL xs = 0 then Tm.chkL ys else Tm.chkL xs := by
  induction xs with
  | nil => simp [Tm.chkL]
  | cons t ts ih =>
    simp only [List.cons_append, Tm.chkL]
    by_cases h : t.chk = 0
    · simp only [h, if_true, ih]
    · simp only [h, if_false]
theorem Tm.chkL_get {xs : List Tm} {k : Nat} {a : Tm} (h : xs[k]? = some a) (h0 : Tm.chkL (xs.take k) = 0) : (a.chk = 0 → Tm.chkL (xs.take (k+1)) = 0) ∧ (a.chk ≠ 0 → Tm.chkL xs = a.chk) := by
  constructor
  · intro ha
    rw [take_snoc h, Tm.chkL_append, if_pos h0]
    simp [Tm.chkL, ha]
  · intro ha
    rw [← List.take_append_drop k xs, Tm.chkL_append, if_pos h0]
    have hd : xs.drop k = a :: xs.drop (k+1) := by
      have hk := lt_of_get h
      rw [List.getElem?_eq_getElem hk] at h
      rw [List.drop_eq_getElem_cons hk]
      simp at h
      rw [h]
    rw [hd]
    simp [Tm.chkL, ha]
theorem firstErr_get {xs : List Tm} {k : Nat} {a : Tm} (h : xs[k]? = some a) (h0 : firstErr (xs.take k) = 0) : (chkOne a = 0 → firstErr (xs.take (k+1)) = 0) ∧ (chkOne a ≠ 0 → firstErr xs = chkOne a) := by
  constructor
  · intro ha
    rw [take_snoc h, firstErr_append, if_pos h0]
    simp [firstErr, ha]
  · intro ha
    rw [← List.take_append_drop k xs, firstErr_append, if_pos h0]
    have hd : xs.drop k = a :: xs.drop (k+1) := by
      have hk := lt_of_get h
      rw [List.getElem?_eq_getElem hk] at h
      rw [List.drop_eq_getElem_cons hk]
      simp at h
      rw [h]
    rw [hd]
    simp [firstErr, ha]
/-- may it be? 0: yes; else what is wrong. -/
def Tm.may (t : Tm) : Int := if 200 < t.size then 3 else t.chk
def isIn (x : ByteArray) (l : List ByteArray) : Bool := l.any fun y => decide (y = x)
theorem isIn_iff {x : ByteArray} {l : List ByteArray} : isIn x l = true ↔ x ∈ l := by simp [isIn]
theorem isIn_no {x : ByteArray} {l : List ByteArray} : isIn x l = false ↔ x ∉ l := by rw [← Bool.not_eq_true, isIn_iff]


/-- one name more, if it is a variable's and new -/
def addVar (l : List ByteArray) (n : ByteArray) : List ByteArray := if isVar n && !isIn n l then l ++ [n] else l
def addVars (l : List ByteArray) (ks : List Tm) : List ByteArray := ks.foldl (fun l t => addVar l t.name) l
def Tm.varsOf (t : Tm) : List ByteArray := addVars [] t.knots
theorem addVars_nil (l : List ByteArray) : addVars l [] = l := rfl
theorem addVars_snoc (l : List ByteArray) (ks : List Tm) (t : Tm) : addVars l (ks ++ [t]) = addVar (addVars l ks) t.name := by simp [addVars]
theorem addVars_append (l : List ByteArray) (ks ms : List Tm) : addVars l (ks ++ ms) = addVars (addVars l ks) ms := by simp [addVars]
theorem addVar_yes {l : List ByteArray} {n : ByteArray} (h : isVar n = true) (h' : isIn n l = false) : addVar l n = l ++ [n] := by simp [addVar, h, h']
theorem addVar_in {l : List ByteArray} {n : ByteArray} (h' : isIn n l = true) : addVar l n = l := by simp [addVar, h']
theorem addVar_no {l : List ByteArray} {n : ByteArray} (h : isVar n = false) : addVar l n = l := by simp [addVar, h]
theorem addVar_length (l : List ByteArray) (n : ByteArray) : (addVar l n).length ≤ l.length + 1 := by unfold addVar; split <;> simp
theorem addVars_length : ∀ (ks : List Tm) (l : List ByteArray), (addVars l ks).length ≤ l.length + ks.length
  | [], l => by simp [addVars_nil]
  | t :: ts, l => by
    have h1 := addVars_length ts (addVar l t.name)
    have h2 := addVar_length l t.name
    have h3 : addVars l (t :: ts) = addVars (addVar l t.name) ts := rfl
    rw [h3, List.length_cons]
    omega



mutual
def Tm.places : Tm → List (List Int)
  | .mk _ xs => [] :: Tm.placesFrom 0 xs
def Tm.placesFrom : Nat → List Tm → List (List Int)
  | _, [] => []
  | k, t :: ts => t.places.map (fun p => (k : Int) :: p) ++ Tm.placesFrom (k+1) ts
end
theorem Tm.places_eq (t : Tm) : t.places = [] :: Tm.placesFrom 0 t.args := by cases t; rfl
theorem Tm.placesFrom_snoc (a : Tm) : ∀ (k : Nat) (xs : List Tm), Tm.placesFrom k (xs ++ [a]) = Tm.placesFrom k xs ++ a.places.map (fun p => ((k + xs.length : Nat) : Int) :: p)
  | k, [] => by simp [Tm.placesFrom]
  | k, t :: ts => by
    rw [List.cons_append, Tm.placesFrom, Tm.placesFrom_snoc a (k+1) ts, Tm.placesFrom, List.length_cons, show k + 1 + ts.length = k + (ts.length + 1) by omega, List.append_assoc]
/-- the places ahead of those within the k-th argument -/
def Tm.placesTo (t : Tm) (k : Nat) : List (List Int) := [] :: Tm.placesFrom 0 (t.args.take k)
theorem Tm.placesTo_succ {t : Tm} {k : Nat} {a : Tm} (h : t.args[k]? = some a) : t.placesTo (k+1) = t.placesTo k ++ a.places.map (fun p => (k : Int) :: p) := by
  have hl := lt_of_get h
  unfold Tm.placesTo
  rw [take_snoc h, Tm.placesFrom_snoc, List.length_take, Nat.min_eq_left (by omega), Nat.zero_add, List.cons_append]
theorem Tm.placesTo_all {t : Tm} {k : Nat} (h : k = t.args.length) : t.placesTo k = t.places := by
  subst h
  rw [Tm.places_eq, Tm.placesTo, List.take_length]
mutual
theorem Tm.places_length : ∀ t : Tm, t.places.length = t.size
  | .mk n xs => by simp only [Tm.places, Tm.size, List.length_cons, Tm.placesFrom_length 0 xs]; omega
theorem Tm.placesFrom_length : ∀ (k : Nat) (xs : List Tm), (Tm.placesFrom k xs).length = Tm.sizes xs
  | _, [] => rfl
  | k, t :: ts => by simp only [Tm.placesFrom, Tm.sizes, List.length_append, List.length_map, Tm.places_length t, Tm.placesFrom_length (k+1) ts]
end
mutual
theorem Tm.places_deep : ∀ (t : Tm) (p : List Int), p ∈ t.places → p.length ≤ t.size
  | .mk n xs, p, h => by
    simp only [Tm.places, List.mem_cons] at h
    rcases h with rfl | h
    · simp
    · have := Tm.placesFrom_deep 0 xs p h
      simp only [Tm.size]
      omega
theorem Tm.placesFrom_deep : ∀ (k : Nat) (xs : List Tm) (p : List Int), p ∈ Tm.placesFrom k xs → p.length ≤ 1 + Tm.sizes xs
  | _, [], p, h => by simp [Tm.placesFrom] at h
  | k, t :: ts, p, h => by
    simp only [Tm.placesFrom, List.mem_append, List.mem_map] at h
    simp only [Tm.sizes]
    rcases h with ⟨q, hq, rfl⟩ | h
    · have := Tm.places_deep t q hq
      simp only [List.length_cons]
      omega
    · have := Tm.placesFrom_deep (k+1) ts p h
      omega
end
theorem Tm.placesTo_length (t : Tm) (k : Nat) : (t.placesTo k).length = 1 + Tm.sizes (t.args.take k) := by
  rw [Tm.placesTo, List.length_cons, Tm.placesFrom_length]; omega


theorem lessBy_step {s z : Nat} {m : Int} (h : 0 ≤ lessBy s m) : lessBy z (lessBy s m) = lessBy (s + z) m := by
  unfold lessBy at *
  split at h
  · omega
  · rename_i h1
    rw [if_neg h1]
    split <;> split <;> omega
theorem lessBy_neg {s z : Nat} {m : Int} (h : lessBy s m < 0) (hz : s ≤ z) : lessBy s m = lessBy z m := by
  unfold lessBy at *
  split at h
  · rw [if_pos (by assumption), if_pos (by omega)]
  · omega
theorem lessBy_le (s : Nat) (m : Int) (h : 0 ≤ m) : -1 ≤ lessBy s m ∧ lessBy s m ≤ m := by unfold lessBy; split <;> omega
theorem capTo_step {s z : Nat} {m : Int} (h : (s : Int) ≤ m) : (s : Int) + capTo z (m - s) = capTo (s + z) m := by
  unfold capTo
  split <;> split <;> omega
theorem capTo_over {s z : Nat} {m : Int} (h : m < capTo s m) (hz : s ≤ z) : capTo z m = m + 1 := by
  unfold capTo at *
  split at h <;> split <;> omega
theorem capTo_le (s : Nat) (m : Int) (h : 0 ≤ m) : 0 ≤ capTo s m ∧ capTo s m ≤ m + 1 := by unfold capTo; split <;> omega
theorem capTo_in {s : Nat} {m : Int} (h : ¬ m < capTo s m) : capTo s m = s ∧ (s : Int) ≤ m := by
  unfold capTo at *
  split at h
  · omega
  · rename_i h2
    rw [if_neg h2]
    omega
end Go.Proofs.Ytkekmeiiikkabaa
