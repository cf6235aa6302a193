/-
  Part 5 of the texts: AbsN; Data; AbsT; AbsU; AbsV; AbsX; IrRSteps; IrRVisit; PTermD; PTerm; PSubst; PSort. Conditions: none.
-/
import Derived.Test.YtipddfhkbkihnaaReS4
namespace Go.Proofs.Ytipddfhkbkihnaa
open Go Go.RowKit
set_option linter.unusedVariables false
set_option linter.unusedSimpArgs false
set_option maxHeartbeats 400000
mutual
def AC.clear (ds : List Nat) : AC → Bool
  | .row id _ => !ds.contains id
  | .part id _ _ => !ds.contains id
  | .rest id _ _ => !ds.contains id
  | .ptr id _ _ _ => !ds.contains id
  | .mptr id => !ds.contains id
  | .yld id => !ds.contains id
  | .ubool => true
  | .fn _ caps => AC.clears ds caps
  | .st _ => true
  | .full _ => true
  | .eptr _ => true
  | .any => true
def AC.clears (ds : List Nat) : List AC → Bool
  | [] => true
  | c :: cs => c.clear ds && AC.clears ds cs
end
theorem clears_mem {ds : List Nat} : ∀ {l : List AC}, AC.clears ds l = true → ∀ a ∈ l, a.clear ds = true
  | [], _, a, ha => by simp at ha
  | x :: xs, hx, a, ha => by
    rw [AC.clears, Bool.and_eq_true] at hx
    rcases List.mem_cons.1 ha with rfl | ha
    · exact hx.1
    · exact clears_mem hx.2 a ha
def AC.purge (ds : List Nat) : AC → AC
  | .row id n => if ds.contains id then .any else .row id n
  | .part id k n => if ds.contains id then .any else .part id k n
  | .rest id k n => if ds.contains id then .any else .rest id k n
  | .ptr id n k off => if ds.contains id then .any else .ptr id n k off
  | .mptr id => if ds.contains id then .any else .mptr id
  | .yld id => if ds.contains id then .any else .yld id
  | .fn f caps => if AC.clears ds caps then .fn f caps else .any
  | c => c
mutual
def AV.purge (ds : List Nat) : AV → AV
  | .one c => .one (c.purge ds)
  | .agg cs => .agg (cs.map (AC.purge ds))
  | .tup vs => .tup (AV.purges ds vs)
  | .any => .any
def AV.purges (ds : List Nat) : List AV → List AV
  | [] => []
  | v :: vs => v.purge ds :: AV.purges ds vs
end
def ABlk.purge (ds : List Nat) : ABlk → ABlk
  | .box e cs => .box e (cs.map (AC.purge ds))
  | .iter x n seen => .iter (x.purge ds) n seen
  | .loop env r => .loop (AV.purges ds env) r
  | b => b
def dropS (ds : List Nat) (S : AStore) : AStore := fun id => if ds.contains id then none else (S id).map (ABlk.purge ds)
def AS.drop (ds : List Nat) (s : AS) : AS := ⟨fun i => (s.env i).purge ds, dropS ds s.S⟩
theorem not_ds {ds : List Nat} (hds : ∀ d ∈ ds, d < 1000) {id : Nat} (h : 1000 ≤ id) : ds.contains id = false := by
  cases hc : ds.contains id with
  | false => rfl
  | true =>
    have := hds id (List.contains_iff_mem.1 hc)
    omega
mutual
theorem AC.clear_high {ds : List Nat} (hds : ∀ d ∈ ds, d < 1000) : ∀ {c : AC}, c.high = true → c.clear ds = true
  | .st _, _ => rfl
  | .full _, _ => rfl
  | .row id n, h => by
    rw [AC.high] at h
    rw [AC.clear, not_ds hds (of_decide_eq_true h)]
    rfl
  | .part id k n, h => by
    rw [AC.high] at h
    rw [AC.clear, not_ds hds (of_decide_eq_true h)]
    rfl
  | .rest id k n, h => by
    rw [AC.high] at h
    rw [AC.clear, not_ds hds (of_decide_eq_true h)]
    rfl
  | .ptr id n k off, h => by
    rw [AC.high] at h
    rw [AC.clear, not_ds hds (of_decide_eq_true h)]
    rfl
  | .mptr id, h => by
    rw [AC.high] at h
    rw [AC.clear, not_ds hds (of_decide_eq_true h)]
    rfl
  | .yld id, h => by
    rw [AC.high] at h
    rw [AC.clear, not_ds hds (of_decide_eq_true h)]
    rfl
  | .ubool, _ => rfl
  | .eptr _, _ => rfl
  | .fn f caps, h => by
    rw [AC.high] at h
    rw [AC.clear]
    exact AC.clears_highs hds h
  | .any, _ => rfl
theorem AC.clears_highs {ds : List Nat} (hds : ∀ d ∈ ds, d < 1000) : ∀ {cs : List AC}, AC.highs cs = true → AC.clears ds cs = true
  | [], _ => rfl
  | c :: cs, h => by
    rw [AC.highs, Bool.and_eq_true] at h
    rw [AC.clears, AC.clear_high hds h.1, AC.clears_highs hds h.2]
    rfl
end
theorem AC.purge_high {ds : List Nat} (hds : ∀ d ∈ ds, d < 1000) : ∀ {c : AC}, c.high = true → c.purge ds = c
  | .st _, _ => rfl
  | .full _, _ => rfl
  | .row id n, h => by
    rw [AC.high] at h
    simp only [AC.purge, not_ds hds (of_decide_eq_true h), Bool.false_eq_true, if_false]
  | .part id k n, h => by
    rw [AC.high] at h
    simp only [AC.purge, not_ds hds (of_decide_eq_true h), Bool.false_eq_true, if_false]
  | .rest id k n, h => by
    rw [AC.high] at h
    simp only [AC.purge, not_ds hds (of_decide_eq_true h), Bool.false_eq_true, if_false]
  | .ptr id n k off, h => by
    rw [AC.high] at h
    simp only [AC.purge, not_ds hds (of_decide_eq_true h), Bool.false_eq_true, if_false]
  | .mptr id, h => by
    rw [AC.high] at h
    simp only [AC.purge, not_ds hds (of_decide_eq_true h), Bool.false_eq_true, if_false]
  | .yld id, h => by
    rw [AC.high] at h
    simp only [AC.purge, not_ds hds (of_decide_eq_true h), Bool.false_eq_true, if_false]
  | .ubool, _ => rfl
  | .eptr _, _ => rfl
  | .fn f caps, h => by
    rw [AC.high] at h
    simp only [AC.purge, AC.clears_highs hds h, if_true]
  | .any, _ => rfl
mutual
theorem AV.purge_high {ds : List Nat} (hds : ∀ d ∈ ds, d < 1000) : ∀ {c : AV}, c.high = true → c.purge ds = c
  | .one c, h => by rw [AV.high] at h; rw [AV.purge, AC.purge_high hds h]
  | .agg cs, h => by
    rw [AV.high] at h
    rw [AV.purge]
    congr 1
    exact (List.map_congr_left fun a ha => AC.purge_high hds (highs_mem h a ha)).trans (List.map_id _)
  | .tup vs, h => by rw [AV.high] at h; rw [AV.purge, AV.purges_high hds h]
  | .any, _ => rfl
theorem AV.purges_high {ds : List Nat} (hds : ∀ d ∈ ds, d < 1000) : ∀ {c : List AV}, AV.highs c = true → AV.purges ds c = c
  | [], _ => rfl
  | c :: cs, h => by
    rw [AV.highs, Bool.and_eq_true] at h
    rw [AV.purges, AV.purge_high hds h.1, AV.purges_high hds h.2]
end
theorem ABlk.purge_high {ds : List Nat} (hds : ∀ d ∈ ds, d < 1000) {b : ABlk} (h : b.high = true) : b.purge ds = b := by
  cases b with
  | box e cs =>
    rw [ABlk.high] at h
    simp only [ABlk.purge]
    congr 1
    exact (List.map_congr_left fun a ha => AC.purge_high hds (highs_mem h a ha)).trans (List.map_id _)
  | arow => rfl
  | mrow => rfl
  | map => rfl
  | memo => rfl
  | iter x =>
    rw [ABlk.high] at h
    simp only [ABlk.purge, AC.purge_high hds h]
  | loop env r =>
    rw [ABlk.high] at h
    simp only [ABlk.purge, AV.purges_high hds h]
  | dead => rfl
theorem dropS_clean {ds : List Nat} (hds : ∀ d ∈ ds, d < 1000) {S : AStore} (h : Clean S) : dropS ds S = S := by
  funext id
  unfold dropS
  cases hb : S id with
  | none => split <;> rfl
  | some b =>
    obtain ⟨h1, h2⟩ := h id b hb
    rw [not_ds hds h1, if_neg (by simp), Option.map_some, ABlk.purge_high hds h2]
theorem dropS_in {ds : List Nat} {S : AStore} {i : Nat} {b : Option ABlk} (h : ds.contains i = true) : dropS ds (updE S i b) = dropS ds S := by
  funext k
  unfold dropS
  by_cases e : k = i
  · subst e
    rw [if_pos h, if_pos h]
  · rw [updE_ne _ e]
theorem dropS_out {ds : List Nat} {S : AStore} {i : Nat} {b : ABlk} (h : ds.contains i = false) : dropS ds (updE S i (some b)) = updE (dropS ds S) i (some (b.purge ds)) := by
  funext k
  unfold dropS
  by_cases e : k = i
  · subst e
    rw [updE_same, updE_same, if_neg (by rw [h]; simp)]
    rfl
  · rw [updE_ne _ e, updE_ne _ e]
section
variable {C : Ctx} {σ : Sto} {ι : AHnd} {s : AS} {a : Act} {w : World} {ds : List Nat}
theorem purge_len (b : ABlk) : (b.purge ds).len = b.len := by cases b <;> rfl
theorem purge_wid (b : ABlk) : (b.purge ds).wid = b.wid := by cases b <;> rfl
theorem ARep.keepClear {ds : List Nat} {S S2 : AStore} (hS : ∀ id b, ds.contains id = false → S id = some b → ∃ b', S2 id = some b' ∧ b'.len = b.len ∧ b'.wid = b.wid) {v : Value} {c : AC} (h : ARep σ S ι v c) (hc : c.clear ds = true) : ARep σ S2 ι v c := by
  induction h with
  | st h => exact .st h
  | full h => exact .full h
  | row h1 h2 h3 h4 =>
    rw [AC.clear] at hc
    obtain ⟨b', q1, q2, q3⟩ := hS _ _ (by simpa using hc) h1
    exact .row q1 (by rw [q2]; exact h2) h3 (by rw [q2]; exact h4)
  | part h1 h2 h3 h4 =>
    rw [AC.clear] at hc
    obtain ⟨b', q1, q2, q3⟩ := hS _ _ (by simpa using hc) h1
    exact .part q1 (by rw [q2]; exact h2) h3 (by rw [q2]; exact h4)
  | rest h1 h2 h3 h4 =>
    rw [AC.clear] at hc
    obtain ⟨b', q1, q2, q3⟩ := hS _ _ (by simpa using hc) h1
    exact .rest q1 (by rw [q2]; exact h2) h3 (by rw [q2, q3]; exact h4)
  | ptr h1 h2 h3 h4 =>
    rw [AC.clear] at hc
    obtain ⟨b', q1, q2, q3⟩ := hS _ _ (by simpa using hc) h1
    exact .ptr q1 (by rw [q2]; exact h2) h3 (by rw [q2, q3]; exact h4)
  | mptr h1 h2 h3 h4 =>
    rw [AC.clear] at hc
    obtain ⟨b', q1, q2, q3⟩ := hS _ _ (by simpa using hc) h1
    exact .mptr q1 (by rw [q2]; exact h2) h3 (by rw [q2]; exact h4)
  | yld h1 h2 h3 h4 =>
    rw [AC.clear] at hc
    obtain ⟨b', q1, q2, q3⟩ := hS _ _ (by simpa using hc) h1
    exact .yld q1 (by rw [q2]; exact h2) h3 (by rw [q2]; exact h4)
  | ubool => exact .ubool
  | eptr c h1 h2 hh => exact .eptr c h1 h2 hh
  | fn c h1 h2 h3 ih =>
    rw [AC.clear] at hc
    exact .fn c h1 h2 (fun j a ha => ih j a ha (clears_mem hc a (List.mem_of_getElem? ha)))
  | any h => exact .any h
theorem ARep.purge (hds : ∀ d ∈ ds, d < 1000) {v : Value} {c : AC} (h : ARep σ s.S ι v c) : ARep σ (s.drop ds).S ι v (c.purge ds) := by
  have h0 := h
  cases h with
  | st h => exact .st h
  | full h => exact .full h
  | @row _ id n b h1 h2 h3 h4 =>
    simp only [AC.purge]
    split
    · exact .any h3
    · rename_i hn
      exact .row (b := b.purge ds) (by simp only [AS.drop, dropS, hn]; rw [h1]; rfl) (by rw [purge_len]; exact h2) h3 (by rw [purge_len]; exact h4)
  | @part _ id k n b h1 h2 h3 h4 =>
    simp only [AC.purge]
    split
    · exact .any h3
    · rename_i hn
      exact .part (b := b.purge ds) (by simp only [AS.drop, dropS, hn]; rw [h1]; rfl) (by rw [purge_len]; exact h2) h3 (by rw [purge_len]; exact h4)
  | @rest _ id k n b h1 h2 h3 h4 =>
    simp only [AC.purge]
    split
    · exact .any h3
    · rename_i hn
      exact .rest (b := b.purge ds) (by simp only [AS.drop, dropS, hn]; rw [h1]; rfl) (by rw [purge_len]; exact h2) h3 (by rw [purge_len, purge_wid]; exact h4)
  | @ptr _ id n k off b h1 h2 h3 h4 =>
    simp only [AC.purge]
    split
    · exact .any h3
    · rename_i hn
      exact .ptr (b := b.purge ds) (by simp only [AS.drop, dropS, hn]; rw [h1]; rfl) (by rw [purge_len]; exact h2) h3 (by rw [purge_len, purge_wid]; exact h4)
  | @mptr _ id b h1 h2 h3 h4 =>
    simp only [AC.purge]
    split
    · exact .any h3
    · rename_i hn
      exact .mptr (b := b.purge ds) (by simp only [AS.drop, dropS, hn]; rw [h1]; rfl) (by rw [purge_len]; exact h2) h3 (by rw [purge_len]; exact h4)
  | @yld _ id b h1 h2 h3 h4 =>
    simp only [AC.purge]
    split
    · exact .any h3
    · rename_i hn
      exact .yld (b := b.purge ds) (by simp only [AS.drop, dropS, hn]; rw [h1]; rfl) (by rw [purge_len]; exact h2) h3 (by rw [purge_len]; exact h4)
  | ubool => exact .ubool
  | eptr c h1 h2 hh => exact .eptr c h1 h2 hh
  | @fn f vs caps c h1 h2 h3 =>
    simp only [AC.purge]
    split
    · rename_i hh
      exact h0.keepClear (ds := ds) (fun id b hid hb => ⟨b.purge ds, by
        show dropS ds s.S id = _
        unfold dropS
        rw [hid, hb]
        rfl, purge_len b, purge_wid b⟩) (by rw [AC.clear]; exact hh)
    · exact .any rfl
  | any h => exact .any h
mutual
theorem VRep.purge (hds : ∀ d ∈ ds, d < 1000) : ∀ {v : Value} {c : AV}, VRep σ s.S ι v c → VRep σ (s.drop ds).S ι v (c.purge ds)
  | v, .one c, h => by cases h with | one h => exact .one (h.purge hds)
  | v, .agg cs, h => by cases h with | agg h => exact .agg ((h.mono fun _ _ x => x.purge hds).map_right)
  | v, .tup vs, h => by
    cases h with
    | tup c h1 h2 h3 =>
      obtain ⟨k1, k2⟩ := VRep.purges hds (c := c) h3
      exact .tup c (by rw [h1, k1]) (fun j b hb => by
        rcases Nat.lt_or_ge j vs.length with hj | hj
        · exact h2 j _ (List.getElem?_eq_getElem hj)
        · rw [List.getElem?_eq_none (by omega)] at hb; cases hb) k2
  | v, .any, h => .any
theorem VRep.purges (hds : ∀ d ∈ ds, d < 1000) : ∀ {vs : List AV} {c : Nat → Value}, (∀ j b, vs[j]? = some b → VRep σ s.S ι (c j) b) → vs.length = (AV.purges ds vs).length ∧ ∀ j b, (AV.purges ds vs)[j]? = some b → VRep σ (s.drop ds).S ι (c j) b
  | [], c, h => by simp [AV.purges]
  | x :: xs, c, h => by
    obtain ⟨m1, m2⟩ := VRep.purges hds (vs := xs) (c := fun j => c (j + 1)) (fun j b hb => h (j + 1) b (by simpa using hb))
    refine ⟨by simp [AV.purges, ← m1], fun j b hb => ?_⟩
    cases j with
    | zero =>
      simp [AV.purges] at hb
      subst hb
      exact VRep.purge hds (h 0 x rfl)
    | succ j => exact m2 j b (by simpa [AV.purges] using hb)
end
theorem BRep.purge (hds : ∀ d ∈ ds, d < 1000) {h : Hnd} {b : ABlk} (hr : BRep σ s.S ι w h b) : BRep σ (s.drop ds).S ι w h (b.purge ds) := by
  cases hr with
  | box h1 h2 h3 h4 h5 => exact .box h1 h2 h3 ((h4.mono fun _ _ x => x.purge hds).map_right) h5
  | afull h1 h2 h3 h4 => exact .afull h1 h2 h3 h4
  | arow h1 h2 h3 h4 h5 h6 h7 h8 h9 hh => exact .arow h1 h2 h3 h4 h5 h6 h7 h8 h9 hh
  | mnil h1 h2 => exact .mnil h1 h2
  | mrow h1 h2 h3 h4 h5 h6 h7 h8 h9 => exact .mrow h1 h2 h3 h4 h5 h6 h7 h8 h9
  | map h1 h2 h3 h4 => exact .map h1 h2 h3 h4
  | memo h1 h2 h3 h4 => exact .memo h1 h2 h3 h4
  | iter h1 h2 h3 h4 => exact .iter h1 h2 (h3.purge hds) h4
  | loop h1 h2 h3 h4 h5 =>
    obtain ⟨k1, k2⟩ := VRep.purges hds h4
    exact .loop h1 h2 (by rw [← k1]; exact h3) k2 h5
  | dead h1 => exact .dead h1
theorem drop_some {id : Nat} {b : ABlk} (h : (s.drop ds).S id = some b) : ∃ b', s.S id = some b' ∧ b = b'.purge ds := by
  simp only [AS.drop, dropS] at h
  split at h
  · cases h
  · rw [Option.map_eq_some_iff] at h
    obtain ⟨b', h1, h2⟩ := h
    exact ⟨b', h1, h2.symm⟩
theorem Ghost.drop (ds : List Nat) (s : AS) (hds : ∀ d ∈ ds, d < 1000) : Ghost C s (s.drop ds) := fun a w ⟨σ, ι, R⟩ => by
  refine ⟨σ, ι, R.size, fun i hi => (R.env i hi).purge hds, R.nod, R.fit, fun id b h => ?_, fun id id' b b' g h1 h2 g1 g2 => ?_, fun id b g h hg => ?_, R.ext, R.old, R.os, R.grown, R.same, fun id b hb => ?_⟩
  · obtain ⟨b', h1, rfl⟩ := drop_some h
    exact (R.blk id b' h1).purge hds
  · obtain ⟨c1, k1, _⟩ := drop_some h1
    obtain ⟨c2, k2, _⟩ := drop_some h2
    exact R.inj _ _ _ _ _ k1 k2 g1 g2
  · obtain ⟨c1, k1, _⟩ := drop_some h
    exact R.base _ _ _ k1 hg
  · obtain ⟨b', h1, h2, h3⟩ := R.upd id b hb
    have hid := (C.clean id b hb).1
    have hnc : ds.contains id = false := by
      cases hc : ds.contains id with
      | false => rfl
      | true =>
        have := hds id (List.contains_iff_mem.1 hc)
        omega
    refine ⟨b'.purge ds, by simp only [AS.drop, dropS, hnc]; rw [h1]; rfl, by rw [purge_len]; exact h2, fun hl => ?_⟩
    rw [purge_len] at hl
    rw [purge_wid]
    exact h3 hl
theorem Ghost.share {id : Nat} {e : TypeId} {wd : Nat} {xs : List (List SV)} (hS : s.S id = some (.mrow e wd xs)) : Ghost C s (s.set id (.arow e wd xs)) := fun a w ⟨σ, ι, R⟩ => by
  have hb := R.blk _ _ hS
  have hι : updE ι id (ι id) = ι := by
    funext k
    unfold updE
    split
    · rename_i h; rw [h]
    · rfl
  cases hb with
  | mnil h1 h2 =>
    obtain ⟨hu, R'⟩ := R.turn (w' := w) hS (.arow e wd []) (ι id) (σ' := σ) (fun _ _ h => h) (fun _ _ _ => rfl) R.fit (Nat.le_refl _) (fun _ => ⟨rfl, rfl⟩) ⟨rfl, rfl, rfl⟩ (Nat.le_refl _) (fun _ _ _ => rfl) (fun g h => .inl h) (fun hu => .afull h1 (by simpa using h2) (by simp) (.list (b := 0) (o := 0) (w := 0) (fun _ _ => undef) rfl (by simp) (by rw [h2]; simp [maxLen]) (fun _ => h2) (by simp) (by simp) (fun _ h _ => absurd h (by omega)) (by simp) (by simp)))
    exact ⟨σ, _, R'⟩
  | @mrow _ _ _ g vs h1 h2 h3 h4 h5 h6 h7 h8 h9 =>
    have hl : Laid σ vs.toList wd xs := ⟨h7, fun k x j y hx hy => by simpa using h8 k x j y hx hy⟩
    have hkeep := layS_keep (σ := σ) (w' := w) (g := g) (k := xs.length * wd) (fun p x e hx => by rw [h9 _ e] at hx; cases hx)
    obtain ⟨hu, R'⟩ := R.turn (w' := w) hS (.arow e wd xs) (ι id) (σ' := layS σ w g (xs.length * wd)) hkeep (fun p hp _ => layS_out (fun e => hp (by rw [e]; exact h1))) (layS_fit R.fit) (Nat.le_refl _) (fun _ => ⟨rfl, rfl⟩) ⟨rfl, rfl, rfl⟩ (Nat.le_refl _) (fun _ _ _ => rfl) (fun g h => .inl h)
      (fun hu => by
        have := brep_arow (S' := (s.set id (.arow e wd xs)).S) (ι' := updE ι id (ι id)) (w' := w) (p := (ι id).p) h2 h3 h4 h5 h6 hl hkeep (fun p hp hne => absurd (h9 p hp) hne)
        rw [← h1] at this
        exact this)
    exact ⟨_, _, R'⟩
theorem Ghost.own (t id : Nat) (e : TypeId) (wd : Nat) {xs : List (List SV)} (ht : s.env t = .one (.full xs)) (hid : s.S id = none) (hw : ∀ x ∈ xs, x.length = wd) (hn : t < C.n) : Ghost C s ⟨updE s.env t (.one (.row id xs.length)), updE s.S id (some (.arow e wd xs))⟩ := fun a w ⟨σ, ι, R⟩ => by
  have rt := R.env t hn
  rw [ht] at rt
  generalize hv : a.tmps.getD t undef = v at rt
  cases vrep_one rt with
  | @full p len xs hs =>
    have hl : len = xs.length := by
      obtain ⟨p', cap', e1, _⟩ := srep_slice hs
      cases e1
      rfl
    subst hl
    obtain ⟨hu, R'⟩ := R.fresh (w' := w) hid (.arow e wd xs) ⟨p, xs.length, none⟩ (Ext.refl _ _) R.fit (Below.refl _ _) (by simp) (fun S' ι' hu => .afull rfl rfl hw hs)
    refine ⟨σ, _, R'.size, fun i hi => ?_, R'.nod, R'.fit, R'.blk, R'.inj, R'.base, R'.ext, R'.old, R'.os, R'.grown, R'.same, R'.upd⟩
    show VRep σ (s.set id (.arow e wd xs)).S _ _ (updE s.env t _ i)
    unfold updE
    split
    · rename_i e1
      subst e1
      rw [hv]
      exact .one (.row (b := .arow e wd xs) (by simp [AS.set, updE_same]) (Nat.le_refl _) rfl fun _ => by simp [updE])
    · exact R'.env i hi
theorem Ghost.ownM (t id : Nat) (e : TypeId) (wd : Nat) (ht : s.env t = .one (.full [])) (hid : s.S id = none) (hn : t < C.n) : Ghost C s ⟨updE s.env t (.one (.row id 0)), updE s.S id (some (.mrow e wd []))⟩ := fun a w ⟨σ, ι, R⟩ => by
  have rt := R.env t hn
  rw [ht] at rt
  generalize hv : a.tmps.getD t undef = v at rt
  cases vrep_one rt with
  | @full p len xs hs =>
    have hl : len = 0 := by
      obtain ⟨p', cap', e1, _⟩ := srep_slice hs
      cases e1
      rfl
    subst hl
    obtain ⟨hu, R'⟩ := R.fresh (w' := w) hid (.mrow e wd []) ⟨p, 0, none⟩ (Ext.refl _ _) R.fit (Below.refl _ _) (by simp) (fun S' ι' hu => .mnil rfl rfl)
    refine ⟨σ, _, R'.size, fun i hi => ?_, R'.nod, R'.fit, R'.blk, R'.inj, R'.base, R'.ext, R'.old, R'.os, R'.grown, R'.same, R'.upd⟩
    show VRep σ (s.set id (.mrow e wd [])).S _ _ (updE s.env t _ i)
    unfold updE
    split
    · rename_i e1
      subst e1
      rw [hv]
      exact .one (.row (b := .mrow e wd []) (by simp [AS.set, updE_same]) (Nat.le_refl _) rfl fun _ => by simp [updE])
    · exact R'.env i hi
theorem Ghost.keep (t id k n : Nat) {e : TypeId} {wd : Nat} {xs : List (List SV)} (ht : s.env t = .one (.part id k n)) (hS : s.S id = some (.arow e wd xs)) (hl : n = xs.length) (hn : t < C.n) : Ghost C s ⟨updE s.env t (.one (.st (.list (xs.take k)))), s.S⟩ := fun a w ⟨σ, ι, R⟩ => by
  have rt := R.env t hn
  rw [ht] at rt
  refine ⟨σ, ι, R.size, fun i hi => ?_, R.nod, R.fit, R.blk, R.inj, R.base, R.ext, R.old, R.os, R.grown, R.same, R.upd⟩
  show VRep σ s.S ι _ (updE s.env t _ i)
  unfold updE
  split
  · rename_i e1
    subst e1
    obtain ⟨b, h1, h2, h3⟩ := arep_part (vrep_one rt)
    rw [hS] at h1
    cases h1
    obtain ⟨h4, h5⟩ := h3 hl
    rw [h5]
    have hb := R.blk _ _ hS
    have hr := hb.srep
    have hmem : ∀ {kk x}, (xs.take k)[kk]? = some x → xs[kk]? = some x := fun hx => by
      rw [List.getElem?_take] at hx
      split at hx
      · exact hx
      · cases hx
    cases hr with
    | @list p len cap b o w' _ c q1 q2 q3 q4 q5 q6 qh q7 q8 =>
      exact .one (.st (.list (b := b) (o := o) (w := w') c (by rw [List.length_take]; omega) (by omega) q3 q4 (fun hne => q5 (by omega)) (fun x hx => q6 x (List.mem_of_mem_take hx)) (fun e1 e2 e3 => qh e1 e2 (fun e4 => e3 (by rw [e4]; exact List.take_nil))) (fun kk x j a hx ha => q7 kk x j a (hmem hx) ha) (fun kk x j a hx ha => q8 kk x j a (hmem hx) ha)))
  · exact R.env i hi
theorem Ghost.ownC (id j nid : Nat) (e : TypeId) (wd : Nat) {xs : List (List SV)} {ty : TypeId} {cs : List AC} (hb : s.S id = some (.box ty cs)) (hc : cs[j]? = some (.full xs)) (hn : s.S nid = none) (hw : ∀ x ∈ xs, x.length = wd) :
    Ghost C s ((s.set nid (.arow e wd xs)).set id (.box ty (cs.set j (.row nid xs.length)))) := fun a w ⟨σ, ι, R⟩ => by
  have hbk := R.blk id _ hb
  have hne : id ≠ nid := fun e => by subst e; rw [hb] at hn; cases hn
  cases hbk with
  | @box _ _ g vs h1 h2 h3 h4 h5 =>
    obtain ⟨v, hv, hr⟩ := h4.get hc
    cases hr with
    | @full p len xs hs =>
      have hl : len = xs.length := by
        obtain ⟨p', cap', e1, _⟩ := srep_slice hs
        cases e1
        rfl
      subst hl
      obtain ⟨hu, R'⟩ := R.fresh (w' := w) hn (.arow e wd xs) ⟨p, xs.length, none⟩ (Ext.refl _ _) R.fit (Below.refl _ _) (by simp) (fun S' ι' hu => .afull rfl rfl hw hs)
      have hb' : (s.set nid (.arow e wd xs)).S id = some (.box ty cs) := by simp [AS.set, updE_ne _ hne, hb]
      have hι : updE ι nid ⟨p, xs.length, none⟩ id = ι id := updE_ne _ hne _
      obtain ⟨hu2, R2⟩ := R'.turn (w' := w) hb' (.box ty (cs.set j (.row nid xs.length))) (updE ι nid ⟨p, xs.length, none⟩ id) (σ' := σ) (fun _ _ h => h) (fun _ _ _ => rfl) R.fit (Nat.le_refl _) (fun _ => ⟨by simp [ABlk.wid], rfl⟩) ⟨rfl, rfl, rfl⟩ (Nat.le_refl _) (fun _ _ _ => rfl) (fun g h => .inl h) (fun hu2 => by
        refine .box (by rw [hι]; exact h1) (by rw [hι]; exact h2) h3 (All2.of_get (by rw [List.length_set]; exact h4.len) fun k u c hu' hck => ?_) h5
        by_cases hk : k = j
        · subst hk
          rw [hv] at hu'
          cases hu'
          have hlt : k < cs.length := (List.getElem?_eq_some_iff.1 hc).1
          rw [List.getElem?_set_self hlt] at hck
          cases hck
          exact .row (b := .arow e wd xs) (by simp [AS.set, updE, hne.symm]) (Nat.le_refl _) rfl fun _ => by simp [updE, hne.symm]
        · rw [List.getElem?_set_ne (fun e => hk e.symm)] at hck
          obtain ⟨u', q1, q2⟩ := h4.get hck
          rw [hu'] at q1
          cases q1
          exact (q2.mono (fun _ _ h => h) hu).mono (fun _ _ h => h) hu2)
      exact ⟨_, _, R2⟩
theorem noS_upd {v : Value} {c : AV} (h : VRep σ noS noH v c) : VRep σ s.S ι v c := h.mono (fun _ _ h => h) (upd_noS _ _)
def AV.low (v : AV) : AV := if v.high then v else .any
theorem Refs.low (R : Refs C σ ι s a w) (hb : ∀ i b, 1000 ≤ i → s.S i = some b → b.high = true) : Refs C σ ι ⟨fun i => (s.env i).low, lowS s.S⟩ a w := by
  have hS : ∀ i b, 1000 ≤ i → s.S i = some b → lowS s.S i = some b := fun i b hi h => by
    show (if i < 1000 then none else s.S i) = some b
    rw [if_neg (by omega), h]
  have hinv : ∀ i b, lowS s.S i = some b → 1000 ≤ i ∧ s.S i = some b := fun i b h => by
    have h' : (if i < 1000 then none else s.S i) = some b := h
    split at h'
    · cases h'
    · exact ⟨by omega, h'⟩
  refine ⟨R.size, fun i hi => ?_, R.nod, R.fit, fun id b h => ?_, fun id id' b b' g h1 h2 g1 g2 => R.inj _ _ _ _ g (hinv _ _ h1).2 (hinv _ _ h2).2 g1 g2, fun id b g h hg => R.base _ _ g (hinv _ _ h).2 hg, R.ext, R.old, R.os, R.grown, R.same, fun id b h => ?_⟩
  · show VRep σ (lowS s.S) ι _ ((s.env i).low)
    unfold AV.low
    split
    · rename_i hh
      exact (R.env i hi).low hS hh
    · exact .any
  · obtain ⟨h1, h2⟩ := hinv _ _ h
    have hh := hb id b h1 h2
    cases R.blk id b h2 with
    | box k1 k2 k3 k4 k5 => exact .box k1 k2 k3 (all2_low hS k4 hh) k5
    | afull k1 k2 k3 k4 => exact .afull k1 k2 k3 k4
    | arow k1 k2 k3 k4 k5 k6 k7 k8 k9 kh => exact .arow k1 k2 k3 k4 k5 k6 k7 k8 k9 kh
    | mnil k1 k2 => exact .mnil k1 k2
    | mrow k1 k2 k3 k4 k5 k6 k7 k8 k9 => exact .mrow k1 k2 k3 k4 k5 k6 k7 k8 k9
    | map k1 k2 k3 k4 => exact .map k1 k2 k3 k4
    | memo k1 k2 k3 k4 => exact .memo k1 k2 k3 k4
    | iter k1 k2 k3 k4 => exact .iter k1 k2 (k3.low hS hh) k4
    | loop k1 k2 k3 k4 k5 => exact .loop k1 k2 k3 (VRep.lows hS k4 hh) k5
    | dead k1 => exact .dead k1
  · obtain ⟨b', h1, h2⟩ := R.upd id b h
    exact ⟨b', hS _ _ (C.clean id b h).1 h1, h2⟩
theorem Ghost.low (hb : ∀ i b, 1000 ≤ i → s.S i = some b → b.high = true) : Ghost C s ⟨fun i => (s.env i).low, lowS s.S⟩ := fun a w ⟨σ, ι, R⟩ => ⟨σ, ι, R.low hb⟩
def oneTo (id a : Nat) (i : Nat) : Nat := if i = id then a else i
def AV.hand (id a : Nat) (v : AV) : AV := if (v.ren (oneTo id a)).high then v.ren (oneTo id a) else .any
section
variable {S S2 : AStore} {ι2 : AHnd} {id a0 : Nat}
theorem ARep.hand (hS : ∀ i b, 1000 ≤ oneTo id a0 i → S i = some b → S2 (oneTo id a0 i) = some b ∧ ι2 (oneTo id a0 i) = ι i) {v : Value} {c : AC} (h : ARep σ S ι v c) (hc : (c.ren (oneTo id a0)).high = true) : ARep σ S2 ι2 v (c.ren (oneTo id a0)) := by
  induction h with
  | st h => exact .st h
  | full h => exact .full h
  | row h1 h2 h3 h4 =>
    rw [AC.ren, AC.high] at hc
    obtain ⟨q1, q2⟩ := hS _ _ (of_decide_eq_true hc) h1
    rw [AC.ren]
    exact .row q1 h2 h3 (fun hn => by rw [q2]; exact h4 hn)
  | part h1 h2 h3 h4 =>
    rw [AC.ren, AC.high] at hc
    obtain ⟨q1, q2⟩ := hS _ _ (of_decide_eq_true hc) h1
    rw [AC.ren]
    exact .part q1 h2 h3 (fun hn => by rw [q2]; exact h4 hn)
  | rest h1 h2 h3 h4 =>
    rw [AC.ren, AC.high] at hc
    obtain ⟨q1, q2⟩ := hS _ _ (of_decide_eq_true hc) h1
    rw [AC.ren]
    exact .rest q1 h2 h3 (fun hn => by rw [q2]; exact h4 hn)
  | ptr h1 h2 h3 h4 =>
    rw [AC.ren, AC.high] at hc
    obtain ⟨q1, q2⟩ := hS _ _ (of_decide_eq_true hc) h1
    rw [AC.ren]
    exact .ptr q1 h2 h3 (fun hn => by rw [q2]; exact h4 hn)
  | mptr h1 h2 h3 h4 =>
    rw [AC.ren, AC.high] at hc
    obtain ⟨q1, q2⟩ := hS _ _ (of_decide_eq_true hc) h1
    rw [AC.ren]
    exact .mptr q1 h2 h3 (fun hn => by rw [q2]; exact h4 hn)
  | yld h1 h2 h3 h4 =>
    rw [AC.ren, AC.high] at hc
    obtain ⟨q1, q2⟩ := hS _ _ (of_decide_eq_true hc) h1
    rw [AC.ren]
    exact .yld q1 h2 h3 (fun hn => by rw [q2]; exact h4 hn)
  | ubool => exact .ubool
  | eptr c h1 h2 hh => exact .eptr c h1 h2 hh
  | @fn f vs caps c h1 h2 h3 ih =>
    rw [AC.ren, AC.high] at hc
    rw [AC.ren]
    have key : ∀ (j : Nat) (b : AC), (AC.rens (oneTo id a0) caps)[j]? = some b → ∃ a, caps[j]? = some a ∧ b = a.ren (oneTo id a0) := fun j b hb => by
      rw [AC.rens_eq, List.getElem?_map, Option.map_eq_some_iff] at hb
      obtain ⟨a, ha, rfl⟩ := hb
      exact ⟨a, ha, rfl⟩
    refine .fn c (by rw [AC.rens_eq]; simpa using h1) (fun j b hb => ?_) (fun j b hb => ?_)
    · obtain ⟨a, ha, rfl⟩ := key j b hb
      exact h2 j a ha
    · have hm := highs_mem hc b (List.mem_of_getElem? hb)
      obtain ⟨a, ha, rfl⟩ := key j b hb
      exact ih j a ha hm
  | any h => exact .any h
mutual
theorem VRep.hand (hS : ∀ i b, 1000 ≤ oneTo id a0 i → S i = some b → S2 (oneTo id a0 i) = some b ∧ ι2 (oneTo id a0 i) = ι i) : ∀ {v : Value} {c : AV}, VRep σ S ι v c → (c.ren (oneTo id a0)).high = true → VRep σ S2 ι2 v (c.ren (oneTo id a0))
  | v, .one c, h, hc => by
    rw [AV.ren] at hc ⊢
    rw [AV.high] at hc
    cases h with | one h => exact .one (h.hand hS hc)
  | v, .agg cs, h, hc => by
    rw [AV.ren] at hc ⊢
    rw [AV.high] at hc
    cases h with
    | agg h =>
      refine .agg (All2.of_get (by rw [AC.rens_eq]; simpa using h.len) fun j x c hx hcj => ?_)
      have hm := highs_mem hc c (List.mem_of_getElem? hcj)
      rw [AC.rens_eq, List.getElem?_map, Option.map_eq_some_iff] at hcj
      obtain ⟨c', hc', rfl⟩ := hcj
      obtain ⟨x', h1, h2⟩ := h.get hc'
      rw [hx] at h1
      cases h1
      exact h2.hand hS hm
  | v, .tup vs, h, hc => by
    rw [AV.ren] at hc ⊢
    rw [AV.high] at hc
    cases h with
    | tup c h1 h2 h3 =>
      obtain ⟨k1, k2⟩ := VRep.hands hS h3 hc
      exact .tup c (by rw [h1, k1]) (fun j b hb => by
        rcases Nat.lt_or_ge j vs.length with hj | hj
        · exact h2 j _ (List.getElem?_eq_getElem hj)
        · rw [List.getElem?_eq_none (by omega)] at hb; cases hb) k2
  | v, .any, h, _ => .any
theorem VRep.hands (hS : ∀ i b, 1000 ≤ oneTo id a0 i → S i = some b → S2 (oneTo id a0 i) = some b ∧ ι2 (oneTo id a0 i) = ι i) : ∀ {vs : List AV} {c : Nat → Value}, (∀ j b, vs[j]? = some b → VRep σ S ι (c j) b) → AV.highs (AV.rens (oneTo id a0) vs) = true → vs.length = (AV.rens (oneTo id a0) vs).length ∧ ∀ j b, (AV.rens (oneTo id a0) vs)[j]? = some b → VRep σ S2 ι2 (c j) b
  | [], c, h, _ => by simp [AV.rens]
  | x :: xs, c, h, hc => by
    rw [AV.rens, AV.highs, Bool.and_eq_true] at hc
    obtain ⟨m1, m2⟩ := VRep.hands hS (vs := xs) (c := fun j => c (j + 1)) (fun j b hb => h (j + 1) b (by simpa using hb)) hc.2
    refine ⟨by simp [AV.rens, ← m1], fun j b hb => ?_⟩
    cases j with
    | zero =>
      simp [AV.rens] at hb
      subst hb
      exact VRep.hand hS (h 0 x rfl) hc.1
    | succ j => exact m2 j b (by simpa [AV.rens] using hb)
end
end
theorem ARep.stay {S S2 : AStore} {ι2 : AHnd} (hS : ∀ i b, 1000 ≤ i → S i = some b → S2 i = some b ∧ ι2 i = ι i) {v : Value} {c : AC} (h : ARep σ S ι v c) (hc : c.high = true) : ARep σ S2 ι2 v c := by
  induction h with
  | st h => exact .st h
  | full h => exact .full h
  | row h1 h2 h3 h4 =>
    rw [AC.high] at hc
    obtain ⟨q1, q2⟩ := hS _ _ (of_decide_eq_true hc) h1
    exact .row q1 h2 h3 (fun hn => by rw [q2]; exact h4 hn)
  | part h1 h2 h3 h4 =>
    rw [AC.high] at hc
    obtain ⟨q1, q2⟩ := hS _ _ (of_decide_eq_true hc) h1
    exact .part q1 h2 h3 (fun hn => by rw [q2]; exact h4 hn)
  | rest h1 h2 h3 h4 =>
    rw [AC.high] at hc
    obtain ⟨q1, q2⟩ := hS _ _ (of_decide_eq_true hc) h1
    exact .rest q1 h2 h3 (fun hn => by rw [q2]; exact h4 hn)
  | ptr h1 h2 h3 h4 =>
    rw [AC.high] at hc
    obtain ⟨q1, q2⟩ := hS _ _ (of_decide_eq_true hc) h1
    exact .ptr q1 h2 h3 (fun hn => by rw [q2]; exact h4 hn)
  | mptr h1 h2 h3 h4 =>
    rw [AC.high] at hc
    obtain ⟨q1, q2⟩ := hS _ _ (of_decide_eq_true hc) h1
    exact .mptr q1 h2 h3 (fun hn => by rw [q2]; exact h4 hn)
  | yld h1 h2 h3 h4 =>
    rw [AC.high] at hc
    obtain ⟨q1, q2⟩ := hS _ _ (of_decide_eq_true hc) h1
    exact .yld q1 h2 h3 (fun hn => by rw [q2]; exact h4 hn)
  | ubool => exact .ubool
  | eptr c h1 h2 hh => exact .eptr c h1 h2 hh
  | fn c h1 h2 h3 ih =>
    rw [AC.high] at hc
    exact .fn c h1 h2 (fun j a ha => ih j a ha (highs_mem hc a (List.mem_of_getElem? ha)))
  | any h => exact .any h
theorem Refs.hand (R : Refs C σ ι s a w) (id a0 : Nat) {b0 : ABlk} (hid : id < 1000) (ha : 1000 ≤ a0) (hSa : s.S a0 = none) (hb0 : s.S id = some b0) (hbh : b0.high = true) (hb : ∀ i b, 1000 ≤ i → s.S i = some b → b.high = true) :
    Refs C σ (updE ι a0 (ι id)) ⟨fun i => (s.env i).hand id a0, updE (lowS s.S) a0 (some b0)⟩ a w ∧ ∀ i b, 1000 ≤ oneTo id a0 i → s.S i = some b → updE (lowS s.S) a0 (some b0) (oneTo id a0 i) = some b ∧ updE ι a0 (ι id) (oneTo id a0 i) = ι i := by
  have hlow : ∀ i, 1000 ≤ i → lowS s.S i = s.S i := fun i hi => by
    show (if i < 1000 then none else s.S i) = _
    rw [if_neg (by omega)]
  have hS : ∀ i b, 1000 ≤ oneTo id a0 i → s.S i = some b → updE (lowS s.S) a0 (some b0) (oneTo id a0 i) = some b ∧ updE ι a0 (ι id) (oneTo id a0 i) = ι i := fun i b hi h => by
    unfold oneTo at hi ⊢
    by_cases e : i = id
    · subst e
      rw [if_pos rfl, updE_same, updE_same, ← hb0, h]
      exact ⟨rfl, rfl⟩
    · rw [if_neg e] at hi ⊢
      have hne : i ≠ a0 := fun e => by subst e; rw [hSa] at h; cases h
      rw [updE_ne _ hne, updE_ne _ hne, hlow i hi]
      exact ⟨h, rfl⟩
  have hS' : ∀ i b, 1000 ≤ i → s.S i = some b → updE (lowS s.S) a0 (some b0) i = some b ∧ updE ι a0 (ι id) i = ι i := fun i b hi h => by
    have hne : i ≠ a0 := fun e => by subst e; rw [hSa] at h; cases h
    rw [updE_ne _ hne, updE_ne _ hne, hlow i hi]
    exact ⟨h, rfl⟩
  have hinv : ∀ i b, updE (lowS s.S) a0 (some b0) i = some b → (i = a0 ∧ b = b0) ∨ (i ≠ a0 ∧ 1000 ≤ i ∧ s.S i = some b) := fun i b h => by
    by_cases e : i = a0
    · subst e
      rw [updE_same] at h
      cases h
      exact .inl ⟨rfl, rfl⟩
    · rw [updE_ne _ e] at h
      have h' : (if i < 1000 then none else s.S i) = some b := h
      split at h'
      · cases h'
      · exact .inr ⟨e, by omega, h'⟩
  refine ⟨⟨R.size, fun i hi => ?_, R.nod, R.fit, fun i b h => ?_, fun i j b c g h1 h2 g1 g2 => ?_, fun i b g h hg => ?_, R.ext, R.old, R.os, R.grown, R.same, fun i b h => ?_⟩, hS⟩
  · show VRep σ (updE (lowS s.S) a0 (some b0)) _ _ ((s.env i).hand id a0)
    unfold AV.hand
    split
    · rename_i hh
      exact (R.env i hi).hand hS hh
    · exact .any
  · rcases hinv i b h with ⟨rfl, rfl⟩ | ⟨hne, h1, h2⟩
    · rw [updE_same]
      exact (R.blk id _ hb0).samecells (fun v c hv hc => hv.stay hS' hc) hbh
    · rw [updE_ne _ hne]
      exact (R.blk i b h2).samecells (fun v c hv hc => hv.stay hS' hc) (hb i b h1 h2)
  · rcases hinv i b h1 with ⟨rfl, rfl⟩ | ⟨hne, k1, k2⟩ <;> rcases hinv j c h2 with ⟨rfl, rfl⟩ | ⟨hne', k1', k2'⟩
    · rfl
    · rw [updE_same] at g1
      rw [updE_ne _ hne'] at g2
      have := R.inj _ _ _ _ g hb0 k2' g1 g2
      omega
    · rw [updE_same] at g2
      rw [updE_ne _ hne] at g1
      have := R.inj _ _ _ _ g k2 hb0 g1 g2
      omega
    · rw [updE_ne _ hne] at g1
      rw [updE_ne _ hne'] at g2
      exact R.inj _ _ _ _ g k2 k2' g1 g2
  · rcases hinv i b h with ⟨rfl, rfl⟩ | ⟨hne, k1, k2⟩
    · rw [updE_same] at hg
      exact R.base _ _ g hb0 hg
    · rw [updE_ne _ hne] at hg
      exact R.base _ _ g k2 hg
  · obtain ⟨b', h1, h2, h3⟩ := R.upd i b h
    obtain ⟨q1, q2⟩ := hS' i b' (C.clean i b h).1 h1
    exact ⟨b', q1, h2, fun hl => ⟨(h3 hl).1, by rw [q2]; exact (h3 hl).2⟩⟩
theorem Ghost.hand (id a0 : Nat) {b0 : ABlk} (hid : id < 1000) (ha : 1000 ≤ a0) (hSa : s.S a0 = none) (hb0 : s.S id = some b0) (hbh : b0.high = true) (hb : ∀ i b, 1000 ≤ i → s.S i = some b → b.high = true) : Ghost C s ⟨fun i => (s.env i).hand id a0, updE (lowS s.S) a0 (some b0)⟩ := fun a w ⟨σ, ι, R⟩ =>
  ⟨σ, _, (R.hand id a0 hid ha hSa hb0 hbh hb).1⟩
theorem finS_hand {C : Ctx} {rs : List RV} {S' : AStore} {e : AX} {s : AS} (he : match e with | .normal => True | .ret => True | _ => False) (id a0 : Nat) (r0 : AV) {b0 : ABlk} (hid : id < 1000) (ha : 1000 ≤ a0) (hSa : s.S a0 = none) (hb0 : s.S id = some b0) (hbh : b0.high = true) (hb : ∀ i b, 1000 ≤ i → s.S i = some b → b.high = true)
    (h1 : (resAll s rs).map tupV = some r0) (hh : (r0.ren (oneTo id a0)).high = true) (h3 : updE (lowS s.S) a0 (some b0) = S') (hc : Clean S') : FinS C rs (r0.ren (oneTo id a0)) S' e s :=
  ⟨he, s, ⟨fun i => (s.env i).hand id a0, updE (lowS s.S) a0 (some b0)⟩, r0, Ghost.refl _ _, h1, fun σ ι a w R => ⟨σ, _, (R.hand id a0 hid ha hSa hb0 hbh hb).1, fun v hv => hv.hand (R.hand id a0 hid ha hSa hb0 hbh hb).2 hh⟩, h3, hc⟩
theorem upS_up (S : AStore) (i : Nat) : upS S (up1 i) = (S i).map (ABlk.ren up1) := by
  show (if i + 1000 < 1000 then none else (S (i + 1000 - 1000)).map (ABlk.ren up1)) = _
  rw [if_neg (by omega), Nat.add_sub_cancel]
theorem dnS_upd (S : AStore) (i : Nat) (b : ABlk) : dnS (updE S (up1 i) (some b)) = updE (dnS S) i (some (b.ren dn1)) := by
  funext k
  show (updE S (up1 i) (some b) (up1 k)).map _ = updE (dnS S) i _ k
  by_cases h : k = i
  · subst h
    rw [updE_same, updE_same]
    rfl
  · have hne : up1 k ≠ up1 i := fun e => h (by have := congrArg dn1 e; rw [dn_up, dn_up] at this; exact this)
    rw [updE_ne _ hne, updE_ne _ h]
    rfl
theorem lowS_low (S : AStore) {i : Nat} (h : i < 1000) (b : Option ABlk) : lowS (updE S i b) = lowS S := by
  funext k
  show (if k < 1000 then none else updE S i b k) = (if k < 1000 then none else S k)
  split
  · rfl
  · exact updE_ne _ (by omega) _
theorem lowS_high (S : AStore) {i : Nat} (h : 1000 ≤ i) (b : Option ABlk) : lowS (updE S i b) = updE (lowS S) i b := by
  funext k
  show (if k < 1000 then none else updE S i b k) = updE (lowS S) i b k
  by_cases e : k = i
  · subst e
    rw [if_neg (by omega), updE_same, updE_same]
  · rw [updE_ne _ e, updE_ne _ e]
    rfl
theorem clean_upd {S : AStore} (h : Clean S) {i : Nat} (hi : 1000 ≤ i) {b : ABlk} (hb : b.high = true) : Clean (updE S i (some b)) := fun k c hk => by
  by_cases e : k = i
  · subst e
    rw [updE_same] at hk
    cases hk
    exact ⟨hi, hb⟩
  · rw [updE_ne _ e] at hk
    exact h k c hk
theorem high_upd {S : AStore} {i : Nat} {b : ABlk} (h : ∀ k c, 1000 ≤ k → S k = some c → c.high = true) (hb : b.high = true) : ∀ k c, 1000 ≤ k → updE S i (some b) k = some c → c.high = true := fun k c hk hc => by
  by_cases e : k = i
  · subst e
    rw [updE_same] at hc
    cases hc
    exact hb
  · rw [updE_ne _ e] at hc
    exact h k c hk hc
theorem high_updL {S : AStore} {i : Nat} (hi : i < 1000) {b : Option ABlk} (h : ∀ k c, 1000 ≤ k → S k = some c → c.high = true) : ∀ k c, 1000 ≤ k → updE S i b k = some c → c.high = true := fun k c hk hc => by
  rw [updE_ne _ (by omega)] at hc
  exact h k c hk hc
end
theorem IWP.loopD {P : Program} {C : Ctx} {mu : List Nat} {Q : AX → AS → Prop} {s : AS} {x : IR} (ds : List Nat) (Inv : Nat → AS → Prop) (m0 : Nat) (h0 : Inv m0 s) (h : ∀ m s, Inv m s → IWP P C mu x (AX.then (fun s' => ∃ m', m' < m ∧ Inv m' (s'.drop ds)) Q) s) (hds : ∀ d ∈ ds, d < 1000 := by decide) : IWP P C mu (.loop x) Q s := by
  refine IWP.loop (fun m s => ∃ s1, Ghost C s s1 ∧ Inv m s1) m0 ⟨s, Ghost.refl _ _, h0⟩ fun m s ⟨s1, hg, hi⟩ => ?_
  refine (IWP.ghost hg (h m s1 hi)).mono fun e s2 he => ?_
  cases e with
  | normal =>
    obtain ⟨m', h1, h2⟩ := he
    exact ⟨m', h1, _, Ghost.drop ds s2 hds, h2⟩
  | _ => exact he
theorem ARep.out {σ : Sto} {S : AStore} {ι : AHnd} {v : Value} {c : AC} (h : ARep σ S ι v c) (hc : outC noS c = some c) : ARep σ noS noH v c := by
  cases h with
  | st h => exact .st h
  | full h => simp [outC, stC] at hc
  | row h1 h2 h3 h4 => simp [outC, stC, noS] at hc
  | part h1 h2 h3 h4 => simp [outC, stC, noS] at hc
  | rest h1 h2 h3 h4 => simp [outC, stC, noS] at hc
  | ptr h1 h2 h3 h4 => simp [outC, stC] at hc
  | mptr h1 h2 h3 h4 => simp [outC, stC] at hc
  | yld h1 h2 h3 h4 => simp [outC, stC] at hc
  | ubool => exact .ubool
  | eptr c h1 h2 hh => exact .eptr c h1 h2 hh
  | @fn f vs caps c h1 h2 h3 =>
    cases caps with
    | nil => exact .fn c h1 h2 (by simp)
    | cons x xs =>
      have hall : (x :: xs).all AC.stay = true := by
        unfold outC at hc
        by_cases e : (x :: xs).all AC.stay = true
        · exact e
        · simp only [e, if_false] at hc
          cases hc
      exact .fn c h1 h2 fun j a ha => (h3 j a ha).staying (List.all_eq_true.1 hall a (List.mem_of_getElem? ha))
  | any h => simp [outC, stC] at hc
theorem outCs_self : ∀ {cs : List AC}, outCs noS cs = some cs → ∀ c ∈ cs, outC noS c = some c
  | [], _, c, hc => by simp at hc
  | x :: xs, h, c, hc => by
    simp only [outCs] at h
    split at h
    · rename_i y ys h1 h2
      simp only [Option.some.injEq, List.cons.injEq] at h
      obtain ⟨rfl, rfl⟩ := h
      rcases List.mem_cons.1 hc with rfl | hc
      · exact h1
      · exact outCs_self h2 c hc
    · cases h
mutual
theorem VRep.out {σ : Sto} {S : AStore} {ι : AHnd} : ∀ {v : Value} {c : AV}, VRep σ S ι v c → outV noS c = some c → VRep σ noS noH v c
  | v, .one c, h, hc => by
    rw [outV, Option.map_eq_some_iff] at hc
    obtain ⟨a, h1, h2⟩ := hc
    cases h2
    cases h with | one h => exact .one (h.out h1)
  | v, .agg cs, h, hc => by
    rw [outV, Option.map_eq_some_iff] at hc
    obtain ⟨a, h1, h2⟩ := hc
    cases h2
    cases h with
    | agg h => exact .agg (All2.of_get h.len fun j x c hx hcj => by
        obtain ⟨x', q1, q2⟩ := h.get hcj
        rw [hx] at q1
        cases q1
        exact q2.out (outCs_self h1 c (List.mem_of_getElem? hcj)))
  | v, .tup vs, h, hc => by
    rw [outV, Option.map_eq_some_iff] at hc
    obtain ⟨a, h1, h2⟩ := hc
    cases h2
    cases h with
    | tup c k1 k2 k3 => exact .tup c k1 k2 (VRep.outs k3 h1)
  | v, .any, h, _ => .any
theorem VRep.outs {σ : Sto} {S : AStore} {ι : AHnd} : ∀ {vs : List AV} {c : Nat → Value}, (∀ j b, vs[j]? = some b → VRep σ S ι (c j) b) → outVs noS vs = some vs → ∀ j b, vs[j]? = some b → VRep σ noS noH (c j) b
  | [], c, h, _, j, b, hb => by simp at hb
  | x :: xs, c, h, hc, j, b, hb => by
    rw [outVs] at hc
    split at hc
    · rename_i y ys h1 h2
      simp only [Option.some.injEq, List.cons.injEq] at hc
      obtain ⟨rfl, rfl⟩ := hc
      cases j with
      | zero =>
        simp at hb
        subst hb
        exact VRep.out (h 0 _ rfl) h1
      | succ j => exact VRep.outs (c := fun j => c (j + 1)) (fun j b hb => h (j + 1) b (by simpa using hb)) h2 j b (by simpa using hb)
    · cases hc
end
theorem ACalls.toS {P : Program} {f : FuncId} {xs : List AV} {S : AStore} {r : AV} (h : ACalls P f xs r) (hx : outVs noS xs = some xs) : ACallsS P f xs S r S := by
  intro hclean σ w vs ι hglob hfit hown hvs
  have hvs' : All2 (VRep σ noS noH) vs xs := All2.of_get hvs.len fun j v x hv hxj => by
    have := VRep.outs (c := fun j => (vs[j]?).getD undef) (σ := σ) (S := S) (ι := ι) (vs := xs) (fun j b hb => by
      obtain ⟨v', h1, h2⟩ := hvs.get hb
      rw [h1]
      exact h2) hx j x hxj
    rw [hv] at this
    exact this
  refine (h σ w vs hglob hfit hvs').mono fun e w' he => ?_
  obtain ⟨v, σ', he1, he2, hf, hext, hb⟩ := he
  have hlt : ∀ id b g, S id = some b → (ι id).g = some g → g < w.heap.size := fun id b g h1 h2 => (hown.1 id b h1).gsome h2
  refine ⟨v, σ', ι, he1, hclean, Upd.refl _ _, ⟨fun id b hid => (hown.1 id b hid).mono hext.keep (Upd.refl _ _) (fun g hg => hb.block g (hlt id b g hid hg)) (fun g hg p hp => hext.old p (by have := hlt id b g hid hg; omega)), hown.2⟩,
    noS_upd (s := ⟨fun _ => .any, S⟩) he2, hf, hext.keep, fun p hp _ => hext.old p hp, ⟨hb.os, hb.tape, hb.output⟩, hb.size, fun g hg _ => hb.block g hg, fun id b g h1 h2 => .inr fun hn => hn id b h1 h2⟩
theorem finS_low {C : Ctx} {rs : List RV} {r : AV} {S' : AStore} {e : AX} {s : AS} (he : match e with | .normal => True | .ret => True | _ => False) (r0 : AV) (h1 : (resAll s rs).map tupV = some r0) (h2 : outV s.S r0 = some r) (hb : ∀ i b, 1000 ≤ i → s.S i = some b → b.high = true) (h3 : lowS s.S = S') (hc : Clean S') : FinS C rs r S' e s := by
  refine ⟨he, s, ⟨fun i => (s.env i).low, lowS s.S⟩, r0, Ghost.refl _ _, h1, fun σ ι a w R => ?_, h3, hc⟩
  exact ⟨σ, ι, R.low hb, fun v hv => noS_upd (s := ⟨fun i => (s.env i).low, lowS s.S⟩) (R.outV hv h2)⟩
theorem finS_high {C : Ctx} {rs : List RV} {r : AV} {S' : AStore} {e : AX} {s : AS} (he : match e with | .normal => True | .ret => True | _ => False) (h1 : (resAll s rs).map tupV = some r) (hh : r.high = true) (hb : ∀ i b, 1000 ≤ i → s.S i = some b → b.high = true) (h3 : lowS s.S = S') (hc : Clean S') : FinS C rs r S' e s :=
  ⟨he, s, ⟨fun i => (s.env i).low, lowS s.S⟩, r, Ghost.refl _ _, h1, fun σ ι a w R => ⟨σ, ι, R.low hb, fun v hv => hv.low (fun i b hi hS => by
    show lowS s.S i = some b
    unfold lowS
    rw [if_neg (by omega)]
    exact hS) hh⟩, h3, hc⟩
theorem finS_same {C : Ctx} {rs : List RV} {r : AV} {e : AX} {s : AS} {S : AStore} (r0 : AV) (hS : Clean S) (he : match e with | .normal => True | .ret => True | _ => False)
    (h1 : (resAll s rs).map tupV = some r0) (h2 : outV s.S r0 = some r) (h4 : ∀ i, 1000 ≤ i → s.S i = S i) : FinS C rs r S e s :=
  finS_low he r0 h1 h2 (fun i b hi hb => (hS i b (by rw [← h4 i hi]; exact hb)).2) (by
    funext i
    unfold lowS
    split
    · exact (clean_none hS (by omega)).symm
    · exact h4 i (by omega)) hS
theorem finN {C : Ctx} {rs : List RV} {e : AX} {s : AS} {ty : TypeId} {w n : Nat} {ys : List (List SV)} {mu : Bool} (he : match e with | .normal => True | .ret => True | _ => False) (id : Nat) (hid : id < 1000) (hb0 : s.S id = some (rowB mu ty w ys)) (hlow : ∀ i, 1000 ≤ i → s.S i = none)
    (h1 : (resAll s rs).map tupV = some (.one (.row id n))) : FinS C rs (.one (.row 1000 n)) (fun i => if i = 1000 then some (rowB mu ty w ys) else noS i) e s := by
  have e1 : (AV.one (.row id n)).ren (oneTo id 1000) = .one (.row 1000 n) := by simp [AV.ren, AC.ren, oneTo]
  rw [← e1]
  refine finS_hand he id 1000 _ hid (by decide) (hlow 1000 (by decide)) hb0 (by cases mu <;> rfl) (fun i b hi hb => by rw [hlow i hi] at hb; cases hb) h1 (by rw [e1]; rfl) ?_ ?_
  · funext i
    unfold updE lowS noS
    by_cases h2 : i = 1000
    · rw [if_pos h2, if_pos h2]
    · rw [if_neg h2, if_neg h2]
      split
      · rfl
      · exact hlow i (by omega)
  · intro i b hb
    have hb : (if i = 1000 then some (rowB mu ty w ys) else noS i) = some b := hb
    split at hb
    · rename_i h2
      cases hb
      exact ⟨by omega, by cases mu <;> rfl⟩
    · cases hb

open Cod (wid dat)
inductive Tm where
  | mk (name : ByteArray) (args : List Tm)
def Tm.name : Tm → ByteArray | .mk n _ => n
def Tm.args : Tm → List Tm | .mk _ xs => xs
theorem Tm.eta (t : Tm) : Tm.mk t.name t.args = t := by cases t; rfl
mutual
def Tm.dat : Tm → Dat
  | .mk n xs => .agg [.str n, .row 2 (Tm.dats xs)]
def Tm.dats : List Tm → List Dat
  | [] => []
  | t :: ts => t.dat :: Tm.dats ts
end
theorem Tm.dats_eq : ∀ xs : List Tm, Tm.dats xs = xs.map Tm.dat
  | [] => rfl
  | t :: ts => by rw [Tm.dats, Tm.dats_eq ts]; rfl
theorem Tm.dat_is {σ : Sto} {n : ByteArray} {xs : List Tm} {cs : List Value} (h : (Tm.dat (.mk n xs)).Is σ cs) :
    ∃ p len cap, cs = [.string n, .slice p len cap] ∧ n.size ≤ maxLen ∧ len = xs.length ∧ len ≤ cap ∧ cap ≤ maxLen ∧ (p = none → cap = 0) ∧ ∃ b o, (len ≠ 0 → p = some ⟨b, o, none⟩) ∧ Dat.RowIs σ 2 (xs.map Tm.dat) b o := by
  rw [Tm.dat, Tm.dats_eq] at h
  obtain ⟨x, y, rfl, ⟨rfl, hn⟩, x', y', rfl, ⟨p, len, cap, rfl, hl, r⟩, rfl⟩ := h
  exact ⟨p, len, cap, rfl, hn, by simpa using hl, r⟩
instance : Cod Tm := ⟨2, Tm.dat, fun σ t cs h => by
  cases t
  obtain ⟨p, len, cap, rfl, _⟩ := Tm.dat_is h
  rfl⟩
def TmV (σ : Sto) (v : Value) (t : Tm) : Prop := ∃ p len cap, v = .agg #[.string t.name, .slice p len cap] ∧ t.name.size ≤ maxLen ∧ Slc σ p len cap t.args
theorem TmV.ext {σ σ' : Sto} {N : Nat} {v : Value} {t : Tm} (h : TmV σ v t) (he : Ext N σ σ') : TmV σ' v t := by
  obtain ⟨p, len, cap, h1, h2, h3⟩ := h
  exact ⟨p, len, cap, h1, h2, h3.ext he⟩
theorem Slc.str {σ : Sto} {p : Option Addr} {len cap : Nat} {xs : List ByteArray} (h : Slc σ p len cap xs) (k : Nat) (hk : k < len) :
    ∃ b o a, p = some ⟨b, o, none⟩ ∧ Hid (xs[k]? = some a) ∧ σ ⟨b, o + k, none⟩ = some (.string a) ∧ a.size ≤ maxLen := by
  have hl := h.length
  obtain ⟨b, o, hp, cs, h1, h2, h3⟩ := h.get k (by omega)
  obtain ⟨rfl, h4⟩ := cells_str.1 h3
  have := h2 0 _ rfl
  exact ⟨b, o, xs[k], hp, Lib.hid (List.getElem?_eq_getElem (by omega)), by simpa [Cod.wid] using this, h4⟩
theorem wf_bounds {n : Int} (h : (Lit.int .i64 n).wf = true) : -9223372036854775808 ≤ n ∧ n ≤ 9223372036854775807 := by
  simpa [Lit.wf, IntKind.min, IntKind.max, IntKind.signed, IntKind.bits] using h
theorem Slc.int {σ : Sto} {p : Option Addr} {len cap : Nat} {xs : List Int} (h : Slc σ p len cap xs) (k : Nat) (hk : k < len) :
    ∃ b o a, p = some ⟨b, o, none⟩ ∧ Hid (xs[k]? = some a) ∧ σ ⟨b, o + k, none⟩ = some (.int .i64 a) ∧ -9223372036854775808 ≤ a ∧ a ≤ 9223372036854775807 := by
  have hl := h.length
  obtain ⟨b, o, hp, cs, h1, h2, h3⟩ := h.get k (by omega)
  obtain ⟨rfl, h4⟩ := cells_int.1 h3
  have := h2 0 _ rfl
  exact ⟨b, o, xs[k], hp, Lib.hid (List.getElem?_eq_getElem (by omega)), by simpa [Cod.wid] using this, wf_bounds h4⟩
theorem take_snoc {α : Type} {xs : List α} {k : Nat} {a : α} (h : xs[k]? = some a) : xs.take (k + 1) = xs.take k ++ [a] := by
  rw [List.take_add_one, h]; rfl
theorem lt_of_get {α : Type} {xs : List α} {k : Nat} {a : α} (h : xs[k]? = some a) : k < xs.length := by
  rcases Nat.lt_or_ge k xs.length with h' | h'
  · exact h'
  · rw [List.getElem?_eq_none h'] at h; cases h
theorem mem_of_get {α : Type} {xs : List α} {k : Nat} {a : α} (h : xs[k]? = some a) : a ∈ xs := List.mem_of_getElem? h
theorem Tm.lt_of_mem {a : Tm} {n : ByteArray} {xs : List Tm} (h : a ∈ xs) : SizeOf.sizeOf a < SizeOf.sizeOf (Tm.mk n xs) := by
  have := List.sizeOf_lt_of_mem h
  simp only [Tm.mk.sizeOf_spec]
  omega

theorem guard_ite (c P Q : Prop) [Decidable c] : ((c → P) ∧ (¬ c → Q)) = if c then P else Q := by
  by_cases h : c <;> simp [h]
theorem ite_conj {c A B : Prop} [Decidable c] (h : (c → A) ∧ (¬ c → B)) : if c then A else B := by
  by_cases hc : c
  · rw [if_pos hc]; exact h.1 hc
  · rw [if_neg hc]; exact h.2 hc
theorem pick_ite (b : Bool) (P Q : Prop) : ((b = true → P) ∧ (b = false → Q)) = if b = true then P else Q := by
  cases b <;> simp
attribute [congr] CallK.congr CallSK.congr
mutual
def encT : Tm → List SV
  | .mk n xs => [.str n, .list (encTs xs)]
def encTs : List Tm → List (List SV)
  | [] => []
  | t :: ts => encT t :: encTs ts
end
theorem encTs_eq : ∀ xs : List Tm, encTs xs = xs.map encT
  | [] => rfl
  | t :: ts => by rw [encTs, encTs_eq ts]; rfl
theorem encT_eq (t : Tm) : encT t = [.str t.name, .list (t.args.map encT)] := by
  cases t
  rw [encT, encTs_eq]
  rfl
theorem len_encT (t : Tm) : (encT t).length = 2 := by rw [encT_eq]; rfl
class Lens {α : Type} (f : α → List SV) (n : outParam Nat) : Prop where
  ok : ∀ a, (f a).length = n
theorem lens {α : Type} {f : α → List SV} {n : Nat} [h : Lens f n] {ts : List α} : ∀ x ∈ ts.map f, x.length = n := fun x hx => by
  obtain ⟨a, _, rfl⟩ := List.mem_map.1 hx
  exact h.ok a
instance : Lens encT 2 := ⟨fun t => by rw [encT_eq]; rfl⟩
theorem lens_encT {ts : List Tm} : ∀ x ∈ ts.map encT, x.length = 2 := by
  intro x hx
  obtain ⟨a, _, rfl⟩ := List.mem_map.1 hx
  exact len_encT a
theorem Tm.args_mk (n : ByteArray) (xs : List Tm) : (Tm.mk n xs).args = xs := rfl
theorem Tm.name_mk (n : ByteArray) (xs : List Tm) : (Tm.mk n xs).name = n := rfl
abbrev aInt (n : Int) : AV := .one (.st (.int .i64 n))
abbrev aBool (b : Bool) : AV := .one (.st (.bool b))
abbrev aStr (s : ByteArray) : AV := .one (.st (.str s))
abbrev aTm (t : Tm) : AV := .agg [.st (.str t.name), .st (.list (t.args.map encT))]
abbrev encI (n : Int) : List SV := [.int .i64 n]
abbrev encS (s : ByteArray) : List SV := [.str s]
abbrev encIs (p : List Int) : List SV := [.list (p.map encI)]
abbrev aIss (l : List (List Int)) : AV := .one (.st (.list (l.map encIs)))
abbrev aInts (l : List Int) : AV := .one (.st (.list (l.map encI)))
abbrev aStrs (l : List ByteArray) : AV := .one (.st (.list (l.map encS)))
abbrev aTms (l : List Tm) : AV := .one (.st (.list (l.map encT)))
theorem get_lt {α : Type} {xs : List α} {k : Nat} (h : k < xs.length) : ∃ a, xs[k]? = some a := ⟨xs[k], List.getElem?_eq_getElem h⟩
theorem inR_i64 (n : Int) : inR .i64 n ↔ -9223372036854775808 ≤ n ∧ n ≤ 9223372036854775807 := by
  simp [inR, IntKind.min, IntKind.max, IntKind.signed, IntKind.bits]
theorem maxLen_eq : maxLen = 9223372036854775807 := by simp [maxLen]
theorem known_len {S : AStore} {xs : List (List SV)} (h : (AV.one (.st (.list xs))).known S) : xs.length ≤ 9223372036854775807 := by
  simp only [AV.known, AC.known, SV.known] at h
  rw [maxLen_eq] at h
  exact h.1
theorem known_tm {S : AStore} {t : Tm} (h : (aTm t).known S) : t.name.size ≤ 9223372036854775807 ∧ t.args.length ≤ 9223372036854775807 := by
  have h1 : t.name.size ≤ maxLen := by
    have := h (.st (.str t.name)) (by simp)
    simpa [AC.known, SV.known] using this
  have h2 : t.args.length ≤ maxLen := by
    have := h (.st (.list (t.args.map encT))) (by simp)
    simp only [AC.known, SV.known, List.length_map] at this
    exact this.1
  rw [maxLen_eq] at h1 h2
  exact ⟨h1, h2⟩

def Kd.isCall : Kd → Bool
  | .call _ _ => true
  | .callS _ _ => true
  | .callV _ _ => true
  | .callN _ _ => true
  | .callR _ _ => true
  | .callW _ _ => true
  | .callX _ _ => true
  | .callY _ _ => true
  | .buildFlat _ => false
  | .cutP _ _ _ => false
  | .indexP _ _ _ => false
  | .appP _ _ _ _ _ => false
  | .restP _ _ _ => false
  | .appS _ _ _ => false
  | .loadL _ _ _ => false
  | .indexL _ _ _ => false
  | .buildL _ _ => false
  | .fieldL _ _ => false
  | .lenL _ _ => false
  | .appF _ _ _ _ _ _ => false
  | .clearP _ _ _ _ => false
  | .mov _ => false
  | .pick _ _ _ => false
  | .alloc _ _ => false
  | .box _ _ => false
  | .build _ _ => false
  | .buildSlice _ _ _ _ => false
  | .load _ _ _ => false
  | .store _ _ _ => false
  | .fieldAddr _ _ => false
  | .field _ _ _ _ => false
  | .indexAddr _ _ _ => false
  | .indexArr _ _ _ _ => false
  | .indexStr _ _ => false
  | .bin _ _ _ => false
  | .eqB _ _ _ => false
  | .eqN _ _ => false
  | .eqE _ _ => false
  | .never => false
  | .pan _ => false
  | .iface _ _ => false
  | .strOf _ => false
  | .un _ _ => false
  | .sliceS _ _ _ => false
  | .sliceL _ _ _ _ => false
  | .sliceM _ _ _ _ => false
  | .extract _ _ => false
  | .len _ _ => false
  | .append _ _ _ _ _ _ => false
  | .conv _ _ => false
  | .nilCheck _ => false
  | .mm _ _ _ => false
  | .makeSlice _ _ _ _ _ _ => false
  | .makeFunc _ _ => false
  | .makeMap _ => false
  | .lookup _ _ _ _ _ => false
  | .mapSet _ _ _ _ => false
  | .mapEntry _ _ _ _ => false
  | .entrySet _ _ _ => false
  | .rangeM _ => false
  | .next _ => false
  | .entry _ => false
  | .lenM _ => false
  | .buildArr _ => false
  | .makeMemo => false
  | .memoGet _ _ _ _ => false
  | .memoSet _ _ _ => false
inductive CallG (P : Program) (f : FuncId) (vs : List AV) (d : Option Nat) (l : List Ins) (s : AS) (K : AS → Prop) : Prop
  | mk (r : AV) (h1 : ACalls P f vs r) (h2 : Run P l (s.put d r) K)
inductive CallSG (P : Program) (f : FuncId) (vs : List AV) (S : AStore) (ks : List Nat) (d : Option Nat) (l : List Ins) (env : Nat → AV) (K : AS → Prop) : Prop
  | mk (r : AV) (S' : AStore) (h1 : ACallsS P f vs (upS S) r S') (h2 : (∀ k ∈ ks, dnS S' k = S k) ∧ Run P l ((⟨env, dnS S'⟩ : AS).put d (r.ren dn1)) K)
inductive CallNG (P : Program) (f : FuncId) (vs : List AV) (ks : List Nat) (d : Option Nat) (l : List Ins) (s : AS) (K : AS → Prop) : Prop
  | mk (mu : Bool) (e : TypeId) (w : Nat) (ys : List (List SV)) (h1 : ACallsN P f vs e w ys mu) (h2 : s.S (d.getD 0) = none ∧ (∀ k ∈ ks, (s.set (d.getD 0) (rowB mu e w ys)).S k = s.S k) ∧ Run P l ((s.set (d.getD 0) (rowB mu e w ys)).put d (.one (.row (d.getD 0) ys.length))) K)
inductive CallRG (P : Program) (f : FuncId) (vs : List AV) (d : Option Nat) (l : List Ins) (s : AS) (K : AS → Prop) : Prop
  | mk (r : AV) (rows : List (Nat × ABlk)) (h0 : ∀ q ∈ rows, s.S q.1 = some q.2) (h1 : ∀ T : AStore, (∀ q ∈ rows, T q.1 = some q.2) → ACallsS P f vs (upS T) r (upS T)) (h2 : Run P l (s.put d (r.ren dn1)) K)
inductive CallWG (P : Program) (f : FuncId) (vs : List AV) (ks : List Nat) (d : Option Nat) (l : List Ins) (s : AS) (K : AS → Prop) : Prop
  | mk (r : AV) (rows : List (Nat × ABlk × ABlk)) (h0 : holdS s.S rows) (h1 : ∀ T : AStore, holdS T rows → ACallsS P f vs (upS T) r (upS (turnS T rows))) (h2 : (∀ k ∈ ks, turnS s.S rows k = s.S k) ∧ Run P l ((⟨s.env, turnS s.S rows⟩ : AS).put d (r.ren dn1)) K)
inductive CallXG (P : Program) (S : AStore) (hs : Bool) (G : AStore → (AV → AStore → Prop) → Prop) (d : Option Nat) (l : List Ins) (env : Nat → AV) (K : AS → Prop) : Prop
  | mk (T : AStore) (Post : AV → AStore → Prop) (h1 : Clean T) (h2 : ∀ i, 1000 ≤ i → S i = T i) (h3 : hs = true) (h4 : G T Post) (h5 : ∀ r S', Clean S' → Post r S' → Run P l ((⟨env, joinS S S'⟩ : AS).put d r) K)
def Kd.goC (P : Program) (d : Option Nat) (s : AS) (t : Tag) (l : List Ins) (K : AS → Prop) : Kd → Prop
  | .call f xs => match t with
    | .no => match outVs s.S (s.evs xs) with
      | some vs => CallG P f vs d l s K
      | none => False
    | _ => False
  | .callR f xs => match t with
    | .no => CallRG P f (AV.rens up1 (s.evs xs)) d l s K
    | _ => False
  | .callW f xs => match t with
    | .no => CallWG P f (AV.rens up1 (s.evs xs)) [] d l s K
    | .keeps ks => CallWG P f (AV.rens up1 (s.evs xs)) ks d l s K
    | .onb _ => False
  | .callX f xs => match t with
    | .no => CallXG P s.S (AV.highs ((s.evs xs).map (argX s.S))) (ACallsR P f ((s.evs xs).map (argX s.S))) d l s.env K
    | _ => False
  | .callY f xs => match t with
    | .no => CallXG P s.S ((s.ev f).high && AV.highs ((s.evs xs).map (argX s.S))) (AYields P (s.ev f) ((s.evs xs).map (argX s.S))) d l s.env K
    | _ => False
  | .callN f xs => match t with
    | .no => match outVs s.S (s.evs xs) with
      | some vs => CallNG P f vs [] d l s K
      | none => False
    | .keeps ks => match outVs s.S (s.evs xs) with
      | some vs => CallNG P f vs ks d l s K
      | none => False
    | .onb _ => False
  | .callS f xs => match t with
    | .no => CallSG P f (AV.rens up1 (s.evs xs)) s.S [] d l s.env K
    | .keeps ks => CallSG P f (AV.rens up1 (s.evs xs)) s.S ks d l s.env K
    | .onb _ => False
  | .callV f xs => match (s.ev f).fnOf with
    | some (g, caps) => plainF P g = true ∧ match t with
      | .no => CallSG P g (AV.rens up1 (s.evs xs ++ caps.map .one)) s.S [] d l s.env K
      | .keeps ks => CallSG P g (AV.rens up1 (s.evs xs ++ caps.map .one)) s.S ks d l s.env K
      | .onb _ => False
    | _ => False
  | _ => False
def Run2 (P : Program) : List Ins → AS → (AS → Prop) → Prop
  | [], s, K => K s
  | i :: l, s, K => match i.kd.isCall with
    | false => match i.guard with
      | none => i.kd.goT P (i.dst.getD 0) s i.tag fun v s' => Run2 P l (s'.put i.dst v) K
      | some (g, want) => match s.env g with
        | .one (.st (.bool b)) => (b = want → i.kd.goT P (i.dst.getD 0) s i.tag fun v s' => Run2 P l (s'.put i.dst v) K) ∧ (¬ b = want → Run2 P l (s.put i.dst (.tup [])) K)
        | .tup [] => Run2 P l (s.put i.dst (.tup [])) K
        | _ => False
    | true => match i.guard with
      | none => i.kd.goC P i.dst s i.tag l K
      | some (g, want) => match s.env g with
        | .one (.st (.bool b)) => (b = want → i.kd.goC P i.dst s i.tag l K) ∧ (¬ b = want → Run2 P l (s.put i.dst (.tup [])) K)
        | .tup [] => Run2 P l (s.put i.dst (.tup [])) K
        | _ => False
section
variable {P : Program}
theorem goC_run {kd : Kd} {d : Option Nat} {s : AS} {t : Tag} {l : List Ins} {K : AS → Prop} (h : kd.goC P d s t l K) : kd.goT P (d.getD 0) s t fun v s' => Run P l (s'.put d v) K := by
  cases kd <;> simp only [Kd.goC] at h
  case call f xs =>
    cases t <;> simp only at h
    split at h
    · rename_i vs e
      obtain ⟨r, h1, h2⟩ := h
      simp only [Kd.goT, Kd.go, e]
      exact ⟨r, h1, trivial, h2⟩
    · exact h.elim
  case callN f xs =>
    cases t <;> simp only at h
    · split at h
      · rename_i vs e
        obtain ⟨mu, ty, w, ys, h1, h2, _, h3⟩ := h
        simp only [Kd.goT, Kd.go, e]
        exact ⟨mu, ty, w, ys, h1, h2, trivial, h3⟩
      · exact h.elim
    · split at h
      · rename_i vs e
        obtain ⟨mu, ty, w, ys, h1, h2, h4, h3⟩ := h
        simp only [Kd.goT, Kd.go, e]
        exact ⟨mu, ty, w, ys, h1, h2, h4, h3⟩
      · exact h.elim
  case callW f xs =>
    cases t <;> simp only at h
    · obtain ⟨r, rows, h0, h1, _, h2⟩ := h
      simp only [Kd.goT, Kd.go]
      exact ⟨r, rows, h0, h1, trivial, h2⟩
    · obtain ⟨r, rows, h0, h1, hk, h2⟩ := h
      simp only [Kd.goT, Kd.go]
      exact ⟨r, rows, h0, h1, hk, h2⟩
  case callX f xs =>
    cases t <;> simp only at h
    obtain ⟨T, Post, h1, h2, h3, h4, h5⟩ := h
    exact ⟨T, Post, h1, h2, h3, h4, fun r S' k1 k2 => ⟨trivial, h5 r S' k1 k2⟩⟩
  case callY f xs =>
    cases t <;> simp only at h
    obtain ⟨T, Post, h1, h2, h3, h4, h5⟩ := h
    exact ⟨T, Post, h1, h2, h3, h4, fun r S' k1 k2 => ⟨trivial, h5 r S' k1 k2⟩⟩
  case callR f xs =>
    cases t <;> simp only at h
    obtain ⟨r, rows, h0, h1, h2⟩ := h
    simp only [Kd.goT, Kd.go]
    exact ⟨r, rows, h0, h1, trivial, h2⟩
  case callS f xs =>
    cases t <;> simp only at h
    · obtain ⟨r, S', h1, h2, h3⟩ := h
      exact ⟨r, S', h1, trivial, h3⟩
    · obtain ⟨r, S', h1, h2, h3⟩ := h
      exact ⟨r, S', h1, h2, h3⟩
  case callV f xs =>
    split at h
    · rename_i g caps e
      obtain ⟨hp, h⟩ := h
      cases t <;> simp only at h
      · obtain ⟨r, S', h1, h2, h3⟩ := h
        simp only [Kd.goT, Kd.go, e]
        exact ⟨hp, r, S', h1, trivial, h3⟩
      · obtain ⟨r, S', h1, h2, h3⟩ := h
        simp only [Kd.goT, Kd.go, e]
        exact ⟨hp, r, S', h1, h2, h3⟩
    · exact h.elim
theorem run2_run : ∀ {l : List Ins} {s : AS} {K : AS → Prop}, Run2 P l s K → Run P l s K
  | [], s, K, h => h
  | i :: l, s, K, h => by
    unfold Run2 at h
    unfold Run
    split at h
    · split at h
      · rename_i e
        simp only [e]
        exact goT_mono h fun v s' _ h' => run2_run h'
      · rename_i g want e
        simp only [e]
        split at h
        · rename_i b e2
          simp only [e2]
          exact ⟨fun hb => goT_mono (h.1 hb) fun v s' _ h' => run2_run h', fun hb => run2_run (h.2 hb)⟩
        · rename_i e2
          simp only [e2]
          exact run2_run h
        · exact h.elim
    · split at h
      · rename_i e
        simp only [e]
        exact goC_run h
      · rename_i g want e
        simp only [e]
        split at h
        · rename_i b e2
          simp only [e2]
          exact ⟨fun hb => goC_run (h.1 hb), fun hb => run2_run (h.2 hb)⟩
        · rename_i e2
          simp only [e2]
          exact run2_run h
        · exact h.elim
theorem keep_run2 {l : List Ins} {s : AS} {K : AS → Prop} {A : Prop} (h : A ∧ Run2 P l s K) : A ∧ Run P l s K := ⟨h.1, run2_run h.2⟩
theorem IWP.ops2 {C : Ctx} {mu : List Nat} {Q : AX → AS → Prop} {s : AS} {l : List Ins} (h : ∀ K : AS → Prop, (∀ s, Q .normal s → K s) → Run2 P l s K) : IWP P C mu (.ops l) Q s := IWP.opsK fun K hK => run2_run (h K hK)
end
attribute [go_sem] fnOf_fn fnOf_clo fnOf_lit capsS Ins.i Ins.m Ins.L Ins.l Ins.f Ins.s Opd.n rowB turnS Run2 Kd.isCall Kd.goC Kd.goT Tag.ok Kd.ptrOpd ptrIs List.forall_mem_cons List.not_mem_nil Kd.go AS.ev AS.evs AS.put AS.set updE AV.cells fills elems elemsP stP stPs stC stCs outC outCs outV outVs flats blkCells idxK listOf cutOf lenOfA binI binS optI pack splice ABlk.len AS.start AS.startS noS List.getElem?_cons_zero List.getElem?_cons_succ List.getElem?_nil List.getElem?_map Option.isSome_none Option.isSome_some Option.map_some Option.map_none Option.getD_some Option.getD_none List.length_map List.length_cons List.length_nil List.length_append List.map_cons List.map_nil List.take_succ_cons List.take_zero List.take_nil List.drop_succ_cons List.drop_zero List.drop_nil List.nil_append List.cons_append List.append_nil Nat.zero_add Nat.add_zero Nat.le_refl Nat.zero_le if_true if_false Bool.false_eq_true true_and and_true Option.some.injEq Int.toNat_natCast Int.natCast_nonneg Int.ofNat_eq_natCast ite_self decide_true decide_false not_true_eq_false not_false_eq_true true_implies false_implies implies_true Bool.true_eq_false eq_self Bool.not_true Bool.not_false beq_self_eq_true Tm.args_mk Tm.name_mk AV.rens AV.ren AC.ren AC.rens ABlk.ren upS_up dn_up dnS_upd dn_upS
theorem upS_set (T : AStore) (i : Nat) (b : ABlk) : upS (updE T i (some b)) = updE (upS T) (up1 i) (some (b.ren up1)) := by
  funext k
  show (if k < 1000 then none else (updE T i (some b) (k - 1000)).map (ABlk.ren up1)) = _
  by_cases e : k = up1 i
  · subst e
    rw [updE_same, if_neg (by have := up1_le i; omega), show up1 i - 1000 = i from dn_up i, updE_same]
    rfl
  · rw [updE_ne _ e]
    by_cases hk : k < 1000
    · rw [if_pos hk]
      show none = if k < 1000 then none else _
      rw [if_pos hk]
    · rw [if_neg hk, updE_ne _ (fun h => e (by rw [← h]; exact (up_dn (by omega)).symm))]
      show _ = if k < 1000 then none else _
      rw [if_neg hk]
abbrev Wa := @IWP.seq
abbrev Wb := @seqQ_normal
abbrev Wc := @IWP.block
abbrev Wd := @IWP.skip
abbrev We := @IWP.exit
abbrev Wg := @seqQ_exit
abbrev Wh := @seqQ_ret
abbrev Wi := @inBlock_normal
abbrev Wj := @inBlock_here
abbrev Wk := @inBlock_away
abbrev Wl := @inBlock_ret
abbrev Wm := @then_exit
abbrev Wn := @then_ret
abbrev Wo := @IWP.ops2
abbrev Wp := @IWP.cond
abbrev Wq := @run2_run
abbrev Wr := @keep_run2
abbrev iC := @ite_conj
abbrev Cg := @CallG.mk
abbrev dT := @decide_eq_true_eq
abbrev dF := @decide_eq_false_iff_not
abbrev nL := @Int.ofNat_lt
abbrev eT := @encT_eq
abbrev iR := @inR_i64
attribute [go_sem ↓] guard_ite pick_ite
theorem Ai {a b : Prop} (k : b) (h : a := by first | omega | exact lens | (simp [maxLen_eq] <;> omega)) : a ∧ b := ⟨h, k⟩
theorem Wz0 {id id' : Nat} {Q : AX → AS → Prop} {s : AS} (h : Q (.exit id') s) (hne : id' ≠ id := by decide) : AX.inBlock id Q (.exit id') s := inBlock_away hne h
theorem fN {α : Type} (p : α → Prop) : ∀ x ∈ ([] : List α), p x := List.forall_mem_nil p
class Step (goal : Prop) (prev : outParam Prop) : Prop where
  imp : prev → goal
theorem W {goal prev : Prop} [s : Step goal prev] (h : prev) : goal := s.imp h
section
variable {P : Program} {C : Ctx} {mu : List Nat} {x y : IR} {Q : AX → AS → Prop} {s : AS} {id : Nat} {K : AS → Prop}
instance : Step (IWP P C mu (.seq x y) Q s) (IWP P C mu x (seqQ P C mu y Q) s) := ⟨IWP.seq⟩
instance : Step (seqQ P C mu y Q .normal s) (IWP P C mu y Q s) := ⟨seqQ_normal⟩
instance : Step (IWP P C mu (.block id x) Q s) (IWP P C mu x (AX.inBlock id Q) s) := ⟨IWP.block⟩
instance : Step (IWP P C mu .skip Q s) (Q .normal s) := ⟨IWP.skip⟩
instance : Step (IWP P C mu (.exit id) Q s) (Q (.exit id) s) := ⟨IWP.exit⟩
instance : Step (IWP P C mu .ret Q s) (Q .ret s) := ⟨IWP.ret⟩
instance : Step (seqQ P C mu y Q (.exit id) s) (Q (.exit id) s) := ⟨seqQ_exit⟩
instance : Step (seqQ P C mu y Q .ret s) (Q .ret s) := ⟨seqQ_ret⟩
instance : Step (AX.inBlock id Q .normal s) (Q .normal s) := ⟨inBlock_normal⟩
instance : Step (AX.inBlock id Q (.exit id) s) (Q .normal s) := ⟨inBlock_here⟩
instance : Step (AX.inBlock id Q .ret s) (Q .ret s) := ⟨inBlock_ret⟩
instance : Step (AX.then K Q (.exit id) s) (Q (.exit id) s) := ⟨then_exit⟩
instance : Step (AX.then K Q .ret s) (Q .ret s) := ⟨then_ret⟩
class StepC (goal : Prop) (prev : outParam Prop) : Prop where
  imp : prev → goal
class StepB (goal : Prop) (prev : outParam Prop) : Prop where
  imp : prev → goal
theorem U {goal prev : Prop} [s : StepC goal prev] (h : prev) : goal := s.imp h
theorem V {goal prev : Prop} [s : StepB goal prev] (h : prev) : goal := s.imp h
instance {l : List Ins} : StepC (Run P l s K) (Run2 P l s K) := ⟨run2_run⟩
instance {l : List Ins} {A : Prop} : StepC (A ∧ Run P l s K) (A ∧ Run2 P l s K) := ⟨keep_run2⟩
instance {l : List Ins} : StepB (Run P l s K) (Run2 P l s K) := ⟨run2_run⟩
instance {l : List Ins} {A : Prop} : StepB (A ∧ Run P l s K) (A ∧ Run2 P l s K) := ⟨keep_run2⟩
instance {c0 : Opd} : StepB (IWP P C mu (.cond c0 x y) Q s) (match s.ev c0 with | .one (.st (.bool b)) => (b = true → IWP P C mu x Q s) ∧ (b = false → IWP P C mu y Q s) | .one .ubool => IWP P C mu x Q s ∧ IWP P C mu y Q s | _ => False) := ⟨IWP.cond⟩
end
theorem IWP.fresh {P : Program} {C : Ctx} {mu : List Nat} {x : IR} {Q : AX → AS → Prop} {s : AS} (h1000 : ∀ i, 1000 ≤ i → s.S i = none) (h : ∀ env' : Nat → AV, (∀ i v, s.env i = .one (.st v) → env' i = .one (.st v)) → IWP P C mu x Q ⟨env', noS⟩) : IWP P C mu x Q s := by
  refine IWP.ghost (Ghost.low (s := s) fun i b hi hb => by rw [h1000 i hi] at hb; cases hb) ?_
  have e : lowS s.S = noS := by
    funext i
    show (if i < 1000 then none else s.S i) = none
    split
    · rfl
    · exact h1000 i (by omega)
  rw [e]
  exact h _ fun i v hv => by rw [hv]; rfl
theorem IWP.mid {P : Program} {C : Ctx} {mu : List Nat} {x y : IR} {Q : AX → AS → Prop} {s : AS} (M : AS → Prop) (h1 : IWP P C mu x (fun e s => e = .normal ∧ M s) s) (h2 : ∀ s, M s → IWP P C mu y Q s) : IWP P C mu (x.seq y) Q s :=
  IWP.seq (h1.mono fun e s ⟨he, hm⟩ => by subst he; exact seqQ_normal (h2 s hm))

section
variable {P : Program} {C : Ctx} {a : Act} {w : World} {σ : Sto} {ι : AHnd} {s : AS} {Q : Exit → Act → World → Prop} {o : Oper}
end
section
variable {P : Program} {C : Ctx} {mu : List Nat} {Q : AX → AS → Prop} {s : AS}
end

def AIter (P : Program) (f : FuncId) (caps : List AV) (Need : AStore → Prop) {α : Type} (encs : α → List AV) (all : List α) : Prop :=
  ∀ (y : Nat) (Inv : List α → AStore → Prop) (Jx : AStore → Prop) (T : AStore), 1000 ≤ y → (∀ pre T, Inv pre T → Need T) →
    (∀ pre v, (pre ++ [v]) <+: all → ∀ T, Inv pre T → AYields P (.one (.yld y)) (encs v) T fun r T' => (r = .one (.st (.bool true)) ∧ Inv (pre ++ [v]) T') ∨ (r = .one (.st (.bool false)) ∧ Jx T')) →
    Inv [] T → ACallsR P f (.one (.yld y) :: caps) T fun _ T' => Inv all T' ∨ Jx T'
def setPs (env : Nat → AV) : List Nat → List AV → Nat → AV
  | p :: ps, v :: vs => setPs (updE env p v) ps vs
  | _, _ => env
section
variable {σ : Sto} {S : AStore} {ι : AHnd}
theorem setPs_rep {n : Nat} : ∀ {ps : List Nat} {vs : List Value} {xs : List AV} {tmps : Array Value} {env : Nat → AV}, All2 (VRep σ S ι) vs xs → n ≤ tmps.size → (∀ i, i < n → VRep σ S ι (tmps.getD i undef) (env i)) →
    n ≤ ((ps.zip vs).foldl (fun t (p, v) => t.setIfInBounds p v) tmps).size ∧ ∀ i, i < n → VRep σ S ι (((ps.zip vs).foldl (fun t (p, v) => t.setIfInBounds p v) tmps).getD i undef) (setPs env ps xs i)
  | [], vs, xs, tmps, env, h, hs, he => ⟨hs, he⟩
  | p :: ps, [], [], tmps, env, h, hs, he => ⟨hs, he⟩
  | p :: ps, v :: vs, x :: xs, tmps, env, h, hs, he => by
    cases h with
    | cons h1 h2 =>
      refine setPs_rep (ps := ps) h2 (by simpa using hs) fun i hi => ?_
      unfold updE
      by_cases e : i = p
      · subst e
        rw [if_pos rfl, Array.getD_eq_getD_getElem?, Array.getElem?_setIfInBounds_self_of_lt (by omega)]
        exact h1
      · rw [if_neg e, Array.getD_eq_getD_getElem?, Array.getElem?_setIfInBounds_ne (fun h => e h.symm), ← Array.getD_eq_getD_getElem?]
        exact he i hi
end
section
variable {P : Program} {C : Ctx} {mu : List Nat} {Q : AX → AS → Prop} {s : AS} {x y : IR} {σ : Sto} {ι : AHnd} {a : Act} {w : World}
theorem Refs.upped (R : Refs C σ ι s a w) : ∃ ι1 : AHnd, (∀ i, ι1 (up1 i) = ι i) ∧ Owned σ (upS s.S) ι1 w ∧ (∀ v c, VRep σ s.S ι v c → VRep σ (upS s.S) ι1 v (c.ren up1)) ∧
    ∀ {Post : AV → AStore → Prop} {e : Ending} {w' : World}, EndS σ (upS s.S) ι1 w Post e w' → ∃ v r S' σ' ι2, e = .returned v ∧ Post r S' ∧ Clean S' ∧ Upd s.S ι (dnS S') ι2 ∧ Refs C σ' ι2 ⟨s.env, dnS S'⟩ a w' := by
  have hup : ∀ i, dn1 (up1 i) = i := dn_up
  have hS : ∀ i b, s.S i = some b → upS s.S (up1 i) = some (b.ren up1) := fun i b hb => upS_some hb
  obtain ⟨ι1, hι1⟩ : ∃ ι1 : AHnd, ∀ i, ι1 i = ι (dn1 i) := ⟨fun i => ι (dn1 i), fun _ => rfl⟩
  have hι : ∀ i b, s.S i = some b → ι1 (up1 i) = ι i := fun i b _ => by rw [hι1, hup]
  have hown : Owned σ (upS s.S) ι1 w := by
    refine ⟨fun id b hb => ?_, fun id id' b b' g h1 h2 g1 g2 => ?_⟩
    · obtain ⟨hle, b', h1, rfl⟩ := upS_inv hb
      have := BRep.ren (S2 := upS s.S) (ι2 := ι1) (ρ := up1) hS hι (R.blk _ _ h1)
      rw [hι1]
      exact this
    · obtain ⟨l1, c1, k1, _⟩ := upS_inv h1
      obtain ⟨l2, c2, k2, _⟩ := upS_inv h2
      rw [hι1] at g1 g2
      have := R.inj _ _ _ _ g k1 k2 g1 g2
      rw [← up_dn l1, ← up_dn l2, this]
  refine ⟨ι1, fun i => by rw [hι1, hup], hown, fun v c hv => VRep.ren (S2 := upS s.S) (ι2 := ι1) (ρ := up1) hS hι hv, fun {Post e w'} he => ?_⟩
  obtain ⟨v, r, S', σ', ι', rfl, hP, hclean, hupd, hown', hv, hf', hkeep, hold, hos, hsz, hsame, hbase⟩ := he
  have hSd : ∀ i b, S' i = some b → dnS S' (dn1 i) = some (b.ren dn1) := fun i b hb => dnS_some (hclean i b hb).1 hb
  obtain ⟨ι2, hι2⟩ : ∃ ι2 : AHnd, ∀ i, ι2 i = ι' (up1 i) := ⟨fun i => ι' (up1 i), fun _ => rfl⟩
  have hιd : ∀ i b, S' i = some b → ι2 (dn1 i) = ι' i := fun i b hb => by
    rw [hι2, up_dn (hclean i b hb).1]
  have hu : Upd s.S ι (dnS S') ι2 := fun id b hb => by
    obtain ⟨b', h1, h2, h3⟩ := hupd _ _ (hS id b hb)
    have h4 := hSd _ _ h1
    rw [hup] at h4
    refine ⟨_, h4, by rw [ren_len] at h2 ⊢; exact h2, fun hl => ?_⟩
    rw [ren_len] at hl
    obtain ⟨q1, q2⟩ := h3 (by rw [ren_len]; exact hl)
    refine ⟨by rw [ren_wid] at q1 ⊢; exact q1, ?_⟩
    rw [hι2, q2, hι1, hup]
  have hnot : ∀ g, g < C.N → ¬ C.G g → notOf (upS s.S) ι1 g := fun g h1 h2 id b hb hg => by
    obtain ⟨_, b', k1, _⟩ := upS_inv hb
    rw [hι1] at hg
    rcases R.base _ _ g k1 hg with h | h
    · omega
    · exact h2 h
  refine ⟨v, r, S', σ', ι2, rfl, hP, hclean, hu, ?_⟩
  refine ⟨R.size, fun i hi => (R.env i hi).mono hkeep hu, R.nod.mono (fun D h => (hsame D (Array.getElem?_eq_some_iff.1 h).1 (notOf_mark hown.1 h)).trans h), hf', fun id b hb => ?_, fun id id' b b' g h1 h2 g1 g2 => ?_, fun id b g hb hg => ?_, fun p x hx => hkeep _ _ (R.ext p x hx), fun p h1 h2 => ?_, ⟨hos.1.trans R.os.1, hos.2.1.trans R.os.2.1, hos.2.2.trans R.os.2.2⟩, ⟨Nat.le_trans R.grown.1 hsz, Nat.le_trans R.grown.2 hsz⟩, fun g h1 h2 => ?_, R.upd.trans hu⟩
  · obtain ⟨b', h1, rfl⟩ := dnS_inv hb
    have := BRep.ren (S2 := dnS S') (ι2 := ι2) (ρ := dn1) hSd hιd (hown'.1 _ _ h1)
    rw [hι2]
    exact this
  · obtain ⟨c1, k1, _⟩ := dnS_inv h1
    obtain ⟨c2, k2, _⟩ := dnS_inv h2
    rw [hι2] at g1 g2
    have := congrArg dn1 (hown'.2 _ _ _ _ g k1 k2 g1 g2)
    rw [hup, hup] at this
    exact this
  · obtain ⟨b', h1, _⟩ := dnS_inv hb
    rw [hι2] at hg
    rcases hbase _ _ g h1 hg with h2 | h2
    · exact .inl (by have := R.grown.1; omega)
    · by_cases hN : g < C.N
      · by_cases hG : C.G g
        · exact .inr hG
        · exact absurd (hnot g hN hG) h2
      · exact .inl (by omega)
  · exact (hold p (by have := R.grown.1; omega) (hnot _ h1 h2)).trans (R.old p h1 h2)
  · exact (hsame g (by have := R.grown.1; omega) (hnot g h1 h2)).trans (R.same g h1 h2)
theorem Refs.setLoop (R : Refs C σ ι s a w) {id l : Nat} {env : List AV} {r : Loop} (r' : Loop) (hS : s.S id = some (.loop env r)) (hl : (ι id).g = some l) (hr : r'.tmps = r.tmps) : w.heap[l]? = some (.loop r) ∧ ∃ ι', Refs C σ ι' (s.set id (.loop env r')) a (w.putObj l (.loop r')) ∧ Upd s.S ι (s.set id (.loop env r')).S ι' := by
  have hb := R.blk id _ hS
  cases hb with
  | loop h1 h2 h3 h4 h5 =>
    rw [hl] at h1
    cases h1
    exact ⟨h2, R.setBlk (o' := .loop r') hS hl h2 h5 rfl rfl fun S' ι' hu => .loop hl (set_heap h2).1 (by rw [hr]; exact h3) (fun j a ha => by rw [hr]; exact (h4 j a ha).mono (fun _ _ h => h) hu) h5⟩
def RoundQ (C : Ctx) (y : Nat) (b : ABlk) (N : AStore → Prop) (Jx : AX → AStore → Prop) (e : AX) (s : AS) : Prop := ∃ s2 U, Ghost C s s2 ∧ s2.S = updE U y (some b) ∧ Clean s2.S ∧ U y = none ∧ match e with
  | .normal => N U
  | .ret => Jx .ret U
  | .exit i => Jx (.exit i) U
  | .pan _ => False
theorem finish_round {C : Ctx} {σ0 : Sto} {T : AStore} {ι0 : AHnd} {w0 : World} (hC : C.N = w0.heap.size) (hw : C.w0 = w0) (hσ : C.σ0 = σ0) (hG : ∀ g, C.G g ↔ ¬ notOf T ι0 g) (hS0 : C.S0 = T) (hι0 : C.ι0 = ι0) (R : Refs C σ ι s a w) (hc : Clean s.S) {Post : AV → AStore → Prop} {b : Bool} (hP : Post (.one (.st (.bool b))) s.S) : EndS σ0 T ι0 w0 Post (.returned (.bool b)) w := by
  have hupd := R.upd
  rw [hS0, hι0] at hupd
  subst hσ hw
  exact ⟨.bool b, _, s.S, σ, ι, rfl, hP, hc, hupd, ⟨R.blk, R.inj⟩, .one (.st .bool), R.fit, R.ext, fun p h1 h2 => R.old p (by rw [hC]; exact h1) (fun h => (hG _).1 h h2), R.os, R.grown.2, fun g h1 h2 => R.same g (by rw [hC]; exact h1) (fun h => (hG _).1 h h2), fun id b g h1 h2 => (R.base id b g h1 h2).imp (fun h => by rw [← hC]; exact h) fun h => (hG _).1 h⟩
theorem updE_over {S : AStore} {i : Nat} {b c : Option ABlk} : updE (updE S i b) i c = updE S i c := by
  funext j
  unfold updE
  split <;> rfl
inductive Jump : Code → AX → Prop
  | ret : Jump .ret .ret
  | exit (i : Nat) : Jump (.exit i) (.exit i)
theorem round_at {fn : FuncId} {ps : Array Tmp} {ca cb : Code} {D : Nat} {n : Nat} {env : List AV} {tmps : Array Value} (hx : trCode P n mu ca = some x) (hy : trCode P n mu cb = some y) (hn : env.length = n) {yb : Nat} (hyb : 1000 ≤ yb) {rec : LoopState → Option Code → Loop} (hrec : rec = fun st pe => { state := st, pending := pe, fn, tmps, params := ps, assign := ca, body := cb, defers := D }) {vs : List AV} (hps : vs.length = ps.size)
    {U : AStore} (hU : U yb = none) {N : AStore → Prop} {Jx : AX → AStore → Prop}
    (h : Clean (updE U yb (some (.loop env (rec .ready none)))) → ∀ C' : Ctx, C'.n = n → IWP P C' mu x (AX.then (fun s1 => s1.S yb = some (.loop env (rec .ready none)) ∧ IWP P C' mu y (RoundQ C' yb (.loop env (rec .busy none)) N Jx) (s1.set yb (.loop env (rec .busy none)))) fun _ _ => False) ⟨setPs (fun i => (env[i]?).getD .any) ps.toList vs, updE U yb (some (.loop env (rec .ready none)))⟩) :
    AYields P (.one (.yld yb)) vs (updE U yb (some (.loop env (rec .ready none)))) fun r T' => (r = .one (.st (.bool true)) ∧ ∃ U', T' = updE U' yb (some (.loop env (rec .ready none))) ∧ U' yb = none ∧ N U') ∨
      (r = .one (.st (.bool false)) ∧ ∃ U' c e, T' = updE U' yb (some (.loop env (rec .done (some c)))) ∧ U' yb = none ∧ Jump c e ∧ Jx e U') := by
  intro hclean σ w vy xs ι hglob hfit hown hvy hxs
  obtain ⟨T, hT⟩ : ∃ T, updE U yb (some (.loop env (rec .ready none))) = T := ⟨_, rfl⟩
  have hTy : T yb = some (.loop env (rec .ready none)) := by rw [← hT]; exact updE_same _ _ _
  rw [hT] at hclean hown hvy hxs h ⊢
  have hhigh := (hclean _ _ hTy).2
  have hb := hown.1 _ _ hTy
  obtain ⟨l, hl, rfl⟩ : ∃ l, (ι yb).g = some l ∧ vy = .func (.yield l) #[] #[] := by
    cases hvy with
    | one hv =>
      cases hv with
      | yld k1 k2 k3 k4 =>
        rw [hTy] at k1
        cases k1
        exact k4 rfl
  have hlen := hxs.len
  cases hb with
  | loop k1 k2 k3 k4 k5 =>
  rw [hl] at k1
  cases k1
  have htm : (rec .ready none).tmps = tmps := by rw [hrec]
  refine ⟨l, rfl, fun ro => ⟨fn, _, ca, cb, by
    have := run_yield (P := P) (args := xs.toArray) k2 (by rw [hrec]; simp; omega)
    rw [hrec] at this
    exact this, ?_⟩⟩
  let C' : Ctx := ⟨n, w.heap.size, fun g => ¬ notOf T ι g, σ, w, T, ι, hclean, hglob, [], some l, false⟩
  have hset := setPs_rep (σ := σ) (S := T) (ι := ι) (n := n) (ps := ps.toList) (env := fun i => (env[i]?).getD .any) (tmps := tmps) hxs (by rw [htm] at k3; omega) fun i hi => by
    have hi' : i < env.length := by omega
    have := k4 i _ (List.getElem?_eq_getElem hi')
    rw [htm] at this
    simpa [hi'] using this
  have hfold : (ps.zip xs.toArray).foldl (fun t (p, v) => t.setIfInBounds p v) tmps = (ps.toList.zip xs).foldl (fun t (p, v) => t.setIfInBounds p v) tmps := by
    rw [← Array.foldl_toList, Array.toList_zip]
  have R0 : Refs C' σ ι ⟨setPs (fun i => (env[i]?).getD .any) ps.toList vs, T⟩ { tmps := (ps.zip xs.toArray).foldl (fun t (p, v) => t.setIfInBounds p v) tmps, defers := [] } w := by
    refine ⟨?_, fun i hi => ?_, marks_nil, hfit, hown.1, hown.2, fun id b g h hg => .inr (fun hno => hno id b h hg), fun _ _ h => h, fun _ _ _ => rfl, ⟨rfl, rfl, rfl⟩, ⟨Nat.le_refl _, Nat.le_refl _⟩, fun _ _ _ => rfl, Upd.refl _ _⟩
    · dsimp only
      rw [hfold]
      exact hset.1
    · dsimp only
      rw [hfold]
      exact hset.2 i hi
  refine roundIn_of_wpIn (F := fen ro) (n := 0) trivial (wpIn_mono (h hclean C' rfl ca hx _ w ⟨σ, ι, R0⟩) fun e a1 w1 he => ?_)
  have same : ∀ {σ1 : Sto} {ι1 : AHnd} {s1 : AS} {a1 : Act} {w1 : World} {b : ABlk}, Refs C' σ1 ι1 s1 a1 w1 → s1.S yb = some b → b.len = 1 → (ι1 yb).g = some l := fun R1 hs hl1 => by
    obtain ⟨b', h1, h2, h3⟩ := R1.upd yb _ hTy
    rw [hs] at h1
    cases h1
    rw [(h3 hl1).2]
    exact hl
  cases e with
  | normal =>
    obtain ⟨s1, ⟨h1, h2⟩, σ1, ι1, R1⟩ := he
    obtain ⟨q1, ι2, R2, _⟩ := R1.setLoop (rec .busy none) h1 (same R1 h1 rfl) (by rw [hrec])
    refine ⟨_, by
      have := run_beginRound (P := P) q1 (by rw [hrec])
      rw [hrec] at this
      exact this, ?_⟩
    have e1 : (w1.putObj l (.loop (rec .busy none))) = w1.putObj l (.loop { state := .busy, pending := none, fn, tmps, params := ps, assign := ca, body := cb, defers := D }) := by rw [hrec]
    rw [← e1]
    refine wpIn_mono (h2 cb hy _ _ ⟨σ1, ι2, R2⟩) fun e3 a3 w3 he3 => ?_
    have fin : ∀ (jump : Option Code) (s3 s4 : AS) (U2 : AStore), Ghost C' s3 s4 → s4.S = updE U2 yb (some (.loop env (rec .busy none))) → Clean s4.S → Holds C' s3 a3 w3 →
        ∃ σ5 ι5 s5, (Instr.endRound l jump).run P w3 = .ok (.bool jump.isNone) (w3.putObj l (.loop (rec (if jump.isNone then .ready else .done) jump))) ∧ s5.S = updE U2 yb (some (.loop env (rec (if jump.isNone then .ready else .done) jump))) ∧ Clean s5.S ∧ Refs C' σ5 ι5 s5 a3 (w3.putObj l (.loop (rec (if jump.isNone then .ready else .done) jump))) := fun jump s3 s4 U2 hg hS hc hH => by
      obtain ⟨σ4, ι4, R4⟩ := hg _ _ hH
      have h4 : s4.S yb = some (.loop env (rec .busy none)) := by rw [hS]; exact updE_same _ _ _
      obtain ⟨q2, ι5, R5, _⟩ := R4.setLoop (rec (if jump.isNone then .ready else .done) jump) h4 (same R4 h4 rfl) (by rw [hrec])
      refine ⟨σ4, ι5, _, ?_, ?_, ?_, R5⟩
      · have := run_endRound (P := P) jump q2
        rw [hrec] at this ⊢
        exact this
      · show updE s4.S yb _ = _
        rw [hS, updE_over]
      · exact clean_upd hc hyb hhigh
    cases e3 with
    | normal =>
      obtain ⟨s3, ⟨s4, U2, g1, g2, g3, g4, g5⟩, hH⟩ := he3
      obtain ⟨σ5, ι5, s5, f1, f2, f3, R5⟩ := fin none s3 s4 U2 g1 g2 g3 hH
      exact ⟨_, _, f1, finish_round (C := C') rfl rfl rfl (fun g => Iff.rfl) rfl rfl R5 f3 (.inl ⟨rfl, U2, f2, g4, g5⟩)⟩
    | ret =>
      obtain ⟨s3, ⟨s4, U2, g1, g2, g3, g4, g5⟩, hH⟩ := he3
      obtain ⟨σ5, ι5, s5, f1, f2, f3, R5⟩ := fin (some .ret) s3 s4 U2 g1 g2 g3 hH
      exact ⟨_, _, f1, finish_round (C := C') rfl rfl rfl (fun g => Iff.rfl) rfl rfl R5 f3 (.inr ⟨rfl, U2, _, _, f2, g4, .ret, g5⟩)⟩
    | exit i =>
      obtain ⟨s3, ⟨s4, U2, g1, g2, g3, g4, g5⟩, hH⟩ := he3
      obtain ⟨σ5, ι5, s5, f1, f2, f3, R5⟩ := fin (some (.exit i)) s3 s4 U2 g1 g2 g3 hH
      exact ⟨_, _, f1, finish_round (C := C') rfl rfl rfl (fun g => Iff.rfl) rfl rfl R5 f3 (.inr ⟨rfl, U2, _, _, f2, g4, .exit i, g5⟩)⟩
    | panic ch => obtain ⟨s3, v, ⟨⟨s4, U2, g1, g2, g3, g4, g5⟩, _⟩, _⟩ := he3; exact g5.elim
    | _ => exact he3.elim
  | panic ch => obtain ⟨s1, v, h1, h2⟩ := he; exact h1.1.elim
  | ret => obtain ⟨s1, h1, h2⟩ := he; exact h1.elim
  | exit i => obtain ⟨s1, h1, h2⟩ := he; exact h1.elim
  | _ => exact he.elim
def envOf (n : Nat) (env : Nat → AV) : List AV := (List.range n).map env
theorem envOf_len {n : Nat} {env : Nat → AV} : (envOf n env).length = n := by simp [envOf]
theorem envOf_at {n i : Nat} {env : Nat → AV} {a : AV} (h : (envOf n env)[i]? = some a) : i < n ∧ a = env i := by
  unfold envOf at h
  rw [List.getElem?_map, Option.map_eq_some_iff] at h
  obtain ⟨j, h1, h2⟩ := h
  obtain ⟨h3, h4⟩ := List.getElem?_eq_some_iff.1 h1
  simp at h3 h4
  subst h4
  exact ⟨h3, h2.symm⟩
theorem trCode_rangeF {n : Nat} {c : Code} {g : Opd} {ps : List Nat} (h : trCode P n mu c = some (.rangeF g ps x y)) : ∃ g' ps' ca cb, c = .rangeFunc g' ps' ca cb ∧ trOpd n g' = some g ∧ ps'.toList = ps ∧ trCode P n mu ca = some x ∧ trCode P n mu cb = some y := by
  cases c <;> simp only [trCode] at h
  case rangeFunc g' ps' ca cb =>
    split at h
    · rename_i e1 e2 e3
      split at h
      · cases h
        exact ⟨_, _, _, _, rfl, e1, rfl, e2, e3⟩
      · cases h
    · cases h
  all_goals (exfalso; revert h; (repeat' split) <;> simp)
theorem dnS_set {U : AStore} {id : Nat} {b c : Option ABlk} : updE (dnS (updE U (up1 id) b)) id c = updE (dnS U) id c := by
  funext j
  unfold updE
  by_cases e : j = id
  · rw [if_pos e, if_pos e]
  · rw [if_neg e, if_neg e]
    show (if j + 1000 = up1 id then b else U (j + 1000)).map (ABlk.ren dn1) = (U (j + 1000)).map (ABlk.ren dn1)
    rw [if_neg (show ¬ j + 1000 = up1 id by unfold up1; omega)]
theorem clean_off {U : AStore} {i : Nat} {b : ABlk} (h : Clean (updE U i (some b))) (hU : U i = none) : Clean U := fun j c hc => h j c (by
  rw [updE_ne _ (fun e => by rw [e, hU] at hc; cases hc)]
  exact hc)
def upEnv (n : Nat) (env : Nat → AV) : Nat → AV := fun i => if i < n then (env i).ren up1 else .any
theorem upEnv_eq {n : Nat} {env : Nat → AV} : (fun i => ((AV.rens up1 (envOf n env))[i]?).getD .any) = upEnv n env := by
  funext i
  unfold upEnv envOf
  rw [AV.rens_eq, List.map_map, List.getElem?_map]
  by_cases h : i < n
  · rw [if_pos h, List.getElem?_range h]
    rfl
  · rw [if_neg h, List.getElem?_eq_none (by simp; omega)]
    rfl
theorem IWP.rangeF {g : Opd} {ps : List Nat} (htop : C.Top) (id : Nat) (hid : id < 1000) (hfree : s.S id = none) {f : Nat} {caps : List AC} (hg : s.ev g = .one (.fn f caps)) (hpl : plainF P f = true) {α : Type} {encs : α → List AV} {all : List α} {Need : AStore → Prop} (hit : AIter P f (AV.rens up1 (caps.map .one)) Need encs all)
    (hlen : ∀ v, (encs v).length = ps.length) (Inv : List α → AStore → Prop) (Jx : AX → AStore → Prop) (h0 : Inv [] (upS s.S)) (hneed : ∀ pre U b, Inv pre U → U (up1 id) = none → Need (updE U (up1 id) (some b)))
    (hbody : ∀ (C' : Ctx) (b0 b1 : ABlk) (pre : List α) (v : α) (U : AStore), C'.n = C.n → (pre ++ [v]) <+: all → Inv pre U → U (up1 id) = none → Clean U → b1.high = true →
      IWP P C' mu x (AX.then (fun s1 => s1.S (up1 id) = some b0 ∧ IWP P C' mu y (RoundQ C' (up1 id) b1 (Inv (pre ++ [v])) Jx) (s1.set (up1 id) b1)) fun _ _ => False) ⟨setPs (upEnv C.n s.env) ps (encs v), updE U (up1 id) (some b0)⟩)
    (hdone : ∀ U, Inv all U → Q .normal ⟨s.env, updE (dnS U) id (some (.dead 1 0))⟩) (hjump : ∀ e U, Jx e U → Q e ⟨s.env, updE (dnS U) id (some (.dead 1 0))⟩) : IWP P C mu (.rangeF g ps x y) Q s := fun c hc a w hH => by
  obtain ⟨g', ps', ca, cb, rfl, hg', rfl, hx, hy⟩ := trCode_rangeF hc
  obtain ⟨σ, ι, R⟩ := hH
  have rg := R.ev hg'
  rw [hg] at rg
  replace rg := vrep_one rg
  generalize hev : a.eval g' = fv at rg
  cases rg with
  | @fn _ vc _ cc g1 g2 g3 =>
  refine wpIn_rangeFunc fun fn hfn => ?_
  obtain ⟨rec, hrec⟩ : ∃ rec : LoopState → Option Code → Loop, rec = fun st pe => { state := st, pending := pe, fn, tmps := a.tmps, params := ps', assign := ca, body := cb, defers := w.heap.size } := ⟨_, rfl⟩
  obtain ⟨w1, hw1⟩ : ∃ w1, (w.alloc (.deferred (some []))).alloc (.loop (rec .ready none)) = w1 := ⟨_, rfl⟩
  have hsz : (w.alloc (.deferred (some []))).heap.size = w.heap.size + 1 := World.size_alloc _ _
  have R1 : Refs C σ ι s { a with defers := mark w.heap.size :: a.defers } (w.alloc (.deferred (some []))) := by
    have R' := R.more (w' := w.alloc (.deferred (some []))) (Ext.refl _ _) (R.fit.alloc _) (More.alloc _ _)
    refine { R' with nod := ?_ }
    obtain ⟨l, h1, h2, h3, _⟩ := R.nod
    refine ⟨w.heap.size :: l, by show _ :: a.defers = _; rw [h1]; rfl, List.nodup_cons.2 ⟨fun hm => ?_, h2⟩, fun D hD => ?_, fun hm => by rw [htop.2] at hm; cases hm⟩
    · have := (Array.getElem?_eq_some_iff.1 (h3 _ hm).2).1
      omega
    · rcases List.mem_cons.1 hD with rfl | hD
      · exact ⟨R.grown.1, World.alloc_heap_new w _⟩
      · exact ⟨(h3 D hD).1, (Below.heap_alloc _ _ _ (Array.getElem?_eq_some_iff.1 (h3 D hD).2).1).trans (h3 D hD).2⟩
  have hsize := R.size
  obtain ⟨hu2, R2⟩ := R1.fresh (w' := w1) hfree (.loop (envOf C.n s.env) (rec .ready none)) ⟨none, 0, some (w.heap.size + 1)⟩ (Ext.refl _ _) (by rw [← hw1]; exact R1.fit.alloc _) (by rw [← hw1]; exact More.alloc _ _) (fun g hg => by cases hg; omega) (fun S' ι' hu => .loop (g := w.heap.size + 1) rfl (by rw [← hw1, ← hsz]; exact World.alloc_heap_new _ _) (by rw [envOf_len, hrec]; exact hsize) (fun j b hb => by
      obtain ⟨hj, rfl⟩ := envOf_at hb
      rw [hrec]
      exact (R.env j hj).mono (fun _ _ h => h) hu) (fun p hp => R1.fit.no (by rw [hsz]; omega)))
  have hl2 : (updE ι id (⟨none, 0, some (w.heap.size + 1)⟩ : Hnd) id).g = some (w.heap.size + 1) := by rw [updE_same]
  generalize updE ι id (⟨none, 0, some (w.heap.size + 1)⟩ : Hnd) = ι2 at R2 hl2 hu2
  obtain ⟨ι3, hι3, hown, hren, hend⟩ := R2.upped
  have hargs : All2 (VRep σ (upS (s.set id (.loop (envOf C.n s.env) (rec .ready none))).S) ι3) (.func (.yield (w.heap.size + 1)) #[] #[] :: vc.toList) (.one (.yld (up1 id)) :: AV.rens up1 (caps.map .one)) := by
    have hS2 : (s.set id (.loop (envOf C.n s.env) (rec .ready none))).S id = some (.loop (envOf C.n s.env) (rec .ready none)) := updE_same _ _ _
    refine .cons (hren _ _ (.one (.yld hS2 (Nat.le_refl _) rfl fun _ => ⟨_, hl2, rfl⟩))) ?_
    rw [AV.rens_eq]
    refine (All2.mono (fun v c h => hren v c h) ?_).map_right
    refine (All2.of_get (R := fun v c => VRep σ (s.set id (.loop (envOf C.n s.env) (rec .ready none))).S ι2 v (.one c)) (by simpa using g1) fun j v b hv hb => ?_).map_right
    have e := g2 j b hb
    have e2 : vc.toList[j]? = some (cc j) := by simpa using e
    rw [hv] at e2
    cases e2
    exact .one ((g3 j b hb).mono (fun _ _ h => h) hu2)
  have hcl := clean_upS (s.set id (.loop (envOf C.n s.env) (rec .ready none))).S
  have hTeq : upS (s.set id (.loop (envOf C.n s.env) (rec .ready none))).S = updE (upS s.S) (up1 id) (some (.loop (AV.rens up1 (envOf C.n s.env)) (rec .ready none))) := upS_set _ _ _
  have hcall := hit (up1 id) (fun pre T => ∃ U, T = updE U (up1 id) (some (.loop (AV.rens up1 (envOf C.n s.env)) (rec .ready none))) ∧ U (up1 id) = none ∧ Inv pre U)
    (fun T => ∃ U c e, T = updE U (up1 id) (some (.loop (AV.rens up1 (envOf C.n s.env)) (rec .done (some c)))) ∧ U (up1 id) = none ∧ Jump c e ∧ Jx e U)
    _ (up1_le id) (fun pre T hT => by
      obtain ⟨U, rfl, hU, hI⟩ := hT
      exact hneed pre U _ hI hU) (fun pre v hpre T hT => by
      obtain ⟨U, rfl, hU, hI⟩ := hT
      exact round_at hx hy (by rw [AV.rens_eq, List.length_map, envOf_len]) (up1_le id) hrec (by rw [hlen]; simp) hU fun hc C' hC' => by
        rw [upEnv_eq]
        exact hbody C' _ (.loop (AV.rens up1 (envOf C.n s.env)) (rec .busy none)) pre v U hC' hpre hI hU (clean_off hc hU) (AV.rens_high _))
    ⟨_, hTeq, by rw [upS_up, hfree]; rfl, h0⟩ hcl σ w1 _ ι3 (C.glob.mono R.ext) R2.fit hown hargs
  refine ⟨w.heap.size + 1, [mark w.heap.size], w1, { target := .fn (.func f) vc, args := #[.func (.yield (w.heap.size + 1)) #[] #[]] }, w1, f, #[.func (.yield (w.heap.size + 1)) #[] #[]] ++ vc, w1, ?_, ?_, fun _ _ => trivial, ?_, fun h => by simp [fen, Fence.wide] at h, ?_⟩
  · have hr : (fen C.ro).round = none := htop.1
    rw [hr, ← hw1, hrec]
    exact run_enterLoop_outer _ _ _ _ _
  · simp only [resolve, hev]
    simp [go_sem]
  · have := run_enter (P := P) (w := w1) (args := #[.func (.yield (w.heap.size + 1)) #[] #[]] ++ vc) hpl
    simp [invoke, go_sem, this]
  · have he0 : (Value.func (.yield (w.heap.size + 1)) #[] #[] :: vc.toList).toArray = #[.func (.yield (w.heap.size + 1)) #[] #[]] ++ vc := by
      apply Array.ext'
      simp
    rw [he0] at hcall
    refine callsIn_fen (hcall.mono fun e w2 he => ?_)
    obtain ⟨v, r, S', σ', ι4, rfl, hP, hS', hu4, R4⟩ := hend he
    have hl4 : ∀ {b : ABlk}, dnS S' id = some b → b.len = 1 → (ι4 id).g = some (w.heap.size + 1) := fun hb hb1 => by
      obtain ⟨b', h1, h2, h3⟩ := hu4 id _ (show (s.set id (.loop (envOf C.n s.env) (rec .ready none))).S id = some _ from updE_same _ _ _)
      rw [hb] at h1
      cases h1
      rw [(h3 hb1).2]
      exact hl2
    have fin : ∀ (U : AStore) (env : List AV) (st : LoopState) (pe : Option Code), st ≠ .busy → S' = updE U (up1 id) (some (.loop env (rec st pe))) → ∃ w3, (Instr.endLoop (w.heap.size + 1)).run P w2 = .ok pe w3 ∧ Holds C ⟨s.env, updE (dnS U) id (some (.dead 1 0))⟩ { a with defers := mark w.heap.size :: a.defers } w3 := fun U env st pe hst hS => by
      have hb : dnS S' id = some (.loop (AV.rens dn1 env) (rec st pe)) := by
        have := dnS_some (up1_le id) (show S' (up1 id) = some (.loop env (rec st pe)) by rw [hS]; exact updE_same _ _ _)
        rw [dn_up] at this
        exact this
      have hg4 := hl4 hb rfl
      cases hbr : R4.blk id _ hb with
      | loop k1 k2 k3 k4 k5 =>
        rw [hg4] at k1
        cases k1
        obtain ⟨ι5, R5, _⟩ := R4.setBlk (b' := .dead 1 0) (o' := .loop { rec st pe with state := .exhausted }) hb hg4 k2 k5 rfl rfl fun S'' ι'' hu => .dead fun g' hg' => by
          rw [hg4] at hg'
          cases hg'
          exact ⟨_, (set_heap k2).1, rfl⟩
        refine ⟨w2.putObj (w.heap.size + 1) (.loop { rec st pe with state := .exhausted }), ?_, σ', ι5, ?_⟩
        · have := run_endLoop (P := P) k2 (by rw [hrec]; exact hst)
          rw [hrec] at this ⊢
          exact this
        · have e5 : (AS.set ⟨(s.set id (.loop (envOf C.n s.env) (rec .ready none))).env, dnS S'⟩ id (.dead 1 0)) = ⟨s.env, updE (dnS U) id (some (.dead 1 0))⟩ := by
            show AS.mk s.env (updE (dnS S') id _) = _
            rw [hS, dnS_set]
          rw [← e5]
          exact R5
    rcases hP with ⟨U, h1, h2, h3⟩ | ⟨U, c, e, h1, h2, h3, h4⟩
    · obtain ⟨w3, f1, f2⟩ := fin U _ .ready none (by simp) h1
      exact ⟨none, w3, f1, _, hdone U h3, f2⟩
    · obtain ⟨w3, f1, f2⟩ := fin U _ .done (some c) (by simp) h1
      refine ⟨some c, w3, f1, ?_⟩
      cases h3 with
      | ret => exact wpIn_ret ⟨_, hjump _ U h4, f2⟩
      | exit i => exact wpIn_exit ⟨_, hjump _ U h4, f2⟩
end

set_option maxRecDepth 100000
def ir_rewrite_Once : IR :=
  (.seq (.ops [.i 2 (.box 22 (.t 0)), .i 3 (.box 25 (.t 1)), .i 4 (.alloc 23 [.full []]), .i 5 (.alloc 28 [.st (.int .i64 0)])]) (.seq (.ops [.i 6 (.alloc 23 [.full []])]) (.seq (.ops [.i 7 (.alloc 28 [.st (.int .i64 0)])]) (.seq (.seq (.ops [.L 14 2 3, .i 15 (.call 35 [.t 14, .c (.one (.fn 36 []))])]) (.block 0 (.rangeF (.t 15) [16, 17] (.seq (.ops [.i 8 (.alloc 25 [.st (.str (ByteArray.mk (#[]))), .full []]), .s 2 8 16]) (.ops [.m 9 17])) (.block 1 (.seq (.seq (.ops [.i 10 (.mov (.n 0))]) (.block 2 (.loop (.block 3 (.seq (.ops [.l 19 2, .L 20 2 8, .m 21 10, .i 22 (.call 37 [.t 19, .t 20, .t 21]), .m 18 22, .i 23 (.extract 0 (.t 18)), .i 24 (.extract 1 (.t 18)), .i 25 (.extract 2 (.t 18)), .i 11 (.alloc 25 [.st (.str (ByteArray.mk (#[]))), .full []]), .s 2 11 23, .m 12 24, .m 13 25]) (.seq (.seq (.ops [.m 26 12, .i 27 (.bin .lss (.t 26) (.n 0))]) (.cond (.t 27) (.exit 2) .skip)) (.seq (.seq (.ops [.m 28 13, .i 29 (.bin .eql (.t 28) (.n 0))]) (.cond (.t 29) (.seq (.ops [.m 30 9, .L 31 2 11, .i 32 (.callV (.t 30) [.t 31]), .s 2 11 32]) (.seq (.ops [.L 33 2 11, .i 34 (.call 38 [.t 33]), .i 35 (.bin .gtr (.t 34) (.n 2000))]) (.cond (.t 35) (.ops [.i 13 (.mov (.n 8))]) .skip))) .skip)) (.seq (.seq (.ops [.m 36 13, .i 37 (.bin .neq (.t 36) (.n 0))]) (.cond (.t 37) (.seq (.ops [.m 38 13, .s 1 7 38]) (.exit 2)) .skip)) (.seq (.ops [.l 39 6, .L 40 2 11, .i 41 (.call 39 [.t 40]), .i 42 (.len false (.t 39)), .i 43 (.buildSlice false 25 2 [.c (.agg [.st (.str (ByteArray.mk (#[]))), .full []])]), .i 44 (.append true 25 2 40 (.t 39) (.t 43)), .i 45 (.indexAddr 2 (.t 44) (.t 42)), .mk none none (.store 2 (.t 45) (.t 41)) (.onb 1500), .mk none none (.store 1 (.t 6) (.t 44)) (.onb 1006)]) (.ops [.m 46 12, .i 47 (.bin .add (.t 46) (.n 1)), .m 10 47])))))))))) (.seq (.ops [.l 48 7, .i 49 (.bin .neq (.t 48) (.n 0))]) (.cond (.t 49) (.seq (.ops [.mk (some 50) none (.load false 1 (.t 7)) (.onb 1007), .mk none none (.store 1 (.t 4) (.c (.one (.full [])))) (.onb 1004), .s 1 5 50]) .ret) .skip))))))) (.seq (.ops [.l 51 6, .s 1 4 51, .mk none none (.store 1 (.t 5) (.n 0)) .no]) .ret)))))
theorem ok_rewrite_Once : OkF Try.prog 24 52 [44, 10451500, 10061006, 10071007, 10041004] ir_rewrite_Once [.cell 4 false 1, .cell 5 false 1] := .of Try.func24 rfl rfl (by kernel_rfl) rfl
def ir_rewrite_Steps : IR :=
  (.seq (.ops [.i 3 (.box 25 (.t 1)), .i 4 (.mov (.c (.one (.full [])))), .i 5 (.mov (.n 0))]) (.seq (.seq (.ops [.m 7 0, .L 8 2 3, .i 9 (.call 23 [.t 7, .t 8]), .m 6 9]) (.seq (.ops [.m 10 6, .i 11 (.bin .neq (.t 10) (.n 0))]) (.cond (.t 11) (.seq (.ops [.m 12 6, .i 4 (.mov (.c (.one (.full [])))), .m 5 12]) .ret) .skip))) (.seq (.ops [.m 13 0, .L 14 2 3, .i 15 (.call 24 [.t 13, .t 14]), .i 16 (.extract 0 (.t 15)), .i 17 (.extract 1 (.t 15)), .m 4 16, .m 5 17]) .ret)))
theorem ok_rewrite_Steps : OkF Try.prog 9 18 [] ir_rewrite_Steps [.t 4, .t 5] := .of Try.func9 rfl rfl (by kernel_rfl) rfl
def ir_R_StepsOf : IR :=
  (.seq (.ops [.i 3 (.box 25 (.t 1)), .i 4 (.mov (.c (.one (.full [])))), .i 5 (.mov (.n 0))]) (.seq (.ops [.L 15 2 3, .i 16 (.call 19 [.t 15]), .m 6 16]) (.seq (.ops [.i 7 (.mov (.c (.one (.full []))))]) (.seq (.seq (.ops [.i 8 (.mov (.n 0))]) (.block 0 (.loop (.seq (.seq (.ops [.m 17 8, .m 18 6, .i 19 (.len false (.t 18)), .i 20 (.bin .lss (.t 17) (.t 19))]) (.cond (.t 20) .skip (.exit 0))) (.seq (.block 1 (.seq (.ops [.L 24 2 3, .m 25 6, .m 26 8, .i 27 (.indexAddr 1 (.t 25) (.t 26)), .l 28 27, .i 29 (.call 20 [.t 24, .t 28]), .m 23 29, .i 30 (.extract 0 (.t 23)), .i 31 (.extract 1 (.t 23)), .i 9 (.alloc 25 [.st (.str (ByteArray.mk (#[]))), .full []]), .s 2 9 30, .m 10 31]) (.seq (.ops [.i 11 (.mov (.n 0))]) (.block 2 (.loop (.seq (.seq (.ops [.m 32 11, .m 33 0, .i 34 (.len false (.t 33)), .i 35 (.bin .lss (.t 32) (.t 34))]) (.cond (.t 35) .skip (.exit 2))) (.seq (.block 3 (.seq (.ops [.m 39 0, .m 40 11, .i 41 (.indexAddr 4 (.t 39) (.t 40)), .L 42 4 41, .L 43 2 9, .i 44 (.call 21 [.t 42, .t 43]), .m 38 44, .i 45 (.extract 0 (.t 38)), .i 46 (.extract 1 (.t 38)), .i 47 (.extract 2 (.t 38)), .i 12 (.alloc 25 [.st (.str (ByteArray.mk (#[]))), .full []]), .s 2 12 45, .m 13 46, .m 14 47]) (.seq (.seq (.ops [.m 48 13, .i 49 (.un .not (.t 48))]) (.cond (.t 49) (.exit 3) .skip)) (.seq (.seq (.ops [.m 50 14]) (.cond (.t 50) (.seq (.ops [.i 4 (.mov (.c (.one (.full [])))), .i 5 (.mov (.n 8))]) .ret) .skip)) (.seq (.ops [.L 51 2 3, .m 52 6, .m 53 8, .i 54 (.indexAddr 1 (.t 52) (.t 53)), .l 55 54, .L 56 2 12, .i 57 (.call 22 [.t 51, .t 55, .t 56]), .s 2 12 57]) (.seq (.seq (.ops [.L 58 2 12, .i 59 (.call 12 [.t 58, .n 2000]), .i 60 (.bin .gtr (.t 59) (.n 2000))]) (.cond (.t 60) (.seq (.ops [.i 4 (.mov (.c (.one (.full [])))), .i 5 (.mov (.n 8))]) .ret) .skip)) (.ops [.m 61 7, .L 62 2 12, .i 63 (.buildSlice false 25 2 [.t 62]), .i 64 (.append false 25 2 40 (.t 61) (.t 63)), .m 7 64]))))))) (.ops [.m 36 11, .i 37 (.bin .add (.t 36) (.n 1)), .m 11 37])))))))) (.ops [.m 21 8, .i 22 (.bin .add (.t 21) (.n 1)), .m 8 22])))))) (.seq (.ops [.m 65 7, .m 4 65, .i 5 (.mov (.n 0))]) .ret)))))
theorem ok_R_StepsOf : OkF Try.prog 8 66 [] ir_R_StepsOf [.t 4, .t 5] := .of Try.func8 rfl rfl (by kernel_rfl) rfl
def ir_L_RewriteSays : IR :=
  (.seq (.ops [.i 3 (.box 25 (.t 1)), .i 4 (.mov (.c (.one (.st (.bool false)))))]) (.seq (.seq (.ops [.m 11 0, .i 12 (.call 4 [.t 11]), .m 13 12, .mk (some 14) (some (13, false)) (.load true 2 (.t 3)) .no, .mk (some 15) (some (13, false)) (.call 5 [.t 14]) .no, .i 16 (.pick (.t 13) (.c (.one (.st (.bool true)))) (.t 15))]) (.cond (.t 16) (.seq (.ops [.i 4 (.mov (.c (.one (.st (.bool true)))))]) .ret) .skip)) (.seq (.ops [.m 17 0, .i 18 (.call 6 [.t 17]), .m 5 18]) (.seq (.ops [.m 19 5, .m 6 19]) (.seq (.seq (.ops [.m 20 5, .i 21 (.bin .eql (.t 20) (.n 0))]) (.cond (.t 21) (.ops [.L 22 2 3, .i 23 (.call 7 [.t 22]), .m 5 23]) .skip)) (.seq (.ops [.i 7 (.mov (.c (.one (.full []))))]) (.seq (.seq (.ops [.m 24 5, .i 25 (.bin .eql (.t 24) (.n 0))]) (.cond (.t 25) (.ops [.m 27 0, .L 28 2 3, .i 29 (.call 8 [.t 27, .t 28]), .m 26 29, .i 30 (.extract 0 (.t 26)), .i 31 (.extract 1 (.t 26)), .m 7 30, .m 5 31]) .skip)) (.seq (.ops [.m 33 0, .L 34 2 3, .i 35 (.call 9 [.t 33, .t 34]), .m 32 35, .i 36 (.extract 0 (.t 32)), .i 37 (.extract 1 (.t 32)), .m 8 36, .m 9 37]) (.seq (.seq (.ops [.m 38 0, .i 39 (.call 10 [.t 38]), .m 40 6, .i 41 (.bin .neq (.t 39) (.t 40)), .m 42 41, .mk (some 43) (some (42, false)) (.mov (.t 9)) .no, .mk (some 44) (some (42, false)) (.mov (.t 5)) .no, .mk (some 45) (some (42, false)) (.bin .neq (.t 43) (.t 44)) .no, .i 46 (.pick (.t 42) (.c (.one (.st (.bool true)))) (.t 45))]) (.cond (.t 46) (.seq (.ops [.i 4 (.mov (.c (.one (.st (.bool false)))))]) .ret) .skip)) (.seq (.seq (.ops [.m 47 5, .i 48 (.bin .neq (.t 47) (.n 0))]) (.cond (.t 48) (.seq (.ops [.m 49 8, .i 50 (.len false (.t 49)), .i 51 (.bin .eql (.t 50) (.n 0)), .m 4 51]) .ret) .skip)) (.seq (.seq (.ops [.m 52 8, .i 53 (.len false (.t 52)), .m 54 7, .i 55 (.len false (.t 54)), .i 56 (.bin .neq (.t 53) (.t 55))]) (.cond (.t 56) (.seq (.ops [.i 4 (.mov (.c (.one (.st (.bool false)))))]) .ret) .skip)) (.seq (.seq (.ops [.i 10 (.mov (.n 0))]) (.block 0 (.loop (.seq (.seq (.ops [.m 57 10, .m 58 8, .i 59 (.len false (.t 58)), .i 60 (.bin .lss (.t 57) (.t 59))]) (.cond (.t 60) .skip (.exit 0))) (.seq (.block 1 (.seq (.ops [.m 63 8, .m 64 10, .i 65 (.indexAddr 2 (.t 63) (.t 64)), .L 66 2 65, .m 67 7, .m 68 10, .i 69 (.indexAddr 2 (.t 67) (.t 68)), .L 70 2 69, .i 71 (.call 11 [.t 66, .t 70]), .i 72 (.un .not (.t 71))]) (.cond (.t 72) (.seq (.ops [.i 4 (.mov (.c (.one (.st (.bool false)))))]) .ret) .skip))) (.ops [.m 61 10, .i 62 (.bin .add (.t 61) (.n 1)), .m 10 62])))))) (.seq (.ops [.i 4 (.mov (.c (.one (.st (.bool true)))))]) .ret)))))))))))))
theorem ok_L_RewriteSays : OkF Try.prog 3 73 [] ir_L_RewriteSays [.t 4] := .of Try.func3 rfl rfl (by kernel_rfl) rfl

def ir_rewrite_walk : IR :=
  (.seq (.ops [.i 2 (.box 25 (.t 0)), .i 3 (.box 62 (.t 1)), .i 4 (.mov (.c (.one (.st (.lit .nilFunc)))))]) (.seq (.ops [.i 5 (.makeFunc 49 [.t 2, .t 3]), .m 4 5]) .ret))
theorem ok_rewrite_walk : OkF Try.prog 35 6 [] ir_rewrite_walk [.t 4] := .of Try.func35 rfl rfl (by kernel_rfl) rfl
def ir_rewrite_walk_1 : IR :=
  (.ops [.L 4 2 1, .l 5 2, .m 6 0, .i 7 (.callX 50 [.t 4, .t 5, .t 6])])
theorem ok_rewrite_walk_1 : OkF Try.prog 49 8 [80000007] ir_rewrite_walk_1 [] := .of Try.func49 rfl rfl (by kernel_rfl) rfl
def ir_rewrite_visit : IR :=
  (.seq (.ops [.i 3 (.box 25 (.t 0)), .i 4 (.box 62 (.t 1)), .i 6 (.mov (.c (.one (.st (.bool false)))))]) (.seq (.seq (.ops [.m 9 2, .L 10 2 3, .l 11 4, .i 12 (.callY (.t 9) [.t 10, .t 11]), .i 13 (.un .not (.t 12))]) (.cond (.t 13) (.seq (.ops [.i 6 (.mov (.c (.one (.st (.bool false)))))]) .ret) .skip)) (.seq (.seq (.ops [.f 14 1 3, .l 15 14, .i 16 (.len false (.t 15)), .i 17 (.mov (.n 0))]) (.block 0 (.loop (.seq (.ops [.i 18 (.bin .lss (.t 17) (.t 16))]) (.seq (.cond (.t 18) .skip (.exit 0)) (.seq (.block 1 (.seq (.ops [.m 19 17, .i 7 (.alloc 3 [.st (.int .i64 0)]), .s 1 7 19]) (.seq (.ops [.i 20 (.makeFunc 55 [.t 3, .t 7, .t 4]), .m 8 20]) (.seq (.ops [.f 21 1 3, .l 22 21, .l 23 7, .i 24 (.indexAddr 2 (.t 22) (.t 23)), .L 25 2 24, .m 26 8, .m 27 2, .i 28 (.callX 50 [.t 25, .t 26, .t 27]), .i 29 (.un .not (.t 28))]) (.cond (.t 29) (.seq (.ops [.i 6 (.mov (.c (.one (.st (.bool false)))))]) .ret) .skip))))) (.ops [.i 30 (.bin .add (.t 17) (.n 1)), .m 17 30]))))))) (.seq (.ops [.i 6 (.mov (.c (.one (.st (.bool true)))))]) .ret))))
theorem ok_rewrite_visit : OkF Try.prog 50 31 [70000012, 80000028] ir_rewrite_visit [.t 6] := .of Try.func50 rfl rfl (by kernel_rfl) rfl
def ir_rewrite_visit_1 : IR :=
  (.seq (.ops [.i 4 (.box 25 (.t 0)), .i 5 (.alloc 25 [.st (.str (ByteArray.mk (#[]))), .full []])]) (.seq (.ops [.f 7 0 1, .l 8 7, .f 9 1 1, .l 10 9, .i 11 (.callN 56 [.t 10]), .i 12 (.build [.st (.str (ByteArray.mk (#[]))), .full []] [(0, 1, .t 8), (1, 1, .t 11)]), .i 6 (.alloc 25 [.st (.str (ByteArray.mk (#[]))), .full []]), .s 2 6 12]) (.seq (.ops [.f 13 1 6, .l 14 13, .l 15 2, .L 16 2 4, .i 17 (.indexAddr 2 (.t 14) (.t 15)), .s 2 17 16]) (.seq (.ops [.l 18 3, .L 19 2 6, .i 20 (.callV (.t 18) [.t 19]), .s 2 5 20]) .ret))))
theorem ok_rewrite_visit_1 : OkF Try.prog 55 21 [20000011] ir_rewrite_visit_1 [.cell 5 true 2] := .of Try.func55 rfl rfl (by kernel_rfl) rfl
def ir_rewrite_Once_1 : IR :=
  (.seq (.ops [.i 1 (.box 25 (.t 0)), .i 2 (.alloc 25 [.st (.str (ByteArray.mk (#[]))), .full []])]) (.seq (.ops [.L 3 2 1, .s 2 2 3]) .ret))
theorem ok_rewrite_Once_1 : OkF Try.prog 36 4 [] ir_rewrite_Once_1 [.cell 2 true 2] := .of Try.func36 rfl rfl (by kernel_rfl) rfl

def letterI (n : Int) : Bool := decide (97 ≤ n ∧ n ≤ 122) || decide (65 ≤ n ∧ n ≤ 90) || decide (48 ≤ n ∧ n ≤ 57)
def byteAt (s : ByteArray) (k : Nat) : Int := ((s.data.toList.getD k 0).toNat : Int)
theorem byteAt_range (s : ByteArray) (k : Nat) : 0 ≤ byteAt s k ∧ byteAt s k ≤ 255 := by
  unfold byteAt
  have := (s.data.toList.getD k 0).toNat_lt
  omega
def isVar (s : ByteArray) : Bool := decide (0 < s.size) && decide (65 ≤ byteAt s 0) && decide (byteAt s 0 ≤ 90)
def lettersTo (s : ByteArray) (k : Nat) : Bool := (s.data.toList.take k).all fun c => letterI c.toNat
def nameOk (s : ByteArray) : Bool := decide (1 ≤ s.size) && decide (s.size ≤ 8) && !(decide (48 ≤ byteAt s 0) && decide (byteAt s 0 ≤ 57)) && lettersTo s s.size
theorem lettersTo_succ (s : ByteArray) (k : Nat) (h : k < s.size) : lettersTo s (k + 1) = (lettersTo s k && letterI (byteAt s k)) := by
  unfold lettersTo byteAt
  have h2 : k < s.data.toList.length := by simpa using h
  rw [List.take_add_one, List.getD_eq_getElem?_getD, List.getElem?_eq_getElem h2]
  simp
theorem lettersTo_no (s : ByteArray) (k : Nat) (h : k < s.size) (hn : letterI (byteAt s k) = false) : lettersTo s s.size = false := by
  unfold lettersTo byteAt at *
  have h2 : k < s.data.toList.length := by simpa using h
  rw [List.getD_eq_getElem?_getD, List.getElem?_eq_getElem h2] at hn
  rw [List.all_eq_false]
  refine ⟨s.data.toList[k], ?_, by simpa using hn⟩
  rw [List.take_of_length_le (by simp)]
  exact List.getElem_mem h2
mutual
def Tm.size : Tm → Nat
  | .mk _ xs => 1 + Tm.sizes xs
def Tm.sizes : List Tm → Nat
  | [] => 0
  | t :: ts => t.size + Tm.sizes ts
end
theorem Tm.sizes_append (xs ys : List Tm) : Tm.sizes (xs ++ ys) = Tm.sizes xs + Tm.sizes ys := by
  induction xs with
  | nil => simp [Tm.sizes]
  | cons t ts ih => simp only [List.cons_append, Tm.sizes, ih]; omega
theorem Tm.sizes_take {xs : List Tm} {k : Nat} {a : Tm} (h : xs[k]? = some a) : Tm.sizes (xs.take (k+1)) = Tm.sizes (xs.take k) + a.size := by
  rw [take_snoc h, Tm.sizes_append]; simp [Tm.sizes]
theorem Tm.sizes_take_le (xs : List Tm) (k : Nat)  : Tm.sizes (xs.take k) ≤ Tm.sizes xs := by
  have := Tm.sizes_append (xs.take k) (xs.drop k)
  rw [List.take_append_drop] at this
  omega
theorem Tm.size_eq (t : Tm) : t.size = 1 + Tm.sizes t.args := by cases t; rfl
theorem Tm.size_pos (t : Tm) : 1 ≤ t.size := by rw [Tm.size_eq]; omega
theorem Tm.size_mem {a : Tm} {xs : List Tm} (h : a ∈ xs) : a.size ≤ Tm.sizes xs := by
  induction xs with
  | nil => simp at h
  | cons t ts ih =>
    rcases List.mem_cons.1 h with rfl | h
    · simp only [Tm.sizes]; omega
    · have := ih h; simp only [Tm.sizes]; omega
theorem Tm.length_le (xs : List Tm) : xs.length ≤ Tm.sizes xs := by
  induction xs with
  | nil => simp [Tm.sizes]
  | cons t ts ih => have := Tm.size_pos t; simp only [Tm.sizes, List.length_cons]; omega
theorem Tm.lt_of_arg {a t : Tm} (h : a ∈ t.args) : SizeOf.sizeOf a < SizeOf.sizeOf t := by
  cases t
  exact Tm.lt_of_mem h
def lessBy (s : Nat) (m : Int) : Int := if m < s then -1 else m - s
def capTo (s : Nat) (m : Int) : Int := if m < s then m + 1 else s
mutual
def Tm.knots : Tm → List Tm
  | .mk n xs => .mk n xs :: Tm.knotsL xs
def Tm.knotsL : List Tm → List Tm
  | [] => []
  | t :: ts => t.knots ++ Tm.knotsL ts
end
theorem Tm.knots_eq (t : Tm) : t.knots = t :: Tm.knotsL t.args := by cases t; rfl
theorem Tm.knotsL_append (xs ys : List Tm) : Tm.knotsL (xs ++ ys) = Tm.knotsL xs ++ Tm.knotsL ys := by
  induction xs with
  | nil => simp [Tm.knotsL]
  | cons t ts ih => simp [Tm.knotsL, ih]
theorem Tm.knotsL_take {xs : List Tm} {k : Nat} {a : Tm} (h : xs[k]? = some a) : Tm.knotsL (xs.take (k+1)) = Tm.knotsL (xs.take k) ++ a.knots := by
  rw [take_snoc h, Tm.knotsL_append]; simp [Tm.knotsL]
mutual
theorem Tm.knots_length : ∀ t : Tm, t.knots.length = t.size
  | .mk n xs => by simp only [Tm.knots, Tm.size, List.length_cons, Tm.knotsL_length xs]; omega
theorem Tm.knotsL_length : ∀ xs : List Tm, (Tm.knotsL xs).length = Tm.sizes xs
  | [] => rfl
  | t :: ts => by simp only [Tm.knotsL, Tm.sizes, List.length_append, Tm.knots_length t, Tm.knotsL_length ts]
end
def chkOne (t : Tm) : Int := if nameOk t.name = true then (if isVar t.name = true ∧ 0 < t.args.length then 2 else 0) else 1
mutual
def Tm.chk : Tm → Int
  | .mk n xs => if chkOne (.mk n xs) = 0 then Tm.chkL xs else chkOne (.mk n xs)
def Tm.chkL : List Tm → Int
  | [] => 0
  | t :: ts => if t.chk = 0 then Tm.chkL ts else t.chk
end
def firstErr : List Tm → Int
  | [] => 0
  | t :: ts => if chkOne t = 0 then firstErr ts else chkOne t
theorem Tm.chk_eq (t : Tm) : t.chk = if chkOne t = 0 then Tm.chkL t.args else chkOne t := by cases t; rfl
theorem firstErr_append (xs ys : List Tm) : firstErr (xs ++ ys) = if firstErr xs = 0 then firstErr ys else firstErr xs := by
  induction xs with
  | nil => simp [firstErr]
  | cons t ts ih =>
    simp only [List.cons_append, firstErr]
    by_cases h : chkOne t = 0
    · simp only [h, if_true, ih]
    · simp only [h, if_false]
mutual
theorem Tm.firstErr_knots : ∀ t : Tm, firstErr t.knots = t.chk
  | .mk n xs => by
    simp only [Tm.knots, firstErr, Tm.chk]
    split
    · exact Tm.firstErr_knotsL xs
    · rfl
theorem Tm.firstErr_knotsL : ∀ xs : List Tm, firstErr (Tm.knotsL xs) = Tm.chkL xs
  | [] => rfl
  | t :: ts => by
    simp only [Tm.knotsL, firstErr_append, Tm.firstErr_knots t, Tm.firstErr_knotsL ts, Tm.chkL]
end
theorem Tm.chkL_append (xs ys : List Tm) : Tm.chkL (xs ++ ys) = if Tm.chkL xs = 0 then Tm.chkL ys else Tm.chkL xs := by
  induction xs with
  | nil => simp [Tm.chkL]
  | cons t ts ih =>
    simp only [List.cons_append, Tm.chkL]
    by_cases h : t.chk = 0
    · simp only [h, if_true, ih]
    · simp only [h, if_false]
theorem Tm.chkL_get {xs : List Tm} {k : Nat} {a : Tm} (h : xs[k]? = some a) (h0 : Tm.chkL (xs.take k) = 0) : (a.chk = 0 → Tm.chkL (xs.take (k+1)) = 0) ∧ (a.chk ≠ 0 → Tm.chkL xs = a.chk) := by
  constructor
  · intro ha
    rw [take_snoc h, Tm.chkL_append, if_pos h0]
    simp [Tm.chkL, ha]
  · intro ha
    rw [← List.take_append_drop k xs, Tm.chkL_append, if_pos h0]
    have hd : xs.drop k = a :: xs.drop (k+1) := by
      have hk := lt_of_get h
      rw [List.getElem?_eq_getElem hk] at h
      rw [List.drop_eq_getElem_cons hk]
      simp at h
      rw [h]
    rw [hd]
    simp [Tm.chkL, ha]
theorem firstErr_get {xs : List Tm} {k : Nat} {a : Tm} (h : xs[k]? = some a) (h0 : firstErr (xs.take k) = 0) : (chkOne a = 0 → firstErr (xs.take (k+1)) = 0) ∧ (chkOne a ≠ 0 → firstErr xs = chkOne a) := by
  constructor
  · intro ha
    rw [take_snoc h, firstErr_append, if_pos h0]
    simp [firstErr, ha]
  · intro ha
    rw [← List.take_append_drop k xs, firstErr_append, if_pos h0]
    have hd : xs.drop k = a :: xs.drop (k+1) := by
      have hk := lt_of_get h
      rw [List.getElem?_eq_getElem hk] at h
      rw [List.drop_eq_getElem_cons hk]
      simp at h
      rw [h]
    rw [hd]
    simp [firstErr, ha]
def Tm.may (t : Tm) : Int := if 200 < t.size then 3 else t.chk
def isIn (x : ByteArray) (l : List ByteArray) : Bool := l.any fun y => decide (y = x)
theorem isIn_iff {x : ByteArray} {l : List ByteArray} : isIn x l = true ↔ x ∈ l := by simp [isIn]
theorem isIn_no {x : ByteArray} {l : List ByteArray} : isIn x l = false ↔ x ∉ l := by rw [← Bool.not_eq_true, isIn_iff]
def addVar (l : List ByteArray) (n : ByteArray) : List ByteArray := if isVar n && !isIn n l then l ++ [n] else l
def addVars (l : List ByteArray) (ks : List Tm) : List ByteArray := ks.foldl (fun l t => addVar l t.name) l
def Tm.varsOf (t : Tm) : List ByteArray := addVars [] t.knots
theorem addVars_nil (l : List ByteArray) : addVars l [] = l := rfl
theorem addVars_snoc (l : List ByteArray) (ks : List Tm) (t : Tm) : addVars l (ks ++ [t]) = addVar (addVars l ks) t.name := by simp [addVars]
theorem addVars_append (l : List ByteArray) (ks ms : List Tm) : addVars l (ks ++ ms) = addVars (addVars l ks) ms := by simp [addVars]
theorem addVar_yes {l : List ByteArray} {n : ByteArray} (h : isVar n = true) (h' : isIn n l = false) : addVar l n = l ++ [n] := by simp [addVar, h, h']
theorem addVar_in {l : List ByteArray} {n : ByteArray} (h' : isIn n l = true) : addVar l n = l := by simp [addVar, h']
theorem addVar_no {l : List ByteArray} {n : ByteArray} (h : isVar n = false) : addVar l n = l := by simp [addVar, h]
theorem addVar_length (l : List ByteArray) (n : ByteArray) : (addVar l n).length ≤ l.length + 1 := by unfold addVar; split <;> simp
theorem addVars_length : ∀ (ks : List Tm) (l : List ByteArray), (addVars l ks).length ≤ l.length + ks.length
  | [], l => by simp [addVars_nil]
  | t :: ts, l => by
    have h1 := addVars_length ts (addVar l t.name)
    have h2 := addVar_length l t.name
    have h3 : addVars l (t :: ts) = addVars (addVar l t.name) ts := rfl
    rw [h3, List.length_cons]
    omega
mutual
def Tm.places : Tm → List (List Int)
  | .mk _ xs => [] :: Tm.placesFrom 0 xs
def Tm.placesFrom : Nat → List Tm → List (List Int)
  | _, [] => []
  | k, t :: ts => t.places.map (fun p => (k : Int) :: p) ++ Tm.placesFrom (k+1) ts
end
theorem Tm.places_eq (t : Tm) : t.places = [] :: Tm.placesFrom 0 t.args := by cases t; rfl
theorem Tm.placesFrom_snoc (a : Tm) : ∀ (k : Nat) (xs : List Tm), Tm.placesFrom k (xs ++ [a]) = Tm.placesFrom k xs ++ a.places.map (fun p => ((k + xs.length : Nat) : Int) :: p)
  | k, [] => by simp [Tm.placesFrom]
  | k, t :: ts => by
    rw [List.cons_append, Tm.placesFrom, Tm.placesFrom_snoc a (k+1) ts, Tm.placesFrom, List.length_cons, show k + 1 + ts.length = k + (ts.length + 1) by omega, List.append_assoc]
def Tm.placesTo (t : Tm) (k : Nat) : List (List Int) := [] :: Tm.placesFrom 0 (t.args.take k)
theorem Tm.placesTo_succ {t : Tm} {k : Nat} {a : Tm} (h : t.args[k]? = some a) : t.placesTo (k+1) = t.placesTo k ++ a.places.map (fun p => (k : Int) :: p) := by
  have hl := lt_of_get h
  unfold Tm.placesTo
  rw [take_snoc h, Tm.placesFrom_snoc, List.length_take, Nat.min_eq_left (by omega), Nat.zero_add, List.cons_append]
theorem Tm.placesTo_all {t : Tm} {k : Nat} (h : k = t.args.length) : t.placesTo k = t.places := by
  subst h
  rw [Tm.places_eq, Tm.placesTo, List.take_length]
mutual
theorem Tm.places_length : ∀ t : Tm, t.places.length = t.size
  | .mk n xs => by simp only [Tm.places, Tm.size, List.length_cons, Tm.placesFrom_length 0 xs]; omega
theorem Tm.placesFrom_length : ∀ (k : Nat) (xs : List Tm), (Tm.placesFrom k xs).length = Tm.sizes xs
  | _, [] => rfl
  | k, t :: ts => by simp only [Tm.placesFrom, Tm.sizes, List.length_append, List.length_map, Tm.places_length t, Tm.placesFrom_length (k+1) ts]
end
mutual
theorem Tm.places_deep : ∀ (t : Tm) (p : List Int), p ∈ t.places → p.length ≤ t.size
  | .mk n xs, p, h => by
    simp only [Tm.places, List.mem_cons] at h
    rcases h with rfl | h
    · simp
    · have := Tm.placesFrom_deep 0 xs p h
      simp only [Tm.size]
      omega
theorem Tm.placesFrom_deep : ∀ (k : Nat) (xs : List Tm) (p : List Int), p ∈ Tm.placesFrom k xs → p.length ≤ 1 + Tm.sizes xs
  | _, [], p, h => by simp [Tm.placesFrom] at h
  | k, t :: ts, p, h => by
    simp only [Tm.placesFrom, List.mem_append, List.mem_map] at h
    simp only [Tm.sizes]
    rcases h with ⟨q, hq, rfl⟩ | h
    · have := Tm.places_deep t q hq
      simp only [List.length_cons]
      omega
    · have := Tm.placesFrom_deep (k+1) ts p h
      omega
end
theorem Tm.placesTo_length (t : Tm) (k : Nat) : (t.placesTo k).length = 1 + Tm.sizes (t.args.take k) := by
  rw [Tm.placesTo, List.length_cons, Tm.placesFrom_length]; omega
theorem lessBy_step {s z : Nat} {m : Int} (h : 0 ≤ lessBy s m) : lessBy z (lessBy s m) = lessBy (s + z) m := by
  unfold lessBy at *
  split at h
  · omega
  · rename_i h1
    rw [if_neg h1]
    split <;> split <;> omega
theorem lessBy_neg {s z : Nat} {m : Int} (h : lessBy s m < 0) (hz : s ≤ z) : lessBy s m = lessBy z m := by
  unfold lessBy at *
  split at h
  · rw [if_pos (by assumption), if_pos (by omega)]
  · omega
theorem lessBy_le (s : Nat) (m : Int) (h : 0 ≤ m) : -1 ≤ lessBy s m ∧ lessBy s m ≤ m := by unfold lessBy; split <;> omega
theorem capTo_step {s z : Nat} {m : Int} (h : (s : Int) ≤ m) : (s : Int) + capTo z (m - s) = capTo (s + z) m := by
  unfold capTo
  split <;> split <;> omega
theorem capTo_over {s z : Nat} {m : Int} (h : m < capTo s m) (hz : s ≤ z) : capTo z m = m + 1 := by
  unfold capTo at *
  split at h <;> split <;> omega
theorem capTo_le (s : Nat) (m : Int) (h : 0 ≤ m) : 0 ≤ capTo s m ∧ capTo s m ≤ m + 1 := by unfold capTo; split <;> omega
theorem capTo_in {s : Nat} {m : Int} (h : ¬ m < capTo s m) : capTo s m = s ∧ (s : Int) ≤ m := by
  unfold capTo at *
  split at h
  · omega
  · rename_i h2
    rw [if_neg h2]
    omega



theorem bl_irrefl : ∀ l : List UInt8, Op.bytesLess l l = false
  | [] => by simp [Op.bytesLess]
  | x :: xs => by simp [Op.bytesLess, bl_irrefl xs]
theorem bl_trans : ∀ (a b c : List UInt8), Op.bytesLess a b = true → Op.bytesLess b c = true → Op.bytesLess a c = true
  | _, [], _, h, _ => by simp [Op.bytesLess] at h
  | _, _ :: _, [], _, k => by simp [Op.bytesLess] at k
  | [], _ :: _, _ :: _, _, _ => by simp [Op.bytesLess]
  | x :: xs, y :: ys, z :: zs, h, k => by
    simp only [Op.bytesLess, Bool.or_eq_true, Bool.and_eq_true, decide_eq_true_eq, beq_iff_eq] at h k ⊢
    rcases h with h | ⟨rfl, h⟩
    · rcases k with k | ⟨rfl, k⟩
      · exact .inl (UInt8.lt_trans h k)
      · exact .inl h
    · rcases k with k | ⟨rfl, k⟩
      · exact .inl k
      · exact .inr ⟨rfl, bl_trans xs ys zs h k⟩
theorem bl_total : ∀ (a b : List UInt8), Op.bytesLess a b = true ∨ a = b ∨ Op.bytesLess b a = true
  | [], [] => .inr (.inl rfl)
  | [], _ :: _ => .inl (by simp [Op.bytesLess])
  | _ :: _, [] => .inr (.inr (by simp [Op.bytesLess]))
  | x :: xs, y :: ys => by
    simp only [Op.bytesLess, Bool.or_eq_true, Bool.and_eq_true, decide_eq_true_eq, beq_iff_eq, List.cons.injEq]
    rcases Nat.lt_trichotomy x.toNat y.toNat with h | h | h
    · exact .inl (.inl h)
    · have e : x = y := UInt8.toNat_inj.1 h
      subst e
      rcases bl_total xs ys with h | h | h
      · exact .inl (.inr ⟨rfl, h⟩)
      · exact .inr (.inl ⟨rfl, h⟩)
      · exact .inr (.inr (.inr ⟨rfl, h⟩))
    · exact .inr (.inr (.inl h))
theorem bytes_eq {a b : ByteArray} (h : a.toList = b.toList) : a = b := by
  rw [ByteArray.toList_eq, ByteArray.toList_eq] at h
  cases a; cases b
  simp only at h
  congr 1
  exact Array.toList_inj.1 h
theorem sLt_irrefl (a : ByteArray) : sLt a a = false := bl_irrefl _
theorem sLt_trans {a b c : ByteArray} (h : sLt a b = true) (k : sLt b c = true) : sLt a c = true := bl_trans _ _ _ h k
theorem sLt_total (a b : ByteArray) : sLt a b = true ∨ a = b ∨ sLt b a = true := by
  rcases bl_total a.toList b.toList with h | h | h
  · exact .inl h
  · exact .inr (.inl (bytes_eq h))
  · exact .inr (.inr h)
def cmpI (a b : ByteArray) : Int := if sLt a b = true then -1 else if a = b then 0 else 1
abbrev Bd := ByteArray × Tm
def encB (b : Bd) : List SV := [.str b.1, .str b.2.name, .list (b.2.args.map encT)]
abbrev aBds (l : List Bd) : AV := .one (.st (.list (l.map encB)))
abbrev aBd (b : Bd) : AV := .agg [.st (.str b.1), .st (.str b.2.name), .st (.list (b.2.args.map encT))]
instance : Lens encB 3 := ⟨fun _ => rfl⟩
theorem lens_encB {ts : List Bd} : ∀ x ∈ ts.map encB, x.length = 3 := by
  intro x hx
  obtain ⟨a, _, rfl⟩ := List.mem_map.1 hx
  rfl
theorem drop_get {α : Type} {xs : List α} {k : Nat} {a : α} (h : xs[k]? = some a) : xs.drop k = a :: xs.drop (k + 1) := by
  have hk := lt_of_get h
  rw [List.getElem?_eq_getElem hk] at h
  rw [List.drop_eq_getElem_cons hk]
  simp at h
  rw [h]
def Ordered (l : List Bd) : Prop := l.Pairwise fun a b => sLt a.1 b.1 = true
def lookup (l : List Bd) (n : ByteArray) : Option Tm := (l.find? fun b => decide (b.1 = n)).map (·.2)
theorem lookup_none {l : List Bd} {n : ByteArray} (h : ∀ b ∈ l, b.1 ≠ n) : lookup l n = none := by
  unfold lookup
  rw [List.find?_eq_none.2 (fun b hb => by simpa using h b hb)]
  rfl
theorem lookup_take {l : List Bd} {n : ByteArray} {k : Nat} {b : Bd} (hk : l[k]? = some b) (hb : b.1 = n) (h : ∀ c ∈ l.take k, c.1 ≠ n) : lookup l n = some b.2 := by
  unfold lookup
  rw [← List.take_append_drop k l, List.find?_append, List.find?_eq_none.2 (fun c hc => by simpa using h c hc), drop_get hk]
  simp [hb]
theorem lookup_mem {l : List Bd} {n : ByteArray} {x : Tm} (h : lookup l n = some x) : ∃ b ∈ l, b.1 = n ∧ b.2 = x := by
  unfold lookup at h
  rw [Option.map_eq_some_iff] at h
  obtain ⟨b, h1, h2⟩ := h
  exact ⟨b, List.mem_of_find?_eq_some h1, by simpa using List.find?_some h1, h2⟩
theorem ordered_get {l : List Bd} (h : Ordered l) {i j : Nat} {a b : Bd} (hi : l[i]? = some a) (hj : l[j]? = some b) (hij : i < j) : sLt a.1 b.1 = true := by
  have h1 := List.pairwise_iff_getElem.1 h
  obtain ⟨hi1, hi2⟩ := List.getElem?_eq_some_iff.1 hi
  obtain ⟨hj1, hj2⟩ := List.getElem?_eq_some_iff.1 hj
  have := h1 i j hi1 hj1 hij
  rw [hi2, hj2] at this
  exact this
mutual
def Tm.on (s : List Bd) : Tm → Tm
  | .mk n xs => match (if xs.isEmpty then lookup s n else none) with
    | some x => x
    | none => .mk n (Tm.onL s xs)
def Tm.onL (s : List Bd) : List Tm → List Tm
  | [] => []
  | t :: ts => t.on s :: Tm.onL s ts
end
theorem Tm.onL_eq (s : List Bd) : ∀ ts : List Tm, Tm.onL s ts = ts.map (Tm.on s)
  | [] => rfl
  | t :: ts => by rw [Tm.onL, Tm.onL_eq s ts]; rfl
theorem Tm.on_leaf {s : List Bd} {t x : Tm} (h : lookup s t.name = some x) (h0 : t.args = []) : t.on s = x := by
  cases t with
  | mk n xs =>
    simp only [Tm.name_mk, Tm.args_mk] at h h0
    subst h0
    simp [Tm.on, h]
theorem Tm.on_knot {s : List Bd} {t : Tm} (h : lookup s t.name = none ∨ t.args ≠ []) : t.on s = .mk t.name (t.args.map (Tm.on s)) := by
  cases t with
  | mk n xs =>
    simp only [Tm.name_mk, Tm.args_mk] at h ⊢
    rw [← Tm.onL_eq]
    rcases h with h | h
    · simp [Tm.on, h]
    · cases xs with
      | nil => exact absurd rfl h
      | cons y ys => simp [Tm.on]
theorem Tm.chk_args {t : Tm} (h : t.chk = 0) : (isVar t.name = true → t.args = []) ∧ ∀ a ∈ t.args, a.chk = 0 := by
  have hc := Tm.chk_eq t
  rw [h] at hc
  by_cases h1 : chkOne t = 0
  · rw [if_pos h1] at hc
    have key : ∀ {xs : List Tm}, Tm.chkL xs = 0 → ∀ a ∈ xs, a.chk = 0 := by
      intro xs
      induction xs with
      | nil => simp
      | cons x xs ih =>
        intro hx a ha
        simp only [Tm.chkL] at hx
        split at hx
        · rename_i h2
          rcases List.mem_cons.1 ha with rfl | ha
          · exact h2
          · exact ih hx a ha
        · rename_i h2
          exact absurd hx h2
    refine ⟨fun hv => ?_, key hc.symm⟩
    unfold chkOne at h1
    split at h1
    · split at h1
      · cases h1
      · rename_i h2
        simp only [hv, true_and, Nat.not_lt, Nat.le_zero] at h2
        exact List.eq_nil_of_length_eq_zero h2
    · cases h1
  · rw [if_neg h1] at hc
    exact absurd hc.symm h1
theorem Tm.may_chk {t : Tm} (h : t.may = 0) : t.chk = 0 ∧ t.size ≤ 200 := by
  unfold Tm.may at h
  split at h
  · cases h
  · exact ⟨h, by omega⟩

def insB (b : Bd) : List Bd → List Bd
  | [] => [b]
  | c :: l => if sLt b.1 c.1 = true then b :: c :: l else c :: insB b l
def sortB (l : List Bd) : List Bd := l.foldl (fun acc b => insB b acc) []
def Named (l : List Bd) : Prop := (l.map (·.1)).Nodup
theorem insB_perm (b : Bd) : ∀ l : List Bd, (insB b l).Perm (b :: l)
  | [] => List.Perm.refl _
  | c :: l => by
    unfold insB
    split
    · exact List.Perm.refl _
    · exact ((insB_perm b l).cons c).trans (List.Perm.swap b c l)
theorem insB_ordered {b : Bd} : ∀ {l : List Bd}, Ordered l → (∀ c ∈ l, c.1 ≠ b.1) → Ordered (insB b l)
  | [], _, _ => List.pairwise_cons.2 ⟨by simp, List.Pairwise.nil⟩
  | c :: l, ho, hn => by
    obtain ⟨o1, o2⟩ := List.pairwise_cons.1 ho
    unfold insB
    split
    · rename_i h
      exact List.pairwise_cons.2 ⟨fun x hx => by
        rcases List.mem_cons.1 hx with rfl | hx
        · exact h
        · exact sLt_trans h (o1 x hx), ho⟩
    · rename_i h
      refine List.pairwise_cons.2 ⟨fun x hx => ?_, insB_ordered o2 fun x hx => hn x (by simp [hx])⟩
      rcases List.mem_cons.1 ((insB_perm b l).mem_iff.1 hx) with rfl | hx
      · rcases sLt_total c.1 x.1 with k | k | k
        · exact k
        · exact absurd k (hn c (by simp))
        · exact absurd k h
      · exact o1 x hx
theorem sortB_snoc (l : List Bd) (b : Bd) : sortB (l ++ [b]) = insB b (sortB l) := by unfold sortB; rw [List.foldl_append]; rfl
theorem foldl_ins_perm : ∀ (l acc : List Bd), (l.foldl (fun acc b => insB b acc) acc).Perm (l ++ acc)
  | [], acc => List.Perm.refl _
  | b :: l, acc => by
    rw [List.foldl_cons]
    refine (foldl_ins_perm l _).trans ?_
    refine ((insB_perm b acc).append_left l).trans ?_
    exact List.perm_middle
theorem sortB_perm (l : List Bd) : (sortB l).Perm l := by
  have := foldl_ins_perm l []
  rw [List.append_nil] at this
  exact this
theorem foldl_ins_ordered : ∀ (l acc : List Bd), Ordered acc → Named (acc ++ l) → Ordered (l.foldl (fun acc b => insB b acc) acc)
  | [], acc, ho, _ => ho
  | b :: l, acc, ho, hn => by
    rw [List.foldl_cons]
    have hp : (acc ++ b :: l).Perm (insB b acc ++ l) := (List.perm_middle).trans (by rw [← List.cons_append]; exact ((insB_perm b acc).symm.append_right l))
    refine foldl_ins_ordered l _ (insB_ordered ho fun c hc e => ?_) ((hp.map _).nodup_iff.1 hn)
    unfold Named at hn
    rw [List.map_append, List.nodup_append] at hn
    exact hn.2.2 _ (List.mem_map.2 ⟨c, hc, rfl⟩) _ (by simp) e
theorem sortB_ordered {l : List Bd} (hn : Named l) : Ordered (sortB l) := foldl_ins_ordered l [] List.Pairwise.nil (by simpa using hn)
theorem ordered_unique : ∀ {l m : List Bd}, Ordered l → Ordered m → l.Perm m → l = m
  | [], m, _, _, h => (List.nil_perm.1 h).symm
  | a :: l, [], _, _, h => absurd h.length_eq (by simp)
  | a :: l, c :: m, hl, hm, h => by
    obtain ⟨l1, l2⟩ := List.pairwise_cons.1 hl
    obtain ⟨m1, m2⟩ := List.pairwise_cons.1 hm
    have e : a = c := by
      rcases List.mem_cons.1 (h.mem_iff.1 (List.mem_cons_self)) with e | e
      · exact e
      · rcases List.mem_cons.1 (h.mem_iff.2 (List.mem_cons_self)) with e2 | e2
        · exact e2.symm
        · have := sLt_trans (m1 a e) (l1 c e2)
          rw [sLt_irrefl] at this
          cases this
    subst e
    rw [ordered_unique l2 m2 (List.Perm.cons_inv h)]
theorem sortB_mem {l : List Bd} {b : Bd} : b ∈ sortB l ↔ b ∈ l := (sortB_perm l).mem_iff
theorem sortB_length (l : List Bd) : (sortB l).length = l.length := (sortB_perm l).length_eq
theorem named_perm {l m : List Bd} (h : l.Perm m) (hn : Named l) : Named m := ((h.map _).nodup_iff).1 hn

end Go.Proofs.Ytipddfhkbkihnaa
