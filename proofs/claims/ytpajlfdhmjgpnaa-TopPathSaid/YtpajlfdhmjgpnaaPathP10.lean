/-
  Part 10 of the texts: AbsN; Data; AbsT. Conditions: none.
-/
import Derived.Test.YtpajlfdhmjgpnaaPathP9
namespace Go.Proofs.Ytpajlfdhmjgpnaa
open Go Go.RowKit
set_option linter.unusedVariables false
set_option linter.unusedSimpArgs false
set_option maxHeartbeats 400000

mutual
/-- It names none of the blocks ds. -/
def AC.clear (ds : List Nat) : AC → Bool
  | .row id _ => !ds.contains id
  | .part id _ _ => !ds.contains id
  | .rest id _ _ => !ds.contains id
  | .ptr id _ _ _ => !ds.contains id
  | .mptr id => !ds.contains id
  | .ubool => true
  | .fn _ caps => AC.clears ds caps
  | .st _ => true
  | .full _ => true
  | .eptr _ => true
  | .any => true
def AC.clears (ds : List Nat) : List AC → Bool
  | [] => true
  | c :: cs => c.clear ds && AC.clears ds cs
end
theorem clears_mem {ds : List Nat} : ∀ {l : List AC}, AC.clears ds l = true → ∀ a ∈ l, a.clear ds = true
  | [], _, a, ha => by simp at ha
  | x :: xs, hx, a, ha => by
    rw [AC.clears, Bool.and_eq_true] at hx
    rcases List.mem_cons.1 ha with rfl | ha
    · exact hx.1
    · exact clears_mem hx.2 a ha
def AC.purge (ds : List Nat) : AC → AC
  | .row id n => if ds.contains id then .any else .row id n
  | .part id k n => if ds.contains id then .any else .part id k n
  | .rest id k n => if ds.contains id then .any else .rest id k n
  | .ptr id n k off => if ds.contains id then .any else .ptr id n k off
  | .mptr id => if ds.contains id then .any else .mptr id
  | .fn f caps => if AC.clears ds caps then .fn f caps else .any
  | c => c
mutual
def AV.purge (ds : List Nat) : AV → AV
  | .one c => .one (c.purge ds)
  | .agg cs => .agg (cs.map (AC.purge ds))
  | .tup vs => .tup (AV.purges ds vs)
  | .any => .any
def AV.purges (ds : List Nat) : List AV → List AV
  | [] => []
  | v :: vs => v.purge ds :: AV.purges ds vs
end
def ABlk.purge (ds : List Nat) : ABlk → ABlk
  | .box e cs => .box e (cs.map (AC.purge ds))
  | .iter x n seen => .iter (x.purge ds) n seen
  | b => b
/-- The blocks ds are forgotten. -/
def dropS (ds : List Nat) (S : AStore) : AStore := fun id => if ds.contains id then none else (S id).map (ABlk.purge ds)
def AS.drop (ds : List Nat) (s : AS) : AS := ⟨fun i => (s.env i).purge ds, dropS ds s.S⟩
theorem highs_mem : ∀ {l : List AC}, AC.highs l = true → ∀ a ∈ l, a.high = true
  | [], _, a, ha => by simp at ha
  | x :: xs, hx, a, ha => by
    rw [AC.highs, Bool.and_eq_true] at hx
    rcases List.mem_cons.1 ha with rfl | ha
    · exact hx.1
    · exact highs_mem hx.2 a ha
theorem not_ds {ds : List Nat} (hds : ∀ d ∈ ds, d < 1000) {id : Nat} (h : 1000 ≤ id) : ds.contains id = false := by
  cases hc : ds.contains id with
  | false => rfl
  | true =>
    have := hds id (List.contains_iff_mem.1 hc)
    omega
mutual
theorem AC.clear_high {ds : List Nat} (hds : ∀ d ∈ ds, d < 1000) : ∀ {c : AC}, c.high = true → c.clear ds = true
  | .st _, _ => rfl
  | .full _, _ => rfl
  | .row id n, h => by
    rw [AC.high] at h
    rw [AC.clear, not_ds hds (of_decide_eq_true h)]
    rfl
  | .part id k n, h => by
    rw [AC.high] at h
    rw [AC.clear, not_ds hds (of_decide_eq_true h)]
    rfl
  | .rest id k n, h => by
    rw [AC.high] at h
    rw [AC.clear, not_ds hds (of_decide_eq_true h)]
    rfl
  | .ptr id n k off, h => by
    rw [AC.high] at h
    rw [AC.clear, not_ds hds (of_decide_eq_true h)]
    rfl
  | .mptr id, h => by
    rw [AC.high] at h
    rw [AC.clear, not_ds hds (of_decide_eq_true h)]
    rfl
  | .ubool, _ => rfl
  | .eptr _, _ => rfl
  | .fn f caps, h => by
    rw [AC.high] at h
    rw [AC.clear]
    exact AC.clears_highs hds h
  | .any, _ => rfl
theorem AC.clears_highs {ds : List Nat} (hds : ∀ d ∈ ds, d < 1000) : ∀ {cs : List AC}, AC.highs cs = true → AC.clears ds cs = true
  | [], _ => rfl
  | c :: cs, h => by
    rw [AC.highs, Bool.and_eq_true] at h
    rw [AC.clears, AC.clear_high hds h.1, AC.clears_highs hds h.2]
    rfl
end
theorem AC.purge_high {ds : List Nat} (hds : ∀ d ∈ ds, d < 1000) : ∀ {c : AC}, c.high = true → c.purge ds = c
  | .st _, _ => rfl
  | .full _, _ => rfl
  | .row id n, h => by
    rw [AC.high] at h
    simp only [AC.purge, not_ds hds (of_decide_eq_true h), Bool.false_eq_true, if_false]
  | .part id k n, h => by
    rw [AC.high] at h
    simp only [AC.purge, not_ds hds (of_decide_eq_true h), Bool.false_eq_true, if_false]
  | .rest id k n, h => by
    rw [AC.high] at h
    simp only [AC.purge, not_ds hds (of_decide_eq_true h), Bool.false_eq_true, if_false]
  | .ptr id n k off, h => by
    rw [AC.high] at h
    simp only [AC.purge, not_ds hds (of_decide_eq_true h), Bool.false_eq_true, if_false]
  | .mptr id, h => by
    rw [AC.high] at h
    simp only [AC.purge, not_ds hds (of_decide_eq_true h), Bool.false_eq_true, if_false]
  | .ubool, _ => rfl
  | .eptr _, _ => rfl
  | .fn f caps, h => by
    rw [AC.high] at h
    simp only [AC.purge, AC.clears_highs hds h, if_true]
  | .any, _ => rfl
theorem ABlk.purge_high {ds : List Nat} (hds : ∀ d ∈ ds, d < 1000) {b : ABlk} (h : b.high = true) : b.purge ds = b := by
  cases b with
  | box e cs =>
    rw [ABlk.high] at h
    simp only [ABlk.purge]
    congr 1
    exact (List.map_congr_left fun a ha => AC.purge_high hds (highs_mem h a ha)).trans (List.map_id _)
  | arow => rfl
  | mrow => rfl
  | map => rfl
  | memo => rfl
  | iter x =>
    rw [ABlk.high] at h
    simp only [ABlk.purge, AC.purge_high hds h]
  | dead => rfl
theorem dropS_clean {ds : List Nat} (hds : ∀ d ∈ ds, d < 1000) {S : AStore} (h : Clean S) : dropS ds S = S := by
  funext id
  unfold dropS
  cases hb : S id with
  | none => split <;> rfl
  | some b =>
    obtain ⟨h1, h2⟩ := h id b hb
    rw [not_ds hds h1, if_neg (by simp), Option.map_some, ABlk.purge_high hds h2]
theorem dropS_in {ds : List Nat} {S : AStore} {i : Nat} {b : Option ABlk} (h : ds.contains i = true) : dropS ds (updE S i b) = dropS ds S := by
  funext k
  unfold dropS
  by_cases e : k = i
  · subst e
    rw [if_pos h, if_pos h]
  · rw [updE_ne _ e]
theorem dropS_out {ds : List Nat} {S : AStore} {i : Nat} {b : ABlk} (h : ds.contains i = false) : dropS ds (updE S i (some b)) = updE (dropS ds S) i (some (b.purge ds)) := by
  funext k
  unfold dropS
  by_cases e : k = i
  · subst e
    rw [updE_same, updE_same, if_neg (by rw [h]; simp)]
    rfl
  · rw [updE_ne _ e, updE_ne _ e]

section
variable {C : Ctx} {σ : Sto} {ι : AHnd} {s : AS} {a : Act} {w : World} {ds : List Nat}
theorem purge_len (b : ABlk) : (b.purge ds).len = b.len := by cases b <;> rfl
theorem purge_wid (b : ABlk) : (b.purge ds).wid = b.wid := by cases b <;> rfl
theorem ARep.keepHigh {S S2 : AStore} (hS : ∀ id b, 1000 ≤ id → S id = some b → ∃ b', S2 id = some b' ∧ b'.len = b.len ∧ b'.wid = b.wid) {v : Value} {c : AC} (h : ARep σ S ι v c) (hc : c.high = true) : ARep σ S2 ι v c := by
  induction h with
  | st h => exact .st h
  | full h => exact .full h
  | row h1 h2 h3 h4 =>
    rw [AC.high] at hc
    obtain ⟨b', q1, q2, q3⟩ := hS _ _ (of_decide_eq_true hc) h1
    exact .row q1 (by rw [q2]; exact h2) h3 (by rw [q2]; exact h4)
  | part h1 h2 h3 h4 =>
    rw [AC.high] at hc
    obtain ⟨b', q1, q2, q3⟩ := hS _ _ (of_decide_eq_true hc) h1
    exact .part q1 (by rw [q2]; exact h2) h3 (by rw [q2]; exact h4)
  | rest h1 h2 h3 h4 =>
    rw [AC.high] at hc
    obtain ⟨b', q1, q2, q3⟩ := hS _ _ (of_decide_eq_true hc) h1
    exact .rest q1 (by rw [q2]; exact h2) h3 (by rw [q2, q3]; exact h4)
  | ptr h1 h2 h3 h4 =>
    rw [AC.high] at hc
    obtain ⟨b', q1, q2, q3⟩ := hS _ _ (of_decide_eq_true hc) h1
    exact .ptr q1 (by rw [q2]; exact h2) h3 (by rw [q2, q3]; exact h4)
  | mptr h1 h2 h3 h4 =>
    rw [AC.high] at hc
    obtain ⟨b', q1, q2, q3⟩ := hS _ _ (of_decide_eq_true hc) h1
    exact .mptr q1 (by rw [q2]; exact h2) h3 (by rw [q2]; exact h4)
  | ubool => exact .ubool
  | eptr c h1 h2 hh => exact .eptr c h1 h2 hh
  | fn c h1 h2 h3 ih =>
    rw [AC.high] at hc
    exact .fn c h1 h2 (fun j a ha => ih j a ha (highs_mem hc a (List.mem_of_getElem? ha)))
  | any h => exact .any h
theorem ARep.keepClear {ds : List Nat} {S S2 : AStore} (hS : ∀ id b, ds.contains id = false → S id = some b → ∃ b', S2 id = some b' ∧ b'.len = b.len ∧ b'.wid = b.wid) {v : Value} {c : AC} (h : ARep σ S ι v c) (hc : c.clear ds = true) : ARep σ S2 ι v c := by
  induction h with
  | st h => exact .st h
  | full h => exact .full h
  | row h1 h2 h3 h4 =>
    rw [AC.clear] at hc
    obtain ⟨b', q1, q2, q3⟩ := hS _ _ (by simpa using hc) h1
    exact .row q1 (by rw [q2]; exact h2) h3 (by rw [q2]; exact h4)
  | part h1 h2 h3 h4 =>
    rw [AC.clear] at hc
    obtain ⟨b', q1, q2, q3⟩ := hS _ _ (by simpa using hc) h1
    exact .part q1 (by rw [q2]; exact h2) h3 (by rw [q2]; exact h4)
  | rest h1 h2 h3 h4 =>
    rw [AC.clear] at hc
    obtain ⟨b', q1, q2, q3⟩ := hS _ _ (by simpa using hc) h1
    exact .rest q1 (by rw [q2]; exact h2) h3 (by rw [q2, q3]; exact h4)
  | ptr h1 h2 h3 h4 =>
    rw [AC.clear] at hc
    obtain ⟨b', q1, q2, q3⟩ := hS _ _ (by simpa using hc) h1
    exact .ptr q1 (by rw [q2]; exact h2) h3 (by rw [q2, q3]; exact h4)
  | mptr h1 h2 h3 h4 =>
    rw [AC.clear] at hc
    obtain ⟨b', q1, q2, q3⟩ := hS _ _ (by simpa using hc) h1
    exact .mptr q1 (by rw [q2]; exact h2) h3 (by rw [q2]; exact h4)
  | ubool => exact .ubool
  | eptr c h1 h2 hh => exact .eptr c h1 h2 hh
  | fn c h1 h2 h3 ih =>
    rw [AC.clear] at hc
    exact .fn c h1 h2 (fun j a ha => ih j a ha (clears_mem hc a (List.mem_of_getElem? ha)))
  | any h => exact .any h
theorem drop_keeps (hds : ∀ d ∈ ds, d < 1000) (S : AStore) : ∀ id b, 1000 ≤ id → S id = some b → ∃ b', dropS ds S id = some b' ∧ b'.len = b.len ∧ b'.wid = b.wid := fun id b hid hb =>
  ⟨b.purge ds, by unfold dropS; rw [not_ds hds hid, if_neg (by simp), hb]; rfl, purge_len b, purge_wid b⟩
theorem ARep.purge (hds : ∀ d ∈ ds, d < 1000) {v : Value} {c : AC} (h : ARep σ s.S ι v c) : ARep σ (s.drop ds).S ι v (c.purge ds) := by
  have h0 := h
  cases h with
  | st h => exact .st h
  | full h => exact .full h
  | @row _ id n b h1 h2 h3 h4 =>
    simp only [AC.purge]
    split
    · exact .any h3
    · rename_i hn
      exact .row (b := b.purge ds) (by simp only [AS.drop, dropS, hn]; rw [h1]; rfl) (by rw [purge_len]; exact h2) h3 (by rw [purge_len]; exact h4)
  | @part _ id k n b h1 h2 h3 h4 =>
    simp only [AC.purge]
    split
    · exact .any h3
    · rename_i hn
      exact .part (b := b.purge ds) (by simp only [AS.drop, dropS, hn]; rw [h1]; rfl) (by rw [purge_len]; exact h2) h3 (by rw [purge_len]; exact h4)
  | @rest _ id k n b h1 h2 h3 h4 =>
    simp only [AC.purge]
    split
    · exact .any h3
    · rename_i hn
      exact .rest (b := b.purge ds) (by simp only [AS.drop, dropS, hn]; rw [h1]; rfl) (by rw [purge_len]; exact h2) h3 (by rw [purge_len, purge_wid]; exact h4)
  | @ptr _ id n k off b h1 h2 h3 h4 =>
    simp only [AC.purge]
    split
    · exact .any h3
    · rename_i hn
      exact .ptr (b := b.purge ds) (by simp only [AS.drop, dropS, hn]; rw [h1]; rfl) (by rw [purge_len]; exact h2) h3 (by rw [purge_len, purge_wid]; exact h4)
  | @mptr _ id b h1 h2 h3 h4 =>
    simp only [AC.purge]
    split
    · exact .any h3
    · rename_i hn
      exact .mptr (b := b.purge ds) (by simp only [AS.drop, dropS, hn]; rw [h1]; rfl) (by rw [purge_len]; exact h2) h3 (by rw [purge_len]; exact h4)
  | ubool => exact .ubool
  | eptr c h1 h2 hh => exact .eptr c h1 h2 hh
  | @fn f vs caps c h1 h2 h3 =>
    simp only [AC.purge]
    split
    · rename_i hh
      exact h0.keepClear (ds := ds) (fun id b hid hb => ⟨b.purge ds, by
        show dropS ds s.S id = _
        unfold dropS
        rw [hid, hb]
        rfl, purge_len b, purge_wid b⟩) (by rw [AC.clear]; exact hh)
    · exact .any rfl
  | any h => exact .any h
mutual
theorem VRep.purge (hds : ∀ d ∈ ds, d < 1000) : ∀ {v : Value} {c : AV}, VRep σ s.S ι v c → VRep σ (s.drop ds).S ι v (c.purge ds)
  | v, .one c, h => by cases h with | one h => exact .one (h.purge hds)
  | v, .agg cs, h => by cases h with | agg h => exact .agg ((h.mono fun _ _ x => x.purge hds).map_right)
  | v, .tup vs, h => by
    cases h with
    | tup c h1 h2 h3 =>
      obtain ⟨k1, k2⟩ := VRep.purges hds (c := c) h3
      exact .tup c (by rw [h1, k1]) (fun j b hb => by
        rcases Nat.lt_or_ge j vs.length with hj | hj
        · exact h2 j _ (List.getElem?_eq_getElem hj)
        · rw [List.getElem?_eq_none (by omega)] at hb; cases hb) k2
  | v, .any, h => .any
theorem VRep.purges (hds : ∀ d ∈ ds, d < 1000) : ∀ {vs : List AV} {c : Nat → Value}, (∀ j b, vs[j]? = some b → VRep σ s.S ι (c j) b) → vs.length = (AV.purges ds vs).length ∧ ∀ j b, (AV.purges ds vs)[j]? = some b → VRep σ (s.drop ds).S ι (c j) b
  | [], c, h => by simp [AV.purges]
  | x :: xs, c, h => by
    obtain ⟨m1, m2⟩ := VRep.purges hds (vs := xs) (c := fun j => c (j + 1)) (fun j b hb => h (j + 1) b (by simpa using hb))
    refine ⟨by simp [AV.purges, ← m1], fun j b hb => ?_⟩
    cases j with
    | zero =>
      simp [AV.purges] at hb
      subst hb
      exact VRep.purge hds (h 0 x rfl)
    | succ j => exact m2 j b (by simpa [AV.purges] using hb)
end
theorem BRep.purge (hds : ∀ d ∈ ds, d < 1000) {h : Hnd} {b : ABlk} (hr : BRep σ s.S ι w h b) : BRep σ (s.drop ds).S ι w h (b.purge ds) := by
  cases hr with
  | box h1 h2 h3 h4 h5 => exact .box h1 h2 h3 ((h4.mono fun _ _ x => x.purge hds).map_right) h5
  | afull h1 h2 h3 h4 => exact .afull h1 h2 h3 h4
  | arow h1 h2 h3 h4 h5 h6 h7 h8 h9 hh => exact .arow h1 h2 h3 h4 h5 h6 h7 h8 h9 hh
  | mnil h1 h2 => exact .mnil h1 h2
  | mrow h1 h2 h3 h4 h5 h6 h7 h8 h9 => exact .mrow h1 h2 h3 h4 h5 h6 h7 h8 h9
  | map h1 h2 h3 h4 => exact .map h1 h2 h3 h4
  | memo h1 h2 h3 h4 => exact .memo h1 h2 h3 h4
  | iter h1 h2 h3 h4 => exact .iter h1 h2 (h3.purge hds) h4
  | dead h1 => exact .dead h1
theorem drop_some {id : Nat} {b : ABlk} (h : (s.drop ds).S id = some b) : ∃ b', s.S id = some b' ∧ b = b'.purge ds := by
  simp only [AS.drop, dropS] at h
  split at h
  · cases h
  · rw [Option.map_eq_some_iff] at h
    obtain ⟨b', h1, h2⟩ := h
    exact ⟨b', h1, h2.symm⟩
theorem Ghost.drop (ds : List Nat) (s : AS) (hds : ∀ d ∈ ds, d < 1000) : Ghost C s (s.drop ds) := fun a w ⟨σ, ι, R⟩ => by
  refine ⟨σ, ι, R.size, fun i hi => (R.env i hi).purge hds, R.nod, R.fit, fun id b h => ?_, fun id id' b b' g h1 h2 g1 g2 => ?_, fun id b g h hg => ?_, R.ext, R.old, R.os, R.grown, R.same, fun id b hb => ?_⟩
  · obtain ⟨b', h1, rfl⟩ := drop_some h
    exact (R.blk id b' h1).purge hds
  · obtain ⟨c1, k1, _⟩ := drop_some h1
    obtain ⟨c2, k2, _⟩ := drop_some h2
    exact R.inj _ _ _ _ _ k1 k2 g1 g2
  · obtain ⟨c1, k1, _⟩ := drop_some h
    exact R.base _ _ _ k1 hg
  · obtain ⟨b', h1, h2, h3⟩ := R.upd id b hb
    have hid := (C.clean id b hb).1
    have hnc : ds.contains id = false := by
      cases hc : ds.contains id with
      | false => rfl
      | true =>
        have := hds id (List.contains_iff_mem.1 hc)
        omega
    refine ⟨b'.purge ds, by simp only [AS.drop, dropS, hnc]; rw [h1]; rfl, by rw [purge_len]; exact h2, fun hl => ?_⟩
    rw [purge_len] at hl
    rw [purge_wid]
    exact h3 hl
/-- A written row is written no more: its things stay from now on. -/
theorem Ghost.share {id : Nat} {e : TypeId} {wd : Nat} {xs : List (List SV)} (hS : s.S id = some (.mrow e wd xs)) : Ghost C s (s.set id (.arow e wd xs)) := fun a w ⟨σ, ι, R⟩ => by
  have hb := R.blk _ _ hS
  have hι : updE ι id (ι id) = ι := by
    funext k
    unfold updE
    split
    · rename_i h; rw [h]
    · rfl
  cases hb with
  | mnil h1 h2 =>
    obtain ⟨hu, R'⟩ := R.turn (w' := w) hS (.arow e wd []) (ι id) (σ' := σ) (fun _ _ h => h) (fun _ _ _ => rfl) R.fit (Nat.le_refl _) (fun _ => ⟨rfl, rfl⟩) ⟨rfl, rfl, rfl⟩ (Nat.le_refl _) (fun _ _ _ => rfl) (fun g h => .inl h) (fun hu => .afull h1 (by simpa using h2) (by simp) (.list (b := 0) (o := 0) (w := 0) (fun _ _ => undef) rfl (by simp) (by rw [h2]; simp [maxLen]) (fun _ => h2) (by simp) (by simp) (fun _ h _ => absurd h (by omega)) (by simp) (by simp)))
    exact ⟨σ, _, R'⟩
  | @mrow _ _ _ g vs h1 h2 h3 h4 h5 h6 h7 h8 h9 =>
    have hl : Laid σ vs.toList wd xs := ⟨h7, fun k x j y hx hy => by simpa using h8 k x j y hx hy⟩
    have hkeep := layS_keep (σ := σ) (w' := w) (g := g) (k := xs.length * wd) (fun p x e hx => by rw [h9 _ e] at hx; cases hx)
    obtain ⟨hu, R'⟩ := R.turn (w' := w) hS (.arow e wd xs) (ι id) (σ' := layS σ w g (xs.length * wd)) hkeep (fun p hp _ => layS_out (fun e => hp (by rw [e]; exact h1))) (layS_fit R.fit) (Nat.le_refl _) (fun _ => ⟨rfl, rfl⟩) ⟨rfl, rfl, rfl⟩ (Nat.le_refl _) (fun _ _ _ => rfl) (fun g h => .inl h)
      (fun hu => by
        have := brep_arow (S' := (s.set id (.arow e wd xs)).S) (ι' := updE ι id (ι id)) (w' := w) (p := (ι id).p) h2 h3 h4 h5 h6 hl hkeep (fun p hp hne => absurd (h9 p hp) hne)
        rw [← h1] at this
        exact this)
    exact ⟨_, _, R'⟩
/-- A slice without spare room, as a row of the call's own. -/
theorem Ghost.own (t id : Nat) (e : TypeId) (wd : Nat) {xs : List (List SV)} (ht : s.env t = .one (.full xs)) (hid : s.S id = none) (hw : ∀ x ∈ xs, x.length = wd) (hn : t < C.n) : Ghost C s ⟨updE s.env t (.one (.row id xs.length)), updE s.S id (some (.arow e wd xs))⟩ := fun a w ⟨σ, ι, R⟩ => by
  have rt := R.env t hn
  rw [ht] at rt
  generalize hv : a.tmps.getD t undef = v at rt
  cases vrep_one rt with
  | @full p len xs hs =>
    have hl : len = xs.length := by
      obtain ⟨p', cap', e1, _⟩ := srep_slice hs
      cases e1
      rfl
    subst hl
    obtain ⟨hu, R'⟩ := R.fresh (w' := w) hid (.arow e wd xs) ⟨p, xs.length, none⟩ (Ext.refl _ _) R.fit (Below.refl _ _) (by simp) (fun S' ι' hu => .afull rfl rfl hw hs)
    refine ⟨σ, _, R'.size, fun i hi => ?_, R'.nod, R'.fit, R'.blk, R'.inj, R'.base, R'.ext, R'.old, R'.os, R'.grown, R'.same, R'.upd⟩
    show VRep σ (s.set id (.arow e wd xs)).S _ _ (updE s.env t _ i)
    unfold updE
    split
    · rename_i e1
      subst e1
      rw [hv]
      exact .one (.row (b := .arow e wd xs) (by simp [AS.set, updE_same]) (Nat.le_refl _) rfl fun _ => by simp [updE])
    · exact R'.env i hi
/-- Nothing yet, as a row that is written. -/
theorem Ghost.ownM (t id : Nat) (e : TypeId) (wd : Nat) (ht : s.env t = .one (.full [])) (hid : s.S id = none) (hn : t < C.n) : Ghost C s ⟨updE s.env t (.one (.row id 0)), updE s.S id (some (.mrow e wd []))⟩ := fun a w ⟨σ, ι, R⟩ => by
  have rt := R.env t hn
  rw [ht] at rt
  generalize hv : a.tmps.getD t undef = v at rt
  cases vrep_one rt with
  | @full p len xs hs =>
    have hl : len = 0 := by
      obtain ⟨p', cap', e1, _⟩ := srep_slice hs
      cases e1
      rfl
    subst hl
    obtain ⟨hu, R'⟩ := R.fresh (w' := w) hid (.mrow e wd []) ⟨p, 0, none⟩ (Ext.refl _ _) R.fit (Below.refl _ _) (by simp) (fun S' ι' hu => .mnil rfl rfl)
    refine ⟨σ, _, R'.size, fun i hi => ?_, R'.nod, R'.fit, R'.blk, R'.inj, R'.base, R'.ext, R'.old, R'.os, R'.grown, R'.same, R'.upd⟩
    show VRep σ (s.set id (.mrow e wd [])).S _ _ (updE s.env t _ i)
    unfold updE
    split
    · rename_i e1
      subst e1
      rw [hv]
      exact .one (.row (b := .mrow e wd []) (by simp [AS.set, updE_same]) (Nat.le_refl _) rfl fun _ => by simp [updE])
    · exact R'.env i hi
/-- A row, as all of its own first things. -/
theorem Ghost.toPart (t id n : Nat) (ht : s.env t = .one (.row id n)) (hn : t < C.n) : Ghost C s ⟨updE s.env t (.one (.part id n n)), s.S⟩ := fun a w ⟨σ, ι, R⟩ => by
  have rt := R.env t hn
  rw [ht] at rt
  refine ⟨σ, ι, R.size, fun i hi => ?_, R.nod, R.fit, R.blk, R.inj, R.base, R.ext, R.old, R.os, R.grown, R.same, R.upd⟩
  show VRep σ s.S ι _ (updE s.env t _ i)
  unfold updE
  split
  · rename_i e1
    subst e1
    obtain ⟨b, h1, h2, h3⟩ := arep_row (vrep_one rt)
    exact .one (.part h1 h2 (vrep_one rt).one fun hl => ⟨Nat.le_refl _, h3 hl⟩)
  · exact R.env i hi
/-- The first things of a row that is written no more, as a slice that stays. -/
theorem Ghost.keep (t id k n : Nat) {e : TypeId} {wd : Nat} {xs : List (List SV)} (ht : s.env t = .one (.part id k n)) (hS : s.S id = some (.arow e wd xs)) (hl : n = xs.length) (hn : t < C.n) : Ghost C s ⟨updE s.env t (.one (.st (.list (xs.take k)))), s.S⟩ := fun a w ⟨σ, ι, R⟩ => by
  have rt := R.env t hn
  rw [ht] at rt
  refine ⟨σ, ι, R.size, fun i hi => ?_, R.nod, R.fit, R.blk, R.inj, R.base, R.ext, R.old, R.os, R.grown, R.same, R.upd⟩
  show VRep σ s.S ι _ (updE s.env t _ i)
  unfold updE
  split
  · rename_i e1
    subst e1
    obtain ⟨b, h1, h2, h3⟩ := arep_part (vrep_one rt)
    rw [hS] at h1
    cases h1
    obtain ⟨h4, h5⟩ := h3 hl
    rw [h5]
    have hb := R.blk _ _ hS
    have hr := hb.srep
    have hmem : ∀ {kk x}, (xs.take k)[kk]? = some x → xs[kk]? = some x := fun hx => by
      rw [List.getElem?_take] at hx
      split at hx
      · exact hx
      · cases hx
    cases hr with
    | @list p len cap b o w' _ c q1 q2 q3 q4 q5 q6 qh q7 q8 =>
      exact .one (.st (.list (b := b) (o := o) (w := w') c (by rw [List.length_take]; omega) (by omega) q3 q4 (fun hne => q5 (by omega)) (fun x hx => q6 x (List.mem_of_mem_take hx)) (fun e1 e2 e3 => qh e1 e2 (fun e4 => e3 (by rw [e4]; exact List.take_nil))) (fun kk x j a hx ha => q7 kk x j a (hmem hx) ha) (fun kk x j a hx ha => q8 kk x j a (hmem hx) ha)))
  · exact R.env i hi
/-- The same of a slice that stands in a box. -/
theorem Ghost.ownC (id j nid : Nat) (e : TypeId) (wd : Nat) {xs : List (List SV)} {ty : TypeId} {cs : List AC} (hb : s.S id = some (.box ty cs)) (hc : cs[j]? = some (.full xs)) (hn : s.S nid = none) (hw : ∀ x ∈ xs, x.length = wd) :
    Ghost C s ((s.set nid (.arow e wd xs)).set id (.box ty (cs.set j (.row nid xs.length)))) := fun a w ⟨σ, ι, R⟩ => by
  have hbk := R.blk id _ hb
  have hne : id ≠ nid := fun e => by subst e; rw [hb] at hn; cases hn
  cases hbk with
  | @box _ _ g vs h1 h2 h3 h4 h5 =>
    obtain ⟨v, hv, hr⟩ := h4.get hc
    cases hr with
    | @full p len xs hs =>
      have hl : len = xs.length := by
        obtain ⟨p', cap', e1, _⟩ := srep_slice hs
        cases e1
        rfl
      subst hl
      obtain ⟨hu, R'⟩ := R.fresh (w' := w) hn (.arow e wd xs) ⟨p, xs.length, none⟩ (Ext.refl _ _) R.fit (Below.refl _ _) (by simp) (fun S' ι' hu => .afull rfl rfl hw hs)
      have hb' : (s.set nid (.arow e wd xs)).S id = some (.box ty cs) := by simp [AS.set, updE_ne _ hne, hb]
      have hι : updE ι nid ⟨p, xs.length, none⟩ id = ι id := updE_ne _ hne _
      obtain ⟨hu2, R2⟩ := R'.turn (w' := w) hb' (.box ty (cs.set j (.row nid xs.length))) (updE ι nid ⟨p, xs.length, none⟩ id) (σ' := σ) (fun _ _ h => h) (fun _ _ _ => rfl) R.fit (Nat.le_refl _) (fun _ => ⟨by simp [ABlk.wid], rfl⟩) ⟨rfl, rfl, rfl⟩ (Nat.le_refl _) (fun _ _ _ => rfl) (fun g h => .inl h) (fun hu2 => by
        refine .box (by rw [hι]; exact h1) (by rw [hι]; exact h2) h3 (All2.of_get (by rw [List.length_set]; exact h4.len) fun k u c hu' hck => ?_) h5
        by_cases hk : k = j
        · subst hk
          rw [hv] at hu'
          cases hu'
          have hlt : k < cs.length := (List.getElem?_eq_some_iff.1 hc).1
          rw [List.getElem?_set_self hlt] at hck
          cases hck
          exact .row (b := .arow e wd xs) (by simp [AS.set, updE, hne.symm]) (Nat.le_refl _) rfl fun _ => by simp [updE, hne.symm]
        · rw [List.getElem?_set_ne (fun e => hk e.symm)] at hck
          obtain ⟨u', q1, q2⟩ := h4.get hck
          rw [hu'] at q1
          cases q1
          exact (q2.mono (fun _ _ h => h) hu).mono (fun _ _ h => h) hu2)
      exact ⟨_, _, R2⟩
theorem noS_upd {v : Value} {c : AV} (h : VRep σ noS noH v c) : VRep σ s.S ι v c := h.mono (fun _ _ h => h) (upd_noS _ _)
/-- A slot's value, as a callee would have it. -/
theorem Ghost.settle (t : Nat) {v : AV} (h : outV s.S (s.env t) = some v) : Ghost C s ⟨updE s.env t v, s.S⟩ := fun a w ⟨σ, ι, R⟩ => by
  refine ⟨σ, ι, R.size, fun i hi => ?_, R.nod, R.fit, R.blk, R.inj, R.base, R.ext, R.old, R.os, R.grown, R.same, R.upd⟩
  show VRep σ s.S ι _ (updE s.env t v i)
  unfold updE
  split
  · rename_i e
    subst e
    exact noS_upd (R.outV (R.env i hi) h)
  · exact R.env i hi
/-- The call's own blocks are forgotten at its end. -/
def AV.low (v : AV) : AV := if v.high then v else .any
theorem ARep.low {σ : Sto} {S S2 : AStore} {ι : AHnd} (hS : ∀ i b, 1000 ≤ i → S i = some b → S2 i = some b) {v : Value} {c : AC} (h : ARep σ S ι v c) (hc : c.high = true) : ARep σ S2 ι v c := by
  induction h with
  | st h => exact .st h
  | full h => exact .full h
  | row h1 h2 h3 h4 => exact .row (hS _ _ (by rw [AC.high] at hc; exact of_decide_eq_true hc) h1) h2 h3 h4
  | part h1 h2 h3 h4 => exact .part (hS _ _ (by rw [AC.high] at hc; exact of_decide_eq_true hc) h1) h2 h3 h4
  | rest h1 h2 h3 h4 => exact .rest (hS _ _ (by rw [AC.high] at hc; exact of_decide_eq_true hc) h1) h2 h3 h4
  | ptr h1 h2 h3 h4 => exact .ptr (hS _ _ (by rw [AC.high] at hc; exact of_decide_eq_true hc) h1) h2 h3 h4
  | mptr h1 h2 h3 h4 => exact .mptr (hS _ _ (by rw [AC.high] at hc; exact of_decide_eq_true hc) h1) h2 h3 h4
  | ubool => exact .ubool
  | eptr c h1 h2 hh => exact .eptr c h1 h2 hh
  | @fn f vs caps c h1 h2 h3 ih =>
    have key : ∀ (l : List AC), AC.highs l = true → ∀ a ∈ l, a.high = true := by
      intro l
      induction l with
      | nil => simp
      | cons x xs ih2 =>
        intro hx a ha
        rw [AC.highs, Bool.and_eq_true] at hx
        rcases List.mem_cons.1 ha with rfl | ha
        · exact hx.1
        · exact ih2 hx.2 a ha
    rw [AC.high] at hc
    exact .fn c h1 h2 (fun j a ha => ih j a ha (key _ hc a (List.mem_of_getElem? ha)))
  | any h => exact .any h
theorem all2_low {S S2 : AStore} (hS : ∀ i b, 1000 ≤ i → S i = some b → S2 i = some b) {vs : List Value} {cs : List AC} (h : All2 (ARep σ S ι) vs cs) (hc : AC.highs cs = true) : All2 (ARep σ S2 ι) vs cs :=
  All2.of_get h.len fun j v c hv hcj => by
    obtain ⟨v', h1, h2⟩ := h.get hcj
    rw [hv] at h1
    cases h1
    exact h2.low hS (highs_mem hc c (List.mem_of_getElem? hcj))
mutual
theorem VRep.low {S S2 : AStore} (hS : ∀ i b, 1000 ≤ i → S i = some b → S2 i = some b) : ∀ {v : Value} {c : AV}, VRep σ S ι v c → c.high = true → VRep σ S2 ι v c
  | v, .one c, h, hc => by cases h with | one h => exact .one (h.low hS (by rw [AV.high] at hc; exact hc))
  | v, .agg cs, h, hc => by cases h with | agg h => exact .agg (all2_low hS h (by rw [AV.high] at hc; exact hc))
  | v, .tup vs, h, hc => by
    cases h with
    | tup c h1 h2 h3 => exact .tup c h1 h2 (VRep.lows hS h3 (by rw [AV.high] at hc; exact hc))
  | v, .any, h, _ => .any
theorem VRep.lows {S S2 : AStore} (hS : ∀ i b, 1000 ≤ i → S i = some b → S2 i = some b) : ∀ {vs : List AV} {c : Nat → Value}, (∀ j b, vs[j]? = some b → VRep σ S ι (c j) b) → AV.highs vs = true → ∀ j b, vs[j]? = some b → VRep σ S2 ι (c j) b
  | [], c, h, _, j, b, hb => by simp at hb
  | x :: xs, c, h, hc, j, b, hb => by
    rw [AV.highs, Bool.and_eq_true] at hc
    cases j with
    | zero =>
      simp at hb
      subst hb
      exact VRep.low hS (h 0 x rfl) hc.1
    | succ j => exact VRep.lows hS (vs := xs) (c := fun j => c (j + 1)) (fun j b hb => h (j + 1) b (by simpa using hb)) hc.2 j b (by simpa using hb)
end
theorem Refs.low (R : Refs C σ ι s a w) (hb : ∀ i b, 1000 ≤ i → s.S i = some b → b.high = true) : Refs C σ ι ⟨fun i => (s.env i).low, lowS s.S⟩ a w := by
  have hS : ∀ i b, 1000 ≤ i → s.S i = some b → lowS s.S i = some b := fun i b hi h => by
    show (if i < 1000 then none else s.S i) = some b
    rw [if_neg (by omega), h]
  have hinv : ∀ i b, lowS s.S i = some b → 1000 ≤ i ∧ s.S i = some b := fun i b h => by
    have h' : (if i < 1000 then none else s.S i) = some b := h
    split at h'
    · cases h'
    · exact ⟨by omega, h'⟩
  refine ⟨R.size, fun i hi => ?_, R.nod, R.fit, fun id b h => ?_, fun id id' b b' g h1 h2 g1 g2 => R.inj _ _ _ _ g (hinv _ _ h1).2 (hinv _ _ h2).2 g1 g2, fun id b g h hg => R.base _ _ g (hinv _ _ h).2 hg, R.ext, R.old, R.os, R.grown, R.same, fun id b h => ?_⟩
  · show VRep σ (lowS s.S) ι _ ((s.env i).low)
    unfold AV.low
    split
    · rename_i hh
      exact (R.env i hi).low hS hh
    · exact .any
  · obtain ⟨h1, h2⟩ := hinv _ _ h
    have hh := hb id b h1 h2
    cases R.blk id b h2 with
    | box k1 k2 k3 k4 k5 => exact .box k1 k2 k3 (all2_low hS k4 hh) k5
    | afull k1 k2 k3 k4 => exact .afull k1 k2 k3 k4
    | arow k1 k2 k3 k4 k5 k6 k7 k8 k9 kh => exact .arow k1 k2 k3 k4 k5 k6 k7 k8 k9 kh
    | mnil k1 k2 => exact .mnil k1 k2
    | mrow k1 k2 k3 k4 k5 k6 k7 k8 k9 => exact .mrow k1 k2 k3 k4 k5 k6 k7 k8 k9
    | map k1 k2 k3 k4 => exact .map k1 k2 k3 k4
    | memo k1 k2 k3 k4 => exact .memo k1 k2 k3 k4
    | iter k1 k2 k3 k4 => exact .iter k1 k2 (k3.low hS hh) k4
    | dead k1 => exact .dead k1
  · obtain ⟨b', h1, h2⟩ := R.upd id b h
    exact ⟨b', hS _ _ (C.clean id b h).1 h1, h2⟩
theorem Ghost.low (hb : ∀ i b, 1000 ≤ i → s.S i = some b → b.high = true) : Ghost C s ⟨fun i => (s.env i).low, lowS s.S⟩ := fun a w ⟨σ, ι, R⟩ => ⟨σ, ι, R.low hb⟩
/-- A block of the call's own is handed to the caller, under the name a. -/
def oneTo (id a : Nat) (i : Nat) : Nat := if i = id then a else i
def AV.hand (id a : Nat) (v : AV) : AV := if (v.ren (oneTo id a)).high then v.ren (oneTo id a) else .any
section
variable {S S2 : AStore} {ι2 : AHnd} {id a0 : Nat}
theorem ARep.hand (hS : ∀ i b, 1000 ≤ oneTo id a0 i → S i = some b → S2 (oneTo id a0 i) = some b ∧ ι2 (oneTo id a0 i) = ι i) {v : Value} {c : AC} (h : ARep σ S ι v c) (hc : (c.ren (oneTo id a0)).high = true) : ARep σ S2 ι2 v (c.ren (oneTo id a0)) := by
  induction h with
  | st h => exact .st h
  | full h => exact .full h
  | row h1 h2 h3 h4 =>
    rw [AC.ren, AC.high] at hc
    obtain ⟨q1, q2⟩ := hS _ _ (of_decide_eq_true hc) h1
    rw [AC.ren]
    exact .row q1 h2 h3 (fun hn => by rw [q2]; exact h4 hn)
  | part h1 h2 h3 h4 =>
    rw [AC.ren, AC.high] at hc
    obtain ⟨q1, q2⟩ := hS _ _ (of_decide_eq_true hc) h1
    rw [AC.ren]
    exact .part q1 h2 h3 (fun hn => by rw [q2]; exact h4 hn)
  | rest h1 h2 h3 h4 =>
    rw [AC.ren, AC.high] at hc
    obtain ⟨q1, q2⟩ := hS _ _ (of_decide_eq_true hc) h1
    rw [AC.ren]
    exact .rest q1 h2 h3 (fun hn => by rw [q2]; exact h4 hn)
  | ptr h1 h2 h3 h4 =>
    rw [AC.ren, AC.high] at hc
    obtain ⟨q1, q2⟩ := hS _ _ (of_decide_eq_true hc) h1
    rw [AC.ren]
    exact .ptr q1 h2 h3 (fun hn => by rw [q2]; exact h4 hn)
  | mptr h1 h2 h3 h4 =>
    rw [AC.ren, AC.high] at hc
    obtain ⟨q1, q2⟩ := hS _ _ (of_decide_eq_true hc) h1
    rw [AC.ren]
    exact .mptr q1 h2 h3 (fun hn => by rw [q2]; exact h4 hn)
  | ubool => exact .ubool
  | eptr c h1 h2 hh => exact .eptr c h1 h2 hh
  | @fn f vs caps c h1 h2 h3 ih =>
    rw [AC.ren, AC.high] at hc
    rw [AC.ren]
    have key : ∀ (j : Nat) (b : AC), (AC.rens (oneTo id a0) caps)[j]? = some b → ∃ a, caps[j]? = some a ∧ b = a.ren (oneTo id a0) := fun j b hb => by
      rw [AC.rens_eq, List.getElem?_map, Option.map_eq_some_iff] at hb
      obtain ⟨a, ha, rfl⟩ := hb
      exact ⟨a, ha, rfl⟩
    refine .fn c (by rw [AC.rens_eq]; simpa using h1) (fun j b hb => ?_) (fun j b hb => ?_)
    · obtain ⟨a, ha, rfl⟩ := key j b hb
      exact h2 j a ha
    · have hm := highs_mem hc b (List.mem_of_getElem? hb)
      obtain ⟨a, ha, rfl⟩ := key j b hb
      exact ih j a ha hm
  | any h => exact .any h
mutual
theorem VRep.hand (hS : ∀ i b, 1000 ≤ oneTo id a0 i → S i = some b → S2 (oneTo id a0 i) = some b ∧ ι2 (oneTo id a0 i) = ι i) : ∀ {v : Value} {c : AV}, VRep σ S ι v c → (c.ren (oneTo id a0)).high = true → VRep σ S2 ι2 v (c.ren (oneTo id a0))
  | v, .one c, h, hc => by
    rw [AV.ren] at hc ⊢
    rw [AV.high] at hc
    cases h with | one h => exact .one (h.hand hS hc)
  | v, .agg cs, h, hc => by
    rw [AV.ren] at hc ⊢
    rw [AV.high] at hc
    cases h with
    | agg h =>
      refine .agg (All2.of_get (by rw [AC.rens_eq]; simpa using h.len) fun j x c hx hcj => ?_)
      have hm := highs_mem hc c (List.mem_of_getElem? hcj)
      rw [AC.rens_eq, List.getElem?_map, Option.map_eq_some_iff] at hcj
      obtain ⟨c', hc', rfl⟩ := hcj
      obtain ⟨x', h1, h2⟩ := h.get hc'
      rw [hx] at h1
      cases h1
      exact h2.hand hS hm
  | v, .tup vs, h, hc => by
    rw [AV.ren] at hc ⊢
    rw [AV.high] at hc
    cases h with
    | tup c h1 h2 h3 =>
      obtain ⟨k1, k2⟩ := VRep.hands hS h3 hc
      exact .tup c (by rw [h1, k1]) (fun j b hb => by
        rcases Nat.lt_or_ge j vs.length with hj | hj
        · exact h2 j _ (List.getElem?_eq_getElem hj)
        · rw [List.getElem?_eq_none (by omega)] at hb; cases hb) k2
  | v, .any, h, _ => .any
theorem VRep.hands (hS : ∀ i b, 1000 ≤ oneTo id a0 i → S i = some b → S2 (oneTo id a0 i) = some b ∧ ι2 (oneTo id a0 i) = ι i) : ∀ {vs : List AV} {c : Nat → Value}, (∀ j b, vs[j]? = some b → VRep σ S ι (c j) b) → AV.highs (AV.rens (oneTo id a0) vs) = true → vs.length = (AV.rens (oneTo id a0) vs).length ∧ ∀ j b, (AV.rens (oneTo id a0) vs)[j]? = some b → VRep σ S2 ι2 (c j) b
  | [], c, h, _ => by simp [AV.rens]
  | x :: xs, c, h, hc => by
    rw [AV.rens, AV.highs, Bool.and_eq_true] at hc
    obtain ⟨m1, m2⟩ := VRep.hands hS (vs := xs) (c := fun j => c (j + 1)) (fun j b hb => h (j + 1) b (by simpa using hb)) hc.2
    refine ⟨by simp [AV.rens, ← m1], fun j b hb => ?_⟩
    cases j with
    | zero =>
      simp [AV.rens] at hb
      subst hb
      exact VRep.hand hS (h 0 x rfl) hc.1
    | succ j => exact m2 j b (by simpa [AV.rens] using hb)
end
end
theorem BRep.samecells {S S2 : AStore} {ι2 : AHnd} {h : Hnd} {b : ABlk} (hr : BRep σ S ι w h b) (hc : ∀ v c, ARep σ S ι v c → c.high = true → ARep σ S2 ι2 v c) (hb : b.high = true) : BRep σ S2 ι2 w h b := by
  cases hr with
  | box k1 k2 k3 k4 k5 =>
    refine .box k1 k2 k3 (All2.of_get k4.len fun j v c hv hcj => ?_) k5
    obtain ⟨v', h1, h2⟩ := k4.get hcj
    rw [hv] at h1
    cases h1
    exact hc _ _ h2 (highs_mem hb c (List.mem_of_getElem? hcj))
  | afull k1 k2 k3 k4 => exact .afull k1 k2 k3 k4
  | arow k1 k2 k3 k4 k5 k6 k7 k8 k9 kh => exact .arow k1 k2 k3 k4 k5 k6 k7 k8 k9 kh
  | mnil k1 k2 => exact .mnil k1 k2
  | mrow k1 k2 k3 k4 k5 k6 k7 k8 k9 => exact .mrow k1 k2 k3 k4 k5 k6 k7 k8 k9
  | map k1 k2 k3 k4 => exact .map k1 k2 k3 k4
  | memo k1 k2 k3 k4 => exact .memo k1 k2 k3 k4
  | iter k1 k2 k3 k4 => exact .iter k1 k2 (hc _ _ k3 hb) k4
  | dead k1 => exact .dead k1
theorem ARep.stay {S S2 : AStore} {ι2 : AHnd} (hS : ∀ i b, 1000 ≤ i → S i = some b → S2 i = some b ∧ ι2 i = ι i) {v : Value} {c : AC} (h : ARep σ S ι v c) (hc : c.high = true) : ARep σ S2 ι2 v c := by
  induction h with
  | st h => exact .st h
  | full h => exact .full h
  | row h1 h2 h3 h4 =>
    rw [AC.high] at hc
    obtain ⟨q1, q2⟩ := hS _ _ (of_decide_eq_true hc) h1
    exact .row q1 h2 h3 (fun hn => by rw [q2]; exact h4 hn)
  | part h1 h2 h3 h4 =>
    rw [AC.high] at hc
    obtain ⟨q1, q2⟩ := hS _ _ (of_decide_eq_true hc) h1
    exact .part q1 h2 h3 (fun hn => by rw [q2]; exact h4 hn)
  | rest h1 h2 h3 h4 =>
    rw [AC.high] at hc
    obtain ⟨q1, q2⟩ := hS _ _ (of_decide_eq_true hc) h1
    exact .rest q1 h2 h3 (fun hn => by rw [q2]; exact h4 hn)
  | ptr h1 h2 h3 h4 =>
    rw [AC.high] at hc
    obtain ⟨q1, q2⟩ := hS _ _ (of_decide_eq_true hc) h1
    exact .ptr q1 h2 h3 (fun hn => by rw [q2]; exact h4 hn)
  | mptr h1 h2 h3 h4 =>
    rw [AC.high] at hc
    obtain ⟨q1, q2⟩ := hS _ _ (of_decide_eq_true hc) h1
    exact .mptr q1 h2 h3 (fun hn => by rw [q2]; exact h4 hn)
  | ubool => exact .ubool
  | eptr c h1 h2 hh => exact .eptr c h1 h2 hh
  | fn c h1 h2 h3 ih =>
    rw [AC.high] at hc
    exact .fn c h1 h2 (fun j a ha => ih j a ha (highs_mem hc a (List.mem_of_getElem? ha)))
  | any h => exact .any h
theorem Refs.hand (R : Refs C σ ι s a w) (id a0 : Nat) {b0 : ABlk} (hid : id < 1000) (ha : 1000 ≤ a0) (hSa : s.S a0 = none) (hb0 : s.S id = some b0) (hbh : b0.high = true) (hb : ∀ i b, 1000 ≤ i → s.S i = some b → b.high = true) :
    Refs C σ (updE ι a0 (ι id)) ⟨fun i => (s.env i).hand id a0, updE (lowS s.S) a0 (some b0)⟩ a w ∧ ∀ i b, 1000 ≤ oneTo id a0 i → s.S i = some b → updE (lowS s.S) a0 (some b0) (oneTo id a0 i) = some b ∧ updE ι a0 (ι id) (oneTo id a0 i) = ι i := by
  have hlow : ∀ i, 1000 ≤ i → lowS s.S i = s.S i := fun i hi => by
    show (if i < 1000 then none else s.S i) = _
    rw [if_neg (by omega)]
  have hS : ∀ i b, 1000 ≤ oneTo id a0 i → s.S i = some b → updE (lowS s.S) a0 (some b0) (oneTo id a0 i) = some b ∧ updE ι a0 (ι id) (oneTo id a0 i) = ι i := fun i b hi h => by
    unfold oneTo at hi ⊢
    by_cases e : i = id
    · subst e
      rw [if_pos rfl, updE_same, updE_same, ← hb0, h]
      exact ⟨rfl, rfl⟩
    · rw [if_neg e] at hi ⊢
      have hne : i ≠ a0 := fun e => by subst e; rw [hSa] at h; cases h
      rw [updE_ne _ hne, updE_ne _ hne, hlow i hi]
      exact ⟨h, rfl⟩
  have hS' : ∀ i b, 1000 ≤ i → s.S i = some b → updE (lowS s.S) a0 (some b0) i = some b ∧ updE ι a0 (ι id) i = ι i := fun i b hi h => by
    have hne : i ≠ a0 := fun e => by subst e; rw [hSa] at h; cases h
    rw [updE_ne _ hne, updE_ne _ hne, hlow i hi]
    exact ⟨h, rfl⟩
  have hinv : ∀ i b, updE (lowS s.S) a0 (some b0) i = some b → (i = a0 ∧ b = b0) ∨ (i ≠ a0 ∧ 1000 ≤ i ∧ s.S i = some b) := fun i b h => by
    by_cases e : i = a0
    · subst e
      rw [updE_same] at h
      cases h
      exact .inl ⟨rfl, rfl⟩
    · rw [updE_ne _ e] at h
      have h' : (if i < 1000 then none else s.S i) = some b := h
      split at h'
      · cases h'
      · exact .inr ⟨e, by omega, h'⟩
  refine ⟨⟨R.size, fun i hi => ?_, R.nod, R.fit, fun i b h => ?_, fun i j b c g h1 h2 g1 g2 => ?_, fun i b g h hg => ?_, R.ext, R.old, R.os, R.grown, R.same, fun i b h => ?_⟩, hS⟩
  · show VRep σ (updE (lowS s.S) a0 (some b0)) _ _ ((s.env i).hand id a0)
    unfold AV.hand
    split
    · rename_i hh
      exact (R.env i hi).hand hS hh
    · exact .any
  · rcases hinv i b h with ⟨rfl, rfl⟩ | ⟨hne, h1, h2⟩
    · rw [updE_same]
      exact (R.blk id _ hb0).samecells (fun v c hv hc => hv.stay hS' hc) hbh
    · rw [updE_ne _ hne]
      exact (R.blk i b h2).samecells (fun v c hv hc => hv.stay hS' hc) (hb i b h1 h2)
  · rcases hinv i b h1 with ⟨rfl, rfl⟩ | ⟨hne, k1, k2⟩ <;> rcases hinv j c h2 with ⟨rfl, rfl⟩ | ⟨hne', k1', k2'⟩
    · rfl
    · rw [updE_same] at g1
      rw [updE_ne _ hne'] at g2
      have := R.inj _ _ _ _ g hb0 k2' g1 g2
      omega
    · rw [updE_same] at g2
      rw [updE_ne _ hne] at g1
      have := R.inj _ _ _ _ g k2 hb0 g1 g2
      omega
    · rw [updE_ne _ hne] at g1
      rw [updE_ne _ hne'] at g2
      exact R.inj _ _ _ _ g k2 k2' g1 g2
  · rcases hinv i b h with ⟨rfl, rfl⟩ | ⟨hne, k1, k2⟩
    · rw [updE_same] at hg
      exact R.base _ _ g hb0 hg
    · rw [updE_ne _ hne] at hg
      exact R.base _ _ g k2 hg
  · obtain ⟨b', h1, h2, h3⟩ := R.upd i b h
    obtain ⟨q1, q2⟩ := hS' i b' (C.clean i b h).1 h1
    exact ⟨b', q1, h2, fun hl => ⟨(h3 hl).1, by rw [q2]; exact (h3 hl).2⟩⟩
theorem Ghost.hand (id a0 : Nat) {b0 : ABlk} (hid : id < 1000) (ha : 1000 ≤ a0) (hSa : s.S a0 = none) (hb0 : s.S id = some b0) (hbh : b0.high = true) (hb : ∀ i b, 1000 ≤ i → s.S i = some b → b.high = true) : Ghost C s ⟨fun i => (s.env i).hand id a0, updE (lowS s.S) a0 (some b0)⟩ := fun a w ⟨σ, ι, R⟩ =>
  ⟨σ, _, (R.hand id a0 hid ha hSa hb0 hbh hb).1⟩
/-- The end of a call that hands a block of its own to the caller, under the name a0. -/
theorem finS_hand {C : Ctx} {rs : List RV} {S' : AStore} {e : AX} {s : AS} (he : match e with | .normal => True | .ret => True | _ => False) (id a0 : Nat) (r0 : AV) {b0 : ABlk} (hid : id < 1000) (ha : 1000 ≤ a0) (hSa : s.S a0 = none) (hb0 : s.S id = some b0) (hbh : b0.high = true) (hb : ∀ i b, 1000 ≤ i → s.S i = some b → b.high = true)
    (h1 : (resAll s rs).map tupV = some r0) (hh : (r0.ren (oneTo id a0)).high = true) (h3 : updE (lowS s.S) a0 (some b0) = S') (hc : Clean S') : FinS C rs (r0.ren (oneTo id a0)) S' e s :=
  ⟨he, s, ⟨fun i => (s.env i).hand id a0, updE (lowS s.S) a0 (some b0)⟩, r0, Ghost.refl _ _, h1, fun σ ι a w R => ⟨σ, _, (R.hand id a0 hid ha hSa hb0 hbh hb).1, fun v hv => hv.hand (R.hand id a0 hid ha hSa hb0 hbh hb).2 hh⟩, h3, hc⟩
theorem upS_up (S : AStore) (i : Nat) : upS S (up1 i) = (S i).map (ABlk.ren up1) := by
  show (if i + 1000 < 1000 then none else (S (i + 1000 - 1000)).map (ABlk.ren up1)) = _
  rw [if_neg (by omega), Nat.add_sub_cancel]
theorem dnS_upd (S : AStore) (i : Nat) (b : ABlk) : dnS (updE S (up1 i) (some b)) = updE (dnS S) i (some (b.ren dn1)) := by
  funext k
  show (updE S (up1 i) (some b) (up1 k)).map _ = updE (dnS S) i _ k
  by_cases h : k = i
  · subst h
    rw [updE_same, updE_same]
    rfl
  · have hne : up1 k ≠ up1 i := fun e => h (by have := congrArg dn1 e; rw [dn_up, dn_up] at this; exact this)
    rw [updE_ne _ hne, updE_ne _ h]
    rfl
theorem lowS_low (S : AStore) {i : Nat} (h : i < 1000) (b : Option ABlk) : lowS (updE S i b) = lowS S := by
  funext k
  show (if k < 1000 then none else updE S i b k) = (if k < 1000 then none else S k)
  split
  · rfl
  · exact updE_ne _ (by omega) _
theorem lowS_high (S : AStore) {i : Nat} (h : 1000 ≤ i) (b : Option ABlk) : lowS (updE S i b) = updE (lowS S) i b := by
  funext k
  show (if k < 1000 then none else updE S i b k) = updE (lowS S) i b k
  by_cases e : k = i
  · subst e
    rw [if_neg (by omega), updE_same, updE_same]
  · rw [updE_ne _ e, updE_ne _ e]
    rfl
theorem clean_upd {S : AStore} (h : Clean S) {i : Nat} (hi : 1000 ≤ i) {b : ABlk} (hb : b.high = true) : Clean (updE S i (some b)) := fun k c hk => by
  by_cases e : k = i
  · subst e
    rw [updE_same] at hk
    cases hk
    exact ⟨hi, hb⟩
  · rw [updE_ne _ e] at hk
    exact h k c hk
theorem high_upd {S : AStore} {i : Nat} {b : ABlk} (h : ∀ k c, 1000 ≤ k → S k = some c → c.high = true) (hb : b.high = true) : ∀ k c, 1000 ≤ k → updE S i (some b) k = some c → c.high = true := fun k c hk hc => by
  by_cases e : k = i
  · subst e
    rw [updE_same] at hc
    cases hc
    exact hb
  · rw [updE_ne _ e] at hc
    exact h k c hk hc
theorem high_updL {S : AStore} {i : Nat} (hi : i < 1000) {b : Option ABlk} (h : ∀ k c, 1000 ≤ k → S k = some c → c.high = true) : ∀ k c, 1000 ≤ k → updE S i b k = some c → c.high = true := fun k c hk hc => by
  rw [updE_ne _ (by omega)] at hc
  exact h k c hk hc
/-- A slot's value is forgotten. -/
theorem Ghost.forget (t : Nat) : Ghost C s ⟨updE s.env t .any, s.S⟩ := fun a w ⟨σ, ι, R⟩ => by
  refine ⟨σ, ι, R.size, fun i hi => ?_, R.nod, R.fit, R.blk, R.inj, R.base, R.ext, R.old, R.os, R.grown, R.same, R.upd⟩
  show VRep σ s.S ι _ (updE s.env t .any i)
  unfold updE
  split
  · exact .any
  · exact R.env i hi
end
/-- A loop whose rounds make blocks of their own (ds), forgotten behind each. -/
theorem IWP.loopD {P : Program} {C : Ctx} {mu : List Nat} {Q : AX → AS → Prop} {s : AS} {x : IR} (ds : List Nat) (Inv : Nat → AS → Prop) (m0 : Nat) (h0 : Inv m0 s) (h : ∀ m s, Inv m s → IWP P C mu x (AX.then (fun s' => ∃ m', m' < m ∧ Inv m' (s'.drop ds)) Q) s) (hds : ∀ d ∈ ds, d < 1000 := by decide) : IWP P C mu (.loop x) Q s := by
  refine IWP.loop (fun m s => ∃ s1, Ghost C s s1 ∧ Inv m s1) m0 ⟨s, Ghost.refl _ _, h0⟩ fun m s ⟨s1, hg, hi⟩ => ?_
  refine (IWP.ghost hg (h m s1 hi)).mono fun e s2 he => ?_
  cases e with
  | normal =>
    obtain ⟨m', h1, h2⟩ := he
    exact ⟨m', h1, _, Ghost.drop ds s2 hds, h2⟩
  | _ => exact he

/-! ### a call that turns nothing, where blocks are in hand -/
theorem ARep.out {σ : Sto} {S : AStore} {ι : AHnd} {v : Value} {c : AC} (h : ARep σ S ι v c) (hc : outC noS c = some c) : ARep σ noS noH v c := by
  cases h with
  | st h => exact .st h
  | full h => simp [outC, stC] at hc
  | row h1 h2 h3 h4 => simp [outC, stC, noS] at hc
  | part h1 h2 h3 h4 => simp [outC, stC, noS] at hc
  | rest h1 h2 h3 h4 => simp [outC, stC, noS] at hc
  | ptr h1 h2 h3 h4 => simp [outC, stC] at hc
  | mptr h1 h2 h3 h4 => simp [outC, stC] at hc
  | ubool => exact .ubool
  | eptr c h1 h2 hh => exact .eptr c h1 h2 hh
  | @fn f vs caps c h1 h2 h3 =>
    cases caps with
    | nil => exact .fn c h1 h2 (by simp)
    | cons x xs => simp [outC, stC] at hc
  | any h => simp [outC, stC] at hc
theorem outCs_self : ∀ {cs : List AC}, outCs noS cs = some cs → ∀ c ∈ cs, outC noS c = some c
  | [], _, c, hc => by simp at hc
  | x :: xs, h, c, hc => by
    simp only [outCs] at h
    split at h
    · rename_i y ys h1 h2
      simp only [Option.some.injEq, List.cons.injEq] at h
      obtain ⟨rfl, rfl⟩ := h
      rcases List.mem_cons.1 hc with rfl | hc
      · exact h1
      · exact outCs_self h2 c hc
    · cases h
mutual
theorem VRep.out {σ : Sto} {S : AStore} {ι : AHnd} : ∀ {v : Value} {c : AV}, VRep σ S ι v c → outV noS c = some c → VRep σ noS noH v c
  | v, .one c, h, hc => by
    rw [outV, Option.map_eq_some_iff] at hc
    obtain ⟨a, h1, h2⟩ := hc
    cases h2
    cases h with | one h => exact .one (h.out h1)
  | v, .agg cs, h, hc => by
    rw [outV, Option.map_eq_some_iff] at hc
    obtain ⟨a, h1, h2⟩ := hc
    cases h2
    cases h with
    | agg h => exact .agg (All2.of_get h.len fun j x c hx hcj => by
        obtain ⟨x', q1, q2⟩ := h.get hcj
        rw [hx] at q1
        cases q1
        exact q2.out (outCs_self h1 c (List.mem_of_getElem? hcj)))
  | v, .tup vs, h, hc => by
    rw [outV, Option.map_eq_some_iff] at hc
    obtain ⟨a, h1, h2⟩ := hc
    cases h2
    cases h with
    | tup c k1 k2 k3 => exact .tup c k1 k2 (VRep.outs k3 h1)
  | v, .any, h, _ => .any
theorem VRep.outs {σ : Sto} {S : AStore} {ι : AHnd} : ∀ {vs : List AV} {c : Nat → Value}, (∀ j b, vs[j]? = some b → VRep σ S ι (c j) b) → outVs noS vs = some vs → ∀ j b, vs[j]? = some b → VRep σ noS noH (c j) b
  | [], c, h, _, j, b, hb => by simp at hb
  | x :: xs, c, h, hc, j, b, hb => by
    rw [outVs] at hc
    split at hc
    · rename_i y ys h1 h2
      simp only [Option.some.injEq, List.cons.injEq] at hc
      obtain ⟨rfl, rfl⟩ := hc
      cases j with
      | zero =>
        simp at hb
        subst hb
        exact VRep.out (h 0 _ rfl) h1
      | succ j => exact VRep.outs (c := fun j => c (j + 1)) (fun j b hb => h (j + 1) b (by simpa using hb)) h2 j b (by simpa using hb)
    · cases hc
end
theorem ACalls.toS {P : Program} {f : FuncId} {xs : List AV} {S : AStore} {r : AV} (h : ACalls P f xs r) (hx : outVs noS xs = some xs) : ACallsS P f xs S r S := by
  intro hclean σ w vs ι hglob hfit hown hvs
  have hvs' : All2 (VRep σ noS noH) vs xs := All2.of_get hvs.len fun j v x hv hxj => by
    have := VRep.outs (c := fun j => (vs[j]?).getD undef) (σ := σ) (S := S) (ι := ι) (vs := xs) (fun j b hb => by
      obtain ⟨v', h1, h2⟩ := hvs.get hb
      rw [h1]
      exact h2) hx j x hxj
    rw [hv] at this
    exact this
  refine (h σ w vs hglob hfit hvs').mono fun e w' he => ?_
  obtain ⟨v, σ', he1, he2, hf, hext, hb⟩ := he
  have hlt : ∀ id b g, S id = some b → (ι id).g = some g → g < w.heap.size := fun id b g h1 h2 => (hown.1 id b h1).gsome h2
  refine ⟨v, σ', ι, he1, hclean, Upd.refl _ _, ⟨fun id b hid => (hown.1 id b hid).mono hext.keep (Upd.refl _ _) (fun g hg => hb.block g (hlt id b g hid hg)) (fun g hg p hp => hext.old p (by have := hlt id b g hid hg; omega)), hown.2⟩,
    noS_upd (s := ⟨fun _ => .any, S⟩) he2, hf, hext.keep, fun p hp _ => hext.old p hp, ⟨hb.os, hb.tape, hb.output⟩, hb.size, fun g hg _ => hb.block g hg, fun id b g h1 h2 => .inr fun hn => hn id b h1 h2⟩

/-- The results of a call are read, what is its own is forgotten. -/
theorem finS_low {C : Ctx} {rs : List RV} {r : AV} {S' : AStore} {e : AX} {s : AS} (he : match e with | .normal => True | .ret => True | _ => False) (r0 : AV) (h1 : (resAll s rs).map tupV = some r0) (h2 : outV s.S r0 = some r) (hb : ∀ i b, 1000 ≤ i → s.S i = some b → b.high = true) (h3 : lowS s.S = S') (hc : Clean S') : FinS C rs r S' e s := by
  refine ⟨he, s, ⟨fun i => (s.env i).low, lowS s.S⟩, r0, Ghost.refl _ _, h1, fun σ ι a w R => ?_, h3, hc⟩
  exact ⟨σ, ι, R.low hb, fun v hv => noS_upd (s := ⟨fun i => (s.env i).low, lowS s.S⟩) (R.outV hv h2)⟩
/-- The end of a call whose results are told as they stand. -/
theorem finS_high {C : Ctx} {rs : List RV} {r : AV} {S' : AStore} {e : AX} {s : AS} (he : match e with | .normal => True | .ret => True | _ => False) (h1 : (resAll s rs).map tupV = some r) (hh : r.high = true) (hb : ∀ i b, 1000 ≤ i → s.S i = some b → b.high = true) (h3 : lowS s.S = S') (hc : Clean S') : FinS C rs r S' e s :=
  ⟨he, s, ⟨fun i => (s.env i).low, lowS s.S⟩, r, Ghost.refl _ _, h1, fun σ ι a w R => ⟨σ, ι, R.low hb, fun v hv => hv.low (fun i b hi hS => by
    show lowS s.S i = some b
    unfold lowS
    rw [if_neg (by omega)]
    exact hS) hh⟩, h3, hc⟩
theorem finS_same {C : Ctx} {rs : List RV} {r : AV} {e : AX} {s : AS} {S : AStore} (r0 : AV) (hS : Clean S) (he : match e with | .normal => True | .ret => True | _ => False)
    (h1 : (resAll s rs).map tupV = some r0) (h2 : outV s.S r0 = some r) (h4 : ∀ i, 1000 ≤ i → s.S i = S i) : FinS C rs r S e s :=
  finS_low he r0 h1 h2 (fun i b hi hb => (hS i b (by rw [← h4 i hi]; exact hb)).2) (by
    funext i
    unfold lowS
    split
    · exact (clean_none hS (by omega)).symm
    · exact h4 i (by omega)) hS
theorem finS_ghost {C : Ctx} {rs : List RV} {r : AV} {S' : AStore} {e : AX} {s s1 : AS} (hg : Ghost C s s1) (h : FinS C rs r S' e s1) : FinS C rs r S' e s := by
  obtain ⟨he, s2, s3, r0, h1, h2⟩ := h
  exact ⟨he, s2, s3, r0, hg.trans h1, h2⟩
/-- The end of a call that hands over a new row. -/
theorem finN {C : Ctx} {rs : List RV} {e : AX} {s : AS} {ty : TypeId} {w n : Nat} {ys : List (List SV)} (he : match e with | .normal => True | .ret => True | _ => False) (id : Nat) (hid : id < 1000) (hb0 : s.S id = some (.arow ty w ys)) (hlow : ∀ i, 1000 ≤ i → s.S i = none)
    (h1 : (resAll s rs).map tupV = some (.one (.row id n))) : FinS C rs (.one (.row 1000 n)) (fun i => if i = 1000 then some (.arow ty w ys) else noS i) e s := by
  have e1 : (AV.one (.row id n)).ren (oneTo id 1000) = .one (.row 1000 n) := by simp [AV.ren, AC.ren, oneTo]
  rw [← e1]
  refine finS_hand he id 1000 _ hid (by decide) (hlow 1000 (by decide)) hb0 rfl (fun i b hi hb => by rw [hlow i hi] at hb; cases hb) h1 (by rw [e1]; rfl) ?_ ?_
  · funext i
    unfold updE lowS noS
    by_cases h2 : i = 1000
    · rw [if_pos h2, if_pos h2]
    · rw [if_neg h2, if_neg h2]
      split
      · rfl
      · exact hlow i (by omega)
  · intro i b hb
    have hb : (if i = 1000 then some (ABlk.arow ty w ys) else noS i) = some b := hb
    split at hb
    · rename_i h2
      cases hb
      exact ⟨by omega, rfl⟩
    · cases hb
end Go.Proofs.Ytpajlfdhmjgpnaa

namespace Go.Proofs.Ytpajlfdhmjgpnaa
open Go Go.RowKit
set_option linter.unusedVariables false
open Cod (wid dat)

/-! ### terms -/
inductive Tm where
  | mk (name : ByteArray) (args : List Tm)
def Tm.name : Tm → ByteArray | .mk n _ => n
def Tm.args : Tm → List Tm | .mk _ xs => xs
theorem Tm.eta (t : Tm) : Tm.mk t.name t.args = t := by cases t; rfl
mutual
def Tm.dat : Tm → Dat
  | .mk n xs => .agg [.str n, .row 2 (Tm.dats xs)]
def Tm.dats : List Tm → List Dat
  | [] => []
  | t :: ts => t.dat :: Tm.dats ts
end
theorem Tm.dats_eq : ∀ xs : List Tm, Tm.dats xs = xs.map Tm.dat
  | [] => rfl
  | t :: ts => by rw [Tm.dats, Tm.dats_eq ts]; rfl
theorem Tm.dat_is {σ : Sto} {n : ByteArray} {xs : List Tm} {cs : List Value} (h : (Tm.dat (.mk n xs)).Is σ cs) :
    ∃ p len cap, cs = [.string n, .slice p len cap] ∧ n.size ≤ maxLen ∧ len = xs.length ∧ len ≤ cap ∧ cap ≤ maxLen ∧ (p = none → cap = 0) ∧ ∃ b o, (len ≠ 0 → p = some ⟨b, o, none⟩) ∧ Dat.RowIs σ 2 (xs.map Tm.dat) b o := by
  rw [Tm.dat, Tm.dats_eq] at h
  obtain ⟨x, y, rfl, ⟨rfl, hn⟩, x', y', rfl, ⟨p, len, cap, rfl, hl, r⟩, rfl⟩ := h
  exact ⟨p, len, cap, rfl, hn, by simpa using hl, r⟩
instance : Cod Tm := ⟨2, Tm.dat, fun σ t cs h => by
  cases t
  obtain ⟨p, len, cap, rfl, _⟩ := Tm.dat_is h
  rfl⟩
theorem cells_tm {σ : Sto} {cs : List Value} {t : Tm} : Cells σ cs t ↔ ∃ p len cap, cs = [.string t.name, .slice p len cap] ∧ t.name.size ≤ maxLen ∧ Slc σ p len cap t.args := by
  cases t with
  | mk n xs =>
  constructor
  · intro h
    obtain ⟨p, len, cap, h1, h2, h3⟩ := Tm.dat_is h
    exact ⟨p, len, cap, h1, h2, h3⟩
  · rintro ⟨p, len, cap, rfl, h2, h3, h4⟩
    show (Tm.dat (.mk n xs)).Is σ _
    rw [Tm.dat, Tm.dats_eq]
    exact ⟨[.string n], [.slice p len cap], rfl, ⟨rfl, h2⟩, [.slice p len cap], [], rfl, ⟨p, len, cap, rfl, by show len = (xs.map Tm.dat).length; rw [List.length_map]; exact h3, h4⟩, rfl⟩

/-- The value v is the term t. -/
def TmV (σ : Sto) (v : Value) (t : Tm) : Prop := ∃ p len cap, v = .agg #[.string t.name, .slice p len cap] ∧ t.name.size ≤ maxLen ∧ Slc σ p len cap t.args
theorem TmV.ext {σ σ' : Sto} {N : Nat} {v : Value} {t : Tm} (h : TmV σ v t) (he : Ext N σ σ') : TmV σ' v t := by
  obtain ⟨p, len, cap, h1, h2, h3⟩ := h
  exact ⟨p, len, cap, h1, h2, h3.ext he⟩
/-- The k-th of a slice of terms. -/
theorem Slc.tm {σ : Sto} {p : Option Addr} {len cap : Nat} {xs : List Tm} (h : Slc σ p len cap xs) (k : Nat) (hk : k < len) :
    ∃ b o a q l c, p = some ⟨b, o, none⟩ ∧ Hid (xs[k]? = some a) ∧ σ ⟨b, o + k * 2, none⟩ = some (.string a.name) ∧ σ ⟨b, o + k * 2 + 1, none⟩ = some (.slice q l c) ∧ a.name.size ≤ maxLen ∧ Slc σ q l c a.args := by
  have hl := h.length
  obtain ⟨b, o, hp, cs, h1, h2, h3⟩ := h.get k (by omega)
  obtain ⟨q, l, c, rfl, h4, h5⟩ := cells_tm.1 h3
  exact ⟨b, o, xs[k], q, l, c, hp, Lib.hid (List.getElem?_eq_getElem (by omega)), h2 0 _ rfl, h2 1 _ rfl, h4, h5⟩

/-! ### strings and numbers in slices -/
theorem Slc.str {σ : Sto} {p : Option Addr} {len cap : Nat} {xs : List ByteArray} (h : Slc σ p len cap xs) (k : Nat) (hk : k < len) :
    ∃ b o a, p = some ⟨b, o, none⟩ ∧ Hid (xs[k]? = some a) ∧ σ ⟨b, o + k, none⟩ = some (.string a) ∧ a.size ≤ maxLen := by
  have hl := h.length
  obtain ⟨b, o, hp, cs, h1, h2, h3⟩ := h.get k (by omega)
  obtain ⟨rfl, h4⟩ := cells_str.1 h3
  have := h2 0 _ rfl
  exact ⟨b, o, xs[k], hp, Lib.hid (List.getElem?_eq_getElem (by omega)), by simpa [Cod.wid] using this, h4⟩
theorem wf_bounds {n : Int} (h : (Lit.int .i64 n).wf = true) : -9223372036854775808 ≤ n ∧ n ≤ 9223372036854775807 := by
  simpa [Lit.wf, IntKind.min, IntKind.max, IntKind.signed, IntKind.bits] using h
theorem Slc.int {σ : Sto} {p : Option Addr} {len cap : Nat} {xs : List Int} (h : Slc σ p len cap xs) (k : Nat) (hk : k < len) :
    ∃ b o a, p = some ⟨b, o, none⟩ ∧ Hid (xs[k]? = some a) ∧ σ ⟨b, o + k, none⟩ = some (.int .i64 a) ∧ -9223372036854775808 ≤ a ∧ a ≤ 9223372036854775807 := by
  have hl := h.length
  obtain ⟨b, o, hp, cs, h1, h2, h3⟩ := h.get k (by omega)
  obtain ⟨rfl, h4⟩ := cells_int.1 h3
  have := h2 0 _ rfl
  exact ⟨b, o, xs[k], hp, Lib.hid (List.getElem?_eq_getElem (by omega)), by simpa [Cod.wid] using this, wf_bounds h4⟩
theorem take_snoc {α : Type} {xs : List α} {k : Nat} {a : α} (h : xs[k]? = some a) : xs.take (k + 1) = xs.take k ++ [a] := by
  rw [List.take_add_one, h]; rfl
theorem lt_of_get {α : Type} {xs : List α} {k : Nat} {a : α} (h : xs[k]? = some a) : k < xs.length := by
  rcases Nat.lt_or_ge k xs.length with h' | h'
  · exact h'
  · rw [List.getElem?_eq_none h'] at h; cases h
theorem mem_of_get {α : Type} {xs : List α} {k : Nat} {a : α} (h : xs[k]? = some a) : a ∈ xs := List.mem_of_getElem? h
theorem Tm.lt_of_mem {a : Tm} {n : ByteArray} {xs : List Tm} (h : a ∈ xs) : SizeOf.sizeOf a < SizeOf.sizeOf (Tm.mk n xs) := by
  have := List.sizeOf_lt_of_mem h
  simp only [Tm.mk.sizeOf_spec]
  omega
end Go.Proofs.Ytpajlfdhmjgpnaa

namespace Go.Proofs.Ytpajlfdhmjgpnaa
open Go Go.RowKit
set_option linter.unusedVariables false
/-- A guard, or a choice, as a test: what is not reached is not looked at. -/
theorem guard_ite (c P Q : Prop) [Decidable c] : ((c → P) ∧ (¬ c → Q)) = if c then P else Q := by
  by_cases h : c <;> simp [h]
theorem ite_conj {c A B : Prop} [Decidable c] (h : (c → A) ∧ (¬ c → B)) : if c then A else B := by
  by_cases hc : c
  · rw [if_pos hc]; exact h.1 hc
  · rw [if_neg hc]; exact h.2 hc
theorem pick_ite (b : Bool) (P Q : Prop) : ((b = true → P) ∧ (b = false → Q)) = if b = true then P else Q := by
  cases b <;> simp
attribute [congr] CallK.congr CallSK.congr
mutual
def encT : Tm → List SV
  | .mk n xs => [.str n, .list (encTs xs)]
def encTs : List Tm → List (List SV)
  | [] => []
  | t :: ts => encT t :: encTs ts
end
theorem encTs_eq : ∀ xs : List Tm, encTs xs = xs.map encT
  | [] => rfl
  | t :: ts => by rw [encTs, encTs_eq ts]; rfl
theorem encT_eq (t : Tm) : encT t = [.str t.name, .list (t.args.map encT)] := by
  cases t
  rw [encT, encTs_eq]
  rfl
theorem len_encT (t : Tm) : (encT t).length = 2 := by rw [encT_eq]; rfl
theorem lens_encT {ts : List Tm} : ∀ x ∈ ts.map encT, x.length = 2 := by
  intro x hx
  obtain ⟨a, _, rfl⟩ := List.mem_map.1 hx
  exact len_encT a
theorem Tm.args_mk (n : ByteArray) (xs : List Tm) : (Tm.mk n xs).args = xs := rfl
theorem Tm.name_mk (n : ByteArray) (xs : List Tm) : (Tm.mk n xs).name = n := rfl
abbrev aInt (n : Int) : AV := .one (.st (.int .i64 n))
abbrev aBool (b : Bool) : AV := .one (.st (.bool b))
abbrev aStr (s : ByteArray) : AV := .one (.st (.str s))
abbrev aTm (t : Tm) : AV := .agg [.st (.str t.name), .st (.list (t.args.map encT))]
abbrev encI (n : Int) : List SV := [.int .i64 n]
abbrev encS (s : ByteArray) : List SV := [.str s]
abbrev encIs (p : List Int) : List SV := [.list (p.map encI)]
abbrev aIss (l : List (List Int)) : AV := .one (.st (.list (l.map encIs)))
abbrev aInts (l : List Int) : AV := .one (.st (.list (l.map encI)))
abbrev aStrs (l : List ByteArray) : AV := .one (.st (.list (l.map encS)))
abbrev aTms (l : List Tm) : AV := .one (.st (.list (l.map encT)))
theorem get_lt {α : Type} {xs : List α} {k : Nat} (h : k < xs.length) : ∃ a, xs[k]? = some a := ⟨xs[k], List.getElem?_eq_getElem h⟩
theorem inR_i64 (n : Int) : inR .i64 n ↔ -9223372036854775808 ≤ n ∧ n ≤ 9223372036854775807 := by
  simp [inR, IntKind.min, IntKind.max, IntKind.signed, IntKind.bits]
theorem known_ints {l : List Int} (h : (SV.list (l.map encI)).known) : l.length ≤ maxLen ∧ ∀ n ∈ l, inR .i64 n := by
  obtain ⟨h1, h2⟩ := h
  refine ⟨by simpa using h1, fun n hn => ?_⟩
  have := knownL_iff.1 (knownLL_iff.1 h2 (encI n) (List.mem_map.2 ⟨n, hn, rfl⟩)) (.int .i64 n) (by simp)
  exact this
theorem maxLen_eq : maxLen = 9223372036854775807 := by simp [maxLen]
theorem known_len {S : AStore} {xs : List (List SV)} (h : (AV.one (.st (.list xs))).known S) : xs.length ≤ 9223372036854775807 := by
  simp only [AV.known, AC.known, SV.known] at h
  rw [maxLen_eq] at h
  exact h.1
theorem known_tm {S : AStore} {t : Tm} (h : (aTm t).known S) : t.name.size ≤ 9223372036854775807 ∧ t.args.length ≤ 9223372036854775807 := by
  have h1 : t.name.size ≤ maxLen := by
    have := h (.st (.str t.name)) (by simp)
    simpa [AC.known, SV.known] using this
  have h2 : t.args.length ≤ maxLen := by
    have := h (.st (.list (t.args.map encT))) (by simp)
    simp only [AC.known, SV.known, List.length_map] at this
    exact this.1
  rw [maxLen_eq] at h1 h2
  exact ⟨h1, h2⟩
end Go.Proofs.Ytpajlfdhmjgpnaa
