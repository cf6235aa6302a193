/-
  Part 6 of the texts. Conditions: none.
-/
import Derived.Test.YtbknconogoegaaaASA5
namespace Go.Proofs.Ytbknconogoegaaa
open Go Go.RowKit
set_option linter.unusedVariables false
set_option linter.unusedSimpArgs false
set_option maxHeartbeats 400000
mutual
def AC.clear (ds : List Nat) : AC → Bool
 | .row id _ => !ds.contains id
 | .part id _ _ => !ds.contains id
 | .rest id _ _ => !ds.contains id
 | .ptr id _ _ _ => !ds.contains id
 | .mptr id => !ds.contains id
 | .yld id => !ds.contains id
 | .ubool => true
 | .fn _ caps => AC.clears ds caps
 | .st _ => true
 | .full _ => true
 | .eptr _ => true
 | .any => true
def AC.clears (ds : List Nat) : List AC → Bool
 | [] => true
 | c :: cs => c.clear ds && AC.clears ds cs
end
theorem Gt {ds : List Nat} : ∀ {l : List AC}, AC.clears ds l = true → ∀ a ∈ l, a.clear ds = true
 | [], _, a, ha => by simp at ha
 | x :: xs, hx, a, ha => by
  rw [AC.clears, Bool.and_eq_true] at hx
  rcases List.mem_cons.1 ha with rfl | ha
  ·exact hx.1
  ·exact Gt hx.2 a ha
def AC.purge (ds : List Nat) : AC → AC
 | .row id n => if ds.contains id then .any else .row id n
 | .part id k n => if ds.contains id then .any else .part id k n
 | .rest id k n => if ds.contains id then .any else .rest id k n
 | .ptr id n k off => if ds.contains id then .any else .ptr id n k off
 | .mptr id => if ds.contains id then .any else .mptr id
 | .yld id => if ds.contains id then .any else .yld id
 | .fn f caps => if AC.clears ds caps then .fn f caps else .any
 | c => c
mutual
def AV.purge (ds : List Nat) : AV → AV
 | .one c => .one (c.purge ds)
 | .agg cs => .agg (cs.map (AC.purge ds))
 | .tup vs => .tup (AV.purges ds vs)
 | .any => .any
def AV.purges (ds : List Nat) : List AV → List AV
 | [] => []
 | v :: vs => v.purge ds :: AV.purges ds vs
end
def AJ.purge (ds : List Nat) : AJ → AJ
 | .box e cs => .box e (cs.map (AC.purge ds))
 | .iter x n seen => .iter (x.purge ds) n seen
 | .loop env r => .loop (AV.purges ds env) r
 | b => b
def Ag (ds : List Nat) (S : AA) : AA := fun id => if ds.contains id then none else (S id).map (AJ.purge ds)
def AS.drop (ds : List Nat) (s : AS) : AS := ⟨fun i => (s.env i).purge ds, Ag ds s.S⟩
theorem B9 {ds : List Nat} (hds : ∀ d ∈ ds, d < 1000) {id : Nat} (h : 1000 ≤ id) : ds.contains id = false := by
 cases hc : ds.contains id with
 | false => rfl
 | true =>
  have := hds id (List.contains_iff_mem.1 hc)
  omega
mutual
theorem AC.clear_high {ds : List Nat} (hds : ∀ d ∈ ds, d < 1000) : ∀ {c : AC}, c.high = true → c.clear ds = true
 | .st _, _ => rfl
 | .full _, _ => rfl
 | .row id n, h => by
  rw [AC.high] at h
  rw [AC.clear, B9 hds (of_decide_eq_true h)]
  rfl
 | .part id k n, h => by
  rw [AC.high] at h
  rw [AC.clear, B9 hds (of_decide_eq_true h)]
  rfl
 | .rest id k n, h => by
  rw [AC.high] at h
  rw [AC.clear, B9 hds (of_decide_eq_true h)]
  rfl
 | .ptr id n k off, h => by
  rw [AC.high] at h
  rw [AC.clear, B9 hds (of_decide_eq_true h)]
  rfl
 | .mptr id, h => by
  rw [AC.high] at h
  rw [AC.clear, B9 hds (of_decide_eq_true h)]
  rfl
 | .yld id, h => by
  rw [AC.high] at h
  rw [AC.clear, B9 hds (of_decide_eq_true h)]
  rfl
 | .ubool, _ => rfl
 | .eptr _, _ => rfl
 | .fn f caps, h => by
  rw [AC.high] at h
  rw [AC.clear]
  exact AC.clears_highs hds h
 | .any, _ => rfl
theorem AC.clears_highs {ds : List Nat} (hds : ∀ d ∈ ds, d < 1000) : ∀ {cs : List AC}, AC.highs cs = true → AC.clears ds cs = true
 | [], _ => rfl
 | c :: cs, h => by
  rw [AC.highs, Bool.and_eq_true] at h
  rw [AC.clears, AC.clear_high hds h.1, AC.clears_highs hds h.2]
  rfl
end
theorem AC.purge_high {ds : List Nat} (hds : ∀ d ∈ ds, d < 1000) : ∀ {c : AC}, c.high = true → c.purge ds = c
 | .st _, _ => rfl
 | .full _, _ => rfl
 | .row id n, h => by
  rw [AC.high] at h
  simp only [AC.purge, B9 hds (of_decide_eq_true h), Bool.false_eq_true, if_false]
 | .part id k n, h => by
  rw [AC.high] at h
  simp only [AC.purge, B9 hds (of_decide_eq_true h), Bool.false_eq_true, if_false]
 | .rest id k n, h => by
  rw [AC.high] at h
  simp only [AC.purge, B9 hds (of_decide_eq_true h), Bool.false_eq_true, if_false]
 | .ptr id n k off, h => by
  rw [AC.high] at h
  simp only [AC.purge, B9 hds (of_decide_eq_true h), Bool.false_eq_true, if_false]
 | .mptr id, h => by
  rw [AC.high] at h
  simp only [AC.purge, B9 hds (of_decide_eq_true h), Bool.false_eq_true, if_false]
 | .yld id, h => by
  rw [AC.high] at h
  simp only [AC.purge, B9 hds (of_decide_eq_true h), Bool.false_eq_true, if_false]
 | .ubool, _ => rfl
 | .eptr _, _ => rfl
 | .fn f caps, h => by
  rw [AC.high] at h
  simp only [AC.purge, AC.clears_highs hds h, if_true]
 | .any, _ => rfl
mutual
theorem AV.purge_high {ds : List Nat} (hds : ∀ d ∈ ds, d < 1000) : ∀ {c : AV}, c.high = true → c.purge ds = c
 | .one c, h => by rw [AV.high] at h; rw [AV.purge, AC.purge_high hds h]
 | .agg cs, h => by
  rw [AV.high] at h
  rw [AV.purge]
  congr 1
  exact (List.map_congr_left fun a ha => AC.purge_high hds (BZ h a ha)).trans (List.map_id _)
 | .tup vs, h => by rw [AV.high] at h; rw [AV.purge, AV.purges_high hds h]
 | .any, _ => rfl
theorem AV.purges_high {ds : List Nat} (hds : ∀ d ∈ ds, d < 1000) : ∀ {c : List AV}, AV.highs c = true → AV.purges ds c = c
 | [], _ => rfl
 | c :: cs, h => by
  rw [AV.highs, Bool.and_eq_true] at h
  rw [AV.purges, AV.purge_high hds h.1, AV.purges_high hds h.2]
end
theorem AJ.purge_high {ds : List Nat} (hds : ∀ d ∈ ds, d < 1000) {b : AJ} (h : b.high = true) : b.purge ds = b := by
 cases b with
 | box e cs =>
  rw [AJ.high] at h
  simp only [AJ.purge]
  congr 1
  exact (List.map_congr_left fun a ha => AC.purge_high hds (BZ h a ha)).trans (List.map_id _)
 | arow => rfl
 | mrow => rfl
 | map => rfl
 | memo => rfl
 | iter x =>
  rw [AJ.high] at h
  simp only [AJ.purge, AC.purge_high hds h]
 | loop env r =>
  rw [AJ.high] at h
  simp only [AJ.purge, AV.purges_high hds h]
 | dead => rfl
theorem JJ {ds : List Nat} (hds : ∀ d ∈ ds, d < 1000) {S : AA} (h : An S) : Ag ds S = S := by
 funext id
 unfold Ag
 cases hb : S id with
 | none => split <;> rfl
 | some b =>
  obtain ⟨h1, h2⟩ := h id b hb
  rw [B9 hds h1, if_neg (by simp), Option.map_some, AJ.purge_high hds h2]
theorem Jp {ds : List Nat} {S : AA} {i : Nat} {b : Option AJ} (h : ds.contains i = true) : Ag ds (AH S i b) = Ag ds S := by
 funext k
 unfold Ag
 by_cases e : k = i
 ·subst e
  rw [if_pos h, if_pos h]
 ·rw [AK _ e]
theorem FL {ds : List Nat} {S : AA} {i : Nat} {b : AJ} (h : ds.contains i = false) : Ag ds (AH S i (some b)) = AH (Ag ds S) i (some (b.purge ds)) := by
 funext k
 unfold Ag
 by_cases e : k = i
 ·subst e
  rw [AD, AD, if_neg (by rw [h]; simp)]
  rfl
 ·rw [AK _ e, AK _ e]
section
variable {C : Ctx} {σ : Sto} {ι : Aj} {s : AS} {a : Act} {w : World} {ds : List Nat}
theorem Ay (b : AJ) : (b.purge ds).len = b.len := by cases b <;> rfl
theorem D5 (b : AJ) : (b.purge ds).wid = b.wid := by cases b <;> rfl
theorem Aa.keepClear {ds : List Nat} {S S2 : AA} (hS : ∀ id b, ds.contains id = false → S id = some b → ∃ b', S2 id = some b' ∧ b'.len = b.len ∧ b'.wid = b.wid) {v : Value} {c : AC} (h : Aa σ S ι v c) (hc : c.clear ds = true) : Aa σ S2 ι v c := by
 induction h with
 | st h => exact .st h
 | full h => exact .full h
 | row h1 h2 h3 h4 =>
  rw [AC.clear] at hc
  obtain ⟨b', q1, q2, q3⟩ := hS _ _ (by simpa using hc) h1
  exact .row q1 (by rw [q2]; exact h2) h3 (by rw [q2]; exact h4)
 | part h1 h2 h3 h4 =>
  rw [AC.clear] at hc
  obtain ⟨b', q1, q2, q3⟩ := hS _ _ (by simpa using hc) h1
  exact .part q1 (by rw [q2]; exact h2) h3 (by rw [q2]; exact h4)
 | rest h1 h2 h3 h4 =>
  rw [AC.clear] at hc
  obtain ⟨b', q1, q2, q3⟩ := hS _ _ (by simpa using hc) h1
  exact .rest q1 (by rw [q2]; exact h2) h3 (by rw [q2, q3]; exact h4)
 | ptr h1 h2 h3 h4 =>
  rw [AC.clear] at hc
  obtain ⟨b', q1, q2, q3⟩ := hS _ _ (by simpa using hc) h1
  exact .ptr q1 (by rw [q2]; exact h2) h3 (by rw [q2, q3]; exact h4)
 | mptr h1 h2 h3 h4 =>
  rw [AC.clear] at hc
  obtain ⟨b', q1, q2, q3⟩ := hS _ _ (by simpa using hc) h1
  exact .mptr q1 (by rw [q2]; exact h2) h3 (by rw [q2]; exact h4)
 | yld h1 h2 h3 h4 =>
  rw [AC.clear] at hc
  obtain ⟨b', q1, q2, q3⟩ := hS _ _ (by simpa using hc) h1
  exact .yld q1 (by rw [q2]; exact h2) h3 (by rw [q2]; exact h4)
 | ubool => exact .ubool
 | eptr c h1 h2 hh => exact .eptr c h1 h2 hh
 | fn c h1 h2 h3 ih =>
  rw [AC.clear] at hc
  exact .fn c h1 h2 (fun j a ha => ih j a ha (Gt hc a (List.mem_of_getElem? ha)))
 | any h => exact .any h
theorem Aa.purge (hds : ∀ d ∈ ds, d < 1000) {v : Value} {c : AC} (h : Aa σ s.S ι v c) : Aa σ (s.drop ds).S ι v (c.purge ds) := by
 have h0 := h
 cases h with
 | st h => exact .st h
 | full h => exact .full h
 | @row _ id n b h1 h2 h3 h4 =>
  simp only [AC.purge]
  split
  ·exact .any h3
  ·rename_i hn
   exact .row (b := b.purge ds) (by simp only [AS.drop, Ag, hn]; rw [h1]; rfl) (by rw [Ay]; exact h2) h3 (by rw [Ay]; exact h4)
 | @part _ id k n b h1 h2 h3 h4 =>
  simp only [AC.purge]
  split
  ·exact .any h3
  ·rename_i hn
   exact .part (b := b.purge ds) (by simp only [AS.drop, Ag, hn]; rw [h1]; rfl) (by rw [Ay]; exact h2) h3 (by rw [Ay]; exact h4)
 | @rest _ id k n b h1 h2 h3 h4 =>
  simp only [AC.purge]
  split
  ·exact .any h3
  ·rename_i hn
   exact .rest (b := b.purge ds) (by simp only [AS.drop, Ag, hn]; rw [h1]; rfl) (by rw [Ay]; exact h2) h3 (by rw [Ay, D5]; exact h4)
 | @ptr _ id n k off b h1 h2 h3 h4 =>
  simp only [AC.purge]
  split
  ·exact .any h3
  ·rename_i hn
   exact .ptr (b := b.purge ds) (by simp only [AS.drop, Ag, hn]; rw [h1]; rfl) (by rw [Ay]; exact h2) h3 (by rw [Ay, D5]; exact h4)
 | @mptr _ id b h1 h2 h3 h4 =>
  simp only [AC.purge]
  split
  ·exact .any h3
  ·rename_i hn
   exact .mptr (b := b.purge ds) (by simp only [AS.drop, Ag, hn]; rw [h1]; rfl) (by rw [Ay]; exact h2) h3 (by rw [Ay]; exact h4)
 | @yld _ id b h1 h2 h3 h4 =>
  simp only [AC.purge]
  split
  ·exact .any h3
  ·rename_i hn
   exact .yld (b := b.purge ds) (by simp only [AS.drop, Ag, hn]; rw [h1]; rfl) (by rw [Ay]; exact h2) h3 (by rw [Ay]; exact h4)
 | ubool => exact .ubool
 | eptr c h1 h2 hh => exact .eptr c h1 h2 hh
 | @fn f vs caps c h1 h2 h3 =>
  simp only [AC.purge]
  split
  ·rename_i hh
   exact h0.keepClear (ds := ds) (fun id b hid hb => ⟨b.purge ds, by
    show Ag ds s.S id = _
    unfold Ag
    rw [hid, hb]
    rfl, Ay b, D5 b⟩) (by rw [AC.clear]; exact hh)
  ·exact .any rfl
 | any h => exact .any h
mutual
theorem AM.purge (hds : ∀ d ∈ ds, d < 1000) : ∀ {v : Value} {c : AV}, AM σ s.S ι v c → AM σ (s.drop ds).S ι v (c.purge ds)
 | v, .one c, h => by cases h with | one h => exact .one (h.purge hds)
 | v, .agg cs, h => by cases h with | agg h => exact .agg ((h.mono fun _ _ x => x.purge hds).map_right)
 | v, .tup vs, h => by
  cases h with
  | tup c h1 h2 h3 =>
   obtain ⟨k1, k2⟩ := AM.purges hds (c := c) h3
   exact .tup c (by rw [h1, k1]) (fun j b hb => by
    rcases Nat.lt_or_ge j vs.length with hj | hj
    ·exact h2 j _ (List.getElem?_eq_getElem hj)
    ·rw [List.getElem?_eq_none (by omega)] at hb; cases hb) k2
 | v, .any, h => .any
theorem AM.purges (hds : ∀ d ∈ ds, d < 1000) : ∀ {vs : List AV} {c : Nat → Value}, (∀ j b, vs[j]? = some b → AM σ s.S ι (c j) b) → vs.length = (AV.purges ds vs).length ∧ ∀ j b, (AV.purges ds vs)[j]? = some b → AM σ (s.drop ds).S ι (c j) b
 | [], c, h => by simp [AV.purges]
 | x :: xs, c, h => by
  obtain ⟨m1, m2⟩ := AM.purges hds (vs := xs) (c := fun j => c (j + 1)) (fun j b hb => h (j + 1) b (by simpa using hb))
  refine ⟨by simp [AV.purges, ← m1], fun j b hb => ?_⟩
  cases j with
  | zero =>
   simp [AV.purges] at hb
   subst hb
   exact AM.purge hds (h 0 x rfl)
  | succ j => exact m2 j b (by simpa [AV.purges] using hb)
end
theorem BL.purge (hds : ∀ d ∈ ds, d < 1000) {h : Hnd} {b : AJ} (hr : BL σ s.S ι w h b) : BL σ (s.drop ds).S ι w h (b.purge ds) := by
 cases hr with
 | box h1 h2 h3 h4 h5 => exact .box h1 h2 h3 ((h4.mono fun _ _ x => x.purge hds).map_right) h5
 | afull h1 h2 h3 h4 => exact .afull h1 h2 h3 h4
 | arow h1 h2 h3 h4 h5 h6 h7 h8 h9 hh => exact .arow h1 h2 h3 h4 h5 h6 h7 h8 h9 hh
 | mnil h1 h2 => exact .mnil h1 h2
 | mrow h1 h2 h3 h4 h5 h6 h7 h8 h9 => exact .mrow h1 h2 h3 h4 h5 h6 h7 h8 h9
 | map h1 h2 h3 h4 => exact .map h1 h2 h3 h4
 | memo h1 h2 h3 h4 => exact .memo h1 h2 h3 h4
 | iter h1 h2 h3 h4 => exact .iter h1 h2 (h3.purge hds) h4
 | loop h1 h2 h3 h4 h5 =>
  obtain ⟨k1, k2⟩ := AM.purges hds h4
  exact .loop h1 h2 (by rw [← k1]; exact h3) k2 h5
 | dead h1 => exact .dead h1
theorem D3 {id : Nat} {b : AJ} (h : (s.drop ds).S id = some b) : ∃ b', s.S id = some b' ∧ b = b'.purge ds := by
 simp only [AS.drop, Ag] at h
 split at h
 ·cases h
 ·rw [Option.map_eq_some_iff] at h
  obtain ⟨b', h1, h2⟩ := h
  exact ⟨b', h1, h2.symm⟩
theorem Ad.drop (ds : List Nat) (s : AS) (hds : ∀ d ∈ ds, d < 1000) : Ad C s (s.drop ds) := fun a w ⟨σ, ι, R⟩ => by
 refine ⟨σ, ι, R.size, fun i hi => (R.env i hi).purge hds, R.nod, R.fit, fun id b h => ?_, fun id id' b b' g h1 h2 g1 g2 => ?_, fun id b g h hg => ?_, R.ext, R.old, R.os, R.grown, R.same, fun id b hb => ?_⟩
 ·obtain ⟨b', h1, rfl⟩ := D3 h
  exact (R.blk id b' h1).purge hds
 ·obtain ⟨c1, k1, _⟩ := D3 h1
  obtain ⟨c2, k2, _⟩ := D3 h2
  exact R.inj _ _ _ _ _ k1 k2 g1 g2
 ·obtain ⟨c1, k1, _⟩ := D3 h
  exact R.base _ _ _ k1 hg
 ·obtain ⟨b', h1, h2, h3⟩ := R.upd id b hb
  have hid := (C.clean id b hb).1
  have hnc : ds.contains id = false := by
   cases hc : ds.contains id with
   | false => rfl
   | true =>
    have := hds id (List.contains_iff_mem.1 hc)
    omega
  refine ⟨b'.purge ds, by simp only [AS.drop, Ag, hnc]; rw [h1]; rfl, by rw [Ay]; exact h2, fun hl => ?_⟩
  rw [Ay] at hl
  rw [D5]
  exact h3 hl
theorem Ad.share {id : Nat} {e : TypeId} {wd : Nat} {xs : List (List SV)} (hS : s.S id = some (.mrow e wd xs)) : Ad C s (s.set id (.arow e wd xs)) := fun a w ⟨σ, ι, R⟩ => by
 have hb := R.blk _ _ hS
 have hι : AH ι id (ι id) = ι := by
  funext k
  unfold AH
  split
  ·rename_i h; rw [h]
  ·rfl
 cases hb with
 | mnil h1 h2 =>
  obtain ⟨hu, R'⟩ := R.turn (w' := w) hS (.arow e wd []) (ι id) (σ' := σ) (fun _ _ h => h) (fun _ _ _ => rfl) R.fit (Nat.le_refl _) (fun _ => ⟨rfl, rfl⟩) ⟨rfl, rfl, rfl⟩ (Nat.le_refl _) (fun _ _ _ => rfl) (fun g h => .inl h) (fun hu => .afull h1 (by simpa using h2) (by simp) (.list (b := 0) (o := 0) (w := 0) (fun _ _ => undef) rfl (by simp) (by rw [h2]; simp [maxLen]) (fun _ => h2) (by simp) (by simp) (fun _ h _ => absurd h (by omega)) (by simp) (by simp)))
  exact ⟨σ, _, R'⟩
 | @mrow _ _ _ g vs h1 h2 h3 h4 h5 h6 h7 h8 h9 =>
  have hl : Ar σ vs.toList wd xs := ⟨h7, fun k x j y hx hy => by simpa using h8 k x j y hx hy⟩
  have hkeep := D8 (σ := σ) (w' := w) (g := g) (k := xs.length * wd) (fun p x e hx => by rw [h9 _ e] at hx; cases hx)
  obtain ⟨hu, R'⟩ := R.turn (w' := w) hS (.arow e wd xs) (ι id) (σ' := Ck σ w g (xs.length * wd)) hkeep (fun p hp _ => Dm (fun e => hp (by rw [e]; exact h1))) (Cz R.fit) (Nat.le_refl _) (fun _ => ⟨rfl, rfl⟩) ⟨rfl, rfl, rfl⟩ (Nat.le_refl _) (fun _ _ _ => rfl) (fun g h => .inl h)
   (fun hu => by
    have := FD (S' := (s.set id (.arow e wd xs)).S) (ι' := AH ι id (ι id)) (w' := w) (p := (ι id).p) h2 h3 h4 h5 h6 hl hkeep (fun p hp hne => absurd (h9 p hp) hne)
    rw [← h1] at this
    exact this)
  exact ⟨_, _, R'⟩
theorem Ad.own (t id : Nat) (e : TypeId) (wd : Nat) {xs : List (List SV)} (ht : s.env t = .one (.full xs)) (hid : s.S id = none) (hw : ∀ x ∈ xs, x.length = wd) (hn : t < C.n) : Ad C s ⟨AH s.env t (.one (.row id xs.length)), AH s.S id (some (.arow e wd xs))⟩ := fun a w ⟨σ, ι, R⟩ => by
 have rt := R.env t hn
 rw [ht] at rt
 generalize hv : a.tmps.getD t undef = v at rt
 cases AP rt with
 | @full p len xs hs =>
  have hl : len = xs.length := by
   obtain ⟨p', cap', e1, _⟩ := Bk hs
   cases e1
   rfl
  subst hl
  obtain ⟨hu, R'⟩ := R.fresh (w' := w) hid (.arow e wd xs) ⟨p, xs.length, none⟩ (Ext.refl _ _) R.fit (Below.refl _ _) (by simp) (fun S' ι' hu => .afull rfl rfl hw hs)
  refine ⟨σ, _, R'.size, fun i hi => ?_, R'.nod, R'.fit, R'.blk, R'.inj, R'.base, R'.ext, R'.old, R'.os, R'.grown, R'.same, R'.upd⟩
  show AM σ (s.set id (.arow e wd xs)).S _ _ (AH s.env t _ i)
  unfold AH
  split
  ·rename_i e1
   subst e1
   rw [hv]
   exact .one (.row (b := .arow e wd xs) (by simp [AS.set, AD]) (Nat.le_refl _) rfl fun _ => by simp [AH])
  ·exact R'.env i hi
theorem Ad.keep (t id k n : Nat) {e : TypeId} {wd : Nat} {xs : List (List SV)} (ht : s.env t = .one (.part id k n)) (hS : s.S id = some (.arow e wd xs)) (hl : n = xs.length) (hn : t < C.n) : Ad C s ⟨AH s.env t (.one (.st (.list (xs.take k)))), s.S⟩ := fun a w ⟨σ, ι, R⟩ => by
 have rt := R.env t hn
 rw [ht] at rt
 refine ⟨σ, ι, R.size, fun i hi => ?_, R.nod, R.fit, R.blk, R.inj, R.base, R.ext, R.old, R.os, R.grown, R.same, R.upd⟩
 show AM σ s.S ι _ (AH s.env t _ i)
 unfold AH
 split
 ·rename_i e1
  subst e1
  obtain ⟨b, h1, h2, h3⟩ := C3 (AP rt)
  rw [hS] at h1
  cases h1
  obtain ⟨h4, h5⟩ := h3 hl
  rw [h5]
  have hb := R.blk _ _ hS
  have hr := hb.srep
  have hmem : ∀ {kk x}, (xs.take k)[kk]? = some x → xs[kk]? = some x := fun hx => by
   rw [List.getElem?_take] at hx
   split at hx
   ·exact hx
   ·cases hx
  cases hr with
  | @list p len cap b o w' _ c q1 q2 q3 q4 q5 q6 qh q7 q8 =>
   exact .one (.st (.list (b := b) (o := o) (w := w') c (by rw [List.length_take]; omega) (by omega) q3 q4 (fun hne => q5 (by omega)) (fun x hx => q6 x (List.mem_of_mem_take hx)) (fun e1 e2 e3 => qh e1 e2 (fun e4 => e3 (by rw [e4]; exact List.take_nil))) (fun kk x j a hx ha => q7 kk x j a (hmem hx) ha) (fun kk x j a hx ha => q8 kk x j a (hmem hx) ha)))
 ·exact R.env i hi
theorem Ad.ownC (id j nid : Nat) (e : TypeId) (wd : Nat) {xs : List (List SV)} {ty : TypeId} {cs : List AC} (hb : s.S id = some (.box ty cs)) (hc : cs[j]? = some (.full xs)) (hn : s.S nid = none) (hw : ∀ x ∈ xs, x.length = wd) :
  Ad C s ((s.set nid (.arow e wd xs)).set id (.box ty (cs.set j (.row nid xs.length)))) := fun a w ⟨σ, ι, R⟩ => by
 have hbk := R.blk id _ hb
 have hne : id ≠ nid := fun e => by subst e; rw [hb] at hn; cases hn
 cases hbk with
 | @box _ _ g vs h1 h2 h3 h4 h5 =>
  obtain ⟨v, hv, hr⟩ := h4.get hc
  cases hr with
  | @full p len xs hs =>
   have hl : len = xs.length := by
    obtain ⟨p', cap', e1, _⟩ := Bk hs
    cases e1
    rfl
   subst hl
   obtain ⟨hu, R'⟩ := R.fresh (w' := w) hn (.arow e wd xs) ⟨p, xs.length, none⟩ (Ext.refl _ _) R.fit (Below.refl _ _) (by simp) (fun S' ι' hu => .afull rfl rfl hw hs)
   have hb' : (s.set nid (.arow e wd xs)).S id = some (.box ty cs) := by simp [AS.set, AK _ hne, hb]
   have hι : AH ι nid ⟨p, xs.length, none⟩ id = ι id := AK _ hne _
   obtain ⟨hu2, R2⟩ := R'.turn (w' := w) hb' (.box ty (cs.set j (.row nid xs.length))) (AH ι nid ⟨p, xs.length, none⟩ id) (σ' := σ) (fun _ _ h => h) (fun _ _ _ => rfl) R.fit (Nat.le_refl _) (fun _ => ⟨by simp [AJ.wid], rfl⟩) ⟨rfl, rfl, rfl⟩ (Nat.le_refl _) (fun _ _ _ => rfl) (fun g h => .inl h) (fun hu2 => by
    refine .box (by rw [hι]; exact h1) (by rw [hι]; exact h2) h3 (AU.of_get (by rw [List.length_set]; exact h4.len) fun k u c hu' hck => ?_) h5
    by_cases hk : k = j
    ·subst hk
     rw [hv] at hu'
     cases hu'
     have hlt : k < cs.length := (List.getElem?_eq_some_iff.1 hc).1
     rw [List.getElem?_set_self hlt] at hck
     cases hck
     exact .row (b := .arow e wd xs) (by simp [AS.set, AH, hne.symm]) (Nat.le_refl _) rfl fun _ => by simp [AH, hne.symm]
    ·rw [List.getElem?_set_ne (fun e => hk e.symm)] at hck
     obtain ⟨u', q1, q2⟩ := h4.get hck
     rw [hu'] at q1
     cases q1
     exact (q2.mono (fun _ _ h => h) hu).mono (fun _ _ h => h) hu2)
   exact ⟨_, _, R2⟩
theorem OA {v : Value} {c : AV} (h : AM σ noS noH v c) : AM σ s.S ι v c := h.mono (fun _ _ h => h) (Ej _ _)
def AV.low (v : AV) : AV := if v.high then v else .any
theorem AL.low (R : AL C σ ι s a w) (hb : ∀ i b, 1000 ≤ i → s.S i = some b → b.high = true) : AL C σ ι ⟨fun i => (s.env i).low, Bt s.S⟩ a w := by
 have hS : ∀ i b, 1000 ≤ i → s.S i = some b → Bt s.S i = some b := fun i b hi h => by
  show (if i < 1000 then none else s.S i) = some b
  rw [if_neg (by omega), h]
 have hinv : ∀ i b, Bt s.S i = some b → 1000 ≤ i ∧ s.S i = some b := fun i b h => by
  have h' : (if i < 1000 then none else s.S i) = some b := h
  split at h'
  ·cases h'
  ·exact ⟨by omega, h'⟩
 refine ⟨R.size, fun i hi => ?_, R.nod, R.fit, fun id b h => ?_, fun id id' b b' g h1 h2 g1 g2 => R.inj _ _ _ _ g (hinv _ _ h1).2 (hinv _ _ h2).2 g1 g2, fun id b g h hg => R.base _ _ g (hinv _ _ h).2 hg, R.ext, R.old, R.os, R.grown, R.same, fun id b h => ?_⟩
 ·show AM σ (Bt s.S) ι _ ((s.env i).low)
  unfold AV.low
  split
  ·rename_i hh
   exact (R.env i hi).low hS hh
  ·exact .any
 ·obtain ⟨h1, h2⟩ := hinv _ _ h
  have hh := hb id b h1 h2
  cases R.blk id b h2 with
  | box k1 k2 k3 k4 k5 => exact .box k1 k2 k3 (Jt hS k4 hh) k5
  | afull k1 k2 k3 k4 => exact .afull k1 k2 k3 k4
  | arow k1 k2 k3 k4 k5 k6 k7 k8 k9 kh => exact .arow k1 k2 k3 k4 k5 k6 k7 k8 k9 kh
  | mnil k1 k2 => exact .mnil k1 k2
  | mrow k1 k2 k3 k4 k5 k6 k7 k8 k9 => exact .mrow k1 k2 k3 k4 k5 k6 k7 k8 k9
  | map k1 k2 k3 k4 => exact .map k1 k2 k3 k4
  | memo k1 k2 k3 k4 => exact .memo k1 k2 k3 k4
  | iter k1 k2 k3 k4 => exact .iter k1 k2 (k3.low hS hh) k4
  | loop k1 k2 k3 k4 k5 => exact .loop k1 k2 k3 (AM.lows hS k4 hh) k5
  | dead k1 => exact .dead k1
 ·obtain ⟨b', h1, h2⟩ := R.upd id b h
  exact ⟨b', hS _ _ (C.clean id b h).1 h1, h2⟩
theorem Ad.low (hb : ∀ i b, 1000 ≤ i → s.S i = some b → b.high = true) : Ad C s ⟨fun i => (s.env i).low, Bt s.S⟩ := fun a w ⟨σ, ι, R⟩ => ⟨σ, ι, R.low hb⟩
def BB (id a : Nat) (i : Nat) : Nat := if i = id then a else i
def AV.hand (id a : Nat) (v : AV) : AV := if (v.ren (BB id a)).high then v.ren (BB id a) else .any
section
variable {S S2 : AA} {ι2 : Aj} {id a0 : Nat}
theorem Aa.hand (hS : ∀ i b, 1000 ≤ BB id a0 i → S i = some b → S2 (BB id a0 i) = some b ∧ ι2 (BB id a0 i) = ι i) {v : Value} {c : AC} (h : Aa σ S ι v c) (hc : (c.ren (BB id a0)).high = true) : Aa σ S2 ι2 v (c.ren (BB id a0)) := by
 induction h with
 | st h => exact .st h
 | full h => exact .full h
 | row h1 h2 h3 h4 =>
  rw [AC.ren, AC.high] at hc
  obtain ⟨q1, q2⟩ := hS _ _ (of_decide_eq_true hc) h1
  rw [AC.ren]
  exact .row q1 h2 h3 (fun hn => by rw [q2]; exact h4 hn)
 | part h1 h2 h3 h4 =>
  rw [AC.ren, AC.high] at hc
  obtain ⟨q1, q2⟩ := hS _ _ (of_decide_eq_true hc) h1
  rw [AC.ren]
  exact .part q1 h2 h3 (fun hn => by rw [q2]; exact h4 hn)
 | rest h1 h2 h3 h4 =>
  rw [AC.ren, AC.high] at hc
  obtain ⟨q1, q2⟩ := hS _ _ (of_decide_eq_true hc) h1
  rw [AC.ren]
  exact .rest q1 h2 h3 (fun hn => by rw [q2]; exact h4 hn)
 | ptr h1 h2 h3 h4 =>
  rw [AC.ren, AC.high] at hc
  obtain ⟨q1, q2⟩ := hS _ _ (of_decide_eq_true hc) h1
  rw [AC.ren]
  exact .ptr q1 h2 h3 (fun hn => by rw [q2]; exact h4 hn)
 | mptr h1 h2 h3 h4 =>
  rw [AC.ren, AC.high] at hc
  obtain ⟨q1, q2⟩ := hS _ _ (of_decide_eq_true hc) h1
  rw [AC.ren]
  exact .mptr q1 h2 h3 (fun hn => by rw [q2]; exact h4 hn)
 | yld h1 h2 h3 h4 =>
  rw [AC.ren, AC.high] at hc
  obtain ⟨q1, q2⟩ := hS _ _ (of_decide_eq_true hc) h1
  rw [AC.ren]
  exact .yld q1 h2 h3 (fun hn => by rw [q2]; exact h4 hn)
 | ubool => exact .ubool
 | eptr c h1 h2 hh => exact .eptr c h1 h2 hh
 | @fn f vs caps c h1 h2 h3 ih =>
  rw [AC.ren, AC.high] at hc
  rw [AC.ren]
  have key : ∀ (j : Nat) (b : AC), (AC.rens (BB id a0) caps)[j]? = some b → ∃ a, caps[j]? = some a ∧ b = a.ren (BB id a0) := fun j b hb => by
   rw [AC.rens_eq, List.getElem?_map, Option.map_eq_some_iff] at hb
   obtain ⟨a, ha, rfl⟩ := hb
   exact ⟨a, ha, rfl⟩
  refine .fn c (by rw [AC.rens_eq]; simpa using h1) (fun j b hb => ?_) (fun j b hb => ?_)
  ·obtain ⟨a, ha, rfl⟩ := key j b hb
   exact h2 j a ha
  ·have hm := BZ hc b (List.mem_of_getElem? hb)
   obtain ⟨a, ha, rfl⟩ := key j b hb
   exact ih j a ha hm
 | any h => exact .any h
mutual
theorem AM.hand (hS : ∀ i b, 1000 ≤ BB id a0 i → S i = some b → S2 (BB id a0 i) = some b ∧ ι2 (BB id a0 i) = ι i) : ∀ {v : Value} {c : AV}, AM σ S ι v c → (c.ren (BB id a0)).high = true → AM σ S2 ι2 v (c.ren (BB id a0))
 | v, .one c, h, hc => by
  rw [AV.ren] at hc ⊢
  rw [AV.high] at hc
  cases h with | one h => exact .one (h.hand hS hc)
 | v, .agg cs, h, hc => by
  rw [AV.ren] at hc ⊢
  rw [AV.high] at hc
  cases h with
  | agg h =>
   refine .agg (AU.of_get (by rw [AC.rens_eq]; simpa using h.len) fun j x c hx hcj => ?_)
   have hm := BZ hc c (List.mem_of_getElem? hcj)
   rw [AC.rens_eq, List.getElem?_map, Option.map_eq_some_iff] at hcj
   obtain ⟨c', hc', rfl⟩ := hcj
   obtain ⟨x', h1, h2⟩ := h.get hc'
   rw [hx] at h1
   cases h1
   exact h2.hand hS hm
 | v, .tup vs, h, hc => by
  rw [AV.ren] at hc ⊢
  rw [AV.high] at hc
  cases h with
  | tup c h1 h2 h3 =>
   obtain ⟨k1, k2⟩ := AM.hands hS h3 hc
   exact .tup c (by rw [h1, k1]) (fun j b hb => by
    rcases Nat.lt_or_ge j vs.length with hj | hj
    ·exact h2 j _ (List.getElem?_eq_getElem hj)
    ·rw [List.getElem?_eq_none (by omega)] at hb; cases hb) k2
 | v, .any, h, _ => .any
theorem AM.hands (hS : ∀ i b, 1000 ≤ BB id a0 i → S i = some b → S2 (BB id a0 i) = some b ∧ ι2 (BB id a0 i) = ι i) : ∀ {vs : List AV} {c : Nat → Value}, (∀ j b, vs[j]? = some b → AM σ S ι (c j) b) → AV.highs (AV.rens (BB id a0) vs) = true → vs.length = (AV.rens (BB id a0) vs).length ∧ ∀ j b, (AV.rens (BB id a0) vs)[j]? = some b → AM σ S2 ι2 (c j) b
 | [], c, h, _ => by simp [AV.rens]
 | x :: xs, c, h, hc => by
  rw [AV.rens, AV.highs, Bool.and_eq_true] at hc
  obtain ⟨m1, m2⟩ := AM.hands hS (vs := xs) (c := fun j => c (j + 1)) (fun j b hb => h (j + 1) b (by simpa using hb)) hc.2
  refine ⟨by simp [AV.rens, ← m1], fun j b hb => ?_⟩
  cases j with
  | zero =>
   simp [AV.rens] at hb
   subst hb
   exact AM.hand hS (h 0 x rfl) hc.1
  | succ j => exact m2 j b (by simpa [AV.rens] using hb)
end
end
theorem Aa.stay {S S2 : AA} {ι2 : Aj} (hS : ∀ i b, 1000 ≤ i → S i = some b → S2 i = some b ∧ ι2 i = ι i) {v : Value} {c : AC} (h : Aa σ S ι v c) (hc : c.high = true) : Aa σ S2 ι2 v c := by
 induction h with
 | st h => exact .st h
 | full h => exact .full h
 | row h1 h2 h3 h4 =>
  rw [AC.high] at hc
  obtain ⟨q1, q2⟩ := hS _ _ (of_decide_eq_true hc) h1
  exact .row q1 h2 h3 (fun hn => by rw [q2]; exact h4 hn)
 | part h1 h2 h3 h4 =>
  rw [AC.high] at hc
  obtain ⟨q1, q2⟩ := hS _ _ (of_decide_eq_true hc) h1
  exact .part q1 h2 h3 (fun hn => by rw [q2]; exact h4 hn)
 | rest h1 h2 h3 h4 =>
  rw [AC.high] at hc
  obtain ⟨q1, q2⟩ := hS _ _ (of_decide_eq_true hc) h1
  exact .rest q1 h2 h3 (fun hn => by rw [q2]; exact h4 hn)
 | ptr h1 h2 h3 h4 =>
  rw [AC.high] at hc
  obtain ⟨q1, q2⟩ := hS _ _ (of_decide_eq_true hc) h1
  exact .ptr q1 h2 h3 (fun hn => by rw [q2]; exact h4 hn)
 | mptr h1 h2 h3 h4 =>
  rw [AC.high] at hc
  obtain ⟨q1, q2⟩ := hS _ _ (of_decide_eq_true hc) h1
  exact .mptr q1 h2 h3 (fun hn => by rw [q2]; exact h4 hn)
 | yld h1 h2 h3 h4 =>
  rw [AC.high] at hc
  obtain ⟨q1, q2⟩ := hS _ _ (of_decide_eq_true hc) h1
  exact .yld q1 h2 h3 (fun hn => by rw [q2]; exact h4 hn)
 | ubool => exact .ubool
 | eptr c h1 h2 hh => exact .eptr c h1 h2 hh
 | fn c h1 h2 h3 ih =>
  rw [AC.high] at hc
  exact .fn c h1 h2 (fun j a ha => ih j a ha (BZ hc a (List.mem_of_getElem? ha)))
 | any h => exact .any h
theorem AL.hand (R : AL C σ ι s a w) (id a0 : Nat) {b0 : AJ} (hid : id < 1000) (ha : 1000 ≤ a0) (hSa : s.S a0 = none) (hb0 : s.S id = some b0) (hbh : b0.high = true) (hb : ∀ i b, 1000 ≤ i → s.S i = some b → b.high = true) :
  AL C σ (AH ι a0 (ι id)) ⟨fun i => (s.env i).hand id a0, AH (Bt s.S) a0 (some b0)⟩ a w ∧ ∀ i b, 1000 ≤ BB id a0 i → s.S i = some b → AH (Bt s.S) a0 (some b0) (BB id a0 i) = some b ∧ AH ι a0 (ι id) (BB id a0 i) = ι i := by
 have hlow : ∀ i, 1000 ≤ i → Bt s.S i = s.S i := fun i hi => by
  show (if i < 1000 then none else s.S i) = _
  rw [if_neg (by omega)]
 have hS : ∀ i b, 1000 ≤ BB id a0 i → s.S i = some b → AH (Bt s.S) a0 (some b0) (BB id a0 i) = some b ∧ AH ι a0 (ι id) (BB id a0 i) = ι i := fun i b hi h => by
  unfold BB at hi ⊢
  by_cases e : i = id
  ·subst e
   rw [if_pos rfl, AD, AD, ← hb0, h]
   exact ⟨rfl, rfl⟩
  ·rw [if_neg e] at hi ⊢
   have hne : i ≠ a0 := fun e => by subst e; rw [hSa] at h; cases h
   rw [AK _ hne, AK _ hne, hlow i hi]
   exact ⟨h, rfl⟩
 have hS' : ∀ i b, 1000 ≤ i → s.S i = some b → AH (Bt s.S) a0 (some b0) i = some b ∧ AH ι a0 (ι id) i = ι i := fun i b hi h => by
  have hne : i ≠ a0 := fun e => by subst e; rw [hSa] at h; cases h
  rw [AK _ hne, AK _ hne, hlow i hi]
  exact ⟨h, rfl⟩
 have hinv : ∀ i b, AH (Bt s.S) a0 (some b0) i = some b → (i = a0 ∧ b = b0) ∨ (i ≠ a0 ∧ 1000 ≤ i ∧ s.S i = some b) := fun i b h => by
  by_cases e : i = a0
  ·subst e
   rw [AD] at h
   cases h
   exact .inl ⟨rfl, rfl⟩
  ·rw [AK _ e] at h
   have h' : (if i < 1000 then none else s.S i) = some b := h
   split at h'
   ·cases h'
   ·exact .inr ⟨e, by omega, h'⟩
 refine ⟨⟨R.size, fun i hi => ?_, R.nod, R.fit, fun i b h => ?_, fun i j b c g h1 h2 g1 g2 => ?_, fun i b g h hg => ?_, R.ext, R.old, R.os, R.grown, R.same, fun i b h => ?_⟩, hS⟩
 ·show AM σ (AH (Bt s.S) a0 (some b0)) _ _ ((s.env i).hand id a0)
  unfold AV.hand
  split
  ·rename_i hh
   exact (R.env i hi).hand hS hh
  ·exact .any
 ·rcases hinv i b h with ⟨rfl, rfl⟩ | ⟨hne, h1, h2⟩
  ·rw [AD]
   exact (R.blk id _ hb0).samecells (fun v c hv hc => hv.stay hS' hc) hbh
  ·rw [AK _ hne]
   exact (R.blk i b h2).samecells (fun v c hv hc => hv.stay hS' hc) (hb i b h1 h2)
 ·rcases hinv i b h1 with ⟨rfl, rfl⟩ | ⟨hne, k1, k2⟩ <;> rcases hinv j c h2 with ⟨rfl, rfl⟩ | ⟨hne', k1', k2'⟩
  ·rfl
  ·rw [AD] at g1
   rw [AK _ hne'] at g2
   have := R.inj _ _ _ _ g hb0 k2' g1 g2
   omega
  ·rw [AD] at g2
   rw [AK _ hne] at g1
   have := R.inj _ _ _ _ g k2 hb0 g1 g2
   omega
  ·rw [AK _ hne] at g1
   rw [AK _ hne'] at g2
   exact R.inj _ _ _ _ g k2 k2' g1 g2
 ·rcases hinv i b h with ⟨rfl, rfl⟩ | ⟨hne, k1, k2⟩
  ·rw [AD] at hg
   exact R.base _ _ g hb0 hg
  ·rw [AK _ hne] at hg
   exact R.base _ _ g k2 hg
 ·obtain ⟨b', h1, h2, h3⟩ := R.upd i b h
  obtain ⟨q1, q2⟩ := hS' i b' (C.clean i b h).1 h1
  exact ⟨b', q1, h2, fun hl => ⟨(h3 hl).1, by rw [q2]; exact (h3 hl).2⟩⟩
theorem Ad.hand (id a0 : Nat) {b0 : AJ} (hid : id < 1000) (ha : 1000 ≤ a0) (hSa : s.S a0 = none) (hb0 : s.S id = some b0) (hbh : b0.high = true) (hb : ∀ i b, 1000 ≤ i → s.S i = some b → b.high = true) : Ad C s ⟨fun i => (s.env i).hand id a0, AH (Bt s.S) a0 (some b0)⟩ := fun a w ⟨σ, ι, R⟩ =>
 ⟨σ, _, (R.hand id a0 hid ha hSa hb0 hbh hb).1⟩
theorem Ll {C : Ctx} {rs : List RV} {S' : AA} {e : AX} {s : AS} (he : match e with | .normal => True | .ret => True | _ => False) (id a0 : Nat) (r0 : AV) {b0 : AJ} (hid : id < 1000) (ha : 1000 ≤ a0) (hSa : s.S a0 = none) (hb0 : s.S id = some b0) (hbh : b0.high = true) (hb : ∀ i b, 1000 ≤ i → s.S i = some b → b.high = true)
  (h1 : (AF s rs).map AQ = some r0) (hh : (r0.ren (BB id a0)).high = true) (h3 : AH (Bt s.S) a0 (some b0) = S') (hc : An S') : FF C rs (r0.ren (BB id a0)) S' e s :=
 ⟨he, s, ⟨fun i => (s.env i).hand id a0, AH (Bt s.S) a0 (some b0)⟩, r0, Ad.refl _ _, h1, fun σ ι a w R => ⟨σ, _, (R.hand id a0 hid ha hSa hb0 hbh hb).1, fun v hv => hv.hand (R.hand id a0 hid ha hSa hb0 hbh hb).2 hh⟩, h3, hc⟩
theorem Ce (S : AA) (i : Nat) : upS S (up1 i) = (S i).map (AJ.ren up1) := by
 show (if i + 1000 < 1000 then none else (S (i + 1000 - 1000)).map (AJ.ren up1)) = _
 rw [if_neg (by omega), Nat.add_sub_cancel]
theorem OK (S : AA) (i : Nat) (b : AJ) : dnS (AH S (up1 i) (some b)) = AH (dnS S) i (some (b.ren dn1)) := by
 funext k
 show (AH S (up1 i) (some b) (up1 k)).map _ = AH (dnS S) i _ k
 by_cases h : k = i
 ·subst h
  rw [AD, AD]
  rfl
 ·have hne : up1 k ≠ up1 i := fun e => h (by have := congrArg dn1 e; rw [Gy, Gy] at this; exact this)
  rw [AK _ hne, AK _ h]
  rfl
theorem GZ (S : AA) {i : Nat} (h : i < 1000) (b : Option AJ) : Bt (AH S i b) = Bt S := by
 funext k
 show (if k < 1000 then none else AH S i b k) = (if k < 1000 then none else S k)
 split
 ·rfl
 ·exact AK _ (by omega) _
theorem LZ (S : AA) {i : Nat} (h : 1000 ≤ i) (b : Option AJ) : Bt (AH S i b) = AH (Bt S) i b := by
 funext k
 show (if k < 1000 then none else AH S i b k) = AH (Bt S) i b k
 by_cases e : k = i
 ·subst e
  rw [if_neg (by omega), AD, AD]
 ·rw [AK _ e, AK _ e]
  rfl
theorem B8 {S : AA} (h : An S) {i : Nat} (hi : 1000 ≤ i) {b : AJ} (hb : b.high = true) : An (AH S i (some b)) := fun k c hk => by
 by_cases e : k = i
 ·subst e
  rw [AD] at hk
  cases hk
  exact ⟨hi, hb⟩
 ·rw [AK _ e] at hk
  exact h k c hk
theorem MO {S : AA} {i : Nat} {b : AJ} (h : ∀ k c, 1000 ≤ k → S k = some c → c.high = true) (hb : b.high = true) : ∀ k c, 1000 ≤ k → AH S i (some b) k = some c → c.high = true := fun k c hk hc => by
 by_cases e : k = i
 ·subst e
  rw [AD] at hc
  cases hc
  exact hb
 ·rw [AK _ e] at hc
  exact h k c hk hc
theorem FX {S : AA} {i : Nat} (hi : i < 1000) {b : Option AJ} (h : ∀ k c, 1000 ≤ k → S k = some c → c.high = true) : ∀ k c, 1000 ≤ k → AH S i b k = some c → c.high = true := fun k c hk hc => by
 rw [AK _ (by omega)] at hc
 exact h k c hk hc
end
theorem IWP.loopD {P : Program} {C : Ctx} {mu : List Nat} {Q : AX → AS → Prop} {s : AS} {x : IR} (ds : List Nat) (Inv : Nat → AS → Prop) (m0 : Nat) (h0 : Inv m0 s) (h : ∀ m s, Inv m s → IWP P C mu x (AX.then (fun s' => ∃ m', m' < m ∧ Inv m' (s'.drop ds)) Q) s) (hds : ∀ d ∈ ds, d < 1000 := by decide) : IWP P C mu (.loop x) Q s := by
 refine IWP.loop (fun m s => ∃ s1, Ad C s s1 ∧ Inv m s1) m0 ⟨s, Ad.refl _ _, h0⟩ fun m s ⟨s1, hg, hi⟩ => ?_
 refine (IWP.ghost hg (h m s1 hi)).mono fun e s2 he => ?_
 cases e with
 | normal =>
  obtain ⟨m', h1, h2⟩ := he
  exact ⟨m', h1, _, Ad.drop ds s2 hds, h2⟩
 | _ => exact he
theorem Aa.out {σ : Sto} {S : AA} {ι : Aj} {v : Value} {c : AC} (h : Aa σ S ι v c) (hc : outC noS c = some c) : Aa σ noS noH v c := by
 cases h with
 | st h => exact .st h
 | full h => simp [outC, stC] at hc
 | row h1 h2 h3 h4 => simp [outC, stC, noS] at hc
 | part h1 h2 h3 h4 => simp [outC, stC, noS] at hc
 | rest h1 h2 h3 h4 => simp [outC, stC, noS] at hc
 | ptr h1 h2 h3 h4 => simp [outC, stC] at hc
 | mptr h1 h2 h3 h4 => simp [outC, stC] at hc
 | yld h1 h2 h3 h4 => simp [outC, stC] at hc
 | ubool => exact .ubool
 | eptr c h1 h2 hh => exact .eptr c h1 h2 hh
 | @fn f vs caps c h1 h2 h3 =>
  cases caps with
  | nil => exact .fn c h1 h2 (by simp)
  | cons x xs =>
   have hall : (x :: xs).all AC.stay = true := by
    unfold outC at hc
    by_cases e : (x :: xs).all AC.stay = true
    ·exact e
    ·simp only [e, if_false] at hc
     cases hc
   exact .fn c h1 h2 fun j a ha => (h3 j a ha).staying (List.all_eq_true.1 hall a (List.mem_of_getElem? ha))
 | any h => simp [outC, stC] at hc
theorem GX : ∀ {cs : List AC}, outCs noS cs = some cs → ∀ c ∈ cs, outC noS c = some c
 | [], _, c, hc => by simp at hc
 | x :: xs, h, c, hc => by
  simp only [outCs] at h
  split at h
  ·rename_i y ys h1 h2
   simp only [Option.some.injEq, List.cons.injEq] at h
   obtain ⟨rfl, rfl⟩ := h
   rcases List.mem_cons.1 hc with rfl | hc
   ·exact h1
   ·exact GX h2 c hc
  ·cases h
mutual
theorem AM.out {σ : Sto} {S : AA} {ι : Aj} : ∀ {v : Value} {c : AV}, AM σ S ι v c → outV noS c = some c → AM σ noS noH v c
 | v, .one c, h, hc => by
  rw [outV, Option.map_eq_some_iff] at hc
  obtain ⟨a, h1, h2⟩ := hc
  cases h2
  cases h with | one h => exact .one (h.out h1)
 | v, .agg cs, h, hc => by
  rw [outV, Option.map_eq_some_iff] at hc
  obtain ⟨a, h1, h2⟩ := hc
  cases h2
  cases h with
  | agg h => exact .agg (AU.of_get h.len fun j x c hx hcj => by
    obtain ⟨x', q1, q2⟩ := h.get hcj
    rw [hx] at q1
    cases q1
    exact q2.out (GX h1 c (List.mem_of_getElem? hcj)))
 | v, .tup vs, h, hc => by
  rw [outV, Option.map_eq_some_iff] at hc
  obtain ⟨a, h1, h2⟩ := hc
  cases h2
  cases h with
  | tup c k1 k2 k3 => exact .tup c k1 k2 (AM.outs k3 h1)
 | v, .any, h, _ => .any
theorem AM.outs {σ : Sto} {S : AA} {ι : Aj} : ∀ {vs : List AV} {c : Nat → Value}, (∀ j b, vs[j]? = some b → AM σ S ι (c j) b) → outVs noS vs = some vs → ∀ j b, vs[j]? = some b → AM σ noS noH (c j) b
 | [], c, h, _, j, b, hb => by simp at hb
 | x :: xs, c, h, hc, j, b, hb => by
  rw [outVs] at hc
  split at hc
  ·rename_i y ys h1 h2
   simp only [Option.some.injEq, List.cons.injEq] at hc
   obtain ⟨rfl, rfl⟩ := hc
   cases j with
   | zero =>
    simp at hb
    subst hb
    exact AM.out (h 0 _ rfl) h1
   | succ j => exact AM.outs (c := fun j => c (j + 1)) (fun j b hb => h (j + 1) b (by simpa using hb)) h2 j b (by simpa using hb)
  ·cases hc
end
theorem JB {C : Ctx} {rs : List RV} {r : AV} {S' : AA} {e : AX} {s : AS} (he : match e with | .normal => True | .ret => True | _ => False) (r0 : AV) (h1 : (AF s rs).map AQ = some r0) (h2 : outV s.S r0 = some r) (hb : ∀ i b, 1000 ≤ i → s.S i = some b → b.high = true) (h3 : Bt s.S = S') (hc : An S') : FF C rs r S' e s := by
 refine ⟨he, s, ⟨fun i => (s.env i).low, Bt s.S⟩, r0, Ad.refl _ _, h1, fun σ ι a w R => ?_, h3, hc⟩
 exact ⟨σ, ι, R.low hb, fun v hv => OA (s := ⟨fun i => (s.env i).low, Bt s.S⟩) (R.outV hv h2)⟩
theorem Ca {C : Ctx} {rs : List RV} {r : AV} {e : AX} {s : AS} {S : AA} (r0 : AV) (hS : An S) (he : match e with | .normal => True | .ret => True | _ => False)
  (h1 : (AF s rs).map AQ = some r0) (h2 : outV s.S r0 = some r) (h4 : ∀ i, 1000 ≤ i → s.S i = S i) : FF C rs r S e s :=
 JB he r0 h1 h2 (fun i b hi hb => (hS i b (by rw [← h4 i hi]; exact hb)).2) (by
  funext i
  unfold Bt
  split
  ·exact (Bl hS (by omega)).symm
  ·exact h4 i (by omega)) hS
theorem KQ {C : Ctx} {rs : List RV} {r : AV} {S' : AA} {e : AX} {s s1 : AS} (hg : Ad C s s1) (h : FF C rs r S' e s1) : FF C rs r S' e s := by
 obtain ⟨he, s2, s3, r0, h1, h2⟩ := h
 exact ⟨he, s2, s3, r0, hg.trans h1, h2⟩
theorem Oe {C : Ctx} {rs : List RV} {e : AX} {s : AS} {ty : TypeId} {w n : Nat} {ys : List (List SV)} {mu : Bool} (he : match e with | .normal => True | .ret => True | _ => False) (id : Nat) (hid : id < 1000) (hb0 : s.S id = some (F3 mu ty w ys)) (hlow : ∀ i, 1000 ≤ i → s.S i = none)
  (h1 : (AF s rs).map AQ = some (.one (.row id n))) : FF C rs (.one (.row 1000 n)) (fun i => if i = 1000 then some (F3 mu ty w ys) else noS i) e s := by
 have e1 : (AV.one (.row id n)).ren (BB id 1000) = .one (.row 1000 n) := by simp [AV.ren, AC.ren, BB]
 rw [← e1]
 refine Ll he id 1000 _ hid (by decide) (hlow 1000 (by decide)) hb0 (by cases mu <;> rfl) (fun i b hi hb => by rw [hlow i hi] at hb; cases hb) h1 (by rw [e1]; rfl) ?_ ?_
 ·funext i
  unfold AH Bt noS
  by_cases h2 : i = 1000
  ·rw [if_pos h2, if_pos h2]
  ·rw [if_neg h2, if_neg h2]
   split
   ·rfl
   ·exact hlow i (by omega)
 ·intro i b hb
  have hb : (if i = 1000 then some (F3 mu ty w ys) else noS i) = some b := hb
  split at hb
  ·rename_i h2
   cases hb
   exact ⟨by omega, by cases mu <;> rfl⟩
  ·cases hb

theorem Lc (c P Q : Prop) [Decidable c] : ((c → P) ∧ (¬ c → Q)) = if c then P else Q := by
 by_cases h : c <;> simp [h]
theorem NI {c A B : Prop} [Decidable c] (h : (c → A) ∧ (¬ c → B)) : if c then A else B := by
 by_cases hc : c
 ·rw [if_pos hc]; exact h.1 hc
 ·rw [if_neg hc]; exact h.2 hc
theorem MP (b : Bool) (P Q : Prop) : ((b = true → P) ∧ (b = false → Q)) = if b = true then P else Q := by
 cases b <;> simp
attribute [congr] I1.congr Fa.congr
mutual
def BC : Tm → List SV
 | .mk n xs => [.str n, .list (LC xs)]
def LC : List Tm → List (List SV)
 | [] => []
 | t :: ts => BC t :: LC ts
end
theorem Jo : ∀ xs : List Tm, LC xs = xs.map BC
 | [] => rfl
 | t :: ts => by rw [LC, Jo ts]; rfl
theorem CG (t : Tm) : BC t = [.str t.name, .list (t.args.map BC)] := by
 cases t
 rw [BC, Jo]
 rfl
theorem Mi (t : Tm) : (BC t).length = 2 := by rw [CG]; rfl
class O4 {α : Type} (f : α → List SV) (n : outParam Nat) : Prop where
 ok : ∀ a, (f a).length = n
theorem O9 {α : Type} {f : α → List SV} {n : Nat} [h : O4 f n] {ts : List α} : ∀ x ∈ ts.map f, x.length = n := fun x hx => by
 obtain ⟨a, _, rfl⟩ := List.mem_map.1 hx
 exact h.ok a
instance : O4 BC 2 := ⟨fun t => by rw [CG]; rfl⟩
theorem FS {ts : List Tm} : ∀ x ∈ ts.map BC, x.length = 2 := by
 intro x hx
 obtain ⟨a, _, rfl⟩ := List.mem_map.1 hx
 exact Mi a
theorem Tm.args_mk (n : ByteArray) (xs : List Tm) : (Tm.mk n xs).args = xs := rfl
theorem Tm.name_mk (n : ByteArray) (xs : List Tm) : (Tm.mk n xs).name = n := rfl
abbrev AY (n : Int) : AV := .one (.st (.int .i64 n))
abbrev Al (b : Bool) : AV := .one (.st (.bool b))
abbrev Cj (s : ByteArray) : AV := .one (.st (.str s))
abbrev aTm (t : Tm) : AV := .agg [.st (.str t.name), .st (.list (t.args.map BC))]
abbrev CU (n : Int) : List SV := [.int .i64 n]
abbrev C_ (s : ByteArray) : List SV := [.str s]
abbrev LN (l : List Int) : AV := .one (.st (.list (l.map CU)))
abbrev Fx (l : List ByteArray) : AV := .one (.st (.list (l.map C_)))
abbrev NO (l : List Tm) : AV := .one (.st (.list (l.map BC)))
theorem Ah {α : Type} {xs : List α} {k : Nat} (h : k < xs.length) : ∃ a, xs[k]? = some a := ⟨xs[k], List.getElem?_eq_getElem h⟩
theorem Kx (n : Int) : inR .i64 n ↔ -9223372036854775808 ≤ n ∧ n ≤ 9223372036854775807 := by
 simp [inR, IntKind.min, IntKind.max, IntKind.signed, IntKind.bits]
theorem Ba : maxLen = 9223372036854775807 := by simp [maxLen]
theorem Fc {S : AA} {xs : List (List SV)} (h : (AV.one (.st (.list xs))).known S) : xs.length ≤ 9223372036854775807 := by
 simp only [AV.known, AC.known, SV.known] at h
 rw [Ba] at h
 exact h.1
theorem Ei {S : AA} {t : Tm} (h : (aTm t).known S) : t.name.size ≤ 9223372036854775807 ∧ t.args.length ≤ 9223372036854775807 := by
 have h1 : t.name.size ≤ maxLen := by
  have := h (.st (.str t.name)) (by simp)
  simpa [AC.known, SV.known] using this
 have h2 : t.args.length ≤ maxLen := by
  have := h (.st (.list (t.args.map BC))) (by simp)
  simp only [AC.known, SV.known, List.length_map] at this
  exact this.1
 rw [Ba] at h1 h2
 exact ⟨h1, h2⟩

def Kd.isCall : Kd → Bool
 | .call _ _ => true
 | .callS _ _ => true
 | .callV _ _ => true
 | .callN _ _ => true
 | .callR _ _ => true
 | .callW _ _ => true
 | .callX _ _ => true
 | .callY _ _ => true
 | .buildFlat _ => false
 | .cutP _ _ _ => false
 | .indexP _ _ _ => false
 | .appP _ _ _ _ _ => false
 | .restP _ _ _ => false
 | .appS _ _ _ => false
 | .loadL _ _ _ => false
 | .indexL _ _ _ => false
 | .buildL _ _ => false
 | .fieldL _ _ => false
 | .lenL _ _ => false
 | .appF _ _ _ _ _ _ => false
 | .clearP _ _ _ _ => false
 | .copyP _ _ => false
 | .mov _ => false
 | .pick _ _ _ => false
 | .alloc _ _ => false
 | .box _ _ => false
 | .build _ _ => false
 | .buildSlice _ _ _ _ => false
 | .load _ _ _ => false
 | .store _ _ _ => false
 | .fieldAddr _ _ => false
 | .field _ _ _ _ => false
 | .indexAddr _ _ _ => false
 | .indexArr _ _ _ _ => false
 | .indexStr _ _ => false
 | .bin _ _ _ => false
 | .eqB _ _ _ => false
 | .eqN _ _ => false
 | .eqE _ _ => false
 | .eqP _ _ => false
 | .bits _ _ _ => false
 | .never => false
 | .pan _ => false
 | .iface _ _ => false
 | .strOf _ => false
 | .un _ _ => false
 | .sliceS _ _ _ => false
 | .sliceL _ _ _ _ => false
 | .sliceM _ _ _ _ => false
 | .extract _ _ => false
 | .len _ _ => false
 | .append _ _ _ _ _ _ => false
 | .conv _ _ => false
 | .nilCheck _ => false
 | .mm _ _ _ => false
 | .makeSlice _ _ _ _ _ _ => false
 | .makeFunc _ _ => false
 | .makeMap _ => false
 | .lookup _ _ _ _ _ => false
 | .mapSet _ _ _ _ => false
 | .mapEntry _ _ _ _ => false
 | .entrySet _ _ _ => false
 | .rangeM _ => false
 | .next _ => false
 | .entry _ => false
 | .lenM _ => false
 | .buildArr _ => false
 | .makeMemo => false
 | .memoGet _ _ _ _ => false
 | .memoSet _ _ _ => false
inductive OW (P : Program) (f : FuncId) (vs : List AV) (d : Option Nat) (l : List Ins) (s : AS) (K : AS → Prop) : Prop
 | mk (r : AV) (h1 : AW P f vs r) (h2 : Run P l (s.put d r) K)
inductive IL (P : Program) (f : FuncId) (vs : List AV) (S : AA) (ks : List Nat) (d : Option Nat) (l : List Ins) (env : Nat → AV) (K : AS → Prop) : Prop
 | mk (r : AV) (S' : AA) (h1 : Ap P f vs (upS S) r S') (h2 : (∀ k ∈ ks, dnS S' k = S k) ∧ Run P l ((⟨env, dnS S'⟩ : AS).put d (r.ren dn1)) K)
inductive Ng (P : Program) (f : FuncId) (vs : List AV) (ks : List Nat) (d : Option Nat) (l : List Ins) (s : AS) (K : AS → Prop) : Prop
 | mk (mu : Bool) (e : TypeId) (w : Nat) (ys : List (List SV)) (h1 : GF P f vs e w ys mu) (h2 : s.S (d.getD 0) = none ∧ (∀ k ∈ ks, (s.set (d.getD 0) (F3 mu e w ys)).S k = s.S k) ∧ Run P l ((s.set (d.getD 0) (F3 mu e w ys)).put d (.one (.row (d.getD 0) ys.length))) K)
inductive Ot (P : Program) (f : FuncId) (vs : List AV) (d : Option Nat) (l : List Ins) (s : AS) (K : AS → Prop) : Prop
 | mk (r : AV) (rows : List (Nat × AJ)) (h0 : ∀ q ∈ rows, s.S q.1 = some q.2) (h1 : ∀ T : AA, (∀ q ∈ rows, T q.1 = some q.2) → Ap P f vs (upS T) r (upS T)) (h2 : Run P l (s.put d (r.ren dn1)) K)
inductive NU (P : Program) (f : FuncId) (vs : List AV) (ks : List Nat) (d : Option Nat) (l : List Ins) (s : AS) (K : AS → Prop) : Prop
 | mk (r : AV) (rows : List (Nat × AJ × AJ)) (h0 : LP s.S rows) (h1 : ∀ T : AA, LP T rows → Ap P f vs (upS T) r (upS (DS T rows))) (h2 : (∀ k ∈ ks, DS s.S rows k = s.S k) ∧ Run P l ((⟨s.env, DS s.S rows⟩ : AS).put d (r.ren dn1)) K)
inductive MT (P : Program) (S : AA) (hs : Bool) (G : AA → (AV → AA → Prop) → Prop) (d : Option Nat) (l : List Ins) (env : Nat → AV) (K : AS → Prop) : Prop
 | mk (T : AA) (Post : AV → AA → Prop) (h1 : An T) (h2 : ∀ i, 1000 ≤ i → S i = T i) (h3 : hs = true) (h4 : G T Post) (h5 : ∀ r S', An S' → Post r S' → Run P l ((⟨env, C5 S S'⟩ : AS).put d r) K)
def Kd.goC (P : Program) (d : Option Nat) (s : AS) (t : Tag) (l : List Ins) (K : AS → Prop) : Kd → Prop
 | .call f xs => match t with
  | .no => match outVs s.S (s.evs xs) with
   | some vs => OW P f vs d l s K
   | none => False
  | _ => False
 | .callR f xs => match t with
  | .no => Ot P f (AV.rens up1 (s.evs xs)) d l s K
  | _ => False
 | .callW f xs => match t with
  | .no => NU P f (AV.rens up1 (s.evs xs)) [] d l s K
  | .keeps ks => NU P f (AV.rens up1 (s.evs xs)) ks d l s K
  | .onb _ => False
 | .callX f xs => match t with
  | .no => MT P s.S (AV.highs ((s.evs xs).map (FR s.S))) (Ij P f ((s.evs xs).map (FR s.S))) d l s.env K
  | _ => False
 | .callY f xs => match t with
  | .no => MT P s.S ((s.ev f).high && AV.highs ((s.evs xs).map (FR s.S))) (GE P (s.ev f) ((s.evs xs).map (FR s.S))) d l s.env K
  | _ => False
 | .callN f xs => match t with
  | .no => match outVs s.S (s.evs xs) with
   | some vs => Ng P f vs [] d l s K
   | none => False
  | .keeps ks => match outVs s.S (s.evs xs) with
   | some vs => Ng P f vs ks d l s K
   | none => False
  | .onb _ => False
 | .callS f xs => match t with
  | .no => IL P f (AV.rens up1 (s.evs xs)) s.S [] d l s.env K
  | .keeps ks => IL P f (AV.rens up1 (s.evs xs)) s.S ks d l s.env K
  | .onb _ => False
 | .callV f xs => match (s.ev f).fnOf with
  | some (g, caps) => B2 P g = true ∧ match t with
   | .no => IL P g (AV.rens up1 (s.evs xs ++ caps.map .one)) s.S [] d l s.env K
   | .keeps ks => IL P g (AV.rens up1 (s.evs xs ++ caps.map .one)) s.S ks d l s.env K
   | .onb _ => False
  | _ => False
 | _ => False
def EW (P : Program) : List Ins → AS → (AS → Prop) → Prop
 | [], s, K => K s
 | i :: l, s, K => match i.kd.isCall with
  | false => match i.guard with
   | none => i.kd.goT P (i.dst.getD 0) s i.tag fun v s' => EW P l (s'.put i.dst v) K
   | some (g, want) => match s.env g with
    | .one (.st (.bool b)) => (b = want → i.kd.goT P (i.dst.getD 0) s i.tag fun v s' => EW P l (s'.put i.dst v) K) ∧ (¬ b = want → EW P l (s.put i.dst (.tup [])) K)
    | .tup [] => EW P l (s.put i.dst (.tup [])) K
    | _ => False
  | true => match i.guard with
   | none => i.kd.goC P i.dst s i.tag l K
   | some (g, want) => match s.env g with
    | .one (.st (.bool b)) => (b = want → i.kd.goC P i.dst s i.tag l K) ∧ (¬ b = want → EW P l (s.put i.dst (.tup [])) K)
    | .tup [] => EW P l (s.put i.dst (.tup [])) K
    | _ => False
section
variable {P : Program}
theorem LB {kd : Kd} {d : Option Nat} {s : AS} {t : Tag} {l : List Ins} {K : AS → Prop} (h : kd.goC P d s t l K) : kd.goT P (d.getD 0) s t fun v s' => Run P l (s'.put d v) K := by
 cases kd <;> simp only [Kd.goC] at h
 case call f xs =>
  cases t <;> simp only at h
  split at h
  ·rename_i vs e
   obtain ⟨r, h1, h2⟩ := h
   simp only [Kd.goT, Kd.go, e]
   exact ⟨r, h1, trivial, h2⟩
  ·exact h.elim
 case callN f xs =>
  cases t <;> simp only at h
  ·split at h
   ·rename_i vs e
    obtain ⟨mu, ty, w, ys, h1, h2, _, h3⟩ := h
    simp only [Kd.goT, Kd.go, e]
    exact ⟨mu, ty, w, ys, h1, h2, trivial, h3⟩
   ·exact h.elim
  ·split at h
   ·rename_i vs e
    obtain ⟨mu, ty, w, ys, h1, h2, h4, h3⟩ := h
    simp only [Kd.goT, Kd.go, e]
    exact ⟨mu, ty, w, ys, h1, h2, h4, h3⟩
   ·exact h.elim
 case callW f xs =>
  cases t <;> simp only at h
  ·obtain ⟨r, rows, h0, h1, _, h2⟩ := h
   simp only [Kd.goT, Kd.go]
   exact ⟨r, rows, h0, h1, trivial, h2⟩
  ·obtain ⟨r, rows, h0, h1, hk, h2⟩ := h
   simp only [Kd.goT, Kd.go]
   exact ⟨r, rows, h0, h1, hk, h2⟩
 case callX f xs =>
  cases t <;> simp only at h
  obtain ⟨T, Post, h1, h2, h3, h4, h5⟩ := h
  exact ⟨T, Post, h1, h2, h3, h4, fun r S' k1 k2 => ⟨trivial, h5 r S' k1 k2⟩⟩
 case callY f xs =>
  cases t <;> simp only at h
  obtain ⟨T, Post, h1, h2, h3, h4, h5⟩ := h
  exact ⟨T, Post, h1, h2, h3, h4, fun r S' k1 k2 => ⟨trivial, h5 r S' k1 k2⟩⟩
 case callR f xs =>
  cases t <;> simp only at h
  obtain ⟨r, rows, h0, h1, h2⟩ := h
  simp only [Kd.goT, Kd.go]
  exact ⟨r, rows, h0, h1, trivial, h2⟩
 case callS f xs =>
  cases t <;> simp only at h
  ·obtain ⟨r, S', h1, h2, h3⟩ := h
   exact ⟨r, S', h1, trivial, h3⟩
  ·obtain ⟨r, S', h1, h2, h3⟩ := h
   exact ⟨r, S', h1, h2, h3⟩
 case callV f xs =>
  split at h
  ·rename_i g caps e
   obtain ⟨hp, h⟩ := h
   cases t <;> simp only at h
   ·obtain ⟨r, S', h1, h2, h3⟩ := h
    simp only [Kd.goT, Kd.go, e]
    exact ⟨hp, r, S', h1, trivial, h3⟩
   ·obtain ⟨r, S', h1, h2, h3⟩ := h
    simp only [Kd.goT, Kd.go, e]
    exact ⟨hp, r, S', h1, h2, h3⟩
  ·exact h.elim
theorem BW : ∀ {l : List Ins} {s : AS} {K : AS → Prop}, EW P l s K → Run P l s K
 | [], s, K, h => h
 | i :: l, s, K, h => by
  unfold EW at h
  unfold Run
  split at h
  ·split at h
   ·rename_i e
    simp only [e]
    exact C9 h fun v s' _ h' => BW h'
   ·rename_i g want e
    simp only [e]
    split at h
    ·rename_i b e2
     simp only [e2]
     exact ⟨fun hb => C9 (h.1 hb) fun v s' _ h' => BW h', fun hb => BW (h.2 hb)⟩
    ·rename_i e2
     simp only [e2]
     exact BW h
    ·exact h.elim
  ·split at h
   ·rename_i e
    simp only [e]
    exact LB h
   ·rename_i g want e
    simp only [e]
    split at h
    ·rename_i b e2
     simp only [e2]
     exact ⟨fun hb => LB (h.1 hb), fun hb => BW (h.2 hb)⟩
    ·rename_i e2
     simp only [e2]
     exact BW h
    ·exact h.elim
theorem FV {l : List Ins} {s : AS} {K : AS → Prop} {A : Prop} (h : A ∧ EW P l s K) : A ∧ Run P l s K := ⟨h.1, BW h.2⟩
theorem IWP.ops2 {C : Ctx} {mu : List Nat} {Q : AX → AS → Prop} {s : AS} {l : List Ins} (h : ∀ K : AS → Prop, (∀ s, Q .normal s → K s) → EW P l s K) : IWP P C mu (.ops l) Q s := IWP.opsK fun K hK => BW (h K hK)
end
attribute [go_sem] Nu Me Mk Hu Ins.i Ins.m Ins.L Ins.l Ins.f Ins.s Opd.n F3 DS EW Kd.isCall Kd.goC Kd.goT Tag.ok Kd.ptrOpd Dp List.forall_mem_cons List.not_mem_nil Kd.go AS.ev AS.evs AS.put AS.set AH AV.cells Eu CL Dd stP MS stC stCs outC outCs outV outVs Fu Bu Bd Bj Mb Cw Le Lg optI I8 splice AJ.len AS.start AS.startS noS List.getElem?_cons_zero List.getElem?_cons_succ List.getElem?_nil List.getElem?_map Option.isSome_none Option.isSome_some Option.map_some Option.map_none Option.getD_some Option.getD_none List.length_map List.length_cons List.length_nil List.length_append List.map_cons List.map_nil List.take_succ_cons List.take_zero List.take_nil List.drop_succ_cons List.drop_zero List.drop_nil List.nil_append List.cons_append List.append_nil Nat.zero_add Nat.add_zero Nat.le_refl Nat.zero_le if_true if_false Bool.false_eq_true true_and and_true Option.some.injEq Int.toNat_natCast Int.natCast_nonneg Int.ofNat_eq_natCast ite_self decide_true decide_false not_true_eq_false not_false_eq_true true_implies false_implies implies_true Bool.true_eq_false eq_self Bool.not_true Bool.not_false beq_self_eq_true Tm.args_mk Tm.name_mk AV.rens AV.ren AC.ren AC.rens AJ.ren Ce Gy OK KA
theorem Ny (T : AA) (i : Nat) (b : AJ) : upS (AH T i (some b)) = AH (upS T) (up1 i) (some (b.ren up1)) := by
 funext k
 show (if k < 1000 then none else (AH T i (some b) (k - 1000)).map (AJ.ren up1)) = _
 by_cases e : k = up1 i
 ·subst e
  rw [AD, if_neg (by have := BX i; omega), show up1 i - 1000 = i from Gy i, AD]
  rfl
 ·rw [AK _ e]
  by_cases hk : k < 1000
  ·rw [if_pos hk]
   show none = if k < 1000 then none else _
   rw [if_pos hk]
  ·rw [if_neg hk, AK _ (fun h => e (by rw [← h]; exact (Gk (by omega)).symm))]
   show _ = if k < 1000 then none else _
   rw [if_neg hk]
abbrev Wo := @IWP.ops2
abbrev Wp := @IWP.cond
abbrev Wq := @BW
abbrev Wr := @FV
abbrev iC := @NI
abbrev Cg := @OW.mk
abbrev dT := @decide_eq_true_eq
abbrev dF := @decide_eq_false_iff_not
abbrev nL := @Int.ofNat_lt
abbrev eT := @CG
abbrev iR := @Kx
attribute [go_sem ↓] Lc MP
theorem Ai {a b : Prop} (k : b) (h : a := by first | omega | exact O9 | (simp [Ba] <;> omega)) : a ∧ b := ⟨h, k⟩
theorem Z0 {id id' : Nat} {Q : AX → AS → Prop} {s : AS} (h : Q (.exit id') s) (hne : id' ≠ id := by decide) : AX.inBlock id Q (.exit id') s := IF hne h
theorem fN {α : Type} (p : α → Prop) : ∀ x ∈ ([] : List α), p x := List.forall_mem_nil p
class E8 (goal : Prop) (prev : outParam Prop) : Prop where
 imp : prev → goal
theorem W {goal prev : Prop} [s : E8 goal prev] (h : prev) : goal := s.imp h
section
variable {P : Program} {C : Ctx} {mu : List Nat} {x y : IR} {Q : AX → AS → Prop} {s : AS} {id : Nat} {K : AS → Prop}
instance : E8 (IWP P C mu (.seq x y) Q s) (IWP P C mu x (J3 P C mu y Q) s) := ⟨IWP.seq⟩
instance : E8 (J3 P C mu y Q .normal s) (IWP P C mu y Q s) := ⟨Ja⟩
instance : E8 (IWP P C mu (.block id x) Q s) (IWP P C mu x (AX.inBlock id Q) s) := ⟨IWP.block⟩
instance : E8 (IWP P C mu .skip Q s) (Q .normal s) := ⟨IWP.skip⟩
instance : E8 (IWP P C mu (.exit id) Q s) (Q (.exit id) s) := ⟨IWP.exit⟩
instance : E8 (IWP P C mu .ret Q s) (Q .ret s) := ⟨IWP.ret⟩
instance : E8 (J3 P C mu y Q (.exit id) s) (Q (.exit id) s) := ⟨Lt⟩
instance : E8 (J3 P C mu y Q .ret s) (Q .ret s) := ⟨Ni⟩
instance : E8 (AX.inBlock id Q .normal s) (Q .normal s) := ⟨GW⟩
instance : E8 (AX.inBlock id Q (.exit id) s) (Q .normal s) := ⟨IS⟩
instance : E8 (AX.inBlock id Q .ret s) (Q .ret s) := ⟨I5⟩
instance : E8 (AX.then K Q (.exit id) s) (Q (.exit id) s) := ⟨Ls⟩
instance : E8 (AX.then K Q .ret s) (Q .ret s) := ⟨No⟩
class Nc (goal : Prop) (prev : outParam Prop) : Prop where
 imp : prev → goal
class ND (goal : Prop) (prev : outParam Prop) : Prop where
 imp : prev → goal
theorem U {goal prev : Prop} [s : Nc goal prev] (h : prev) : goal := s.imp h
instance {l : List Ins} : Nc (Run P l s K) (EW P l s K) := ⟨BW⟩
instance {l : List Ins} {A : Prop} : Nc (A ∧ Run P l s K) (A ∧ EW P l s K) := ⟨FV⟩
instance {l : List Ins} : ND (Run P l s K) (EW P l s K) := ⟨BW⟩
instance {l : List Ins} {A : Prop} : ND (A ∧ Run P l s K) (A ∧ EW P l s K) := ⟨FV⟩
instance {c0 : Opd} : ND (IWP P C mu (.cond c0 x y) Q s) (match s.ev c0 with | .one (.st (.bool b)) => (b = true → IWP P C mu x Q s) ∧ (b = false → IWP P C mu y Q s) | .one .ubool => IWP P C mu x Q s ∧ IWP P C mu y Q s | _ => False) := ⟨IWP.cond⟩
end
theorem IWP.fresh {P : Program} {C : Ctx} {mu : List Nat} {x : IR} {Q : AX → AS → Prop} {s : AS} (h1000 : ∀ i, 1000 ≤ i → s.S i = none) (h : ∀ env' : Nat → AV, (∀ i v, s.env i = .one (.st v) → env' i = .one (.st v)) → IWP P C mu x Q ⟨env', noS⟩) : IWP P C mu x Q s := by
 refine IWP.ghost (Ad.low (s := s) fun i b hi hb => by rw [h1000 i hi] at hb; cases hb) ?_
 have e : Bt s.S = noS := by
  funext i
  show (if i < 1000 then none else s.S i) = none
  split
  ·rfl
  ·exact h1000 i (by omega)
 rw [e]
 exact h _ fun i v hv => by rw [hv]; rfl



structure Mv where
 name : ByteArray
 frm : List Int
 to_ : Int
structure Au where
 states : Int
 moves : List Mv
 last : List Int
def inS (S : Int) (s : Int) : Bool := decide (0 ≤ s) && decide (s < S)
def Mv.err (S : Int) (m : Mv) : Int := if Ak m.name = true ∧ A6 m.name = false then (if 4 < m.frm.length then 3 else if m.frm.all (inS S) = true ∧ inS S m.to_ = true then 0 else 10) else 1
def A_ (S : Int) : List Mv → Int
 | [] => 0
 | m :: ms => if m.err S = 0 then A_ S ms else m.err S
def Au.may (a : Au) (S M : Int) : Int := if a.states < 0 ∨ S < a.states ∨ M < a.moves.length then 3 else if A_ a.states a.moves = 0 then (if a.last.all (inS a.states) = true then 0 else 10) else A_ a.states a.moves
theorem EM (S : Int) (xs ys : List Mv) : A_ S (xs ++ ys) = if A_ S xs = 0 then A_ S ys else A_ S xs := by
 induction xs with
 | nil => simp [A_]
 | cons x xs ih =>
  simp only [List.cons_append, A_, ih]
  by_cases h : x.err S = 0
  ·simp [h]
  ·simp [h]
theorem Cn {S : Int} {xs : List Mv} {k : Nat} {m : Mv} (hm : xs[k]? = some m) (h : A_ S (xs.take k) = 0) : A_ S (xs.take (k + 1)) = m.err S := by
 rw [Af hm, EM, if_pos h]
 simp only [A_]
 split
 ·rename_i h1
  rw [h1]
 ·rfl
theorem Lo {S : Int} {xs : List Mv} {k : Nat} (h : ¬ A_ S (xs.take k) = 0) : A_ S xs = A_ S (xs.take k) := by
 have := EM S (xs.take k) (xs.drop k)
 rw [List.take_append_drop, if_neg h] at this
 exact this
theorem Hw {S : Int} : ∀ {xs : List Mv}, A_ S xs = 0 ↔ ∀ m ∈ xs, m.err S = 0
 | [] => by simp [A_]
 | x :: xs => by
  rw [A_]
  by_cases h : x.err S = 0
  ·rw [if_pos h, Hw]
   simp [h]
  ·rw [if_neg h]
   simp [h]
theorem Mv.err_ok {S : Int} {m : Mv} : m.err S = 0 ↔ (Ak m.name = true ∧ A6 m.name = false) ∧ m.frm.length ≤ 4 ∧ m.frm.all (inS S) = true ∧ inS S m.to_ = true := by
 unfold Mv.err
 by_cases h1 : Ak m.name = true ∧ A6 m.name = false
 ·rw [if_pos h1]
  by_cases h2 : 4 < m.frm.length
  ·rw [if_pos h2]
   constructor
   ·intro h; cases h
   ·intro h; omega
  ·rw [if_neg h2]
   by_cases h3 : m.frm.all (inS S) = true ∧ inS S m.to_ = true
   ·rw [if_pos h3]
    exact ⟨fun _ => ⟨h1, by omega, h3⟩, fun _ => rfl⟩
   ·rw [if_neg h3]
    constructor
    ·intro h; cases h
    ·intro h; exact absurd h.2.2 h3
 ·rw [if_neg h1]
  constructor
  ·intro h; cases h
  ·intro h; exact absurd h.1 h1
theorem Au.may_ok {a : Au} {S M : Int} : a.may S M = 0 ↔ (0 ≤ a.states ∧ a.states ≤ S ∧ a.moves.length ≤ M) ∧ (∀ m ∈ a.moves, m.err a.states = 0) ∧ a.last.all (inS a.states) = true := by
 unfold Au.may
 by_cases h1 : a.states < 0 ∨ S < a.states ∨ M < a.moves.length
 ·rw [if_pos h1]
  constructor
  ·intro h; cases h
  ·intro h; omega
 ·rw [if_neg h1, ← Hw]
  by_cases h2 : A_ a.states a.moves = 0
  ·rw [if_pos h2]
   by_cases h3 : a.last.all (inS a.states) = true
   ·rw [if_pos h3]
    exact ⟨fun _ => ⟨by omega, h2, h3⟩, fun _ => rfl⟩
   ·rw [if_neg h3]
    constructor
    ·intro h; cases h
    ·intro h; exact absurd h.2.2 h3
  ·rw [if_neg h2]
   constructor
   ·intro h; exact absurd h h2
   ·intro h; exact absurd h.2.1 h2
theorem DL {S s : Int} : inS S s = true ↔ 0 ≤ s ∧ s < S := by simp [inS]
def Bp : List (List Bool) → List Int → Bool
 | b :: bs, s :: ss => b.getD s.toNat false && Bp bs ss
 | [], [] => true
 | _, _ => false
def Mv.fits (m : Mv) (n : ByteArray) (below : List (List Bool)) : Bool := decide (m.name = n) && Bp below m.frm
def BU (n : ByteArray) (below : List (List Bool)) (out : List Bool) (m : Mv) : List Bool := if m.fits n below = true then out.set m.to_.toNat true else out
def Au.ending (a : Au) (n : ByteArray) (below : List (List Bool)) : List Bool := a.moves.foldl (BU n below) (List.replicate a.states.toNat false)
mutual
def Au.ends (a : Au) : Tm → List Bool
 | .mk n xs => a.ending n (a.endsL xs)
def Au.endsL (a : Au) : List Tm → List (List Bool)
 | [] => []
 | t :: ts => a.ends t :: a.endsL ts
end
theorem Au.ends_eq (a : Au) (t : Tm) : a.ends t = a.ending t.name (a.endsL t.args) := by cases t; rfl
theorem Au.endsL_eq (a : Au) : ∀ ts : List Tm, a.endsL ts = ts.map a.ends
 | [] => rfl
 | t :: ts => by rw [Au.endsL, Au.endsL_eq a ts]; rfl
def Au.acc (a : Au) (t : Tm) : Bool := a.last.any fun s => (a.ends t).getD s.toNat false
theorem Io (n : ByteArray) (below : List (List Bool)) (out : List Bool) (m : Mv) : (BU n below out m).length = out.length := by
 unfold BU
 split <;> simp
theorem Cp (n : ByteArray) (below : List (List Bool)) : ∀ (ms : List Mv) (out : List Bool), (ms.foldl (BU n below) out).length = out.length
 | [], _ => rfl
 | m :: ms, out => by rw [List.foldl_cons, Cp n below ms, Io]
theorem Au.ending_length (a : Au) (n : ByteArray) (below : List (List Bool)) : (a.ending n below).length = a.states.toNat := by
 unfold Au.ending
 rw [Cp]
 simp
theorem Au.ends_length (a : Au) (t : Tm) : (a.ends t).length = a.states.toNat := by rw [Au.ends_eq, Au.ending_length]
structure Au.Good (a : Au) : Prop where
 states : 0 ≤ a.states
 to_ : ∀ m ∈ a.moves, 0 ≤ m.to_ ∧ m.to_ < a.states
 frm : ∀ m ∈ a.moves, ∀ s ∈ m.frm, 0 ≤ s ∧ s < a.states
 last : ∀ s ∈ a.last, 0 ≤ s ∧ s < a.states
theorem Au.may_good {a : Au} {S M : Int} (h : a.may S M = 0) : a.Good := by
 obtain ⟨h1, h2, h3⟩ := Au.may_ok.1 h
 refine ⟨h1.1, fun m hm => ?_, fun m hm s hs => ?_, fun s hs => ?_⟩
 ·exact DL.1 (Mv.err_ok.1 (h2 m hm)).2.2.2
 ·exact DL.1 (List.all_eq_true.1 (Mv.err_ok.1 (h2 m hm)).2.2.1 s hs)
 ·exact DL.1 (List.all_eq_true.1 h3 s hs)

set_option maxRecDepth 100000
def Bq : IR :=
 (.seq (.ops [.i 2 (.mov (.c (.one (.full []))))]) (.seq (.seq (.ops [.m 3 0, .i 4 (.eqN false (.t 3))]) (.cond (.t 4) (.seq (.ops [.i 2 (.mov (.c (.one (.full []))))]) .ret) .skip)) (.seq (.ops [.i 5 (.buildFlat []), .m 6 0, .i 7 (.append false 3 1 8 (.t 5) (.t 6)), .m 2 7]) .ret)))
theorem C4 : OkF Try.prog 48 8 [] Bq [.t 2] := .of Try.func48 rfl rfl (by kernel_rfl) rfl
def BJ : IR :=
 (.seq (.ops [.i 4 (.mov (.c (.one (.st (.bool false)))))]) (.seq (.ops [.m 5 0, .m 6 1, .i 7 (.callS 55 [.t 5, .t 6]), .i 8 (.bin .geq (.t 7) (.n 0)), .m 4 8]) .ret))
theorem CB : OkF Try.prog 49 9 [7] BJ [.t 4] := .of Try.func49 rfl rfl (by kernel_rfl) rfl
def BV : IR :=
 (.seq (.ops [.i 4 (.mov (.n 0))]) (.seq (.seq (.ops [.m 6 0, .i 7 (.len false (.t 6)), .i 8 (.mov (.n 0))]) (.block 0 (.loop (.seq (.ops [.i 9 (.bin .lss (.t 8) (.t 7))]) (.seq (.cond (.t 9) .skip (.exit 0)) (.seq (.block 1 (.seq (.ops [.m 10 8, .m 5 10]) (.seq (.ops [.m 11 1, .m 12 0, .m 13 5, .i 14 (.indexAddr 1 (.t 12) (.t 13)), .l 15 14, .i 16 (.callV (.t 11) [.t 15])]) (.cond (.t 16) (.seq (.ops [.m 17 5, .m 4 17]) .ret) .skip)))) (.ops [.i 18 (.bin .add (.t 8) (.n 1)), .m 8 18]))))))) (.seq (.ops [.i 4 (.mov (.c (.one (.st (.int .i64 (-1))))))]) .ret)))
theorem CX : OkF Try.prog 55 19 [] BV [.t 4] := .of Try.func55 rfl rfl (by kernel_rfl) rfl
def Cs : IR :=
 (.seq (.ops [.i 3 (.mov (.c (.one (.st (.bool false)))))]) (.seq (.ops [.m 4 0, .i 5 (.bin .lss (.t 4) (.n 0)), .m 6 5, .mk (some 7) (some (6, false)) (.mov (.t 0)) .no, .mk (some 8) (some (6, false)) (.fieldAddr 0 (.t 1)) .no, .mk (some 9) (some (6, false)) (.load false 1 (.t 8)) .no, .mk (some 10) (some (6, false)) (.bin .geq (.t 7) (.t 9)) .no, .i 11 (.pick (.t 6) (.c (.one (.st (.bool true)))) (.t 10)), .m 3 11]) .ret))
theorem Ea : OkF Try.prog 50 12 [] Cs [.t 3] := .of Try.func50 rfl rfl (by kernel_rfl) rfl
def BR : IR :=
 (.seq (.ops [.i 3 (.box 25 (.t 0)), .i 6 (.mov (.n 0))]) (.seq (.seq (.ops [.f 11 0 3, .l 12 11, .i 13 (.bin .lss (.t 12) (.n 0)), .m 14 13, .mk (some 15) (some (14, false)) (.fieldAddr 0 (.t 3)) .no, .mk (some 16) (some (14, false)) (.load false 1 (.t 15)) .no, .mk (some 17) (some (14, false)) (.mov (.t 1)) .no, .mk (some 18) (some (14, false)) (.bin .gtr (.t 16) (.t 17)) .no, .i 19 (.pick (.t 14) (.c (.one (.st (.bool true)))) (.t 18)), .m 20 19, .mk (some 21) (some (20, false)) (.fieldAddr 1 (.t 3)) .no, .mk (some 22) (some (20, false)) (.load false 1 (.t 21)) .no, .mk (some 23) (some (20, false)) (.len false (.t 22)) .no, .mk (some 24) (some (20, false)) (.mov (.t 2)) .no, .mk (some 25) (some (20, false)) (.bin .gtr (.t 23) (.t 24)) .no, .i 26 (.pick (.t 20) (.c (.one (.st (.bool true)))) (.t 25))]) (.cond (.t 26) (.seq (.ops [.i 6 (.mov (.n 3))]) .ret) .skip)) (.seq (.seq (.ops [.f 27 1 3, .l 28 27, .i 29 (.len false (.t 28)), .i 30 (.mov (.n 0))]) (.block 0 (.loop (.seq (.ops [.i 31 (.bin .lss (.t 30) (.t 29))]) (.seq (.cond (.t 31) .skip (.exit 0)) (.seq (.block 1 (.seq (.ops [.i 32 (.indexAddr 3 (.t 28) (.t 30)), .L 33 3 32, .i 8 (.alloc 50 [.st (.str (ByteArray.mk (#[]))), .full [], .st (.int .i64 0)]), .s 3 8 33]) (.seq (.seq (.ops [.f 34 0 8, .l 35 34, .i 36 (.call 46 [.t 35]), .i 37 (.un .not (.t 36)), .m 38 37, .mk (some 39) (some (38, false)) (.fieldAddr 0 (.t 8)) .no, .mk (some 40) (some (38, false)) (.load false 1 (.t 39)) .no, .mk (some 41) (some (38, false)) (.call 47 [.t 40]) .no, .i 42 (.pick (.t 38) (.c (.one (.st (.bool true)))) (.t 41))]) (.cond (.t 42) (.seq (.ops [.i 6 (.mov (.n 1))]) .ret) .skip)) (.seq (.seq (.ops [.f 43 1 8, .l 44 43, .i 45 (.len false (.t 44)), .i 46 (.bin .gtr (.t 45) (.n 4))]) (.cond (.t 46) (.seq (.ops [.i 6 (.mov (.n 3))]) .ret) .skip)) (.seq (.ops [.f 47 1 8, .l 48 47, .mk (some 49) none (.callN 48 [.t 48]) (.keeps [8, 8]), .mk (some 50) none (.fieldAddr 2 (.t 8)) (.onb 8), .mk (some 51) none (.load false 1 (.t 50)) (.onb 8), .i 52 (.buildFlat [.t 51]), .i 53 (.append false 3 1 8 (.t 49) (.t 52)), .i 54 (.len false (.t 53)), .i 55 (.mov (.n 0))]) (.block 2 (.loop (.seq (.ops [.i 56 (.bin .lss (.t 55) (.t 54))]) (.seq (.cond (.t 56) .skip (.exit 2)) (.seq (.block 3 (.seq (.ops [.i 57 (.indexAddr 1 (.t 53) (.t 55)), .l 58 57, .m 10 58]) (.seq (.ops [.m 59 10, .i 60 (.bin .lss (.t 59) (.n 0)), .m 61 60, .mk (some 62) (some (61, false)) (.mov (.t 10)) .no, .mk (some 63) (some (61, false)) (.fieldAddr 0 (.t 3)) .no, .mk (some 64) (some (61, false)) (.load false 1 (.t 63)) .no, .mk (some 65) (some (61, false)) (.bin .geq (.t 62) (.t 64)) .no, .i 66 (.pick (.t 61) (.c (.one (.st (.bool true)))) (.t 65))]) (.cond (.t 66) (.seq (.ops [.i 6 (.mov (.n 10))]) .ret) .skip)))) (.ops [.i 67 (.bin .add (.t 55) (.n 1)), .m 55 67]))))))))))) (.ops [.i 68 (.bin .add (.t 30) (.n 1)), .m 30 68]))))))) (.seq (.seq (.ops [.f 69 2 3, .l 70 69, .i 71 (.makeFunc 50 [.t 3]), .i 72 (.callS 49 [.t 70, .t 71])]) (.cond (.t 72) (.seq (.ops [.i 6 (.mov (.n 10))]) .ret) .skip)) (.seq (.ops [.i 6 (.mov (.n 0))]) .ret)))))
theorem Bg : OkF Try.prog 35 73 [20000049, 72] BR [.t 6] := .of Try.func35 rfl rfl (by kernel_rfl) rfl
def EI : IR :=
 (.seq (.ops [.i 1 (.box 25 (.t 0)), .i 2 (.mov (.n 0))]) (.seq (.ops [.L 3 3 1, .i 4 (.call 35 [.t 3, .n 8, .n 40]), .m 2 4]) .ret))
theorem HS : OkF Try.prog 14 5 [] EI [.t 2] := .of Try.func14 rfl rfl (by kernel_rfl) rfl
def B1 : IR :=
 (.seq (.ops [.i 3 (.box 25 (.t 0)), .i 6 (.mov (.n 0))]) (.seq (.seq (.ops [.f 11 0 3, .l 12 11, .i 13 (.bin .lss (.t 12) (.n 0)), .m 14 13, .mk (some 15) (some (14, false)) (.fieldAddr 0 (.t 3)) .no, .mk (some 16) (some (14, false)) (.load false 1 (.t 15)) .no, .mk (some 17) (some (14, false)) (.mov (.t 1)) .no, .mk (some 18) (some (14, false)) (.bin .gtr (.t 16) (.t 17)) .no, .i 19 (.pick (.t 14) (.c (.one (.st (.bool true)))) (.t 18)), .m 20 19, .mk (some 21) (some (20, false)) (.fieldAddr 1 (.t 3)) .no, .mk (some 22) (some (20, false)) (.load false 1 (.t 21)) .no, .mk (some 23) (some (20, false)) (.len false (.t 22)) .no, .mk (some 24) (some (20, false)) (.mov (.t 2)) .no, .mk (some 25) (some (20, false)) (.bin .gtr (.t 23) (.t 24)) .no, .i 26 (.pick (.t 20) (.c (.one (.st (.bool true)))) (.t 25))]) (.cond (.t 26) (.seq (.ops [.i 6 (.mov (.n 3))]) .ret) .skip)) (.seq (.seq (.ops [.i 7 (.mov (.n 0))]) (.block 0 (.loop (.seq (.seq (.ops [.m 27 7, .f 28 1 3, .l 29 28, .i 30 (.len false (.t 29)), .i 31 (.bin .lss (.t 27) (.t 30))]) (.cond (.t 31) .skip (.exit 0))) (.seq (.block 1 (.seq (.ops [.f 34 1 3, .l 35 34, .m 36 7, .i 37 (.indexAddr 3 (.t 35) (.t 36)), .L 38 3 37, .i 8 (.alloc 50 [.st (.str (ByteArray.mk (#[]))), .full [], .st (.int .i64 0)]), .s 3 8 38]) (.seq (.seq (.ops [.f 39 0 8, .l 40 39, .i 41 (.call 21 [.t 40]), .i 42 (.un .not (.t 41)), .m 43 42, .mk (some 44) (some (43, false)) (.fieldAddr 0 (.t 8)) .no, .mk (some 45) (some (43, false)) (.load false 1 (.t 44)) .no, .mk (some 46) (some (43, false)) (.call 22 [.t 45]) .no, .i 47 (.pick (.t 43) (.c (.one (.st (.bool true)))) (.t 46))]) (.cond (.t 47) (.seq (.ops [.i 6 (.mov (.n 1))]) .ret) .skip)) (.seq (.seq (.ops [.f 48 1 8, .l 49 48, .i 50 (.len false (.t 49)), .i 51 (.bin .gtr (.t 50) (.n 4))]) (.cond (.t 51) (.seq (.ops [.i 6 (.mov (.n 3))]) .ret) .skip)) (.seq (.seq (.ops [.i 9 (.mov (.n 0))]) (.block 2 (.loop (.seq (.seq (.ops [.m 52 9, .f 53 1 8, .l 54 53, .i 55 (.len false (.t 54)), .i 56 (.bin .lss (.t 52) (.t 55))]) (.cond (.t 56) .skip (.exit 2))) (.seq (.block 3 (.seq (.ops [.f 59 1 8, .l 60 59, .m 61 9, .i 62 (.indexAddr 1 (.t 60) (.t 61)), .l 63 62, .i 64 (.bin .lss (.t 63) (.n 0)), .m 65 64, .mk (some 66) (some (65, false)) (.fieldAddr 1 (.t 8)) .no, .mk (some 67) (some (65, false)) (.load false 1 (.t 66)) .no, .mk (some 68) (some (65, false)) (.mov (.t 9)) .no, .mk (some 69) (some (65, false)) (.indexAddr 1 (.t 67) (.t 68)) .no, .mk (some 70) (some (65, false)) (.load false 1 (.t 69)) .no, .mk (some 71) (some (65, false)) (.fieldAddr 0 (.t 3)) .no, .mk (some 72) (some (65, false)) (.load false 1 (.t 71)) .no, .mk (some 73) (some (65, false)) (.bin .geq (.t 70) (.t 72)) .no, .i 74 (.pick (.t 65) (.c (.one (.st (.bool true)))) (.t 73))]) (.cond (.t 74) (.seq (.ops [.i 6 (.mov (.n 10))]) .ret) .skip))) (.ops [.m 57 9, .i 58 (.bin .add (.t 57) (.n 1)), .m 9 58])))))) (.seq (.ops [.f 75 2 8, .l 76 75, .i 77 (.bin .lss (.t 76) (.n 0)), .m 78 77, .mk (some 79) (some (78, false)) (.fieldAddr 2 (.t 8)) .no, .mk (some 80) (some (78, false)) (.load false 1 (.t 79)) .no, .mk (some 81) (some (78, false)) (.fieldAddr 0 (.t 3)) .no, .mk (some 82) (some (78, false)) (.load false 1 (.t 81)) .no, .mk (some 83) (some (78, false)) (.bin .geq (.t 80) (.t 82)) .no, .i 84 (.pick (.t 78) (.c (.one (.st (.bool true)))) (.t 83))]) (.cond (.t 84) (.seq (.ops [.i 6 (.mov (.n 10))]) .ret) .skip))))))) (.ops [.m 32 7, .i 33 (.bin .add (.t 32) (.n 1)), .m 7 33])))))) (.seq (.seq (.ops [.i 10 (.mov (.n 0))]) (.block 4 (.loop (.seq (.seq (.ops [.m 85 10, .f 86 2 3, .l 87 86, .i 88 (.len false (.t 87)), .i 89 (.bin .lss (.t 85) (.t 88))]) (.cond (.t 89) .skip (.exit 4))) (.seq (.block 5 (.seq (.ops [.f 92 2 3, .l 93 92, .m 94 10, .i 95 (.indexAddr 1 (.t 93) (.t 94)), .l 96 95, .i 97 (.bin .lss (.t 96) (.n 0)), .m 98 97, .mk (some 99) (some (98, false)) (.fieldAddr 2 (.t 3)) .no, .mk (some 100) (some (98, false)) (.load false 1 (.t 99)) .no, .mk (some 101) (some (98, false)) (.mov (.t 10)) .no, .mk (some 102) (some (98, false)) (.indexAddr 1 (.t 100) (.t 101)) .no, .mk (some 103) (some (98, false)) (.load false 1 (.t 102)) .no, .mk (some 104) (some (98, false)) (.fieldAddr 0 (.t 3)) .no, .mk (some 105) (some (98, false)) (.load false 1 (.t 104)) .no, .mk (some 106) (some (98, false)) (.bin .geq (.t 103) (.t 105)) .no, .i 107 (.pick (.t 98) (.c (.one (.st (.bool true)))) (.t 106))]) (.cond (.t 107) (.seq (.ops [.i 6 (.mov (.n 10))]) .ret) .skip))) (.ops [.m 90 10, .i 91 (.bin .add (.t 90) (.n 1)), .m 10 91])))))) (.seq (.ops [.i 6 (.mov (.n 0))]) .ret)))))
theorem CT : OkF Try.prog 7 108 [] B1 [.t 6] := .of Try.func7 rfl rfl (by kernel_rfl) rfl
def Fw : IR :=
 (.seq (.ops [.i 2 (.box 25 (.t 0)), .i 3 (.box 28 (.t 1)), .i 4 (.mov (.c (.one (.full []))))]) (.seq (.ops [.i 5 (.mov (.c (.one (.full []))))]) (.seq (.seq (.ops [.i 6 (.mov (.n 0))]) (.block 0 (.loop (.seq (.seq (.ops [.m 7 6, .f 8 1 3, .l 9 8, .i 10 (.len false (.t 9)), .i 11 (.bin .lss (.t 7) (.t 10))]) (.cond (.t 11) .skip (.exit 0))) (.seq (.block 1 (.ops [.m 14 5, .L 15 3 2, .f 16 1 3, .l 17 16, .m 18 6, .i 19 (.indexAddr 2 (.t 17) (.t 18)), .L 20 2 19, .i 21 (.call 26 [.t 15, .t 20]), .i 22 (.buildSlice false 58 1 [.t 21]), .i 23 (.append false 58 1 24 (.t 14) (.t 22)), .m 5 23])) (.ops [.m 12 6, .i 13 (.bin .add (.t 12) (.n 1)), .m 6 13])))))) (.seq (.ops [.L 24 3 2, .f 25 0 3, .l 26 25, .m 27 5, .i 28 (.call 39 [.t 24, .t 26, .t 27]), .m 4 28]) .ret))))
theorem JA : OkF Try.prog 26 29 [] Fw [.t 4] := .of Try.func26 rfl rfl (by kernel_rfl) rfl
def Fk : IR :=
 (.seq (.ops [.i 3 (.box 25 (.t 0)), .i 6 (.mov (.c (.one (.full []))))]) (.seq (.ops [.f 12 0 3, .l 13 12, .i 14 (.makeSlice 4 1 1 [.bool false] (.t 13) (.t 13)), .m 7 14]) (.seq (.seq (.ops [.i 8 (.mov (.n 0))]) (.block 0 (.loop (.seq (.seq (.ops [.m 15 8, .f 16 1 3, .l 17 16, .i 18 (.len false (.t 17)), .i 19 (.bin .lss (.t 15) (.t 18))]) (.cond (.t 19) .skip (.exit 0))) (.seq (.block 1 (.seq (.ops [.f 22 1 3, .l 23 22, .m 24 8, .i 25 (.indexAddr 3 (.t 23) (.t 24)), .L 26 3 25, .i 9 (.alloc 50 [.st (.str (ByteArray.mk (#[]))), .full [], .st (.int .i64 0)]), .s 3 9 26]) (.seq (.seq (.ops [.f 27 0 9, .l 28 27, .m 29 1, .i 30 (.bin .neq (.t 28) (.t 29)), .m 31 30, .mk (some 32) (some (31, false)) (.fieldAddr 1 (.t 9)) .no, .mk (some 33) (some (31, false)) (.load false 1 (.t 32)) .no, .mk (some 34) (some (31, false)) (.len false (.t 33)) .no, .mk (some 35) (some (31, false)) (.mov (.t 2)) .no, .mk (some 36) (some (31, false)) (.len false (.t 35)) .no, .mk (some 37) (some (31, false)) (.bin .neq (.t 34) (.t 36)) .no, .i 38 (.pick (.t 31) (.c (.one (.st (.bool true)))) (.t 37))]) (.cond (.t 38) (.exit 1) .skip)) (.seq (.ops [.i 10 (.mov (.c (.one (.st (.bool true)))))]) (.seq (.seq (.ops [.i 11 (.mov (.n 0))]) (.block 2 (.loop (.seq (.seq (.ops [.m 39 11, .m 40 2, .i 41 (.len false (.t 40)), .i 42 (.bin .lss (.t 39) (.t 41))]) (.cond (.t 42) .skip (.exit 2))) (.seq (.block 3 (.ops [.m 45 10, .m 46 45, .mk (some 47) (some (46, true)) (.mov (.t 2)) .no, .mk (some 48) (some (46, true)) (.mov (.t 11)) .no, .mk (some 49) (some (46, true)) (.indexAddr 1 (.t 47) (.t 48)) .no, .mk (some 50) (some (46, true)) (.load false 1 (.t 49)) .no, .mk (some 51) (some (46, true)) (.fieldAddr 1 (.t 9)) .no, .mk (some 52) (some (46, true)) (.load false 1 (.t 51)) .no, .mk (some 53) (some (46, true)) (.mov (.t 11)) .no, .mk (some 54) (some (46, true)) (.indexAddr 1 (.t 52) (.t 53)) .no, .mk (some 55) (some (46, true)) (.load false 1 (.t 54)) .no, .mk (some 56) (some (46, true)) (.indexAddr 1 (.t 50) (.t 55)) .no, .mk (some 57) (some (46, true)) (.load false 1 (.t 56)) .no, .i 58 (.pick (.t 46) (.t 57) (.c (.one (.st (.bool false))))), .m 10 58])) (.ops [.m 43 11, .i 44 (.bin .add (.t 43) (.n 1)), .m 11 44])))))) (.seq (.ops [.m 59 10]) (.cond (.t 59) (.ops [.m 60 7, .f 61 2 9, .l 62 61, .i 63 (.indexAddr 1 (.t 60) (.t 62)), .mk none none (.store 1 (.t 63) (.c (.one (.st (.bool true))))) .no]) .skip))))))) (.ops [.m 20 8, .i 21 (.bin .add (.t 20) (.n 1)), .m 8 21])))))) (.seq (.ops [.m 64 7, .m 6 64]) .ret))))
theorem Jf : OkF Try.prog 39 65 [] Fk [.t 6] := .of Try.func39 rfl rfl (by kernel_rfl) rfl
def Ge : IR :=
 (.seq (.ops [.i 2 (.box 25 (.t 0)), .i 4 (.mov (.c (.one (.st (.bool false)))))]) (.seq (.seq (.ops [.i 5 (.mov (.n 0))]) (.block 0 (.loop (.seq (.seq (.ops [.m 6 5, .f 7 2 2, .l 8 7, .i 9 (.len false (.t 8)), .i 10 (.bin .lss (.t 6) (.t 9))]) (.cond (.t 10) .skip (.exit 0))) (.seq (.block 1 (.seq (.ops [.m 13 1, .f 14 2 2, .l 15 14, .m 16 5, .i 17 (.indexAddr 1 (.t 15) (.t 16)), .l 18 17, .i 19 (.indexAddr 1 (.t 13) (.t 18)), .l 20 19]) (.cond (.t 20) (.seq (.ops [.i 4 (.mov (.c (.one (.st (.bool true)))))]) .ret) .skip))) (.ops [.m 11 5, .i 12 (.bin .add (.t 11) (.n 1)), .m 5 12])))))) (.seq (.ops [.i 4 (.mov (.c (.one (.st (.bool false)))))]) .ret)))
theorem Kc : OkF Try.prog 25 21 [] Ge [.t 4] := .of Try.func25 rfl rfl (by kernel_rfl) rfl
def Dg : IR :=
 (.seq (.ops [.i 2 (.box 25 (.t 0)), .i 3 (.box 28 (.t 1)), .i 4 (.mov (.c (.one (.st (.bool false)))))]) (.seq (.ops [.L 5 3 2, .L 6 3 2, .L 7 2 3, .i 8 (.call 26 [.t 6, .t 7]), .i 9 (.call 25 [.t 5, .t 8]), .m 4 9]) .ret))
theorem G_ : OkF Try.prog 10 10 [] Dg [.t 4] := .of Try.func10 rfl rfl (by kernel_rfl) rfl
def EE : IR :=
 (.seq (.ops [.i 1 (.box 25 (.t 0)), .i 2 (.mov (.c (.one (.st (.bool false)))))]) (.seq (.seq (.ops [.i 3 (.mov (.n 0))]) (.block 0 (.loop (.seq (.seq (.ops [.m 4 3, .f 5 1 1, .l 6 5, .i 7 (.len false (.t 6)), .i 8 (.bin .lss (.t 4) (.t 7))]) (.cond (.t 8) .skip (.exit 0))) (.seq (.block 1 (.seq (.ops [.f 11 1 1, .l 12 11, .m 13 3, .i 14 (.indexAddr 3 (.t 12) (.t 13)), .f 15 1 14, .l 16 15, .i 17 (.len false (.t 16)), .i 18 (.bin .gtr (.t 17) (.n 50))]) (.cond (.t 18) (.seq (.ops [.i 2 (.mov (.c (.one (.st (.bool true)))))]) .ret) .skip))) (.ops [.m 9 3, .i 10 (.bin .add (.t 9) (.n 1)), .m 3 10])))))) (.seq (.ops [.f 19 1 1, .l 20 19, .i 21 (.len false (.t 20)), .i 22 (.bin .gtr (.t 21) (.n 100)), .m 23 22, .mk (some 24) (some (23, false)) (.fieldAddr 2 (.t 1)) .no, .mk (some 25) (some (23, false)) (.load false 1 (.t 24)) .no, .mk (some 26) (some (23, false)) (.len false (.t 25)) .no, .mk (some 27) (some (23, false)) (.bin .gtr (.t 26) (.n 100)) .no, .i 28 (.pick (.t 23) (.c (.one (.st (.bool true)))) (.t 27)), .m 2 28]) .ret)))
theorem HJ : OkF Try.prog 5 29 [] EE [.t 2] := .of Try.func5 rfl rfl (by kernel_rfl) rfl

def Ds : IR :=
 (.seq (.ops [.i 2 (.mov (.c (.one (.st (.bool false)))))]) (.seq (.ops [.m 3 0, .i 4 (.bin .geq (.t 3) (.c (.one (.st (.int .u8 97))))), .m 5 4, .mk (some 6) (some (5, true)) (.mov (.t 0)) .no, .mk (some 7) (some (5, true)) (.bin .leq (.t 6) (.c (.one (.st (.int .u8 122))))) .no, .i 8 (.pick (.t 5) (.t 7) (.c (.one (.st (.bool false))))), .m 9 8, .mk (some 10) (some (9, false)) (.mov (.t 0)) .no, .mk (some 11) (some (9, false)) (.bin .geq (.t 10) (.c (.one (.st (.int .u8 65))))) .no, .mk (some 12) (some (9, false)) (.mov (.t 11)) .no, .mk (some 13) (some (12, true)) (.mov (.t 0)) .no, .mk (some 14) (some (12, true)) (.bin .leq (.t 13) (.c (.one (.st (.int .u8 90))))) .no, .mk (some 15) (some (9, false)) (.pick (.t 12) (.t 14) (.c (.one (.st (.bool false))))) .no, .i 16 (.pick (.t 9) (.c (.one (.st (.bool true)))) (.t 15)), .m 17 16, .mk (some 18) (some (17, false)) (.mov (.t 0)) .no, .mk (some 19) (some (17, false)) (.bin .geq (.t 18) (.c (.one (.st (.int .u8 48))))) .no, .mk (some 20) (some (17, false)) (.mov (.t 19)) .no, .mk (some 21) (some (20, true)) (.mov (.t 0)) .no, .mk (some 22) (some (20, true)) (.bin .leq (.t 21) (.c (.one (.st (.int .u8 57))))) .no, .mk (some 23) (some (17, false)) (.pick (.t 20) (.t 22) (.c (.one (.st (.bool false))))) .no, .i 24 (.pick (.t 17) (.c (.one (.st (.bool true)))) (.t 23)), .m 2 24]) .ret))
theorem G1 : OkF Try.prog 54 25 [] Ds [.t 2] := .of Try.func54 rfl rfl (by kernel_rfl) rfl
def EF : IR :=
 (.seq (.ops [.i 2 (.mov (.c (.one (.st (.bool false)))))]) (.seq (.ops [.m 3 0, .i 4 (.bin .geq (.t 3) (.c (.one (.st (.int .u8 97))))), .m 5 4, .mk (some 6) (some (5, true)) (.mov (.t 0)) .no, .mk (some 7) (some (5, true)) (.bin .leq (.t 6) (.c (.one (.st (.int .u8 122))))) .no, .i 8 (.pick (.t 5) (.t 7) (.c (.one (.st (.bool false))))), .m 9 8, .mk (some 10) (some (9, false)) (.mov (.t 0)) .no, .mk (some 11) (some (9, false)) (.bin .geq (.t 10) (.c (.one (.st (.int .u8 65))))) .no, .mk (some 12) (some (9, false)) (.mov (.t 11)) .no, .mk (some 13) (some (12, true)) (.mov (.t 0)) .no, .mk (some 14) (some (12, true)) (.bin .leq (.t 13) (.c (.one (.st (.int .u8 90))))) .no, .mk (some 15) (some (9, false)) (.pick (.t 12) (.t 14) (.c (.one (.st (.bool false))))) .no, .i 16 (.pick (.t 9) (.c (.one (.st (.bool true)))) (.t 15)), .m 17 16, .mk (some 18) (some (17, false)) (.mov (.t 0)) .no, .mk (some 19) (some (17, false)) (.bin .geq (.t 18) (.c (.one (.st (.int .u8 48))))) .no, .mk (some 20) (some (17, false)) (.mov (.t 19)) .no, .mk (some 21) (some (20, true)) (.mov (.t 0)) .no, .mk (some 22) (some (20, true)) (.bin .leq (.t 21) (.c (.one (.st (.int .u8 57))))) .no, .mk (some 23) (some (17, false)) (.pick (.t 20) (.t 22) (.c (.one (.st (.bool false))))) .no, .i 24 (.pick (.t 17) (.c (.one (.st (.bool true)))) (.t 23)), .m 2 24]) .ret))
theorem HL : OkF Try.prog 38 25 [] EF [.t 2] := .of Try.func38 rfl rfl (by kernel_rfl) rfl
def Bz : IR :=
 (.seq (.ops [.i 2 (.mov (.c (.one (.st (.bool false)))))]) (.seq (.seq (.ops [.m 4 0, .i 5 (.len true (.t 4)), .i 6 (.bin .lss (.t 5) (.n 1)), .m 7 6, .mk (some 8) (some (7, false)) (.mov (.t 0)) .no, .mk (some 9) (some (7, false)) (.len true (.t 8)) .no, .mk (some 10) (some (7, false)) (.bin .gtr (.t 9) (.n 8)) .no, .i 11 (.pick (.t 7) (.c (.one (.st (.bool true)))) (.t 10)), .m 12 11, .mk (some 13) (some (12, false)) (.mov (.t 0)) .no, .mk (some 14) (some (12, false)) (.indexStr (.t 13) (.n 0)) .no, .mk (some 15) (some (12, false)) (.bin .geq (.t 14) (.c (.one (.st (.int .u8 48))))) .no, .mk (some 16) (some (12, false)) (.mov (.t 15)) .no, .mk (some 17) (some (16, true)) (.mov (.t 0)) .no, .mk (some 18) (some (16, true)) (.indexStr (.t 17) (.n 0)) .no, .mk (some 19) (some (16, true)) (.bin .leq (.t 18) (.c (.one (.st (.int .u8 57))))) .no, .mk (some 20) (some (12, false)) (.pick (.t 16) (.t 19) (.c (.one (.st (.bool false))))) .no, .i 21 (.pick (.t 12) (.c (.one (.st (.bool true)))) (.t 20))]) (.cond (.t 21) (.seq (.ops [.i 2 (.mov (.c (.one (.st (.bool false)))))]) .ret) .skip)) (.seq (.seq (.ops [.m 22 0, .i 23 (.len true (.t 22)), .i 24 (.mov (.n 0))]) (.block 0 (.loop (.seq (.ops [.i 25 (.bin .lss (.t 24) (.t 23))]) (.seq (.cond (.t 25) .skip (.exit 0)) (.seq (.block 1 (.seq (.ops [.m 26 24, .m 3 26]) (.seq (.ops [.m 27 0, .m 28 3, .i 29 (.indexStr (.t 27) (.t 28)), .i 30 (.call 54 [.t 29]), .i 31 (.un .not (.t 30))]) (.cond (.t 31) (.seq (.ops [.i 2 (.mov (.c (.one (.st (.bool false)))))]) .ret) .skip)))) (.ops [.i 32 (.bin .add (.t 24) (.n 1)), .m 24 32]))))))) (.seq (.ops [.i 2 (.mov (.c (.one (.st (.bool true)))))]) .ret))))
theorem CS : OkF Try.prog 46 33 [] Bz [.t 2] := .of Try.func46 rfl rfl (by kernel_rfl) rfl
def CI : IR :=
 (.seq (.ops [.i 2 (.mov (.c (.one (.st (.bool false)))))]) (.seq (.seq (.ops [.m 4 0, .i 5 (.bin .eql (.t 4) (.c (.one (.st (.str (ByteArray.mk (#[]))))))), .m 6 5, .mk (some 7) (some (6, false)) (.mov (.t 0)) .no, .mk (some 8) (some (6, false)) (.len true (.t 7)) .no, .mk (some 9) (some (6, false)) (.bin .gtr (.t 8) (.n 8)) .no, .i 10 (.pick (.t 6) (.c (.one (.st (.bool true)))) (.t 9)), .m 11 10, .mk (some 12) (some (11, false)) (.mov (.t 0)) .no, .mk (some 13) (some (11, false)) (.indexStr (.t 12) (.n 0)) .no, .mk (some 14) (some (11, false)) (.bin .geq (.t 13) (.c (.one (.st (.int .u8 48))))) .no, .mk (some 15) (some (11, false)) (.mov (.t 14)) .no, .mk (some 16) (some (15, true)) (.mov (.t 0)) .no, .mk (some 17) (some (15, true)) (.indexStr (.t 16) (.n 0)) .no, .mk (some 18) (some (15, true)) (.bin .leq (.t 17) (.c (.one (.st (.int .u8 57))))) .no, .mk (some 19) (some (11, false)) (.pick (.t 15) (.t 18) (.c (.one (.st (.bool false))))) .no, .i 20 (.pick (.t 11) (.c (.one (.st (.bool true)))) (.t 19))]) (.cond (.t 20) (.seq (.ops [.i 2 (.mov (.c (.one (.st (.bool false)))))]) .ret) .skip)) (.seq (.seq (.ops [.i 3 (.mov (.n 0))]) (.block 0 (.loop (.seq (.seq (.ops [.m 21 3, .m 22 0, .i 23 (.len true (.t 22)), .i 24 (.bin .lss (.t 21) (.t 23))]) (.cond (.t 24) .skip (.exit 0))) (.seq (.block 1 (.seq (.ops [.m 27 0, .m 28 3, .i 29 (.indexStr (.t 27) (.t 28)), .i 30 (.call 38 [.t 29]), .i 31 (.un .not (.t 30))]) (.cond (.t 31) (.seq (.ops [.i 2 (.mov (.c (.one (.st (.bool false)))))]) .ret) .skip))) (.ops [.m 25 3, .i 26 (.bin .add (.t 25) (.n 1)), .m 3 26])))))) (.seq (.ops [.i 2 (.mov (.c (.one (.st (.bool true)))))]) .ret))))
theorem Cr : OkF Try.prog 21 32 [] CI [.t 2] := .of Try.func21 rfl rfl (by kernel_rfl) rfl
def CC : IR :=
 (.seq (.ops [.i 2 (.mov (.c (.one (.st (.bool false)))))]) (.seq (.ops [.m 3 0, .i 4 (.bin .neq (.t 3) (.c (.one (.st (.str (ByteArray.mk (#[]))))))), .m 5 4, .mk (some 6) (some (5, true)) (.mov (.t 0)) .no, .mk (some 7) (some (5, true)) (.indexStr (.t 6) (.n 0)) .no, .mk (some 8) (some (5, true)) (.bin .geq (.t 7) (.c (.one (.st (.int .u8 65))))) .no, .i 9 (.pick (.t 5) (.t 8) (.c (.one (.st (.bool false))))), .m 10 9, .mk (some 11) (some (10, true)) (.mov (.t 0)) .no, .mk (some 12) (some (10, true)) (.indexStr (.t 11) (.n 0)) .no, .mk (some 13) (some (10, true)) (.bin .leq (.t 12) (.c (.one (.st (.int .u8 90))))) .no, .i 14 (.pick (.t 10) (.t 13) (.c (.one (.st (.bool false))))), .m 2 14]) .ret))
theorem C7 : OkF Try.prog 47 15 [] CC [.t 2] := .of Try.func47 rfl rfl (by kernel_rfl) rfl
def EY : IR :=
 (.seq (.ops [.i 2 (.mov (.c (.one (.st (.bool false)))))]) (.seq (.ops [.m 3 0, .i 4 (.bin .neq (.t 3) (.c (.one (.st (.str (ByteArray.mk (#[]))))))), .m 5 4, .mk (some 6) (some (5, true)) (.mov (.t 0)) .no, .mk (some 7) (some (5, true)) (.indexStr (.t 6) (.n 0)) .no, .mk (some 8) (some (5, true)) (.bin .geq (.t 7) (.c (.one (.st (.int .u8 65))))) .no, .i 9 (.pick (.t 5) (.t 8) (.c (.one (.st (.bool false))))), .m 10 9, .mk (some 11) (some (10, true)) (.mov (.t 0)) .no, .mk (some 12) (some (10, true)) (.indexStr (.t 11) (.n 0)) .no, .mk (some 13) (some (10, true)) (.bin .leq (.t 12) (.c (.one (.st (.int .u8 90))))) .no, .i 14 (.pick (.t 10) (.t 13) (.c (.one (.st (.bool false))))), .m 2 14]) .ret))
theorem G7 : OkF Try.prog 22 15 [] EY [.t 2] := .of Try.func22 rfl rfl (by kernel_rfl) rfl
def Dh : IR :=
 (.seq (.ops [.i 2 (.box 28 (.t 0)), .i 4 (.mov (.n 0))]) (.seq (.ops [.m 7 1, .i 8 (.bin .sub (.t 7) (.n 1)), .m 1 8]) (.seq (.seq (.ops [.f 9 1 2, .l 10 9, .i 11 (.len false (.t 10)), .i 12 (.mov (.n 0))]) (.block 0 (.loop (.seq (.ops [.i 13 (.bin .lss (.t 12) (.t 11))]) (.seq (.cond (.t 13) .skip (.exit 0)) (.seq (.block 1 (.seq (.ops [.i 14 (.indexAddr 2 (.t 10) (.t 12)), .L 15 2 14, .i 6 (.alloc 28 [.st (.str (ByteArray.mk (#[]))), .full []]), .s 2 6 15]) (.seq (.seq (.ops [.m 16 1, .i 17 (.bin .lss (.t 16) (.n 0))]) (.cond (.t 17) (.exit 0) .skip)) (.ops [.L 18 2 6, .m 19 1, .i 20 (.call 41 [.t 18, .t 19]), .m 1 20])))) (.ops [.i 21 (.bin .add (.t 12) (.n 1)), .m 12 21]))))))) (.seq (.ops [.m 22 1, .m 4 22]) .ret))))
theorem Gz : OkF Try.prog 41 23 [] Dh [.t 4] := .of Try.func41 rfl rfl (by kernel_rfl) rfl
def H5 : IR :=
 (.seq (.ops [.i 2 (.box 28 (.t 0)), .i 4 (.mov (.n 0))]) (.seq (.ops [.i 5 (.mov (.n 1))]) (.seq (.seq (.ops [.i 6 (.mov (.n 0))]) (.block 0 (.loop (.seq (.seq (.ops [.m 7 6, .f 8 1 2, .l 9 8, .i 10 (.len false (.t 9)), .i 11 (.bin .lss (.t 7) (.t 10)), .m 12 11, .mk (some 13) (some (12, true)) (.mov (.t 5)) .no, .mk (some 14) (some (12, true)) (.mov (.t 1)) .no, .mk (some 15) (some (12, true)) (.bin .leq (.t 13) (.t 14)) .no, .i 16 (.pick (.t 12) (.t 15) (.c (.one (.st (.bool false)))))]) (.cond (.t 16) .skip (.exit 0))) (.seq (.block 1 (.ops [.m 19 5, .f 20 1 2, .l 21 20, .m 22 6, .i 23 (.indexAddr 2 (.t 21) (.t 22)), .L 24 2 23, .m 25 1, .m 26 5, .i 27 (.bin .sub (.t 25) (.t 26)), .i 28 (.call 20 [.t 24, .t 27]), .i 29 (.bin .add (.t 19) (.t 28)), .m 5 29])) (.ops [.m 17 6, .i 18 (.bin .add (.t 17) (.n 1)), .m 6 18])))))) (.seq (.seq (.ops [.m 30 5, .m 31 1, .i 32 (.bin .gtr (.t 30) (.t 31))]) (.cond (.t 32) (.seq (.ops [.m 33 1, .i 34 (.bin .add (.t 33) (.n 1)), .m 4 34]) .ret) .skip)) (.seq (.ops [.m 35 5, .m 4 35]) .ret)))))
theorem MI : OkF Try.prog 20 36 [] H5 [.t 4] := .of Try.func20 rfl rfl (by kernel_rfl) rfl
def EJ : IR :=
 (.seq (.ops [.i 1 (.box 28 (.t 0)), .i 2 (.mov (.n 0))]) (.seq (.seq (.ops [.f 6 0 1, .l 7 6, .i 8 (.call 46 [.t 7]), .i 9 (.un .not (.t 8))]) (.cond (.t 9) (.seq (.ops [.i 2 (.mov (.n 1))]) .ret) .skip)) (.seq (.seq (.ops [.f 10 0 1, .l 11 10, .i 12 (.call 47 [.t 11]), .m 13 12, .mk (some 14) (some (13, true)) (.fieldAddr 1 (.t 1)) .no, .mk (some 15) (some (13, true)) (.load false 1 (.t 14)) .no, .mk (some 16) (some (13, true)) (.len false (.t 15)) .no, .mk (some 17) (some (13, true)) (.bin .gtr (.t 16) (.n 0)) .no, .i 18 (.pick (.t 13) (.t 17) (.c (.one (.st (.bool false)))))]) (.cond (.t 18) (.seq (.ops [.i 2 (.mov (.n 2))]) .ret) .skip)) (.seq (.seq (.ops [.f 19 1 1, .l 20 19, .i 21 (.len false (.t 20)), .i 22 (.mov (.n 0))]) (.block 0 (.loop (.seq (.ops [.i 23 (.bin .lss (.t 22) (.t 21))]) (.seq (.cond (.t 23) .skip (.exit 0)) (.seq (.block 1 (.seq (.ops [.i 24 (.indexAddr 2 (.t 20) (.t 22)), .L 25 2 24, .i 4 (.alloc 28 [.st (.str (ByteArray.mk (#[]))), .full []]), .s 2 4 25]) (.seq (.ops [.L 26 2 4, .i 27 (.call 42 [.t 26]), .m 5 27]) (.seq (.ops [.m 28 5, .i 29 (.bin .neq (.t 28) (.n 0))]) (.cond (.t 29) (.seq (.ops [.m 30 5, .m 2 30]) .ret) .skip))))) (.ops [.i 31 (.bin .add (.t 22) (.n 1)), .m 22 31]))))))) (.seq (.ops [.i 2 (.mov (.n 0))]) .ret)))))
theorem HI : OkF Try.prog 42 32 [] EJ [.t 2] := .of Try.func42 rfl rfl (by kernel_rfl) rfl
def EL : IR :=
 (.seq (.ops [.i 1 (.box 28 (.t 0)), .i 2 (.mov (.n 0))]) (.seq (.seq (.ops [.L 3 2 1, .i 4 (.call 41 [.t 3, .n 200]), .i 5 (.bin .lss (.t 4) (.n 0))]) (.cond (.t 5) (.seq (.ops [.i 2 (.mov (.n 3))]) .ret) .skip)) (.seq (.ops [.L 6 2 1, .i 7 (.call 42 [.t 6]), .m 2 7]) .ret)))
theorem HW : OkF Try.prog 28 8 [] EL [.t 2] := .of Try.func28 rfl rfl (by kernel_rfl) rfl
def GR : IR :=
 (.seq (.ops [.i 1 (.box 28 (.t 0)), .i 2 (.mov (.c (.one (.full []))))]) (.seq (.ops [.L 5 2 1, .i 6 (.buildSlice false 28 2 [.t 5]), .m 3 6]) (.seq (.seq (.ops [.i 4 (.mov (.n 0))]) (.block 0 (.loop (.seq (.seq (.ops [.m 7 4, .f 8 1 1, .l 9 8, .i 10 (.len false (.t 9)), .i 11 (.bin .lss (.t 7) (.t 10))]) (.cond (.t 11) .skip (.exit 0))) (.seq (.block 1 (.ops [.m 14 3, .f 15 1 1, .l 16 15, .m 17 4, .i 18 (.indexAddr 2 (.t 16) (.t 17)), .L 19 2 18, .i 20 (.call 23 [.t 19]), .i 21 (.append false 28 2 40 (.t 14) (.t 20)), .m 3 21])) (.ops [.m 12 4, .i 13 (.bin .add (.t 12) (.n 1)), .m 4 13])))))) (.seq (.ops [.m 22 3, .m 2 22]) .ret))))
theorem KX : OkF Try.prog 23 23 [] GR [.t 2] := .of Try.func23 rfl rfl (by kernel_rfl) rfl
def Ep : IR :=
 (.seq (.ops [.i 1 (.box 28 (.t 0)), .i 2 (.mov (.n 0))]) (.seq (.seq (.ops [.L 5 2 1, .i 6 (.call 20 [.t 5, .n 200]), .i 7 (.bin .gtr (.t 6) (.n 200))]) (.cond (.t 7) (.seq (.ops [.i 2 (.mov (.n 3))]) .ret) .skip)) (.seq (.ops [.L 8 2 1, .i 9 (.call 23 [.t 8]), .m 3 9]) (.seq (.seq (.ops [.i 4 (.mov (.n 0))]) (.block 0 (.loop (.seq (.seq (.ops [.m 10 4, .m 11 3, .i 12 (.len false (.t 11)), .i 13 (.bin .lss (.t 10) (.t 12))]) (.cond (.t 13) .skip (.exit 0))) (.seq (.block 1 (.seq (.seq (.ops [.m 16 3, .m 17 4, .i 18 (.indexAddr 2 (.t 16) (.t 17)), .f 19 0 18, .l 20 19, .i 21 (.call 21 [.t 20]), .i 22 (.un .not (.t 21))]) (.cond (.t 22) (.seq (.ops [.i 2 (.mov (.n 1))]) .ret) .skip)) (.seq (.ops [.m 23 3, .m 24 4, .i 25 (.indexAddr 2 (.t 23) (.t 24)), .f 26 0 25, .l 27 26, .i 28 (.call 22 [.t 27]), .m 29 28, .mk (some 30) (some (29, true)) (.mov (.t 3)) .no, .mk (some 31) (some (29, true)) (.mov (.t 4)) .no, .mk (some 32) (some (29, true)) (.indexAddr 2 (.t 30) (.t 31)) .no, .mk (some 33) (some (29, true)) (.fieldAddr 1 (.t 32)) .no, .mk (some 34) (some (29, true)) (.load false 1 (.t 33)) .no, .mk (some 35) (some (29, true)) (.len false (.t 34)) .no, .mk (some 36) (some (29, true)) (.bin .gtr (.t 35) (.n 0)) .no, .i 37 (.pick (.t 29) (.t 36) (.c (.one (.st (.bool false)))))]) (.cond (.t 37) (.seq (.ops [.i 2 (.mov (.n 2))]) .ret) .skip)))) (.ops [.m 14 4, .i 15 (.bin .add (.t 14) (.n 1)), .m 4 15])))))) (.seq (.ops [.i 2 (.mov (.n 0))]) .ret)))))
theorem IH : OkF Try.prog 8 38 [] Ep [.t 2] := .of Try.func8 rfl rfl (by kernel_rfl) rfl
def H9 : IR :=
 (.seq (.ops [.i 2 (.box 28 (.t 0)), .i 3 (.box 28 (.t 1)), .i 4 (.mov (.c (.one (.st (.bool false)))))]) (.seq (.seq (.ops [.f 6 0 2, .l 7 6, .f 8 0 3, .l 9 8, .i 10 (.bin .neq (.t 7) (.t 9)), .m 11 10, .mk (some 12) (some (11, false)) (.fieldAddr 1 (.t 2)) .no, .mk (some 13) (some (11, false)) (.load false 1 (.t 12)) .no, .mk (some 14) (some (11, false)) (.len false (.t 13)) .no, .mk (some 15) (some (11, false)) (.fieldAddr 1 (.t 3)) .no, .mk (some 16) (some (11, false)) (.load false 1 (.t 15)) .no, .mk (some 17) (some (11, false)) (.len false (.t 16)) .no, .mk (some 18) (some (11, false)) (.bin .neq (.t 14) (.t 17)) .no, .i 19 (.pick (.t 11) (.c (.one (.st (.bool true)))) (.t 18))]) (.cond (.t 19) (.seq (.ops [.i 4 (.mov (.c (.one (.st (.bool false)))))]) .ret) .skip)) (.seq (.seq (.ops [.i 5 (.mov (.n 0))]) (.block 0 (.loop (.seq (.seq (.ops [.m 20 5, .f 21 1 2, .l 22 21, .i 23 (.len false (.t 22)), .i 24 (.bin .lss (.t 20) (.t 23))]) (.cond (.t 24) .skip (.exit 0))) (.seq (.block 1 (.seq (.ops [.f 27 1 2, .l 28 27, .m 29 5, .i 30 (.indexAddr 2 (.t 28) (.t 29)), .L 31 2 30, .f 32 1 3, .l 33 32, .m 34 5, .i 35 (.indexAddr 2 (.t 33) (.t 34)), .L 36 2 35, .i 37 (.call 36 [.t 31, .t 36]), .i 38 (.un .not (.t 37))]) (.cond (.t 38) (.seq (.ops [.i 4 (.mov (.c (.one (.st (.bool false)))))]) .ret) .skip))) (.ops [.m 25 5, .i 26 (.bin .add (.t 25) (.n 1)), .m 5 26])))))) (.seq (.ops [.i 4 (.mov (.c (.one (.st (.bool true)))))]) .ret))))
theorem Lh : OkF Try.prog 36 39 [] H9 [.t 4] := .of Try.func36 rfl rfl (by kernel_rfl) rfl
def K9 : IR :=
 (.seq (.ops [.i 4 (.mov (.c (.one (.st (.bool false)))))]) (.seq (.seq (.ops [.i 5 (.mov (.n 0))]) (.block 0 (.loop (.seq (.seq (.ops [.m 6 5, .m 7 1, .i 8 (.len false (.t 7)), .i 9 (.bin .lss (.t 6) (.t 8))]) (.cond (.t 9) .skip (.exit 0))) (.seq (.block 1 (.seq (.ops [.m 12 1, .m 13 5, .i 14 (.indexAddr 1 (.t 12) (.t 13)), .l 15 14, .m 16 0, .i 17 (.bin .eql (.t 15) (.t 16))]) (.cond (.t 17) (.seq (.ops [.i 4 (.mov (.c (.one (.st (.bool true)))))]) .ret) .skip))) (.ops [.m 10 5, .i 11 (.bin .add (.t 10) (.n 1)), .m 5 11])))))) (.seq (.ops [.i 4 (.mov (.c (.one (.st (.bool false)))))]) .ret)))
theorem OG : OkF Try.prog 24 18 [] K9 [.t 4] := .of Try.func24 rfl rfl (by kernel_rfl) rfl
def Fy : IR :=
 (.seq (.ops [.i 1 (.box 28 (.t 0)), .i 2 (.mov (.c (.one (.full []))))]) (.seq (.ops [.L 6 2 1, .i 7 (.call 23 [.t 6]), .m 3 7]) (.seq (.ops [.i 4 (.mov (.c (.one (.full []))))]) (.seq (.seq (.ops [.i 5 (.mov (.n 0))]) (.block 0 (.loop (.seq (.seq (.ops [.m 8 5, .m 9 3, .i 10 (.len false (.t 9)), .i 11 (.bin .lss (.t 8) (.t 10))]) (.cond (.t 11) .skip (.exit 0))) (.seq (.block 1 (.seq (.ops [.m 14 3, .m 15 5, .i 16 (.indexAddr 2 (.t 14) (.t 15)), .f 17 0 16, .l 18 17, .i 19 (.call 22 [.t 18]), .m 20 19, .mk (some 21) (some (20, true)) (.mov (.t 3)) .no, .mk (some 22) (some (20, true)) (.mov (.t 5)) .no, .mk (some 23) (some (20, true)) (.indexAddr 2 (.t 21) (.t 22)) .no, .mk (some 24) (some (20, true)) (.fieldAddr 0 (.t 23)) .no, .mk (some 25) (some (20, true)) (.load false 1 (.t 24)) .no, .mk (some 26) (some (20, true)) (.mov (.t 4)) .no, .mk (some 27) (some (20, true)) (.call 24 [.t 25, .t 26]) .no, .mk (some 28) (some (20, true)) (.un .not (.t 27)) .no, .i 29 (.pick (.t 20) (.t 28) (.c (.one (.st (.bool false)))))]) (.cond (.t 29) (.ops [.m 30 4, .m 31 3, .m 32 5, .i 33 (.indexAddr 2 (.t 31) (.t 32)), .f 34 0 33, .l 35 34, .i 36 (.buildFlat [.t 35]), .i 37 (.append false 9 1 16 (.t 30) (.t 36)), .m 4 37]) .skip))) (.ops [.m 12 5, .i 13 (.bin .add (.t 12) (.n 1)), .m 5 13])))))) (.seq (.ops [.m 38 4, .m 2 38]) .ret)))))
theorem Jk : OkF Try.prog 9 39 [] Fy [.t 2] := .of Try.func9 rfl rfl (by kernel_rfl) rfl
def H7 : IR :=
 (.seq (.ops [.i 1 (.box 28 (.t 0)), .i 2 (.mov (.c (.one (.st (.bool false)))))]) (.seq (.ops [.L 3 2 1, .i 4 (.call 20 [.t 3, .n 3000]), .i 5 (.bin .gtr (.t 4) (.n 3000)), .m 2 5]) .ret))
theorem LW : OkF Try.prog 6 6 [] H7 [.t 2] := .of Try.func6 rfl rfl (by kernel_rfl) rfl
def GS : IR :=
 (.seq (.ops [.i 4 (.box 28 (.t 0)), .i 6 (.box 28 (.t 2)), .i 8 (.mov (.c (.one (.st (.bool false)))))]) (.seq (.seq (.ops [.m 9 3, .i 10 (.bin .neq (.t 9) (.n 0))]) (.cond (.t 10) (.seq (.ops [.m 11 1, .m 12 3, .i 13 (.bin .eql (.t 11) (.t 12)), .m 14 13, .mk (some 15) (some (14, true)) (.fieldAddr 0 (.t 4)) .no, .mk (some 16) (some (14, true)) (.load false 1 (.t 15)) .no, .mk (some 17) (some (14, true)) (.bin .eql (.t 16) (.c (.one (.st (.str (ByteArray.mk (#[]))))))) .no, .i 18 (.pick (.t 14) (.t 17) (.c (.one (.st (.bool false))))), .m 19 18, .mk (some 20) (some (19, true)) (.fieldAddr 1 (.t 4)) .no, .mk (some 21) (some (19, true)) (.load false 1 (.t 20)) .no, .mk (some 22) (some (19, true)) (.len false (.t 21)) .no, .mk (some 23) (some (19, true)) (.bin .eql (.t 22) (.n 0)) .no, .i 24 (.pick (.t 19) (.t 23) (.c (.one (.st (.bool false))))), .m 8 24]) .ret) .skip)) (.seq (.ops [.m 25 1, .i 26 (.bin .eql (.t 25) (.n 0)), .m 27 26, .mk (some 28) (some (27, true)) (.load true 2 (.t 4)) .no, .mk (some 29) (some (27, true)) (.load true 2 (.t 6)) .no, .mk (some 30) (some (27, true)) (.call 36 [.t 28, .t 29]) .no, .i 31 (.pick (.t 27) (.t 30) (.c (.one (.st (.bool false))))), .m 8 31]) .ret)))
theorem Km : OkF Try.prog 15 32 [] GS [.t 8] := .of Try.func15 rfl rfl (by kernel_rfl) rfl
def FA : IR :=
 (.seq (.ops [.i 1 (.box 28 (.t 0)), .i 2 (.alloc 28 [.st (.str (ByteArray.mk (#[]))), .full []])]) (.seq (.ops [.f 6 0 1, .l 7 6, .i 8 (.build [.st (.str (ByteArray.mk (#[]))), .full []] [(0, 1, .t 7)]), .i 3 (.alloc 28 [.st (.str (ByteArray.mk (#[]))), .full []]), .s 2 3 8]) (.seq (.seq (.ops [.f 9 1 1, .l 10 9, .i 11 (.len false (.t 10)), .i 12 (.mov (.n 0))]) (.block 0 (.loop (.seq (.ops [.i 13 (.bin .lss (.t 12) (.t 11))]) (.seq (.cond (.t 13) .skip (.exit 0)) (.seq (.block 1 (.seq (.ops [.i 14 (.indexAddr 2 (.t 10) (.t 12)), .L 15 2 14, .i 5 (.alloc 28 [.st (.str (ByteArray.mk (#[]))), .full []]), .s 2 5 15]) (.ops [.f 16 1 3, .l 17 16, .L 18 2 5, .i 19 (.call 34 [.t 18]), .i 20 (.buildSlice false 28 2 [.t 19]), .i 21 (.append false 28 2 40 (.t 17) (.t 20)), .f 22 1 3, .s 1 22 21]))) (.ops [.i 23 (.bin .add (.t 12) (.n 1)), .m 12 23]))))))) (.seq (.ops [.L 24 2 3, .s 2 2 24]) .ret))))
theorem Ib : OkF Try.prog 34 25 [] FA [.cell 2 true 2] := .of Try.func34 rfl rfl (by kernel_rfl) rfl
def A2 : IR :=
 (.seq (.ops [.i 4 (.mov (.n 0))]) (.seq (.seq (.ops [.m 6 0, .i 7 (.len false (.t 6)), .i 8 (.mov (.n 0))]) (.block 0 (.loop (.seq (.ops [.i 9 (.bin .lss (.t 8) (.t 7))]) (.seq (.cond (.t 9) .skip (.exit 0)) (.seq (.block 1 (.seq (.ops [.m 10 8, .m 5 10]) (.seq (.ops [.m 11 1, .m 12 0, .m 13 5, .i 14 (.indexAddr 1 (.t 12) (.t 13)), .l 15 14, .i 16 (.bin .eql (.t 11) (.t 15))]) (.cond (.t 16) (.seq (.ops [.m 17 5, .m 4 17]) .ret) .skip)))) (.ops [.i 18 (.bin .add (.t 8) (.n 1)), .m 8 18]))))))) (.seq (.ops [.i 4 (.mov (.c (.one (.st (.int .i64 (-1))))))]) .ret)))
theorem BM : OkF Try.prog 56 19 [] A2 [.t 4] := .of Try.func56 rfl rfl (by kernel_rfl) rfl
def BF : IR :=
 (.seq (.ops [.i 4 (.mov (.c (.one (.st (.bool false)))))]) (.seq (.ops [.m 5 0, .m 6 1, .i 7 (.call 56 [.t 5, .t 6]), .i 8 (.bin .geq (.t 7) (.n 0)), .m 4 8]) .ret))
theorem B3 : OkF Try.prog 51 9 [] BF [.t 4] := .of Try.func51 rfl rfl (by kernel_rfl) rfl
def DP : IR :=
 (.seq (.ops [.i 2 (.box 28 (.t 0)), .i 4 (.mov (.c (.one (.full []))))]) (.seq (.seq (.ops [.f 7 0 2, .l 8 7, .i 9 (.call 47 [.t 8]), .m 10 9, .mk (some 11) (some (10, true)) (.mov (.t 1)) .no, .mk (some 12) (some (10, true)) (.fieldAddr 0 (.t 2)) .no, .mk (some 13) (some (10, true)) (.load false 1 (.t 12)) .no, .mk (some 14) (some (10, true)) (.call 51 [.t 11, .t 13]) .no, .mk (some 15) (some (10, true)) (.un .not (.t 14)) .no, .i 16 (.pick (.t 10) (.t 15) (.c (.one (.st (.bool false)))))]) (.cond (.t 16) (.ops [.m 17 1, .f 18 0 2, .l 19 18, .i 20 (.buildFlat [.t 19]), .i 21 (.append false 9 1 16 (.t 17) (.t 20)), .m 1 21]) .skip)) (.seq (.seq (.ops [.f 22 1 2, .l 23 22, .i 24 (.len false (.t 23)), .i 25 (.mov (.n 0))]) (.block 0 (.loop (.seq (.ops [.i 26 (.bin .lss (.t 25) (.t 24))]) (.seq (.cond (.t 26) .skip (.exit 0)) (.seq (.block 1 (.seq (.ops [.i 27 (.indexAddr 2 (.t 23) (.t 25)), .L 28 2 27, .i 6 (.alloc 28 [.st (.str (ByteArray.mk (#[]))), .full []]), .s 2 6 28]) (.ops [.L 29 2 6, .m 30 1, .i 31 (.callS 43 [.t 29, .t 30]), .m 1 31]))) (.ops [.i 32 (.bin .add (.t 25) (.n 1)), .m 25 32]))))))) (.seq (.ops [.m 33 1, .m 4 33]) .ret))))
theorem Ef : OkF Try.prog 43 34 [31] DP [.t 4] := .of Try.func43 rfl rfl (by kernel_rfl) rfl
def E3 : IR :=
 (.seq (.ops [.i 1 (.box 28 (.t 0)), .i 2 (.mov (.c (.one (.full []))))]) (.seq (.ops [.L 3 2 1, .i 4 (.callS 43 [.t 3, .c (.one (.full []))]), .m 2 4]) .ret))
theorem Ia : OkF Try.prog 29 5 [4] E3 [.t 2] := .of Try.func29 rfl rfl (by kernel_rfl) rfl

end Go.Proofs.Ytbknconogoegaaa
