/-
  Part 5 of the texts. Conditions: none.
-/
import Derived.Test.YtiaopkfapnajaaaDoorToL4
namespace Go.Proofs.YtiaopkfapnajaaaDoor
open Go Go.RowKit
set_option linter.unusedVariables false
set_option linter.unusedSimpArgs false
set_option maxHeartbeats 400000
mutual
def AC.clear (ds : List Nat) : AC → Bool
 | .row id _ => !ds.contains id
 | .part id _ _ => !ds.contains id
 | .rest id _ _ => !ds.contains id
 | .ptr id _ _ _ => !ds.contains id
 | .mptr id => !ds.contains id
 | .yld id => !ds.contains id
 | .ubool => true
 | .fn _ caps => AC.clears ds caps
 | .st _ => true
 | .full _ => true
 | .eptr _ => true
 | .any => true
def AC.clears (ds : List Nat) : List AC → Bool
 | [] => true
 | c :: cs => c.clear ds && AC.clears ds cs
end
theorem JV {ds : List Nat} : ∀ {l : List AC}, AC.clears ds l = true → ∀ a ∈ l, a.clear ds = true
 | [], _, a, ha => by simp at ha
 | x :: xs, hx, a, ha => by
  rw [AC.clears, Bool.and_eq_true] at hx
  rcases List.mem_cons.1 ha with rfl | ha
  ·exact hx.1
  ·exact JV hx.2 a ha
def AC.purge (ds : List Nat) : AC → AC
 | .row id n => if ds.contains id then .any else .row id n
 | .part id k n => if ds.contains id then .any else .part id k n
 | .rest id k n => if ds.contains id then .any else .rest id k n
 | .ptr id n k off => if ds.contains id then .any else .ptr id n k off
 | .mptr id => if ds.contains id then .any else .mptr id
 | .yld id => if ds.contains id then .any else .yld id
 | .fn f caps => if AC.clears ds caps then .fn f caps else .any
 | c => c
mutual
def AV.purge (ds : List Nat) : AV → AV
 | .one c => .one (c.purge ds)
 | .agg cs => .agg (cs.map (AC.purge ds))
 | .tup vs => .tup (AV.purges ds vs)
 | .any => .any
def AV.purges (ds : List Nat) : List AV → List AV
 | [] => []
 | v :: vs => v.purge ds :: AV.purges ds vs
end
def AJ.purge (ds : List Nat) : AJ → AJ
 | .box e cs => .box e (cs.map (AC.purge ds))
 | .iter x n seen => .iter (x.purge ds) n seen
 | .loop env r => .loop (AV.purges ds env) r
 | b => b
def Ap (ds : List Nat) (S : AA) : AA := fun id => if ds.contains id then none else (S id).map (AJ.purge ds)
def AS.drop (ds : List Nat) (s : AS) : AS := ⟨fun i => (s.env i).purge ds, Ap ds s.S⟩
theorem DA {ds : List Nat} (hds : ∀ d ∈ ds, d < 1000) {id : Nat} (h : 1000 ≤ id) : ds.contains id = false := by
 cases hc : ds.contains id with
 | false => rfl
 | true =>
  have := hds id (List.contains_iff_mem.1 hc)
  omega
mutual
theorem AC.clear_high {ds : List Nat} (hds : ∀ d ∈ ds, d < 1000) : ∀ {c : AC}, c.high = true → c.clear ds = true
 | .st _, _ => rfl
 | .full _, _ => rfl
 | .row id n, h => by
  rw [AC.high] at h
  rw [AC.clear, DA hds (of_decide_eq_true h)]
  rfl
 | .part id k n, h => by
  rw [AC.high] at h
  rw [AC.clear, DA hds (of_decide_eq_true h)]
  rfl
 | .rest id k n, h => by
  rw [AC.high] at h
  rw [AC.clear, DA hds (of_decide_eq_true h)]
  rfl
 | .ptr id n k off, h => by
  rw [AC.high] at h
  rw [AC.clear, DA hds (of_decide_eq_true h)]
  rfl
 | .mptr id, h => by
  rw [AC.high] at h
  rw [AC.clear, DA hds (of_decide_eq_true h)]
  rfl
 | .yld id, h => by
  rw [AC.high] at h
  rw [AC.clear, DA hds (of_decide_eq_true h)]
  rfl
 | .ubool, _ => rfl
 | .eptr _, _ => rfl
 | .fn f caps, h => by
  rw [AC.high] at h
  rw [AC.clear]
  exact AC.clears_highs hds h
 | .any, _ => rfl
theorem AC.clears_highs {ds : List Nat} (hds : ∀ d ∈ ds, d < 1000) : ∀ {cs : List AC}, AC.highs cs = true → AC.clears ds cs = true
 | [], _ => rfl
 | c :: cs, h => by
  rw [AC.highs, Bool.and_eq_true] at h
  rw [AC.clears, AC.clear_high hds h.1, AC.clears_highs hds h.2]
  rfl
end
theorem AC.purge_high {ds : List Nat} (hds : ∀ d ∈ ds, d < 1000) : ∀ {c : AC}, c.high = true → c.purge ds = c
 | .st _, _ => rfl
 | .full _, _ => rfl
 | .row id n, h => by
  rw [AC.high] at h
  simp only [AC.purge, DA hds (of_decide_eq_true h), Bool.false_eq_true, if_false]
 | .part id k n, h => by
  rw [AC.high] at h
  simp only [AC.purge, DA hds (of_decide_eq_true h), Bool.false_eq_true, if_false]
 | .rest id k n, h => by
  rw [AC.high] at h
  simp only [AC.purge, DA hds (of_decide_eq_true h), Bool.false_eq_true, if_false]
 | .ptr id n k off, h => by
  rw [AC.high] at h
  simp only [AC.purge, DA hds (of_decide_eq_true h), Bool.false_eq_true, if_false]
 | .mptr id, h => by
  rw [AC.high] at h
  simp only [AC.purge, DA hds (of_decide_eq_true h), Bool.false_eq_true, if_false]
 | .yld id, h => by
  rw [AC.high] at h
  simp only [AC.purge, DA hds (of_decide_eq_true h), Bool.false_eq_true, if_false]
 | .ubool, _ => rfl
 | .eptr _, _ => rfl
 | .fn f caps, h => by
  rw [AC.high] at h
  simp only [AC.purge, AC.clears_highs hds h, if_true]
 | .any, _ => rfl
mutual
theorem AV.purge_high {ds : List Nat} (hds : ∀ d ∈ ds, d < 1000) : ∀ {c : AV}, c.high = true → c.purge ds = c
 | .one c, h => by rw [AV.high] at h; rw [AV.purge, AC.purge_high hds h]
 | .agg cs, h => by
  rw [AV.high] at h
  rw [AV.purge]
  congr 1
  exact (List.map_congr_left fun a ha => AC.purge_high hds (CR h a ha)).trans (List.map_id _)
 | .tup vs, h => by rw [AV.high] at h; rw [AV.purge, AV.purges_high hds h]
 | .any, _ => rfl
theorem AV.purges_high {ds : List Nat} (hds : ∀ d ∈ ds, d < 1000) : ∀ {c : List AV}, AV.highs c = true → AV.purges ds c = c
 | [], _ => rfl
 | c :: cs, h => by
  rw [AV.highs, Bool.and_eq_true] at h
  rw [AV.purges, AV.purge_high hds h.1, AV.purges_high hds h.2]
end
theorem AJ.purge_high {ds : List Nat} (hds : ∀ d ∈ ds, d < 1000) {b : AJ} (h : b.high = true) : b.purge ds = b := by
 cases b with
 | box e cs =>
  rw [AJ.high] at h
  simp only [AJ.purge]
  congr 1
  exact (List.map_congr_left fun a ha => AC.purge_high hds (CR h a ha)).trans (List.map_id _)
 | arow => rfl
 | mrow => rfl
 | map => rfl
 | memo => rfl
 | iter x =>
  rw [AJ.high] at h
  simp only [AJ.purge, AC.purge_high hds h]
 | loop env r =>
  rw [AJ.high] at h
  simp only [AJ.purge, AV.purges_high hds h]
 | dead => rfl
theorem NN {ds : List Nat} (hds : ∀ d ∈ ds, d < 1000) {S : AA} (h : At S) : Ap ds S = S := by
 funext id
 unfold Ap
 cases hb : S id with
 | none => split <;> rfl
 | some b =>
  obtain ⟨h1, h2⟩ := h id b hb
  rw [DA hds h1, if_neg (by simp), Option.map_some, AJ.purge_high hds h2]
theorem MY {ds : List Nat} {S : AA} {i : Nat} {b : Option AJ} (h : ds.contains i = true) : Ap ds (AH S i b) = Ap ds S := by
 funext k
 unfold Ap
 by_cases e : k = i
 ·subst e
  rw [if_pos h, if_pos h]
 ·rw [AK _ e]
theorem HT {ds : List Nat} {S : AA} {i : Nat} {b : AJ} (h : ds.contains i = false) : Ap ds (AH S i (some b)) = AH (Ap ds S) i (some (b.purge ds)) := by
 funext k
 unfold Ap
 by_cases e : k = i
 ·subst e
  rw [AE, AE, if_neg (by rw [h]; simp)]
  rfl
 ·rw [AK _ e, AK _ e]
section
variable {C : Ctx} {σ : Sto} {ι : Au} {s : AS} {a : Act} {w : World} {ds : List Nat}
theorem BN (b : AJ) : (b.purge ds).len = b.len := by cases b <;> rfl
theorem Fe (b : AJ) : (b.purge ds).wid = b.wid := by cases b <;> rfl
theorem Ak.keepClear {ds : List Nat} {S S2 : AA} (hS : ∀ id b, ds.contains id = false → S id = some b → ∃ b', S2 id = some b' ∧ b'.len = b.len ∧ b'.wid = b.wid) {v : Value} {c : AC} (h : Ak σ S ι v c) (hc : c.clear ds = true) : Ak σ S2 ι v c := by
 induction h with
 | st h => exact .st h
 | full h => exact .full h
 | row h1 h2 h3 h4 =>
  rw [AC.clear] at hc
  obtain ⟨b', q1, q2, q3⟩ := hS _ _ (by simpa using hc) h1
  exact .row q1 (by rw [q2]; exact h2) h3 (by rw [q2]; exact h4)
 | part h1 h2 h3 h4 =>
  rw [AC.clear] at hc
  obtain ⟨b', q1, q2, q3⟩ := hS _ _ (by simpa using hc) h1
  exact .part q1 (by rw [q2]; exact h2) h3 (by rw [q2]; exact h4)
 | rest h1 h2 h3 h4 =>
  rw [AC.clear] at hc
  obtain ⟨b', q1, q2, q3⟩ := hS _ _ (by simpa using hc) h1
  exact .rest q1 (by rw [q2]; exact h2) h3 (by rw [q2, q3]; exact h4)
 | ptr h1 h2 h3 h4 =>
  rw [AC.clear] at hc
  obtain ⟨b', q1, q2, q3⟩ := hS _ _ (by simpa using hc) h1
  exact .ptr q1 (by rw [q2]; exact h2) h3 (by rw [q2, q3]; exact h4)
 | mptr h1 h2 h3 h4 =>
  rw [AC.clear] at hc
  obtain ⟨b', q1, q2, q3⟩ := hS _ _ (by simpa using hc) h1
  exact .mptr q1 (by rw [q2]; exact h2) h3 (by rw [q2]; exact h4)
 | yld h1 h2 h3 h4 =>
  rw [AC.clear] at hc
  obtain ⟨b', q1, q2, q3⟩ := hS _ _ (by simpa using hc) h1
  exact .yld q1 (by rw [q2]; exact h2) h3 (by rw [q2]; exact h4)
 | ubool => exact .ubool
 | eptr c h1 h2 hh => exact .eptr c h1 h2 hh
 | fn c h1 h2 h3 ih =>
  rw [AC.clear] at hc
  exact .fn c h1 h2 (fun j a ha => ih j a ha (JV hc a (List.mem_of_getElem? ha)))
 | any h => exact .any h
theorem Ak.purge (hds : ∀ d ∈ ds, d < 1000) {v : Value} {c : AC} (h : Ak σ s.S ι v c) : Ak σ (s.drop ds).S ι v (c.purge ds) := by
 have h0 := h
 cases h with
 | st h => exact .st h
 | full h => exact .full h
 | @row _ id n b h1 h2 h3 h4 =>
  simp only [AC.purge]
  split
  ·exact .any h3
  ·rename_i hn
   exact .row (b := b.purge ds) (by simp only [AS.drop, Ap, hn]; rw [h1]; rfl) (by rw [BN]; exact h2) h3 (by rw [BN]; exact h4)
 | @part _ id k n b h1 h2 h3 h4 =>
  simp only [AC.purge]
  split
  ·exact .any h3
  ·rename_i hn
   exact .part (b := b.purge ds) (by simp only [AS.drop, Ap, hn]; rw [h1]; rfl) (by rw [BN]; exact h2) h3 (by rw [BN]; exact h4)
 | @rest _ id k n b h1 h2 h3 h4 =>
  simp only [AC.purge]
  split
  ·exact .any h3
  ·rename_i hn
   exact .rest (b := b.purge ds) (by simp only [AS.drop, Ap, hn]; rw [h1]; rfl) (by rw [BN]; exact h2) h3 (by rw [BN, Fe]; exact h4)
 | @ptr _ id n k off b h1 h2 h3 h4 =>
  simp only [AC.purge]
  split
  ·exact .any h3
  ·rename_i hn
   exact .ptr (b := b.purge ds) (by simp only [AS.drop, Ap, hn]; rw [h1]; rfl) (by rw [BN]; exact h2) h3 (by rw [BN, Fe]; exact h4)
 | @mptr _ id b h1 h2 h3 h4 =>
  simp only [AC.purge]
  split
  ·exact .any h3
  ·rename_i hn
   exact .mptr (b := b.purge ds) (by simp only [AS.drop, Ap, hn]; rw [h1]; rfl) (by rw [BN]; exact h2) h3 (by rw [BN]; exact h4)
 | @yld _ id b h1 h2 h3 h4 =>
  simp only [AC.purge]
  split
  ·exact .any h3
  ·rename_i hn
   exact .yld (b := b.purge ds) (by simp only [AS.drop, Ap, hn]; rw [h1]; rfl) (by rw [BN]; exact h2) h3 (by rw [BN]; exact h4)
 | ubool => exact .ubool
 | eptr c h1 h2 hh => exact .eptr c h1 h2 hh
 | @fn f vs caps c h1 h2 h3 =>
  simp only [AC.purge]
  split
  ·rename_i hh
   exact h0.keepClear (ds := ds) (fun id b hid hb => ⟨b.purge ds, by
    show Ap ds s.S id = _
    unfold Ap
    rw [hid, hb]
    rfl, BN b, Fe b⟩) (by rw [AC.clear]; exact hh)
  ·exact .any rfl
 | any h => exact .any h
mutual
theorem AN.purge (hds : ∀ d ∈ ds, d < 1000) : ∀ {v : Value} {c : AV}, AN σ s.S ι v c → AN σ (s.drop ds).S ι v (c.purge ds)
 | v, .one c, h => by cases h with | one h => exact .one (h.purge hds)
 | v, .agg cs, h => by cases h with | agg h => exact .agg ((h.mono fun _ _ x => x.purge hds).map_right)
 | v, .tup vs, h => by
  cases h with
  | tup c h1 h2 h3 =>
   obtain ⟨k1, k2⟩ := AN.purges hds (c := c) h3
   exact .tup c (by rw [h1, k1]) (fun j b hb => by
    rcases Nat.lt_or_ge j vs.length with hj | hj
    ·exact h2 j _ (List.getElem?_eq_getElem hj)
    ·rw [List.getElem?_eq_none (by omega)] at hb; cases hb) k2
 | v, .any, h => .any
theorem AN.purges (hds : ∀ d ∈ ds, d < 1000) : ∀ {vs : List AV} {c : Nat → Value}, (∀ j b, vs[j]? = some b → AN σ s.S ι (c j) b) → vs.length = (AV.purges ds vs).length ∧ ∀ j b, (AV.purges ds vs)[j]? = some b → AN σ (s.drop ds).S ι (c j) b
 | [], c, h => by simp [AV.purges]
 | x :: xs, c, h => by
  obtain ⟨m1, m2⟩ := AN.purges hds (vs := xs) (c := fun j => c (j + 1)) (fun j b hb => h (j + 1) b (by simpa using hb))
  refine ⟨by simp [AV.purges, ← m1], fun j b hb => ?_⟩
  cases j with
  | zero =>
   simp [AV.purges] at hb
   subst hb
   exact AN.purge hds (h 0 x rfl)
  | succ j => exact m2 j b (by simpa [AV.purges] using hb)
end
theorem Bv.purge (hds : ∀ d ∈ ds, d < 1000) {h : Hnd} {b : AJ} (hr : Bv σ s.S ι w h b) : Bv σ (s.drop ds).S ι w h (b.purge ds) := by
 cases hr with
 | box h1 h2 h3 h4 h5 => exact .box h1 h2 h3 ((h4.mono fun _ _ x => x.purge hds).map_right) h5
 | afull h1 h2 h3 h4 => exact .afull h1 h2 h3 h4
 | arow h1 h2 h3 h4 h5 h6 h7 h8 h9 hh => exact .arow h1 h2 h3 h4 h5 h6 h7 h8 h9 hh
 | mnil h1 h2 => exact .mnil h1 h2
 | mrow h1 h2 h3 h4 h5 h6 h7 h8 h9 => exact .mrow h1 h2 h3 h4 h5 h6 h7 h8 h9
 | map h1 h2 h3 h4 => exact .map h1 h2 h3 h4
 | memo h1 h2 h3 h4 => exact .memo h1 h2 h3 h4
 | iter h1 h2 h3 h4 => exact .iter h1 h2 (h3.purge hds) h4
 | loop h1 h2 h3 h4 h5 =>
  obtain ⟨k1, k2⟩ := AN.purges hds h4
  exact .loop h1 h2 (by rw [← k1]; exact h3) k2 h5
 | dead h1 => exact .dead h1
theorem Fo {id : Nat} {b : AJ} (h : (s.drop ds).S id = some b) : ∃ b', s.S id = some b' ∧ b = b'.purge ds := by
 simp only [AS.drop, Ap] at h
 split at h
 ·cases h
 ·rw [Option.map_eq_some_iff] at h
  obtain ⟨b', h1, h2⟩ := h
  exact ⟨b', h1, h2.symm⟩
theorem Ae.drop (ds : List Nat) (s : AS) (hds : ∀ d ∈ ds, d < 1000) : Ae C s (s.drop ds) := fun a w ⟨σ, ι, R⟩ => by
 refine ⟨σ, ι, R.size, fun i hi => (R.env i hi).purge hds, R.nod, R.fit, fun id b h => ?_, fun id id' b b' g h1 h2 g1 g2 => ?_, fun id b g h hg => ?_, R.ext, R.old, R.os, R.grown, R.same, fun id b hb => ?_⟩
 ·obtain ⟨b', h1, rfl⟩ := Fo h
  exact (R.blk id b' h1).purge hds
 ·obtain ⟨c1, k1, _⟩ := Fo h1
  obtain ⟨c2, k2, _⟩ := Fo h2
  exact R.inj _ _ _ _ _ k1 k2 g1 g2
 ·obtain ⟨c1, k1, _⟩ := Fo h
  exact R.base _ _ _ k1 hg
 ·obtain ⟨b', h1, h2, h3⟩ := R.upd id b hb
  have hid := (C.clean id b hb).1
  have hnc : ds.contains id = false := by
   cases hc : ds.contains id with
   | false => rfl
   | true =>
    have := hds id (List.contains_iff_mem.1 hc)
    omega
  refine ⟨b'.purge ds, by simp only [AS.drop, Ap, hnc]; rw [h1]; rfl, by rw [BN]; exact h2, fun hl => ?_⟩
  rw [BN] at hl
  rw [Fe]
  exact h3 hl
theorem Ae.share {id : Nat} {e : TypeId} {wd : Nat} {xs : List (List SV)} (hS : s.S id = some (.mrow e wd xs)) : Ae C s (s.set id (.arow e wd xs)) := fun a w ⟨σ, ι, R⟩ => by
 have hb := R.blk _ _ hS
 have hι : AH ι id (ι id) = ι := by
  funext k
  unfold AH
  split
  ·rename_i h; rw [h]
  ·rfl
 cases hb with
 | mnil h1 h2 =>
  obtain ⟨hu, R'⟩ := R.turn (w' := w) hS (.arow e wd []) (ι id) (σ' := σ) (fun _ _ h => h) (fun _ _ _ => rfl) R.fit (Nat.le_refl _) (fun _ => ⟨rfl, rfl⟩) ⟨rfl, rfl, rfl⟩ (Nat.le_refl _) (fun _ _ _ => rfl) (fun g h => .inl h) (fun hu => .afull h1 (by simpa using h2) (by simp) (.list (b := 0) (o := 0) (w := 0) (fun _ _ => undef) rfl (by simp) (by rw [h2]; simp [maxLen]) (fun _ => h2) (by simp) (by simp) (fun _ h _ => absurd h (by omega)) (by simp) (by simp)))
  exact ⟨σ, _, R'⟩
 | @mrow _ _ _ g vs h1 h2 h3 h4 h5 h6 h7 h8 h9 =>
  have hl : BI σ vs.toList wd xs := ⟨h7, fun k x j y hx hy => by simpa using h8 k x j y hx hy⟩
  have hkeep := HW (σ := σ) (w' := w) (g := g) (k := xs.length * wd) (fun p x e hx => by rw [h9 _ e] at hx; cases hx)
  obtain ⟨hu, R'⟩ := R.turn (w' := w) hS (.arow e wd xs) (ι id) (σ' := D_ σ w g (xs.length * wd)) hkeep (fun p hp _ => Gm (fun e => hp (by rw [e]; exact h1))) (FG R.fit) (Nat.le_refl _) (fun _ => ⟨rfl, rfl⟩) ⟨rfl, rfl, rfl⟩ (Nat.le_refl _) (fun _ _ _ => rfl) (fun g h => .inl h)
   (fun hu => by
    have := HH (S' := (s.set id (.arow e wd xs)).S) (ι' := AH ι id (ι id)) (w' := w) (p := (ι id).p) h2 h3 h4 h5 h6 hl hkeep (fun p hp hne => absurd (h9 p hp) hne)
    rw [← h1] at this
    exact this)
  exact ⟨_, _, R'⟩
theorem Ae.own (t id : Nat) (e : TypeId) (wd : Nat) {xs : List (List SV)} (ht : s.env t = .one (.full xs)) (hid : s.S id = none) (hw : ∀ x ∈ xs, x.length = wd) (hn : t < C.n) : Ae C s ⟨AH s.env t (.one (.row id xs.length)), AH s.S id (some (.arow e wd xs))⟩ := fun a w ⟨σ, ι, R⟩ => by
 have rt := R.env t hn
 rw [ht] at rt
 generalize hv : a.tmps.getD t undef = v at rt
 cases AZ rt with
 | @full p len xs hs =>
  have hl : len = xs.length := by
   obtain ⟨p', cap', e1, _⟩ := CK hs
   cases e1
   rfl
  subst hl
  obtain ⟨hu, R'⟩ := R.fresh (w' := w) hid (.arow e wd xs) ⟨p, xs.length, none⟩ (Ext.refl _ _) R.fit (Below.refl _ _) (by simp) (fun S' ι' hu => .afull rfl rfl hw hs)
  refine ⟨σ, _, R'.size, fun i hi => ?_, R'.nod, R'.fit, R'.blk, R'.inj, R'.base, R'.ext, R'.old, R'.os, R'.grown, R'.same, R'.upd⟩
  show AN σ (s.set id (.arow e wd xs)).S _ _ (AH s.env t _ i)
  unfold AH
  split
  ·rename_i e1
   subst e1
   rw [hv]
   exact .one (.row (b := .arow e wd xs) (by simp [AS.set, AE]) (Nat.le_refl _) rfl fun _ => by simp [AH])
  ·exact R'.env i hi
theorem Ae.ownM (t id : Nat) (e : TypeId) (wd : Nat) (ht : s.env t = .one (.full [])) (hid : s.S id = none) (hn : t < C.n) : Ae C s ⟨AH s.env t (.one (.row id 0)), AH s.S id (some (.mrow e wd []))⟩ := fun a w ⟨σ, ι, R⟩ => by
 have rt := R.env t hn
 rw [ht] at rt
 generalize hv : a.tmps.getD t undef = v at rt
 cases AZ rt with
 | @full p len xs hs =>
  have hl : len = 0 := by
   obtain ⟨p', cap', e1, _⟩ := CK hs
   cases e1
   rfl
  subst hl
  obtain ⟨hu, R'⟩ := R.fresh (w' := w) hid (.mrow e wd []) ⟨p, 0, none⟩ (Ext.refl _ _) R.fit (Below.refl _ _) (by simp) (fun S' ι' hu => .mnil rfl rfl)
  refine ⟨σ, _, R'.size, fun i hi => ?_, R'.nod, R'.fit, R'.blk, R'.inj, R'.base, R'.ext, R'.old, R'.os, R'.grown, R'.same, R'.upd⟩
  show AN σ (s.set id (.mrow e wd [])).S _ _ (AH s.env t _ i)
  unfold AH
  split
  ·rename_i e1
   subst e1
   rw [hv]
   exact .one (.row (b := .mrow e wd []) (by simp [AS.set, AE]) (Nat.le_refl _) rfl fun _ => by simp [AH])
  ·exact R'.env i hi
theorem Ae.toPart (t id n : Nat) (ht : s.env t = .one (.row id n)) (hn : t < C.n) : Ae C s ⟨AH s.env t (.one (.part id n n)), s.S⟩ := fun a w ⟨σ, ι, R⟩ => by
 have rt := R.env t hn
 rw [ht] at rt
 refine ⟨σ, ι, R.size, fun i hi => ?_, R.nod, R.fit, R.blk, R.inj, R.base, R.ext, R.old, R.os, R.grown, R.same, R.upd⟩
 show AN σ s.S ι _ (AH s.env t _ i)
 unfold AH
 split
 ·rename_i e1
  subst e1
  obtain ⟨b, h1, h2, h3⟩ := CY (AZ rt)
  exact .one (.part h1 h2 (AZ rt).one fun hl => ⟨Nat.le_refl _, h3 hl⟩)
 ·exact R.env i hi
theorem Ae.keep (t id k n : Nat) {e : TypeId} {wd : Nat} {xs : List (List SV)} (ht : s.env t = .one (.part id k n)) (hS : s.S id = some (.arow e wd xs)) (hl : n = xs.length) (hn : t < C.n) : Ae C s ⟨AH s.env t (.one (.st (.list (xs.take k)))), s.S⟩ := fun a w ⟨σ, ι, R⟩ => by
 have rt := R.env t hn
 rw [ht] at rt
 refine ⟨σ, ι, R.size, fun i hi => ?_, R.nod, R.fit, R.blk, R.inj, R.base, R.ext, R.old, R.os, R.grown, R.same, R.upd⟩
 show AN σ s.S ι _ (AH s.env t _ i)
 unfold AH
 split
 ·rename_i e1
  subst e1
  obtain ⟨b, h1, h2, h3⟩ := EM (AZ rt)
  rw [hS] at h1
  cases h1
  obtain ⟨h4, h5⟩ := h3 hl
  rw [h5]
  have hb := R.blk _ _ hS
  have hr := hb.srep
  have hmem : ∀ {kk x}, (xs.take k)[kk]? = some x → xs[kk]? = some x := fun hx => by
   rw [List.getElem?_take] at hx
   split at hx
   ·exact hx
   ·cases hx
  cases hr with
  | @list p len cap b o w' _ c q1 q2 q3 q4 q5 q6 qh q7 q8 =>
   exact .one (.st (.list (b := b) (o := o) (w := w') c (by rw [List.length_take]; omega) (by omega) q3 q4 (fun hne => q5 (by omega)) (fun x hx => q6 x (List.mem_of_mem_take hx)) (fun e1 e2 e3 => qh e1 e2 (fun e4 => e3 (by rw [e4]; exact List.take_nil))) (fun kk x j a hx ha => q7 kk x j a (hmem hx) ha) (fun kk x j a hx ha => q8 kk x j a (hmem hx) ha)))
 ·exact R.env i hi
theorem Ae.ownC (id j nid : Nat) (e : TypeId) (wd : Nat) {xs : List (List SV)} {ty : TypeId} {cs : List AC} (hb : s.S id = some (.box ty cs)) (hc : cs[j]? = some (.full xs)) (hn : s.S nid = none) (hw : ∀ x ∈ xs, x.length = wd) :
  Ae C s ((s.set nid (.arow e wd xs)).set id (.box ty (cs.set j (.row nid xs.length)))) := fun a w ⟨σ, ι, R⟩ => by
 have hbk := R.blk id _ hb
 have hne : id ≠ nid := fun e => by subst e; rw [hb] at hn; cases hn
 cases hbk with
 | @box _ _ g vs h1 h2 h3 h4 h5 =>
  obtain ⟨v, hv, hr⟩ := h4.get hc
  cases hr with
  | @full p len xs hs =>
   have hl : len = xs.length := by
    obtain ⟨p', cap', e1, _⟩ := CK hs
    cases e1
    rfl
   subst hl
   obtain ⟨hu, R'⟩ := R.fresh (w' := w) hn (.arow e wd xs) ⟨p, xs.length, none⟩ (Ext.refl _ _) R.fit (Below.refl _ _) (by simp) (fun S' ι' hu => .afull rfl rfl hw hs)
   have hb' : (s.set nid (.arow e wd xs)).S id = some (.box ty cs) := by simp [AS.set, AK _ hne, hb]
   have hι : AH ι nid ⟨p, xs.length, none⟩ id = ι id := AK _ hne _
   obtain ⟨hu2, R2⟩ := R'.turn (w' := w) hb' (.box ty (cs.set j (.row nid xs.length))) (AH ι nid ⟨p, xs.length, none⟩ id) (σ' := σ) (fun _ _ h => h) (fun _ _ _ => rfl) R.fit (Nat.le_refl _) (fun _ => ⟨by simp [AJ.wid], rfl⟩) ⟨rfl, rfl, rfl⟩ (Nat.le_refl _) (fun _ _ _ => rfl) (fun g h => .inl h) (fun hu2 => by
    refine .box (by rw [hι]; exact h1) (by rw [hι]; exact h2) h3 (Ab.of_get (by rw [List.length_set]; exact h4.len) fun k u c hu' hck => ?_) h5
    by_cases hk : k = j
    ·subst hk
     rw [hv] at hu'
     cases hu'
     have hlt : k < cs.length := (List.getElem?_eq_some_iff.1 hc).1
     rw [List.getElem?_set_self hlt] at hck
     cases hck
     exact .row (b := .arow e wd xs) (by simp [AS.set, AH, hne.symm]) (Nat.le_refl _) rfl fun _ => by simp [AH, hne.symm]
    ·rw [List.getElem?_set_ne (fun e => hk e.symm)] at hck
     obtain ⟨u', q1, q2⟩ := h4.get hck
     rw [hu'] at q1
     cases q1
     exact (q2.mono (fun _ _ h => h) hu).mono (fun _ _ h => h) hu2)
   exact ⟨_, _, R2⟩
theorem Ls {v : Value} {c : AV} (h : AN σ noS noH v c) : AN σ s.S ι v c := h.mono (fun _ _ h => h) (Gi _ _)
theorem Ae.settle (t : Nat) {v : AV} (h : outV s.S (s.env t) = some v) : Ae C s ⟨AH s.env t v, s.S⟩ := fun a w ⟨σ, ι, R⟩ => by
 refine ⟨σ, ι, R.size, fun i hi => ?_, R.nod, R.fit, R.blk, R.inj, R.base, R.ext, R.old, R.os, R.grown, R.same, R.upd⟩
 show AN σ s.S ι _ (AH s.env t v i)
 unfold AH
 split
 ·rename_i e
  subst e
  exact Ls (R.outV (R.env i hi) h)
 ·exact R.env i hi
def AV.low (v : AV) : AV := if v.high then v else .any
theorem AP.low (R : AP C σ ι s a w) (hb : ∀ i b, 1000 ≤ i → s.S i = some b → b.high = true) : AP C σ ι ⟨fun i => (s.env i).low, CJ s.S⟩ a w := by
 have hS : ∀ i b, 1000 ≤ i → s.S i = some b → CJ s.S i = some b := fun i b hi h => by
  show (if i < 1000 then none else s.S i) = some b
  rw [if_neg (by omega), h]
 have hinv : ∀ i b, CJ s.S i = some b → 1000 ≤ i ∧ s.S i = some b := fun i b h => by
  have h' : (if i < 1000 then none else s.S i) = some b := h
  split at h'
  ·cases h'
  ·exact ⟨by omega, h'⟩
 refine ⟨R.size, fun i hi => ?_, R.nod, R.fit, fun id b h => ?_, fun id id' b b' g h1 h2 g1 g2 => R.inj _ _ _ _ g (hinv _ _ h1).2 (hinv _ _ h2).2 g1 g2, fun id b g h hg => R.base _ _ g (hinv _ _ h).2 hg, R.ext, R.old, R.os, R.grown, R.same, fun id b h => ?_⟩
 ·show AN σ (CJ s.S) ι _ ((s.env i).low)
  unfold AV.low
  split
  ·rename_i hh
   exact (R.env i hi).low hS hh
  ·exact .any
 ·obtain ⟨h1, h2⟩ := hinv _ _ h
  have hh := hb id b h1 h2
  cases R.blk id b h2 with
  | box k1 k2 k3 k4 k5 => exact .box k1 k2 k3 (Mg hS k4 hh) k5
  | afull k1 k2 k3 k4 => exact .afull k1 k2 k3 k4
  | arow k1 k2 k3 k4 k5 k6 k7 k8 k9 kh => exact .arow k1 k2 k3 k4 k5 k6 k7 k8 k9 kh
  | mnil k1 k2 => exact .mnil k1 k2
  | mrow k1 k2 k3 k4 k5 k6 k7 k8 k9 => exact .mrow k1 k2 k3 k4 k5 k6 k7 k8 k9
  | map k1 k2 k3 k4 => exact .map k1 k2 k3 k4
  | memo k1 k2 k3 k4 => exact .memo k1 k2 k3 k4
  | iter k1 k2 k3 k4 => exact .iter k1 k2 (k3.low hS hh) k4
  | loop k1 k2 k3 k4 k5 => exact .loop k1 k2 k3 (AN.lows hS k4 hh) k5
  | dead k1 => exact .dead k1
 ·obtain ⟨b', h1, h2⟩ := R.upd id b h
  exact ⟨b', hS _ _ (C.clean id b h).1 h1, h2⟩
theorem Ae.low (hb : ∀ i b, 1000 ≤ i → s.S i = some b → b.high = true) : Ae C s ⟨fun i => (s.env i).low, CJ s.S⟩ := fun a w ⟨σ, ι, R⟩ => ⟨σ, ι, R.low hb⟩
def BY (id a : Nat) (i : Nat) : Nat := if i = id then a else i
def AV.hand (id a : Nat) (v : AV) : AV := if (v.ren (BY id a)).high then v.ren (BY id a) else .any
section
variable {S S2 : AA} {ι2 : Au} {id a0 : Nat}
theorem Ak.hand (hS : ∀ i b, 1000 ≤ BY id a0 i → S i = some b → S2 (BY id a0 i) = some b ∧ ι2 (BY id a0 i) = ι i) {v : Value} {c : AC} (h : Ak σ S ι v c) (hc : (c.ren (BY id a0)).high = true) : Ak σ S2 ι2 v (c.ren (BY id a0)) := by
 induction h with
 | st h => exact .st h
 | full h => exact .full h
 | row h1 h2 h3 h4 =>
  rw [AC.ren, AC.high] at hc
  obtain ⟨q1, q2⟩ := hS _ _ (of_decide_eq_true hc) h1
  rw [AC.ren]
  exact .row q1 h2 h3 (fun hn => by rw [q2]; exact h4 hn)
 | part h1 h2 h3 h4 =>
  rw [AC.ren, AC.high] at hc
  obtain ⟨q1, q2⟩ := hS _ _ (of_decide_eq_true hc) h1
  rw [AC.ren]
  exact .part q1 h2 h3 (fun hn => by rw [q2]; exact h4 hn)
 | rest h1 h2 h3 h4 =>
  rw [AC.ren, AC.high] at hc
  obtain ⟨q1, q2⟩ := hS _ _ (of_decide_eq_true hc) h1
  rw [AC.ren]
  exact .rest q1 h2 h3 (fun hn => by rw [q2]; exact h4 hn)
 | ptr h1 h2 h3 h4 =>
  rw [AC.ren, AC.high] at hc
  obtain ⟨q1, q2⟩ := hS _ _ (of_decide_eq_true hc) h1
  rw [AC.ren]
  exact .ptr q1 h2 h3 (fun hn => by rw [q2]; exact h4 hn)
 | mptr h1 h2 h3 h4 =>
  rw [AC.ren, AC.high] at hc
  obtain ⟨q1, q2⟩ := hS _ _ (of_decide_eq_true hc) h1
  rw [AC.ren]
  exact .mptr q1 h2 h3 (fun hn => by rw [q2]; exact h4 hn)
 | yld h1 h2 h3 h4 =>
  rw [AC.ren, AC.high] at hc
  obtain ⟨q1, q2⟩ := hS _ _ (of_decide_eq_true hc) h1
  rw [AC.ren]
  exact .yld q1 h2 h3 (fun hn => by rw [q2]; exact h4 hn)
 | ubool => exact .ubool
 | eptr c h1 h2 hh => exact .eptr c h1 h2 hh
 | @fn f vs caps c h1 h2 h3 ih =>
  rw [AC.ren, AC.high] at hc
  rw [AC.ren]
  have key : ∀ (j : Nat) (b : AC), (AC.rens (BY id a0) caps)[j]? = some b → ∃ a, caps[j]? = some a ∧ b = a.ren (BY id a0) := fun j b hb => by
   rw [AC.rens_eq, List.getElem?_map, Option.map_eq_some_iff] at hb
   obtain ⟨a, ha, rfl⟩ := hb
   exact ⟨a, ha, rfl⟩
  refine .fn c (by rw [AC.rens_eq]; simpa using h1) (fun j b hb => ?_) (fun j b hb => ?_)
  ·obtain ⟨a, ha, rfl⟩ := key j b hb
   exact h2 j a ha
  ·have hm := CR hc b (List.mem_of_getElem? hb)
   obtain ⟨a, ha, rfl⟩ := key j b hb
   exact ih j a ha hm
 | any h => exact .any h
mutual
theorem AN.hand (hS : ∀ i b, 1000 ≤ BY id a0 i → S i = some b → S2 (BY id a0 i) = some b ∧ ι2 (BY id a0 i) = ι i) : ∀ {v : Value} {c : AV}, AN σ S ι v c → (c.ren (BY id a0)).high = true → AN σ S2 ι2 v (c.ren (BY id a0))
 | v, .one c, h, hc => by
  rw [AV.ren] at hc ⊢
  rw [AV.high] at hc
  cases h with | one h => exact .one (h.hand hS hc)
 | v, .agg cs, h, hc => by
  rw [AV.ren] at hc ⊢
  rw [AV.high] at hc
  cases h with
  | agg h =>
   refine .agg (Ab.of_get (by rw [AC.rens_eq]; simpa using h.len) fun j x c hx hcj => ?_)
   have hm := CR hc c (List.mem_of_getElem? hcj)
   rw [AC.rens_eq, List.getElem?_map, Option.map_eq_some_iff] at hcj
   obtain ⟨c', hc', rfl⟩ := hcj
   obtain ⟨x', h1, h2⟩ := h.get hc'
   rw [hx] at h1
   cases h1
   exact h2.hand hS hm
 | v, .tup vs, h, hc => by
  rw [AV.ren] at hc ⊢
  rw [AV.high] at hc
  cases h with
  | tup c h1 h2 h3 =>
   obtain ⟨k1, k2⟩ := AN.hands hS h3 hc
   exact .tup c (by rw [h1, k1]) (fun j b hb => by
    rcases Nat.lt_or_ge j vs.length with hj | hj
    ·exact h2 j _ (List.getElem?_eq_getElem hj)
    ·rw [List.getElem?_eq_none (by omega)] at hb; cases hb) k2
 | v, .any, h, _ => .any
theorem AN.hands (hS : ∀ i b, 1000 ≤ BY id a0 i → S i = some b → S2 (BY id a0 i) = some b ∧ ι2 (BY id a0 i) = ι i) : ∀ {vs : List AV} {c : Nat → Value}, (∀ j b, vs[j]? = some b → AN σ S ι (c j) b) → AV.highs (AV.rens (BY id a0) vs) = true → vs.length = (AV.rens (BY id a0) vs).length ∧ ∀ j b, (AV.rens (BY id a0) vs)[j]? = some b → AN σ S2 ι2 (c j) b
 | [], c, h, _ => by simp [AV.rens]
 | x :: xs, c, h, hc => by
  rw [AV.rens, AV.highs, Bool.and_eq_true] at hc
  obtain ⟨m1, m2⟩ := AN.hands hS (vs := xs) (c := fun j => c (j + 1)) (fun j b hb => h (j + 1) b (by simpa using hb)) hc.2
  refine ⟨by simp [AV.rens, ← m1], fun j b hb => ?_⟩
  cases j with
  | zero =>
   simp [AV.rens] at hb
   subst hb
   exact AN.hand hS (h 0 x rfl) hc.1
  | succ j => exact m2 j b (by simpa [AV.rens] using hb)
end
end
theorem Ak.stay {S S2 : AA} {ι2 : Au} (hS : ∀ i b, 1000 ≤ i → S i = some b → S2 i = some b ∧ ι2 i = ι i) {v : Value} {c : AC} (h : Ak σ S ι v c) (hc : c.high = true) : Ak σ S2 ι2 v c := by
 induction h with
 | st h => exact .st h
 | full h => exact .full h
 | row h1 h2 h3 h4 =>
  rw [AC.high] at hc
  obtain ⟨q1, q2⟩ := hS _ _ (of_decide_eq_true hc) h1
  exact .row q1 h2 h3 (fun hn => by rw [q2]; exact h4 hn)
 | part h1 h2 h3 h4 =>
  rw [AC.high] at hc
  obtain ⟨q1, q2⟩ := hS _ _ (of_decide_eq_true hc) h1
  exact .part q1 h2 h3 (fun hn => by rw [q2]; exact h4 hn)
 | rest h1 h2 h3 h4 =>
  rw [AC.high] at hc
  obtain ⟨q1, q2⟩ := hS _ _ (of_decide_eq_true hc) h1
  exact .rest q1 h2 h3 (fun hn => by rw [q2]; exact h4 hn)
 | ptr h1 h2 h3 h4 =>
  rw [AC.high] at hc
  obtain ⟨q1, q2⟩ := hS _ _ (of_decide_eq_true hc) h1
  exact .ptr q1 h2 h3 (fun hn => by rw [q2]; exact h4 hn)
 | mptr h1 h2 h3 h4 =>
  rw [AC.high] at hc
  obtain ⟨q1, q2⟩ := hS _ _ (of_decide_eq_true hc) h1
  exact .mptr q1 h2 h3 (fun hn => by rw [q2]; exact h4 hn)
 | yld h1 h2 h3 h4 =>
  rw [AC.high] at hc
  obtain ⟨q1, q2⟩ := hS _ _ (of_decide_eq_true hc) h1
  exact .yld q1 h2 h3 (fun hn => by rw [q2]; exact h4 hn)
 | ubool => exact .ubool
 | eptr c h1 h2 hh => exact .eptr c h1 h2 hh
 | fn c h1 h2 h3 ih =>
  rw [AC.high] at hc
  exact .fn c h1 h2 (fun j a ha => ih j a ha (CR hc a (List.mem_of_getElem? ha)))
 | any h => exact .any h
theorem AP.hand (R : AP C σ ι s a w) (id a0 : Nat) {b0 : AJ} (hid : id < 1000) (ha : 1000 ≤ a0) (hSa : s.S a0 = none) (hb0 : s.S id = some b0) (hbh : b0.high = true) (hb : ∀ i b, 1000 ≤ i → s.S i = some b → b.high = true) :
  AP C σ (AH ι a0 (ι id)) ⟨fun i => (s.env i).hand id a0, AH (CJ s.S) a0 (some b0)⟩ a w ∧ ∀ i b, 1000 ≤ BY id a0 i → s.S i = some b → AH (CJ s.S) a0 (some b0) (BY id a0 i) = some b ∧ AH ι a0 (ι id) (BY id a0 i) = ι i := by
 have hlow : ∀ i, 1000 ≤ i → CJ s.S i = s.S i := fun i hi => by
  show (if i < 1000 then none else s.S i) = _
  rw [if_neg (by omega)]
 have hS : ∀ i b, 1000 ≤ BY id a0 i → s.S i = some b → AH (CJ s.S) a0 (some b0) (BY id a0 i) = some b ∧ AH ι a0 (ι id) (BY id a0 i) = ι i := fun i b hi h => by
  unfold BY at hi ⊢
  by_cases e : i = id
  ·subst e
   rw [if_pos rfl, AE, AE, ← hb0, h]
   exact ⟨rfl, rfl⟩
  ·rw [if_neg e] at hi ⊢
   have hne : i ≠ a0 := fun e => by subst e; rw [hSa] at h; cases h
   rw [AK _ hne, AK _ hne, hlow i hi]
   exact ⟨h, rfl⟩
 have hS' : ∀ i b, 1000 ≤ i → s.S i = some b → AH (CJ s.S) a0 (some b0) i = some b ∧ AH ι a0 (ι id) i = ι i := fun i b hi h => by
  have hne : i ≠ a0 := fun e => by subst e; rw [hSa] at h; cases h
  rw [AK _ hne, AK _ hne, hlow i hi]
  exact ⟨h, rfl⟩
 have hinv : ∀ i b, AH (CJ s.S) a0 (some b0) i = some b → (i = a0 ∧ b = b0) ∨ (i ≠ a0 ∧ 1000 ≤ i ∧ s.S i = some b) := fun i b h => by
  by_cases e : i = a0
  ·subst e
   rw [AE] at h
   cases h
   exact .inl ⟨rfl, rfl⟩
  ·rw [AK _ e] at h
   have h' : (if i < 1000 then none else s.S i) = some b := h
   split at h'
   ·cases h'
   ·exact .inr ⟨e, by omega, h'⟩
 refine ⟨⟨R.size, fun i hi => ?_, R.nod, R.fit, fun i b h => ?_, fun i j b c g h1 h2 g1 g2 => ?_, fun i b g h hg => ?_, R.ext, R.old, R.os, R.grown, R.same, fun i b h => ?_⟩, hS⟩
 ·show AN σ (AH (CJ s.S) a0 (some b0)) _ _ ((s.env i).hand id a0)
  unfold AV.hand
  split
  ·rename_i hh
   exact (R.env i hi).hand hS hh
  ·exact .any
 ·rcases hinv i b h with ⟨rfl, rfl⟩ | ⟨hne, h1, h2⟩
  ·rw [AE]
   exact (R.blk id _ hb0).samecells (fun v c hv hc => hv.stay hS' hc) hbh
  ·rw [AK _ hne]
   exact (R.blk i b h2).samecells (fun v c hv hc => hv.stay hS' hc) (hb i b h1 h2)
 ·rcases hinv i b h1 with ⟨rfl, rfl⟩ | ⟨hne, k1, k2⟩ <;> rcases hinv j c h2 with ⟨rfl, rfl⟩ | ⟨hne', k1', k2'⟩
  ·rfl
  ·rw [AE] at g1
   rw [AK _ hne'] at g2
   have := R.inj _ _ _ _ g hb0 k2' g1 g2
   omega
  ·rw [AE] at g2
   rw [AK _ hne] at g1
   have := R.inj _ _ _ _ g k2 hb0 g1 g2
   omega
  ·rw [AK _ hne] at g1
   rw [AK _ hne'] at g2
   exact R.inj _ _ _ _ g k2 k2' g1 g2
 ·rcases hinv i b h with ⟨rfl, rfl⟩ | ⟨hne, k1, k2⟩
  ·rw [AE] at hg
   exact R.base _ _ g hb0 hg
  ·rw [AK _ hne] at hg
   exact R.base _ _ g k2 hg
 ·obtain ⟨b', h1, h2, h3⟩ := R.upd i b h
  obtain ⟨q1, q2⟩ := hS' i b' (C.clean i b h).1 h1
  exact ⟨b', q1, h2, fun hl => ⟨(h3 hl).1, by rw [q2]; exact (h3 hl).2⟩⟩
theorem Ae.hand (id a0 : Nat) {b0 : AJ} (hid : id < 1000) (ha : 1000 ≤ a0) (hSa : s.S a0 = none) (hb0 : s.S id = some b0) (hbh : b0.high = true) (hb : ∀ i b, 1000 ≤ i → s.S i = some b → b.high = true) : Ae C s ⟨fun i => (s.env i).hand id a0, AH (CJ s.S) a0 (some b0)⟩ := fun a w ⟨σ, ι, R⟩ =>
 ⟨σ, _, (R.hand id a0 hid ha hSa hb0 hbh hb).1⟩
theorem Kq {C : Ctx} {rs : List RV} {S' : AA} {e : AX} {s : AS} (he : match e with | .normal => True | .ret => True | _ => False) (id a0 : Nat) (r0 : AV) {b0 : AJ} (hid : id < 1000) (ha : 1000 ≤ a0) (hSa : s.S a0 = none) (hb0 : s.S id = some b0) (hbh : b0.high = true) (hb : ∀ i b, 1000 ≤ i → s.S i = some b → b.high = true)
  (h1 : (AB s rs).map AI = some r0) (hh : (r0.ren (BY id a0)).high = true) (h3 : AH (CJ s.S) a0 (some b0) = S') (hc : At S') : IC C rs (r0.ren (BY id a0)) S' e s :=
 ⟨he, s, ⟨fun i => (s.env i).hand id a0, AH (CJ s.S) a0 (some b0)⟩, r0, Ae.refl _ _, h1, fun σ ι a w R => ⟨σ, _, (R.hand id a0 hid ha hSa hb0 hbh hb).1, fun v hv => hv.hand (R.hand id a0 hid ha hSa hb0 hbh hb).2 hh⟩, h3, hc⟩
theorem As (S : AA) (i : Nat) : upS S (up1 i) = (S i).map (AJ.ren up1) := by
 show (if i + 1000 < 1000 then none else (S (i + 1000 - 1000)).map (AJ.ren up1)) = _
 rw [if_neg (by omega), Nat.add_sub_cancel]
theorem LZ (S : AA) (i : Nat) (b : AJ) : dnS (AH S (up1 i) (some b)) = AH (dnS S) i (some (b.ren dn1)) := by
 funext k
 show (AH S (up1 i) (some b) (up1 k)).map _ = AH (dnS S) i _ k
 by_cases h : k = i
 ·subst h
  rw [AE, AE]
  rfl
 ·have hne : up1 k ≠ up1 i := fun e => h (by have := congrArg dn1 e; rw [Hw, Hw] at this; exact this)
  rw [AK _ hne, AK _ h]
  rfl
theorem G1 (S : AA) {i : Nat} (h : i < 1000) (b : Option AJ) : CJ (AH S i b) = CJ S := by
 funext k
 show (if k < 1000 then none else AH S i b k) = (if k < 1000 then none else S k)
 split
 ·rfl
 ·exact AK _ (by omega) _
theorem QU (S : AA) {i : Nat} (h : 1000 ≤ i) (b : Option AJ) : CJ (AH S i b) = AH (CJ S) i b := by
 funext k
 show (if k < 1000 then none else AH S i b k) = AH (CJ S) i b k
 by_cases e : k = i
 ·subst e
  rw [if_neg (by omega), AE, AE]
 ·rw [AK _ e, AK _ e]
  rfl
theorem CT {S : AA} (h : At S) {i : Nat} (hi : 1000 ≤ i) {b : AJ} (hb : b.high = true) : At (AH S i (some b)) := fun k c hk => by
 by_cases e : k = i
 ·subst e
  rw [AE] at hk
  cases hk
  exact ⟨hi, hb⟩
 ·rw [AK _ e] at hk
  exact h k c hk
theorem Sw {S : AA} {i : Nat} {b : AJ} (h : ∀ k c, 1000 ≤ k → S k = some c → c.high = true) (hb : b.high = true) : ∀ k c, 1000 ≤ k → AH S i (some b) k = some c → c.high = true := fun k c hk hc => by
 by_cases e : k = i
 ·subst e
  rw [AE] at hc
  cases hc
  exact hb
 ·rw [AK _ e] at hc
  exact h k c hk hc
theorem HV {S : AA} {i : Nat} (hi : i < 1000) {b : Option AJ} (h : ∀ k c, 1000 ≤ k → S k = some c → c.high = true) : ∀ k c, 1000 ≤ k → AH S i b k = some c → c.high = true := fun k c hk hc => by
 rw [AK _ (by omega)] at hc
 exact h k c hk hc
end
theorem IWP.loopD {P : Program} {C : Ctx} {mu : List Nat} {Q : AX → AS → Prop} {s : AS} {x : IR} (ds : List Nat) (Inv : Nat → AS → Prop) (m0 : Nat) (h0 : Inv m0 s) (h : ∀ m s, Inv m s → IWP P C mu x (AX.then (fun s' => ∃ m', m' < m ∧ Inv m' (s'.drop ds)) Q) s) (hds : ∀ d ∈ ds, d < 1000 := by decide) : IWP P C mu (.loop x) Q s := by
 refine IWP.loop (fun m s => ∃ s1, Ae C s s1 ∧ Inv m s1) m0 ⟨s, Ae.refl _ _, h0⟩ fun m s ⟨s1, hg, hi⟩ => ?_
 refine (IWP.ghost hg (h m s1 hi)).mono fun e s2 he => ?_
 cases e with
 | normal =>
  obtain ⟨m', h1, h2⟩ := he
  exact ⟨m', h1, _, Ae.drop ds s2 hds, h2⟩
 | _ => exact he
theorem Ak.out {σ : Sto} {S : AA} {ι : Au} {v : Value} {c : AC} (h : Ak σ S ι v c) (hc : outC noS c = some c) : Ak σ noS noH v c := by
 cases h with
 | st h => exact .st h
 | full h => simp [outC, stC] at hc
 | row h1 h2 h3 h4 => simp [outC, stC, noS] at hc
 | part h1 h2 h3 h4 => simp [outC, stC, noS] at hc
 | rest h1 h2 h3 h4 => simp [outC, stC, noS] at hc
 | ptr h1 h2 h3 h4 => simp [outC, stC] at hc
 | mptr h1 h2 h3 h4 => simp [outC, stC] at hc
 | yld h1 h2 h3 h4 => simp [outC, stC] at hc
 | ubool => exact .ubool
 | eptr c h1 h2 hh => exact .eptr c h1 h2 hh
 | @fn f vs caps c h1 h2 h3 =>
  cases caps with
  | nil => exact .fn c h1 h2 (by simp)
  | cons x xs =>
   have hall : (x :: xs).all AC.stay = true := by
    unfold outC at hc
    by_cases e : (x :: xs).all AC.stay = true
    ·exact e
    ·simp only [e, if_false] at hc
     cases hc
   exact .fn c h1 h2 fun j a ha => (h3 j a ha).staying (List.all_eq_true.1 hall a (List.mem_of_getElem? ha))
 | any h => simp [outC, stC] at hc
theorem I4 : ∀ {cs : List AC}, outCs noS cs = some cs → ∀ c ∈ cs, outC noS c = some c
 | [], _, c, hc => by simp at hc
 | x :: xs, h, c, hc => by
  simp only [outCs] at h
  split at h
  ·rename_i y ys h1 h2
   simp only [Option.some.injEq, List.cons.injEq] at h
   obtain ⟨rfl, rfl⟩ := h
   rcases List.mem_cons.1 hc with rfl | hc
   ·exact h1
   ·exact I4 h2 c hc
  ·cases h
mutual
theorem AN.out {σ : Sto} {S : AA} {ι : Au} : ∀ {v : Value} {c : AV}, AN σ S ι v c → outV noS c = some c → AN σ noS noH v c
 | v, .one c, h, hc => by
  rw [outV, Option.map_eq_some_iff] at hc
  obtain ⟨a, h1, h2⟩ := hc
  cases h2
  cases h with | one h => exact .one (h.out h1)
 | v, .agg cs, h, hc => by
  rw [outV, Option.map_eq_some_iff] at hc
  obtain ⟨a, h1, h2⟩ := hc
  cases h2
  cases h with
  | agg h => exact .agg (Ab.of_get h.len fun j x c hx hcj => by
    obtain ⟨x', q1, q2⟩ := h.get hcj
    rw [hx] at q1
    cases q1
    exact q2.out (I4 h1 c (List.mem_of_getElem? hcj)))
 | v, .tup vs, h, hc => by
  rw [outV, Option.map_eq_some_iff] at hc
  obtain ⟨a, h1, h2⟩ := hc
  cases h2
  cases h with
  | tup c k1 k2 k3 => exact .tup c k1 k2 (AN.outs k3 h1)
 | v, .any, h, _ => .any
theorem AN.outs {σ : Sto} {S : AA} {ι : Au} : ∀ {vs : List AV} {c : Nat → Value}, (∀ j b, vs[j]? = some b → AN σ S ι (c j) b) → outVs noS vs = some vs → ∀ j b, vs[j]? = some b → AN σ noS noH (c j) b
 | [], c, h, _, j, b, hb => by simp at hb
 | x :: xs, c, h, hc, j, b, hb => by
  rw [outVs] at hc
  split at hc
  ·rename_i y ys h1 h2
   simp only [Option.some.injEq, List.cons.injEq] at hc
   obtain ⟨rfl, rfl⟩ := hc
   cases j with
   | zero =>
    simp at hb
    subst hb
    exact AN.out (h 0 _ rfl) h1
   | succ j => exact AN.outs (c := fun j => c (j + 1)) (fun j b hb => h (j + 1) b (by simpa using hb)) h2 j b (by simpa using hb)
  ·cases hc
end
theorem Aa.toS {P : Program} {f : FuncId} {xs : List AV} {S : AA} {r : AV} (h : Aa P f xs r) (hx : outVs noS xs = some xs) : Am P f xs S r S := by
 intro hclean σ w vs ι hglob hfit hown hvs
 have hvs' : Ab (AN σ noS noH) vs xs := Ab.of_get hvs.len fun j v x hv hxj => by
  have := AN.outs (c := fun j => (vs[j]?).getD undef) (σ := σ) (S := S) (ι := ι) (vs := xs) (fun j b hb => by
   obtain ⟨v', h1, h2⟩ := hvs.get hb
   rw [h1]
   exact h2) hx j x hxj
  rw [hv] at this
  exact this
 refine (h σ w vs hglob hfit hvs').mono fun e w' he => ?_
 obtain ⟨v, σ', he1, he2, hf, hext, hb⟩ := he
 have hlt : ∀ id b g, S id = some b → (ι id).g = some g → g < w.heap.size := fun id b g h1 h2 => (hown.1 id b h1).gsome h2
 refine ⟨v, σ', ι, he1, hclean, Upd.refl _ _, ⟨fun id b hid => (hown.1 id b hid).mono hext.keep (Upd.refl _ _) (fun g hg => hb.block g (hlt id b g hid hg)) (fun g hg p hp => hext.old p (by have := hlt id b g hid hg; omega)), hown.2⟩,
  Ls (s := ⟨fun _ => .any, S⟩) he2, hf, hext.keep, fun p hp _ => hext.old p hp, ⟨hb.os, hb.tape, hb.output⟩, hb.size, fun g hg _ => hb.block g hg, fun id b g h1 h2 => .inr fun hn => hn id b h1 h2⟩
theorem Mi {C : Ctx} {rs : List RV} {r : AV} {S' : AA} {e : AX} {s : AS} (he : match e with | .normal => True | .ret => True | _ => False) (r0 : AV) (h1 : (AB s rs).map AI = some r0) (h2 : outV s.S r0 = some r) (hb : ∀ i b, 1000 ≤ i → s.S i = some b → b.high = true) (h3 : CJ s.S = S') (hc : At S') : IC C rs r S' e s := by
 refine ⟨he, s, ⟨fun i => (s.env i).low, CJ s.S⟩, r0, Ae.refl _ _, h1, fun σ ι a w R => ?_, h3, hc⟩
 exact ⟨σ, ι, R.low hb, fun v hv => Ls (s := ⟨fun i => (s.env i).low, CJ s.S⟩) (R.outV hv h2)⟩
theorem Pl {C : Ctx} {rs : List RV} {r : AV} {S' : AA} {e : AX} {s : AS} (he : match e with | .normal => True | .ret => True | _ => False) (h1 : (AB s rs).map AI = some r) (hh : r.high = true) (hb : ∀ i b, 1000 ≤ i → s.S i = some b → b.high = true) (h3 : CJ s.S = S') (hc : At S') : IC C rs r S' e s :=
 ⟨he, s, ⟨fun i => (s.env i).low, CJ s.S⟩, r, Ae.refl _ _, h1, fun σ ι a w R => ⟨σ, ι, R.low hb, fun v hv => hv.low (fun i b hi hS => by
  show CJ s.S i = some b
  unfold CJ
  rw [if_neg (by omega)]
  exact hS) hh⟩, h3, hc⟩
theorem CD {C : Ctx} {rs : List RV} {r : AV} {e : AX} {s : AS} {S : AA} (r0 : AV) (hS : At S) (he : match e with | .normal => True | .ret => True | _ => False)
  (h1 : (AB s rs).map AI = some r0) (h2 : outV s.S r0 = some r) (h4 : ∀ i, 1000 ≤ i → s.S i = S i) : IC C rs r S e s :=
 Mi he r0 h1 h2 (fun i b hi hb => (hS i b (by rw [← h4 i hi]; exact hb)).2) (by
  funext i
  unfold CJ
  split
  ·exact (AM hS (by omega)).symm
  ·exact h4 i (by omega)) hS
theorem Uf {C : Ctx} {rs : List RV} {e : AX} {s : AS} {ty : TypeId} {w n : Nat} {ys : List (List SV)} {mu : Bool} (he : match e with | .normal => True | .ret => True | _ => False) (id : Nat) (hid : id < 1000) (hb0 : s.S id = some (IF mu ty w ys)) (hlow : ∀ i, 1000 ≤ i → s.S i = none)
  (h1 : (AB s rs).map AI = some (.one (.row id n))) : IC C rs (.one (.row 1000 n)) (fun i => if i = 1000 then some (IF mu ty w ys) else noS i) e s := by
 have e1 : (AV.one (.row id n)).ren (BY id 1000) = .one (.row 1000 n) := by simp [AV.ren, AC.ren, BY]
 rw [← e1]
 refine Kq he id 1000 _ hid (by decide) (hlow 1000 (by decide)) hb0 (by cases mu <;> rfl) (fun i b hi hb => by rw [hlow i hi] at hb; cases hb) h1 (by rw [e1]; rfl) ?_ ?_
 ·funext i
  unfold AH CJ noS
  by_cases h2 : i = 1000
  ·rw [if_pos h2, if_pos h2]
  ·rw [if_neg h2, if_neg h2]
   split
   ·rfl
   ·exact hlow i (by omega)
 ·intro i b hb
  have hb : (if i = 1000 then some (IF mu ty w ys) else noS i) = some b := hb
  split at hb
  ·rename_i h2
   cases hb
   exact ⟨by omega, by cases mu <;> rfl⟩
  ·cases hb

open Cod (wid dat)
inductive Tm where
 | mk (name : ByteArray) (args : List Tm)
def Tm.name : Tm → ByteArray | .mk n _ => n
def Tm.args : Tm → List Tm | .mk _ xs => xs
theorem Tm.eta (t : Tm) : Tm.mk t.name t.args = t := by cases t; rfl
mutual
def Tm.dat : Tm → Dat
 | .mk n xs => .agg [.str n, .row 2 (Tm.dats xs)]
def Tm.dats : List Tm → List Dat
 | [] => []
 | t :: ts => t.dat :: Tm.dats ts
end
theorem Tm.dats_eq : ∀ xs : List Tm, Tm.dats xs = xs.map Tm.dat
 | [] => rfl
 | t :: ts => by rw [Tm.dats, Tm.dats_eq ts]; rfl
theorem Tm.dat_is {σ : Sto} {n : ByteArray} {xs : List Tm} {cs : List Value} (h : (Tm.dat (.mk n xs)).Is σ cs) :
  ∃ p len cap, cs = [.string n, .slice p len cap] ∧ n.size ≤ maxLen ∧ len = xs.length ∧ len ≤ cap ∧ cap ≤ maxLen ∧ (p = none → cap = 0) ∧ ∃ b o, (len ≠ 0 → p = some ⟨b, o, none⟩) ∧ Dat.RowIs σ 2 (xs.map Tm.dat) b o := by
 rw [Tm.dat, Tm.dats_eq] at h
 obtain ⟨x, y, rfl, ⟨rfl, hn⟩, x', y', rfl, ⟨p, len, cap, rfl, hl, r⟩, rfl⟩ := h
 exact ⟨p, len, cap, rfl, hn, by simpa using hl, r⟩
instance : Cod Tm := ⟨2, Tm.dat, fun σ t cs h => by
 cases t
 obtain ⟨p, len, cap, rfl, _⟩ := Tm.dat_is h
 rfl⟩
def TmV (σ : Sto) (v : Value) (t : Tm) : Prop := ∃ p len cap, v = .agg #[.string t.name, .slice p len cap] ∧ t.name.size ≤ maxLen ∧ Slc σ p len cap t.args
theorem TmV.ext {σ σ' : Sto} {N : Nat} {v : Value} {t : Tm} (h : TmV σ v t) (he : Ext N σ σ') : TmV σ' v t := by
 obtain ⟨p, len, cap, h1, h2, h3⟩ := h
 exact ⟨p, len, cap, h1, h2, h3.ext he⟩
theorem Slc.str {σ : Sto} {p : Option Addr} {len cap : Nat} {xs : List ByteArray} (h : Slc σ p len cap xs) (k : Nat) (hk : k < len) :
  ∃ b o a, p = some ⟨b, o, none⟩ ∧ Hid (xs[k]? = some a) ∧ σ ⟨b, o + k, none⟩ = some (.string a) ∧ a.size ≤ maxLen := by
 have hl := h.length
 obtain ⟨b, o, hp, cs, h1, h2, h3⟩ := h.get k (by omega)
 obtain ⟨rfl, h4⟩ := Qi.1 h3
 have := h2 0 _ rfl
 exact ⟨b, o, xs[k], hp, Lib.hid (List.getElem?_eq_getElem (by omega)), by simpa [Cod.wid] using this, h4⟩
theorem QN {n : Int} (h : (Lit.int .i64 n).wf = true) : -9223372036854775808 ≤ n ∧ n ≤ 9223372036854775807 := by
 simpa [Lit.wf, IntKind.min, IntKind.max, IntKind.signed, IntKind.bits] using h
theorem Slc.int {σ : Sto} {p : Option Addr} {len cap : Nat} {xs : List Int} (h : Slc σ p len cap xs) (k : Nat) (hk : k < len) :
  ∃ b o a, p = some ⟨b, o, none⟩ ∧ Hid (xs[k]? = some a) ∧ σ ⟨b, o + k, none⟩ = some (.int .i64 a) ∧ -9223372036854775808 ≤ a ∧ a ≤ 9223372036854775807 := by
 have hl := h.length
 obtain ⟨b, o, hp, cs, h1, h2, h3⟩ := h.get k (by omega)
 obtain ⟨rfl, h4⟩ := QQ.1 h3
 have := h2 0 _ rfl
 exact ⟨b, o, xs[k], hp, Lib.hid (List.getElem?_eq_getElem (by omega)), by simpa [Cod.wid] using this, QN h4⟩
theorem Aq {α : Type} {xs : List α} {k : Nat} {a : α} (h : xs[k]? = some a) : xs.take (k + 1) = xs.take k ++ [a] := by
 rw [List.take_add_one, h]; rfl
theorem CP {α : Type} {xs : List α} {k : Nat} {a : α} (h : xs[k]? = some a) : k < xs.length := by
 rcases Nat.lt_or_ge k xs.length with h' | h'
 ·exact h'
 ·rw [List.getElem?_eq_none h'] at h; cases h
theorem AW {α : Type} {xs : List α} {k : Nat} {a : α} (h : xs[k]? = some a) : a ∈ xs := List.mem_of_getElem? h
theorem Tm.lt_of_mem {a : Tm} {n : ByteArray} {xs : List Tm} (h : a ∈ xs) : SizeOf.sizeOf a < SizeOf.sizeOf (Tm.mk n xs) := by
 have := List.sizeOf_lt_of_mem h
 simp only [Tm.mk.sizeOf_spec]
 omega

theorem Pw (c P Q : Prop) [Decidable c] : ((c → P) ∧ (¬ c → Q)) = if c then P else Q := by
 by_cases h : c <;> simp [h]
theorem Sv {c A B : Prop} [Decidable c] (h : (c → A) ∧ (¬ c → B)) : if c then A else B := by
 by_cases hc : c
 ·rw [if_pos hc]; exact h.1 hc
 ·rw [if_neg hc]; exact h.2 hc
theorem Sx (b : Bool) (P Q : Prop) : ((b = true → P) ∧ (b = false → Q)) = if b = true then P else Q := by
 cases b <;> simp
attribute [congr] MV.congr Ha.congr
mutual
def Ay : Tm → List SV
 | .mk n xs => [.str n, .list (PF xs)]
def PF : List Tm → List (List SV)
 | [] => []
 | t :: ts => Ay t :: PF ts
end
theorem Mj : ∀ xs : List Tm, PF xs = xs.map Ay
 | [] => rfl
 | t :: ts => by rw [PF, Mj ts]; rfl
theorem CS (t : Tm) : Ay t = [.str t.name, .list (t.args.map Ay)] := by
 cases t
 rw [Ay, Mj]
 rfl
theorem Se (t : Tm) : (Ay t).length = 2 := by rw [CS]; rfl
class TF {α : Type} (f : α → List SV) (n : outParam Nat) : Prop where
 ok : ∀ a, (f a).length = n
theorem Us {α : Type} {f : α → List SV} {n : Nat} [h : TF f n] {ts : List α} : ∀ x ∈ ts.map f, x.length = n := fun x hx => by
 obtain ⟨a, _, rfl⟩ := List.mem_map.1 hx
 exact h.ok a
instance : TF Ay 2 := ⟨fun t => by rw [CS]; rfl⟩
theorem C8 {ts : List Tm} : ∀ x ∈ ts.map Ay, x.length = 2 := by
 intro x hx
 obtain ⟨a, _, rfl⟩ := List.mem_map.1 hx
 exact Se a
theorem Tm.args_mk (n : ByteArray) (xs : List Tm) : (Tm.mk n xs).args = xs := rfl
theorem Tm.name_mk (n : ByteArray) (xs : List Tm) : (Tm.mk n xs).name = n := rfl
abbrev AR (n : Int) : AV := .one (.st (.int .i64 n))
abbrev Af (b : Bool) : AV := .one (.st (.bool b))
abbrev Bg (s : ByteArray) : AV := .one (.st (.str s))
abbrev aTm (t : Tm) : AV := .agg [.st (.str t.name), .st (.list (t.args.map Ay))]
abbrev Nq (n : Int) : List SV := [.int .i64 n]
abbrev Eb (s : ByteArray) : List SV := [.str s]
abbrev O8 (p : List Int) : List SV := [.list (p.map Nq)]
abbrev UU (l : List (List Int)) : AV := .one (.st (.list (l.map O8)))
abbrev RQ (l : List Int) : AV := .one (.st (.list (l.map Nq)))
abbrev Fz (l : List ByteArray) : AV := .one (.st (.list (l.map Eb)))
abbrev HX (l : List Tm) : AV := .one (.st (.list (l.map Ay)))
theorem Ao {α : Type} {xs : List α} {k : Nat} (h : k < xs.length) : ∃ a, xs[k]? = some a := ⟨xs[k], List.getElem?_eq_getElem h⟩
theorem Gz (n : Int) : inR .i64 n ↔ -9223372036854775808 ≤ n ∧ n ≤ 9223372036854775807 := by
 simp [inR, IntKind.min, IntKind.max, IntKind.signed, IntKind.bits]
theorem Fl : maxLen = 9223372036854775807 := by simp [maxLen]
theorem HA {S : AA} {xs : List (List SV)} (h : (AV.one (.st (.list xs))).known S) : xs.length ≤ 9223372036854775807 := by
 simp only [AV.known, AC.known, SV.known] at h
 rw [Fl] at h
 exact h.1
theorem JO {S : AA} {t : Tm} (h : (aTm t).known S) : t.name.size ≤ 9223372036854775807 ∧ t.args.length ≤ 9223372036854775807 := by
 have h1 : t.name.size ≤ maxLen := by
  have := h (.st (.str t.name)) (by simp)
  simpa [AC.known, SV.known] using this
 have h2 : t.args.length ≤ maxLen := by
  have := h (.st (.list (t.args.map Ay))) (by simp)
  simp only [AC.known, SV.known, List.length_map] at this
  exact this.1
 rw [Fl] at h1 h2
 exact ⟨h1, h2⟩

def Kd.isCall : Kd → Bool
 | .call _ _ => true
 | .callS _ _ => true
 | .callV _ _ => true
 | .callN _ _ => true
 | .callR _ _ => true
 | .callW _ _ => true
 | .callX _ _ => true
 | .callY _ _ => true
 | .buildFlat _ => false
 | .cutP _ _ _ => false
 | .indexP _ _ _ => false
 | .appP _ _ _ _ _ => false
 | .restP _ _ _ => false
 | .appS _ _ _ => false
 | .loadL _ _ _ => false
 | .indexL _ _ _ => false
 | .buildL _ _ => false
 | .fieldL _ _ => false
 | .lenL _ _ => false
 | .appF _ _ _ _ _ _ => false
 | .clearP _ _ _ _ => false
 | .mov _ => false
 | .pick _ _ _ => false
 | .alloc _ _ => false
 | .box _ _ => false
 | .build _ _ => false
 | .buildSlice _ _ _ _ => false
 | .load _ _ _ => false
 | .store _ _ _ => false
 | .fieldAddr _ _ => false
 | .field _ _ _ _ => false
 | .indexAddr _ _ _ => false
 | .indexArr _ _ _ _ => false
 | .indexStr _ _ => false
 | .bin _ _ _ => false
 | .eqB _ _ _ => false
 | .eqN _ _ => false
 | .eqE _ _ => false
 | .never => false
 | .pan _ => false
 | .iface _ _ => false
 | .strOf _ => false
 | .un _ _ => false
 | .sliceS _ _ _ => false
 | .sliceL _ _ _ _ => false
 | .sliceM _ _ _ _ => false
 | .extract _ _ => false
 | .len _ _ => false
 | .append _ _ _ _ _ _ => false
 | .conv _ _ => false
 | .nilCheck _ => false
 | .mm _ _ _ => false
 | .makeSlice _ _ _ _ _ _ => false
 | .makeFunc _ _ => false
 | .makeMap _ => false
 | .lookup _ _ _ _ _ => false
 | .mapSet _ _ _ _ => false
 | .mapEntry _ _ _ _ => false
 | .entrySet _ _ _ => false
 | .rangeM _ => false
 | .next _ => false
 | .entry _ => false
 | .lenM _ => false
 | .buildArr _ => false
 | .makeMemo => false
 | .memoGet _ _ _ _ => false
 | .memoSet _ _ _ => false
inductive T5 (P : Program) (f : FuncId) (vs : List AV) (d : Option Nat) (l : List Ins) (s : AS) (K : AS → Prop) : Prop
 | mk (r : AV) (h1 : Aa P f vs r) (h2 : Run P l (s.put d r) K)
inductive Lt (P : Program) (f : FuncId) (vs : List AV) (S : AA) (ks : List Nat) (d : Option Nat) (l : List Ins) (env : Nat → AV) (K : AS → Prop) : Prop
 | mk (r : AV) (S' : AA) (h1 : Am P f vs (upS S) r S') (h2 : (∀ k ∈ ks, dnS S' k = S k) ∧ Run P l ((⟨env, dnS S'⟩ : AS).put d (r.ren dn1)) K)
inductive SN (P : Program) (f : FuncId) (vs : List AV) (ks : List Nat) (d : Option Nat) (l : List Ins) (s : AS) (K : AS → Prop) : Prop
 | mk (mu : Bool) (e : TypeId) (w : Nat) (ys : List (List SV)) (h1 : Ek P f vs e w ys mu) (h2 : s.S (d.getD 0) = none ∧ (∀ k ∈ ks, (s.set (d.getD 0) (IF mu e w ys)).S k = s.S k) ∧ Run P l ((s.set (d.getD 0) (IF mu e w ys)).put d (.one (.row (d.getD 0) ys.length))) K)
inductive Ua (P : Program) (f : FuncId) (vs : List AV) (d : Option Nat) (l : List Ins) (s : AS) (K : AS → Prop) : Prop
 | mk (r : AV) (rows : List (Nat × AJ)) (h0 : ∀ q ∈ rows, s.S q.1 = some q.2) (h1 : ∀ T : AA, (∀ q ∈ rows, T q.1 = some q.2) → Am P f vs (upS T) r (upS T)) (h2 : Run P l (s.put d (r.ren dn1)) K)
inductive RP (P : Program) (f : FuncId) (vs : List AV) (ks : List Nat) (d : Option Nat) (l : List Ins) (s : AS) (K : AS → Prop) : Prop
 | mk (r : AV) (rows : List (Nat × AJ × AJ)) (h0 : PM s.S rows) (h1 : ∀ T : AA, PM T rows → Am P f vs (upS T) r (upS (E0 T rows))) (h2 : (∀ k ∈ ks, E0 s.S rows k = s.S k) ∧ Run P l ((⟨s.env, E0 s.S rows⟩ : AS).put d (r.ren dn1)) K)
inductive Rz (P : Program) (S : AA) (hs : Bool) (G : AA → (AV → AA → Prop) → Prop) (d : Option Nat) (l : List Ins) (env : Nat → AV) (K : AS → Prop) : Prop
 | mk (T : AA) (Post : AV → AA → Prop) (h1 : At T) (h2 : ∀ i, 1000 ≤ i → S i = T i) (h3 : hs = true) (h4 : G T Post) (h5 : ∀ r S', At S' → Post r S' → Run P l ((⟨env, EH S S'⟩ : AS).put d r) K)
theorem C4 {S : AA} {i : Nat} {b : AJ} (h : S i = some b) : ∀ q ∈ [(i, b)], S q.1 = some q.2 := fun q hq => by rw [List.mem_singleton.1 hq]; exact h
def Kd.goC (P : Program) (d : Option Nat) (s : AS) (t : Tag) (l : List Ins) (K : AS → Prop) : Kd → Prop
 | .call f xs => match t with
  | .no => match outVs s.S (s.evs xs) with
   | some vs => T5 P f vs d l s K
   | none => False
  | _ => False
 | .callR f xs => match t with
  | .no => Ua P f (AV.rens up1 (s.evs xs)) d l s K
  | _ => False
 | .callW f xs => match t with
  | .no => RP P f (AV.rens up1 (s.evs xs)) [] d l s K
  | .keeps ks => RP P f (AV.rens up1 (s.evs xs)) ks d l s K
  | .onb _ => False
 | .callX f xs => match t with
  | .no => Rz P s.S (AV.highs ((s.evs xs).map (He s.S))) (PY P f ((s.evs xs).map (He s.S))) d l s.env K
  | _ => False
 | .callY f xs => match t with
  | .no => Rz P s.S ((s.ev f).high && AV.highs ((s.evs xs).map (He s.S))) (O2 P (s.ev f) ((s.evs xs).map (He s.S))) d l s.env K
  | _ => False
 | .callN f xs => match t with
  | .no => match outVs s.S (s.evs xs) with
   | some vs => SN P f vs [] d l s K
   | none => False
  | .keeps ks => match outVs s.S (s.evs xs) with
   | some vs => SN P f vs ks d l s K
   | none => False
  | .onb _ => False
 | .callS f xs => match t with
  | .no => Lt P f (AV.rens up1 (s.evs xs)) s.S [] d l s.env K
  | .keeps ks => Lt P f (AV.rens up1 (s.evs xs)) s.S ks d l s.env K
  | .onb _ => False
 | .callV f xs => match (s.ev f).fnOf with
  | some (g, caps) => Bu P g = true ∧ match t with
   | .no => Lt P g (AV.rens up1 (s.evs xs ++ caps.map .one)) s.S [] d l s.env K
   | .keeps ks => Lt P g (AV.rens up1 (s.evs xs ++ caps.map .one)) s.S ks d l s.env K
   | .onb _ => False
  | _ => False
 | _ => False
def E4 (P : Program) : List Ins → AS → (AS → Prop) → Prop
 | [], s, K => K s
 | i :: l, s, K => match i.kd.isCall with
  | false => match i.guard with
   | none => i.kd.goT P (i.dst.getD 0) s i.tag fun v s' => E4 P l (s'.put i.dst v) K
   | some (g, want) => match s.env g with
    | .one (.st (.bool b)) => (b = want → i.kd.goT P (i.dst.getD 0) s i.tag fun v s' => E4 P l (s'.put i.dst v) K) ∧ (¬ b = want → E4 P l (s.put i.dst (.tup [])) K)
    | .tup [] => E4 P l (s.put i.dst (.tup [])) K
    | _ => False
  | true => match i.guard with
   | none => i.kd.goC P i.dst s i.tag l K
   | some (g, want) => match s.env g with
    | .one (.st (.bool b)) => (b = want → i.kd.goC P i.dst s i.tag l K) ∧ (¬ b = want → E4 P l (s.put i.dst (.tup [])) K)
    | .tup [] => E4 P l (s.put i.dst (.tup [])) K
    | _ => False
section
variable {P : Program}
theorem Ok {kd : Kd} {d : Option Nat} {s : AS} {t : Tag} {l : List Ins} {K : AS → Prop} (h : kd.goC P d s t l K) : kd.goT P (d.getD 0) s t fun v s' => Run P l (s'.put d v) K := by
 cases kd <;> simp only [Kd.goC] at h
 case call f xs =>
  cases t <;> simp only at h
  split at h
  ·rename_i vs e
   obtain ⟨r, h1, h2⟩ := h
   simp only [Kd.goT, Kd.go, e]
   exact ⟨r, h1, trivial, h2⟩
  ·exact h.elim
 case callN f xs =>
  cases t <;> simp only at h
  ·split at h
   ·rename_i vs e
    obtain ⟨mu, ty, w, ys, h1, h2, _, h3⟩ := h
    simp only [Kd.goT, Kd.go, e]
    exact ⟨mu, ty, w, ys, h1, h2, trivial, h3⟩
   ·exact h.elim
  ·split at h
   ·rename_i vs e
    obtain ⟨mu, ty, w, ys, h1, h2, h4, h3⟩ := h
    simp only [Kd.goT, Kd.go, e]
    exact ⟨mu, ty, w, ys, h1, h2, h4, h3⟩
   ·exact h.elim
 case callW f xs =>
  cases t <;> simp only at h
  ·obtain ⟨r, rows, h0, h1, _, h2⟩ := h
   simp only [Kd.goT, Kd.go]
   exact ⟨r, rows, h0, h1, trivial, h2⟩
  ·obtain ⟨r, rows, h0, h1, hk, h2⟩ := h
   simp only [Kd.goT, Kd.go]
   exact ⟨r, rows, h0, h1, hk, h2⟩
 case callX f xs =>
  cases t <;> simp only at h
  obtain ⟨T, Post, h1, h2, h3, h4, h5⟩ := h
  exact ⟨T, Post, h1, h2, h3, h4, fun r S' k1 k2 => ⟨trivial, h5 r S' k1 k2⟩⟩
 case callY f xs =>
  cases t <;> simp only at h
  obtain ⟨T, Post, h1, h2, h3, h4, h5⟩ := h
  exact ⟨T, Post, h1, h2, h3, h4, fun r S' k1 k2 => ⟨trivial, h5 r S' k1 k2⟩⟩
 case callR f xs =>
  cases t <;> simp only at h
  obtain ⟨r, rows, h0, h1, h2⟩ := h
  simp only [Kd.goT, Kd.go]
  exact ⟨r, rows, h0, h1, trivial, h2⟩
 case callS f xs =>
  cases t <;> simp only at h
  ·obtain ⟨r, S', h1, h2, h3⟩ := h
   exact ⟨r, S', h1, trivial, h3⟩
  ·obtain ⟨r, S', h1, h2, h3⟩ := h
   exact ⟨r, S', h1, h2, h3⟩
 case callV f xs =>
  split at h
  ·rename_i g caps e
   obtain ⟨hp, h⟩ := h
   cases t <;> simp only at h
   ·obtain ⟨r, S', h1, h2, h3⟩ := h
    simp only [Kd.goT, Kd.go, e]
    exact ⟨hp, r, S', h1, trivial, h3⟩
   ·obtain ⟨r, S', h1, h2, h3⟩ := h
    simp only [Kd.goT, Kd.go, e]
    exact ⟨hp, r, S', h1, h2, h3⟩
  ·exact h.elim
theorem Bx : ∀ {l : List Ins} {s : AS} {K : AS → Prop}, E4 P l s K → Run P l s K
 | [], s, K, h => h
 | i :: l, s, K, h => by
  unfold E4 at h
  unfold Run
  split at h
  ·split at h
   ·rename_i e
    simp only [e]
    exact Ce h fun v s' _ h' => Bx h'
   ·rename_i g want e
    simp only [e]
    split at h
    ·rename_i b e2
     simp only [e2]
     exact ⟨fun hb => Ce (h.1 hb) fun v s' _ h' => Bx h', fun hb => Bx (h.2 hb)⟩
    ·rename_i e2
     simp only [e2]
     exact Bx h
    ·exact h.elim
  ·split at h
   ·rename_i e
    simp only [e]
    exact Ok h
   ·rename_i g want e
    simp only [e]
    split at h
    ·rename_i b e2
     simp only [e2]
     exact ⟨fun hb => Ok (h.1 hb), fun hb => Bx (h.2 hb)⟩
    ·rename_i e2
     simp only [e2]
     exact Bx h
    ·exact h.elim
theorem G_ {l : List Ins} {s : AS} {K : AS → Prop} {A : Prop} (h : A ∧ E4 P l s K) : A ∧ Run P l s K := ⟨h.1, Bx h.2⟩
theorem IWP.ops2 {C : Ctx} {mu : List Nat} {Q : AX → AS → Prop} {s : AS} {l : List Ins} (h : ∀ K : AS → Prop, (∀ s, Q .normal s → K s) → E4 P l s K) : IWP P C mu (.ops l) Q s := IWP.opsK fun K hK => Bx (h K hK)
end
attribute [go_sem] Tb Rr RZ K9 Ins.i Ins.m Ins.L Ins.l Ins.f Ins.s Opd.n IF E0 E4 Kd.isCall Kd.goC Kd.goT Tag.ok Kd.ptrOpd E8 List.forall_mem_cons List.not_mem_nil Kd.go AS.ev AS.evs AS.put AS.set AH AV.cells Gj DV E9 stP Q7 stC stCs outC outCs outV outVs Hj Cf CW Cm Rm D8 Pq Qh optI MJ splice AJ.len AS.start AS.startS noS List.getElem?_cons_zero List.getElem?_cons_succ List.getElem?_nil List.getElem?_map Option.isSome_none Option.isSome_some Option.map_some Option.map_none Option.getD_some Option.getD_none List.length_map List.length_cons List.length_nil List.length_append List.map_cons List.map_nil List.take_succ_cons List.take_zero List.take_nil List.drop_succ_cons List.drop_zero List.drop_nil List.nil_append List.cons_append List.append_nil Nat.zero_add Nat.add_zero Nat.le_refl Nat.zero_le if_true if_false Bool.false_eq_true true_and and_true Option.some.injEq Int.toNat_natCast Int.natCast_nonneg Int.ofNat_eq_natCast ite_self decide_true decide_false not_true_eq_false not_false_eq_true true_implies false_implies implies_true Bool.true_eq_false eq_self Bool.not_true Bool.not_false beq_self_eq_true Tm.args_mk Tm.name_mk AV.rens AV.ren AC.ren AC.rens AJ.ren As Hw LZ Jm
abbrev Wa := @IWP.seq
abbrev Wb := @FV
abbrev Wc := @IWP.block
abbrev Wd := @IWP.skip
abbrev We := @IWP.exit
abbrev Wg := @Km
abbrev Wh := @NZ
abbrev Wi := @FT
abbrev Wj := @Gd
abbrev Wk := @Gc
abbrev Wl := @Hn
abbrev Wm := @KL
abbrev Wn := @Na
abbrev Wo := @IWP.ops2
abbrev Wp := @IWP.cond
abbrev Wq := @Bx
abbrev Wr := @G_
abbrev iC := @Sv
abbrev Cg := @T5.mk
abbrev dT := @decide_eq_true_eq
abbrev dF := @decide_eq_false_iff_not
abbrev nL := @Int.ofNat_lt
abbrev eT := @CS
abbrev iR := @Gz
attribute [go_sem ↓] Pw Sx
theorem Ai {a b : Prop} (k : b) (h : a := by first | omega | exact Us | (simp [Fl] <;> omega)) : a ∧ b := ⟨h, k⟩
theorem Z0 {id id' : Nat} {Q : AX → AS → Prop} {s : AS} (h : Q (.exit id') s) (hne : id' ≠ id := by decide) : AX.inBlock id Q (.exit id') s := Gc hne h
theorem fN {α : Type} (p : α → Prop) : ∀ x ∈ ([] : List α), p x := List.forall_mem_nil p
class G3 (goal : Prop) (prev : outParam Prop) : Prop where
 imp : prev → goal
theorem W {goal prev : Prop} [s : G3 goal prev] (h : prev) : goal := s.imp h
section
variable {P : Program} {C : Ctx} {mu : List Nat} {x y : IR} {Q : AX → AS → Prop} {s : AS} {id : Nat} {K : AS → Prop}
instance : G3 (IWP P C mu (.seq x y) Q s) (IWP P C mu x (L6 P C mu y Q) s) := ⟨IWP.seq⟩
instance : G3 (L6 P C mu y Q .normal s) (IWP P C mu y Q s) := ⟨FV⟩
instance : G3 (IWP P C mu (.block id x) Q s) (IWP P C mu x (AX.inBlock id Q) s) := ⟨IWP.block⟩
instance : G3 (IWP P C mu .skip Q s) (Q .normal s) := ⟨IWP.skip⟩
instance : G3 (IWP P C mu (.exit id) Q s) (Q (.exit id) s) := ⟨IWP.exit⟩
instance : G3 (IWP P C mu .ret Q s) (Q .ret s) := ⟨IWP.ret⟩
instance : G3 (L6 P C mu y Q (.exit id) s) (Q (.exit id) s) := ⟨Km⟩
instance : G3 (L6 P C mu y Q .ret s) (Q .ret s) := ⟨NZ⟩
instance : G3 (AX.inBlock id Q .normal s) (Q .normal s) := ⟨FT⟩
instance : G3 (AX.inBlock id Q (.exit id) s) (Q .normal s) := ⟨Gd⟩
instance : G3 (AX.inBlock id Q .ret s) (Q .ret s) := ⟨Hn⟩
instance : G3 (AX.then K Q (.exit id) s) (Q (.exit id) s) := ⟨KL⟩
instance : G3 (AX.then K Q .ret s) (Q .ret s) := ⟨Na⟩
class St (goal : Prop) (prev : outParam Prop) : Prop where
 imp : prev → goal
class Og (goal : Prop) (prev : outParam Prop) : Prop where
 imp : prev → goal
theorem U {goal prev : Prop} [s : St goal prev] (h : prev) : goal := s.imp h
theorem V {goal prev : Prop} [s : Og goal prev] (h : prev) : goal := s.imp h
instance {l : List Ins} : St (Run P l s K) (E4 P l s K) := ⟨Bx⟩
instance {l : List Ins} {A : Prop} : St (A ∧ Run P l s K) (A ∧ E4 P l s K) := ⟨G_⟩
instance {l : List Ins} : Og (Run P l s K) (E4 P l s K) := ⟨Bx⟩
instance {l : List Ins} {A : Prop} : Og (A ∧ Run P l s K) (A ∧ E4 P l s K) := ⟨G_⟩
instance {c0 : Opd} : Og (IWP P C mu (.cond c0 x y) Q s) (match s.ev c0 with | .one (.st (.bool b)) => (b = true → IWP P C mu x Q s) ∧ (b = false → IWP P C mu y Q s) | .one .ubool => IWP P C mu x Q s ∧ IWP P C mu y Q s | _ => False) := ⟨IWP.cond⟩
end
theorem IWP.fresh {P : Program} {C : Ctx} {mu : List Nat} {x : IR} {Q : AX → AS → Prop} {s : AS} (h1000 : ∀ i, 1000 ≤ i → s.S i = none) (h : ∀ env' : Nat → AV, (∀ i v, s.env i = .one (.st v) → env' i = .one (.st v)) → IWP P C mu x Q ⟨env', noS⟩) : IWP P C mu x Q s := by
 refine IWP.ghost (Ae.low (s := s) fun i b hi hb => by rw [h1000 i hi] at hb; cases hb) ?_
 have e : CJ s.S = noS := by
  funext i
  show (if i < 1000 then none else s.S i) = none
  split
  ·rfl
  ·exact h1000 i (by omega)
 rw [e]
 exact h _ fun i v hv => by rw [hv]; rfl
theorem IWP.mid {P : Program} {C : Ctx} {mu : List Nat} {x y : IR} {Q : AX → AS → Prop} {s : AS} (M : AS → Prop) (h1 : IWP P C mu x (fun e s => e = .normal ∧ M s) s) (h2 : ∀ s, M s → IWP P C mu y Q s) : IWP P C mu (x.seq y) Q s :=
 IWP.seq (h1.mono fun e s ⟨he, hm⟩ => by subst he; exact FV (h2 s hm))
theorem Ur {R G : Prop} (f : R → G) (h : R) : G := f h

def S7 (P : Program) (f : FuncId) (xs : List AV) (S : AA) (v : Value) (S' : AA) : Prop :=
 At S → ∀ (σ : Sto) (w : World) (vs : List Value) (ι : Au), Br σ → Fit σ w → C2 σ S ι w → Ab (AN σ S ι) vs xs →
  Calls P f vs.toArray w fun e w' => ∃ σ' ι', e = .panicked [{ v := v, recovered := false }] ∧ At S' ∧ Upd S ι S' ι' ∧ C2 σ' S' ι' w' ∧ Fit σ' w' ∧ (∀ p x, σ p = some x → σ' p = some x) ∧
   (∀ p : Addr, p.block < w.heap.size → Bn S ι p.block → σ' p = σ p) ∧ (w'.os = w.os ∧ w'.tape = w.tape ∧ w'.output = w.output) ∧ w.heap.size ≤ w'.heap.size ∧
   (∀ g, g < w.heap.size → Bn S ι g → w'.heap[g]? = w.heap[g]?) ∧ (∀ id b g, S' id = some b → (ι' id).g = some g → w.heap.size ≤ g ∨ ¬ Bn S ι g)
section
variable {P : Program} {C : Ctx} {a : Act} {w : World} {σ : Sto} {ι : Au} {s : AS} {Q : Exit → Act → World → Prop} {o : Oper}
theorem LY {f : FuncId} {vs : List Value} {avs : List AV} {v : Value} {S' : AA} {next : Act → World → Prop} (R : AP C σ ι s a w) (hrun : (execOp a.eval o).run P w = .ok (.enter f vs.toArray) w) (hvs : Ab (AN σ s.S ι) vs avs)
  (h : S7 P f (AV.rens up1 avs) (upS s.S) v S') (hQ : ∀ a' w', Az C ⟨s.env, dnS S'⟩ a' w' → Q (.panic [{ v := v, recovered := false }]) a' w') : o.wp P a w next Q := by
 have hup : ∀ i, dn1 (up1 i) = i := Hw
 have hS : ∀ i b, s.S i = some b → upS s.S (up1 i) = some (b.ren up1) := fun i b hb => FJ hb
 obtain ⟨ι1, hι1⟩ : ∃ ι1 : Au, ∀ i, ι1 i = ι (dn1 i) := ⟨fun i => ι (dn1 i), fun _ => rfl⟩
 have hι : ∀ i b, s.S i = some b → ι1 (up1 i) = ι i := fun i b _ => by rw [hι1, hup]
 have hown : C2 σ (upS s.S) ι1 w := by
  refine ⟨fun id b hb => ?_, fun id id' b b' g h1 h2 g1 g2 => ?_⟩
  ·obtain ⟨hle, b', h1, rfl⟩ := CO hb
   have := Bv.ren (S2 := upS s.S) (ι2 := ι1) (ρ := up1) hS hι (R.blk _ _ h1)
   rw [hι1]
   exact this
  ·obtain ⟨l1, c1, k1, _⟩ := CO h1
   obtain ⟨l2, c2, k2, _⟩ := CO h2
   rw [hι1] at g1 g2
   have := R.inj _ _ _ _ g k1 k2 g1 g2
   rw [← G5 l1, ← G5 l2, this]
 have hargs : Ab (AN σ (upS s.S) ι1) vs (AV.rens up1 avs) := by
  rw [AV.rens_eq]
  exact (hvs.mono fun _ _ x => AN.ren (S2 := upS s.S) (ι2 := ι1) (ρ := up1) hS hι x).map_right
 unfold Oper.wp
 rw [hrun, Oper.upon_enter]
 refine (h (Ft _) σ w vs _ (C.glob.mono R.ext) R.fit hown hargs).mono fun e w' he => ?_
 obtain ⟨σ', ι', rfl, hclean, hupd, hown', hf', hkeep, hold, hos, hsz, hsame, hbase⟩ := he
 have hSd : ∀ i b, S' i = some b → dnS S' (dn1 i) = some (b.ren dn1) := fun i b hb => Jl (hclean i b hb).1 hb
 obtain ⟨ι2, hι2⟩ : ∃ ι2 : Au, ∀ i, ι2 i = ι' (up1 i) := ⟨fun i => ι' (up1 i), fun _ => rfl⟩
 have hιd : ∀ i b, S' i = some b → ι2 (dn1 i) = ι' i := fun i b hb => by
  rw [hι2, G5 (hclean i b hb).1]
 have hu : Upd s.S ι (dnS S') ι2 := fun id b hb => by
  obtain ⟨b', h1, h2, h3⟩ := hupd _ _ (hS id b hb)
  have h4 := hSd _ _ h1
  rw [hup] at h4
  refine ⟨_, h4, by rw [BT] at h2 ⊢; exact h2, fun hl => ?_⟩
  rw [BT] at hl
  obtain ⟨q1, q2⟩ := h3 (by rw [BT]; exact hl)
  refine ⟨by rw [G9] at q1 ⊢; exact q1, ?_⟩
  rw [hι2, q2, hι1, hup]
 have hnot : ∀ g, g < C.N → ¬ C.G g → Bn (upS s.S) ι1 g := fun g h1 h2 id b hb hg => by
  obtain ⟨_, b', k1, _⟩ := CO hb
  rw [hι1] at hg
  rcases R.base _ _ g k1 hg with h | h
  ·omega
  ·exact h2 h
 have R' : AP C σ' ι2 ⟨s.env, dnS S'⟩ a w' := by
  refine ⟨R.size, fun i hi => (R.env i hi).mono hkeep hu, R.nod.mono (fun D h => (hsame D (Array.getElem?_eq_some_iff.1 h).1 (Di hown.1 h)).trans h), hf', fun id b hb => ?_, fun id id' b b' g h1 h2 g1 g2 => ?_, fun id b g hb hg => ?_, fun p x hx => hkeep _ _ (R.ext p x hx), fun p h1 h2 => ?_, ⟨hos.1.trans R.os.1, hos.2.1.trans R.os.2.1, hos.2.2.trans R.os.2.2⟩, ⟨Nat.le_trans R.grown.1 hsz, Nat.le_trans R.grown.2 hsz⟩, fun g h1 h2 => ?_, R.upd.trans hu⟩
  ·obtain ⟨b', h1, rfl⟩ := Ci hb
   have := Bv.ren (S2 := dnS S') (ι2 := ι2) (ρ := dn1) hSd hιd (hown'.1 _ _ h1)
   rw [hι2]
   exact this
  ·obtain ⟨c1, k1, _⟩ := Ci h1
   obtain ⟨c2, k2, _⟩ := Ci h2
   rw [hι2] at g1 g2
   have := congrArg dn1 (hown'.2 _ _ _ _ g k1 k2 g1 g2)
   rw [hup, hup] at this
   exact this
  ·obtain ⟨b', h1, _⟩ := Ci hb
   rw [hι2] at hg
   rcases hbase _ _ g h1 hg with h2 | h2
   ·exact .inl (by have := R.grown.1; omega)
   ·by_cases hN : g < C.N
    ·by_cases hG : C.G g
     ·exact .inr hG
     ·exact absurd (hnot g hN hG) h2
    ·exact .inl (by omega)
  ·exact (hold p (by have := R.grown.1; omega) (hnot _ h1 h2)).trans (R.old p h1 h2)
  ·exact (hsame g (by have := R.grown.1; omega) (hnot g h1 h2)).trans (R.same g h1 h2)
 exact hQ _ _ ⟨σ', _, R'⟩
def B2 (P : Program) (kd : Kd) (s : AS) (E : Value → AA → Prop) : Prop := match kd with
 | .callS f xs => ∃ v S', S7 P f (AV.rens up1 (s.evs xs)) (upS s.S) v S' ∧ E v (dnS S')
 | .pan x => match s.ev x with
  | .one (.st (.lit (.iface t u))) => E (.iface t u) s.S
  | _ => False
 | _ => False
theorem UA {kd : Kd} {d : Nat} {K : AV → AS → Prop} (h : kd.go P d s K) : kd.go P d s fun v s' => K v s' ∧ s'.env = s.env := by
 by_cases hdet : kd.det = true
 ·obtain ⟨v, S1, h1, h2, h3⟩ := GK hdet h
  exact (h3 s.env (fun _ _ => rfl)).1 _ ⟨h1, rfl⟩
 ·cases kd
  case next x =>
   simp only [Kd.go] at h ⊢
   split at h
   ·exact ⟨fun hj => ⟨h.1 hj, trivial⟩, fun j x c h1 h2 h3 => ⟨h.2 j x c h1 h2 h3, rfl⟩⟩
   ·exact h.elim
  case memoGet ok z m k =>
   simp only [Kd.go] at h ⊢
   split at h
   ·exact ⟨h.1, ⟨h.2.1, trivial⟩, fun cs' ds' x h1 h2 h3 => ⟨h.2.2 cs' ds' x h1 h2 h3, trivial⟩⟩
   ·exact h.elim
  case callX f xs =>
   obtain ⟨T, Post, h1, h2, h3, h4, h5⟩ := h
   exact ⟨T, Post, h1, h2, h3, h4, fun r S' k1 k2 => ⟨h5 r S' k1 k2, rfl⟩⟩
  case callY f xs =>
   obtain ⟨T, Post, h1, h2, h3, h4, h5⟩ := h
   exact ⟨T, Post, h1, h2, h3, h4, fun r S' k1 k2 => ⟨h5 r S' k1 k2, rfl⟩⟩
  all_goals exact absurd rfl hdet
theorem RS {s' : AS} {dd : Option Nat} {v : AV} {t : Nat} (h : dd ≠ some t) : (s'.put dd v).env t = s'.env t := Dc (env := s'.env) (S1 := s'.S) h
theorem PD {i : Ins} {K : AS → Prop} (h : i.go P s K) : i.go P s fun s' => K s' ∧ ∀ t, i.dst ≠ some t → s'.env t = s.env t := by
 have hgo : ∀ {d : Nat} {K' : AV → AS → Prop}, i.kd.goT P d s i.tag K' → i.kd.goT P d s i.tag fun v s' => K' v s' ∧ s'.env = s.env := fun hh => go_mono (UA hh) fun v s' hv => ⟨hv.1.1, hv.1.2, hv.2⟩
 have hput : ∀ (v : AV) (s' : AS), s'.env = s.env → ∀ t, i.dst ≠ some t → (s'.put i.dst v).env t = s.env t := fun v s' he t ht => by rw [RS ht, he]
 unfold Ins.go at h ⊢
 revert h
 cases i.guard with
 | none =>
  intro h
  exact Ce (hgo h) fun v s' _ hv => ⟨hv.1, hput v s' hv.2⟩
 | some gw =>
  obtain ⟨g, want⟩ := gw
  intro h
  dsimp only at h ⊢
  split at h
  ·rename_i b e1
   refine ⟨fun hb => Ce (hgo (h.1 hb)) fun v s' _ hv => ⟨hv.1, hput v s' hv.2⟩, fun hb => ⟨h.2 hb, hput _ _ rfl⟩⟩
  ·exact ⟨h, hput _ _ rfl⟩
  ·exact h.elim
theorem Ti {i : Ins} {K K' : AS → Prop} (h : i.go P s K) (hm : ∀ s, K s → K' s) : i.go P s K' := by
 unfold Ins.go at h ⊢
 revert h
 cases i.guard with
 | none =>
  intro h
  exact Ce h fun v s' _ hv => hm _ hv
 | some gw =>
  obtain ⟨g, want⟩ := gw
  intro h
  dsimp only at h ⊢
  split at h
  ·exact ⟨fun hb => Ce (h.1 hb) fun v s' _ hv => hm _ hv, fun hb => hm _ (h.2 hb)⟩
  ·exact hm _ h
  ·exact h.elim
theorem Oq {K K' : AS → Prop} (hm : ∀ s, K s → K' s) : ∀ {l : List Ins} {s : AS}, Run P l s K → Run P l s K'
 | [], s, h => hm _ h
 | i :: l, s, h => by
  rw [E_] at h ⊢
  exact Ti h fun s' h' => Oq hm h'
theorem Nf {kd : Kd} {E E' : Value → AA → Prop} (h : B2 P kd s E) (hm : ∀ v S', E v S' → E' v S') : B2 P kd s E' := by
 cases kd <;> simp only [B2] at h ⊢
 case callS f xs =>
  obtain ⟨v, S', h1, h2⟩ := h
  exact ⟨v, S', h1, hm _ _ h2⟩
 case pan x =>
  split at h
  ·exact hm _ _ h
  ·exact h.elim
theorem Pf {kd : Kd} {s1 : AS} {E : Value → AA → Prop} (h : B2 P kd s1 E) (hS : s1.S = s.S) (he : ∀ t ∈ kd.reads, s1.env t = s.env t) : B2 P kd s E := by
 cases kd <;> simp only [B2] at h
 case callS f xs =>
  obtain ⟨v, S', h1, h2⟩ := h
  refine ⟨v, S', ?_, h2⟩
  have e : s.evs xs = s1.evs xs := Cj (s := s1) (env' := s.env) (S' := s.S) fun t ht => (he t ht).symm
  rw [e, ← hS]
  exact h1
 case pan x =>
  have e : s.ev x = s1.ev x := AF (s := s1) (env' := s.env) (S' := s.S) fun t ht => (he t ht).symm
  simp only [B2, e]
  rw [← hS]
  exact h
theorem Nc {n : Nat} {mu : List Nat} {dst : Option Nat} {op : Op} {f : Nat} {xs : List Opd} (h : A6 P n mu dst op = some (.callS f xs)) : ∃ c, op = .call c ∧ GT P n mu dst c = some (.callS f xs) := by
 unfold A6 at h
 split at h
 case h_21 c => exact ⟨c, rfl, h⟩
 all_goals (exfalso; revert h; (repeat' split) <;> simp)
theorem L7 {n : Nat} {mu : List Nat} {dst : Option Nat} {c : Call} {f : Nat} {xs : List Opd} (h : GT P n mu dst c = some (.callS f xs)) : c.callee = .value (.func f) ∧ Bu P f = true ∧ Bq n c.args.toList = some xs := by
 unfold GT at h
 split at h
 case h_6 g hc =>
  split at h
  ·rename_i hpl
   rw [Option.map_eq_some_iff] at h
   obtain ⟨ys, hy, he⟩ := h
   have hfx : g = f ∧ ys = xs := by
    revert he
    (repeat' split) <;> simp <;> (intro h1 h2; exact ⟨h1, h2⟩)
   obtain ⟨rfl, rfl⟩ := hfx
   exact ⟨hc, hpl, hy⟩
  ·cases h
 all_goals (exfalso; revert h; (repeat' split) <;> simp)
theorem N1 {n : Nat} {mu : List Nat} {dst : Option Nat} {c : Call} {x : Opd} : ¬ GT P n mu dst c = some (.pan x) := by
 intro h
 unfold GT at h
 split at h
 all_goals (revert h; (repeat' split) <;> simp)
 all_goals (intro _ _; (repeat' split) <;> simp)
theorem QB {n : Nat} {mu : List Nat} {dst : Option Nat} {op : Op} {x : Opd} : ¬ A6 P n mu dst op = some (.pan x) := by
 intro h
 unfold A6 at h
 split at h
 case h_21 c => exact N1 h
 all_goals (revert h; (repeat' split) <;> simp)
theorem Ic {n : Nat} {op : Op} {k : Kd} (h : IZ P n op = some k) : (∀ f xs, k ≠ .callS f xs) ∧ ∀ x, k ≠ .pan x := by
 refine ⟨fun f xs e => ?_, fun x e => ?_⟩ <;> subst e <;> unfold IZ at h <;> revert h <;> (repeat' split) <;> simp
theorem K4 {mu : List Nat} {ops : List Oper} {k k' : Ins} (htr : H0 P C.n mu ops o = some k) (hk' : k'.dst = k.dst ∧ k'.guard = k.guard ∧ k'.kd = k.kd) (hg : k'.guard = none) {E : Value → AA → Prop} {next : Act → World → Prop} (R : AP C σ ι s a w) (h : B2 P k'.kd s E)
  (hQ : ∀ v S' a' w', E v S' → Az C ⟨s.env, S'⟩ a' w' → Q (.panic [{ v := v, recovered := false }]) a' w') : o.guard = none ∧ o.wpIn (fen C.ro) 0 P a w next Q := by
 unfold H0 at htr
 split at htr
 ·rename_i g kd e1 e2
  cases htr
  obtain ⟨hk1, hk2, hk3⟩ := hk'
  dsimp only at hk1 hk2 hk3
  rw [hg] at hk2
  subst hk2
  refine ⟨?_, ?_⟩
  ·cases hog : o.guard with
   | none => rfl
   | some jw =>
    rw [hog] at e1
    obtain ⟨j, want⟩ := jw
    simp only [IU] at e1
    split at e1
    ·split at e1
     ·split at e1 <;> cases e1
     ·cases e1
    ·cases e1
  ·rw [hk3] at h
   clear hk3
   unfold Tj at e2
   cases kd <;> simp only [B2] at h
   case callS f xs =>
    obtain ⟨v, S', h1, h2⟩ := h
    have h0 : A6 P C.n mu o.dst o.op = some (.callS f xs) := by
     split at e2
     ·rename_i k0 hk0
      have e2 := KC (Option.some.inj e2)
      subst e2
      exact hk0
     ·split at e2
      ·rename_i k0 hk1
       cases e2
       exact absurd rfl ((Ic hk1).1 f xs)
      ·split at e2
       ·rw [Option.map_eq_some_iff] at e2
        obtain ⟨_, _, e⟩ := e2
        cases e
       ·exfalso
        revert e2
        (repeat' split) <;> simp
       ·cases e2
    obtain ⟨c, ho, hc⟩ := Nc h0
    obtain ⟨hcal, hpl, hy⟩ := L7 hc
    refine Ei (fun c' e => by rw [e] at ho; cases ho) ?_
    refine LY (vs := c.args.toList.map a.eval) R ?_ (R.evs hy) h1 fun a' w' hH => hQ _ _ _ _ h2 hH
    have := DF (P := P) (w := w) (args := c.args.map a.eval) hpl
    have e : (c.args.toList.map a.eval).toArray = c.args.map a.eval := by rw [← Array.toList_map, Array.toArray_toList]
    rw [e]
    obtain ⟨cal, args, tys⟩ := c
    dsimp only at hcal
    subst hcal
    simp [execOp, ho, resolve, Deferred.ofValue, Act.eval, invoke, this]
   case pan x =>
    split at e2
    ·rename_i k0 hk0
     have e2 := NR (Option.some.inj e2)
     subst e2
     exact absurd hk0 QB
    ·split at e2
     ·rename_i k0 hk1
      cases e2
      exact absurd rfl ((Ic hk1).2 x)
     ·split at e2
      ·rename_i y hop
       rw [Option.map_eq_some_iff] at e2
       obtain ⟨x', hx, e⟩ := e2
       cases e
       split at h
       ·rename_i t u e3
        have rx := R.ev hx
        rw [e3] at rx
        have hex := Ma (DG (AZ rx))
        refine Ei (fun c e => by rw [e] at hop; cases hop) ?_
        unfold Oper.wp
        have : (execOp a.eval o).run P w = .halt (.panic (.iface t u)) w := by
         simp [execOp, hop, hex, Instr.panic, goPanic]
        rw [this, Oper.upon_panic]
        exact hQ _ _ _ _ h ⟨σ, ι, R⟩
       ·exact h.elim
      ·exfalso
       revert e2
       (repeat' split) <;> simp
      ·cases e2
 ·cases htr
def Jp (l : List Ins) (j : Nat) : Bool := match l[j]? with
 | some y => y.guard.isNone && (List.range l.length).all fun i => match l[i]? with
  | some x => if i < j then !x.indep y || (x.kd.keepS && x.kd.det) else if j < i then !y.indep x else true
  | none => true
 | none => false
theorem Hp {l : List Ins} {j : Nat} {y : Ins} (hj : l[j]? = some y) (h : Jp l j = true) : y.guard = none ∧ (∀ i x, i < j → l[i]? = some x → x.indep y = true → x.kd.keepS = true ∧ x.kd.det = true) ∧ ∀ i x, j < i → l[i]? = some x → y.indep x = false := by
 unfold Jp at h
 rw [hj] at h
 simp only [Bool.and_eq_true, Option.isNone_iff_eq_none, List.all_eq_true, List.mem_range] at h
 refine ⟨h.1, fun i x hi hx hd => ?_, fun i x hi hx => ?_⟩
 ·have := h.2 i (List.getElem?_eq_some_iff.1 hx).1
  rw [hx] at this
  simpa [hi, hd] using this
 ·have := h.2 i (List.getElem?_eq_some_iff.1 hx).1
  rw [hx] at this
  simpa [show ¬ i < j by omega, hi] using this
theorem Md {x y : Ins} (h : x.indep y = true) : ∀ t ∈ y.reads, x.dst ≠ some t := by
 unfold Ins.indep at h
 simp only [Bool.and_eq_true] at h
 intro t ht e
 have h1 := h.1.1.2
 rw [e] at h1
 simp [ht] at h1
theorem M9 {R : List Nat} : ∀ (l : List Ins) (s : AS) {K : AS → Prop}, (∀ x ∈ l, x.kd.keepS = true ∧ x.kd.det = true ∧ ∀ t ∈ R, x.dst ≠ some t) → Run P l s K → ∃ s1, K s1 ∧ s1.S = s.S ∧ ∀ t ∈ R, s1.env t = s.env t
 | [], s, _, _, h => ⟨s, h, rfl, fun _ _ => rfl⟩
 | x :: l, s, K, hx, h => by
  rw [E_] at h
  obtain ⟨k1, k2, k3⟩ := hx x List.mem_cons_self
  obtain ⟨v, S1, h1, h2, _⟩ := Fi k2 h
  have e := h2 k1
  subst e
  obtain ⟨s1, m1, m2, m3⟩ := M9 l _ (fun x' hx' => hx x' (List.mem_cons_of_mem _ hx')) h1
  exact ⟨s1, m1, m2.trans LC, fun t ht => (m3 t ht).trans (Dc (k3 t ht))⟩
theorem FW (ks : List Ins) : ∀ j : Nat, (List.range j).filterMap (fun i => ks[i]?) = ks.take j
 | 0 => rfl
 | j + 1 => by
  rw [List.range_succ, List.filterMap_append, FW ks j, List.take_add_one]
  cases h : ks[j]? <;> simp [h]
theorem Iz {mu : List Nat} {ops : Array Oper} {ks0 ks : List Ins} {id j : Nat} {y : Ins} {E : Value → AA → Prop} (hmix : P.follows .mixedOrders = true) (htr : Gb P C.n mu ops.toList ops.toList = some ks0) (hre : JU ks0 ks) (hok : IL ops.toList ks = true) (hj : ks[j]? = some y) (hp : Jp ks j = true)
  (R : AP C σ ι s a w) (h : Run P (ks.take j) s fun s1 => B2 P y.kd s1 E) (hQ : ∀ v S' env a' w', E v S' → (∀ t, (∀ k ∈ ks, k.dst ≠ some t) → env t = s.env t) → Az C ⟨env, S'⟩ a' w' → Q (.panic [{ v := v, recovered := false }]) a' w') : (Code.region id ops true).wpIn (fen C.ro) 0 P Q a w := by
 obtain ⟨p1, p2, p3⟩ := Hp hj hp
 obtain ⟨hl0, hget0⟩ := EP htr
 have hl : ops.size = ks.length := by
  rw [← hre.1, ← hl0, Array.length_toList]
 have hjl : j < ops.size := by rw [hl]; exact (List.getElem?_eq_some_iff.1 hj).1
 have hget : ∀ (i : Nat) (o : Oper), ops.toList[i]? = some o → ∃ k', ks[i]? = some k' ∧ ∃ k, H0 P C.n mu ops.toList o = some k ∧ k'.dst = k.dst ∧ k'.guard = k.guard ∧ k'.kd = k.kd := fun i o ho => by
  obtain ⟨k, h1, h2⟩ := hget0 i o ho
  obtain ⟨k', q1, q2⟩ := hre.2 i k h1
  exact ⟨k', q1, k, h2, q2⟩
 refine wpIn_region_any hmix ?_
 have hchk : ∀ i, i < ops.size → (∀ o, ops[i]? = some o → ∀ e ∈ o.after, Region.binds .any e = true → e.on < i) ∧ ∀ j, j < i → ∀ x y, ks[j]? = some x → ks[i]? = some y → x.indep y = true ∨ Ef ops.toList ops.toList.length j i = true := fun i hi => by
  have h1 := List.all_eq_true.1 hok i (List.mem_range.2 (by simpa using hi))
  simp only [Bool.and_eq_true] at h1
  refine ⟨fun o ho e he hb => ?_, fun j hj x y hx hy => ?_⟩
  ·have h2 := h1.1
   rw [show ops.toList[i]? = some o by simpa using ho] at h2
   dsimp only at h2
   obtain ⟨k, hk, rfl⟩ := Array.getElem_of_mem he
   have h3 := (Array.all_eq_true.1 h2) k hk
   simpa [hb] using h3
  ·have h2 := List.all_eq_true.1 h1.2 j (List.mem_range.2 hj)
   rw [hx, hy] at h2
   simpa using h2
 have key : ∀ (f : Nat) (T : List Nat) (listed : Array Bool) (s1 : AS) (a : Act) (w : World), (∀ t, (∀ k ∈ ks, k.dst ≠ some t) → s1.env t = s.env t) → T.length ≤ f → listed.size = ops.size → T.Pairwise (· < ·) → (∀ i, i ∈ T ↔ i < ops.size ∧ listed.getD i true = false) →
   (∀ k o, ops[k]? = some o → listed.getD k true = true → k < ops.size → ∀ e ∈ o.after, Region.binds .any e = true → listed.getD e.on false = true) → j ∈ T → Az C s1 a w → Run P ((T.filter fun i => decide (i < j)).filterMap fun i => ks[i]?) s1 (fun s1 => B2 P y.kd s1 E) → wpAnyIn (fen C.ro) 0 P .any ops Q f listed a w := by
  intro f
  induction f with
  | zero =>
   intro T listed s0 a w hE hf hsz hs hT hdc hjT hH hr
   have hT0 : T = [] := List.eq_nil_of_length_eq_zero (by omega)
   subst hT0
   cases hjT
  | succ f ih =>
   intro T listed s0 a w hE hf hsz hs hT hdc hjT hH hr
   have hgone : ∀ i k, i ∈ T → (∀ o, ops[k]? = some o → ∀ e ∈ o.after, Region.binds .any e = true → listed.getD e.on false = true) → Ef ops.toList ops.toList.length i k = true → False := fun i k hi hk hbe => by
    have h1 := F5 (ops := ops) (listed := listed) hdc (i := k) _ i k hk hbe
    have h2 := ((hT i).1 hi).2
    have h3 := ((hT i).1 hi).1
    simp [show i < listed.size by omega] at h1 h2
    rw [h1] at h2
    cases h2
   refine ⟨fun hready => ?_, fun i hi => ?_⟩
   ·cases T with
    | nil => cases hjT
    | cons i T =>
     exfalso
     obtain ⟨hi1, hi2⟩ := (hT i).1 (by simp)
     have : i ∈ Region.ready .any ops listed := by
      refine mem_ready.2 ⟨hi2, ops[i], Array.getElem?_eq_getElem hi1, fun e he hb => ?_⟩
      have hlt := (hchk i hi1).1 _ (Array.getElem?_eq_getElem hi1) e he hb
      cases hq : listed.getD e.on true with
      | true =>
       simp [show e.on < listed.size by omega] at hq ⊢
       exact hq
      | false =>
       have hmem := (hT e.on).2 ⟨by omega, hq⟩
       rcases List.mem_cons.1 hmem with h | h
       ·omega
       ·have := (List.pairwise_cons.1 hs).1 _ h
        omega
     rw [hready] at this
     cases this
   ·obtain ⟨q1, o, q2, q3⟩ := mem_ready.1 hi
    have hi1 := (Array.getElem?_eq_some_iff.1 q2).1
    have hmem := (hT i).2 ⟨hi1, q1⟩
    have q3' : ∀ o2, ops[i]? = some o2 → ∀ e ∈ o2.after, Region.binds .any e = true → listed.getD e.on false = true := fun o2 ho2 e he hb => by
     rw [q2] at ho2
     cases ho2
     exact q3 e he hb
    obtain ⟨k', hy1, k0, hy2, hy3⟩ := hget i o (by simpa using q2)
    rcases Nat.lt_trichotomy i j with hij | hij | hij
    ·obtain ⟨pre, post, rfl⟩ := List.append_of_mem hmem
     rw [List.filter_append, List.filter_cons, if_pos (by simpa using hij), List.filterMap_append, List.filterMap_cons, hy1] at hr
     dsimp only at hr
     have hpre : ∀ j ∈ pre, j < i := fun j hj => (List.pairwise_append.1 hs).2.2 j hj i (by simp)
     have hfront := KM (P := P) (pre := (pre.filter fun i => decide (i < j)).filterMap fun i => ks[i]?) (y := k') (post := (post.filter fun i => decide (i < j)).filterMap fun i => ks[i]?) (fun x hx => by
      obtain ⟨m, hm, hxm⟩ := List.mem_filterMap.1 hx
      have hm' := (List.mem_filter.1 hm).1
      rcases (hchk i hi1).2 m (hpre m hm') x k' hxm hy1 with hind | hbe
      ·exact hind
      ·exact (hgone m i (by simp [hm']) q3' hbe).elim) hr
     obtain ⟨σ, ι, R⟩ := hH
     refine Fp q2 hy2 hy3 R (PD hfront) fun s' a' w' hKE hH' => ?_
     obtain ⟨hK, hE'⟩ := hKE
     rw [← List.filterMap_append, ← List.filter_append] at hK
     have hsub : (pre ++ post).Pairwise (· < ·) := by
      refine hs.sublist ?_
      exact List.Sublist.append (List.Sublist.refl pre) (List.sublist_cons_self i post)
     have hni : i ∉ pre ++ post := fun hm => by
      rcases List.mem_append.1 hm with hm | hm
      ·have := hpre i hm; omega
      ·have := (List.pairwise_cons.1 (List.pairwise_append.1 hs).2.1).1 i hm; omega
     refine ih (pre ++ post) (listed.setIfInBounds i true) s' a' w' (fun t ht => (hE' t (ht _ (List.mem_of_getElem? hy1))).trans (hE t ht)) (by simp at hf ⊢; omega) (by simpa using hsz) hsub (fun m => ?_) (fun k ok hok2 hlk hkk e he hb => ?_) ?_ hH' hK
     ·constructor
      ·intro hm
       have hmi : i ≠ m := fun e => hni (e ▸ hm)
       have := (hT m).1 (by
        rcases List.mem_append.1 hm with h | h
        ·simp [h]
        ·simp [h])
       refine ⟨this.1, ?_⟩
       have h3 := this.2
       simp only [Array.getD_eq_getD_getElem?] at h3 ⊢
       rw [Array.getElem?_setIfInBounds_ne hmi]
       exact h3
      ·rintro ⟨h1, h2⟩
       have hmi : i ≠ m := fun e => by
        subst e
        simp [show i < listed.size by omega] at h2
       have h3 : listed.getD m true = false := by
        simp only [Array.getD_eq_getD_getElem?] at h2 ⊢
        rw [Array.getElem?_setIfInBounds_ne hmi] at h2
        exact h2
       have := (hT m).2 ⟨h1, h3⟩
       rcases List.mem_append.1 this with h | h
       ·exact List.mem_append_left _ h
       ·rcases List.mem_cons.1 h with h | h
        ·exact absurd h.symm hmi
        ·exact List.mem_append_right _ h
     ·have hstep : ∀ m, listed.getD m false = true → (listed.setIfInBounds i true).getD m false = true := fun m hm => by
       by_cases e : i = m
       ·subst e
        simp [show i < listed.size by omega]
       ·simp only [Array.getD_eq_getD_getElem?] at hm ⊢
        rw [Array.getElem?_setIfInBounds_ne e]
        exact hm
      by_cases hki : i = k
      ·subst hki
       exact hstep _ (q3' ok hok2 e he hb)
      ·refine hstep _ (hdc k ok hok2 ?_ hkk e he hb)
       simp only [Array.getD_eq_getD_getElem?] at hlk ⊢
       rw [Array.getElem?_setIfInBounds_ne hki] at hlk
       exact hlk
     ·rcases List.mem_append.1 hjT with h | h
      ·exact List.mem_append_left _ h
      ·rcases List.mem_cons.1 h with h | h
       ·omega
       ·exact List.mem_append_right _ h
    ·subst hij
     rw [hj] at hy1
     cases hy1
     obtain ⟨s1, k1, k2, k3⟩ := M9 (R := y.kd.reads) _ _ (fun x hx => by
      obtain ⟨m, hm, hxm⟩ := List.mem_filterMap.1 hx
      obtain ⟨hmT, hmi⟩ := List.mem_filter.1 hm
      have hmi : m < i := by simpa using hmi
      rcases (hchk i hi1).2 m hmi x y hxm hj with hind | hbe
      ·obtain ⟨r1, r2⟩ := p2 m x hmi hxm hind
       exact ⟨r1, r2, fun t ht => Md hind t (by simp [Ins.reads, ht])⟩
      ·exact (hgone m i hmT q3' hbe).elim) hr
     obtain ⟨σ, ι, R⟩ := hH
     obtain ⟨g1, g2⟩ := K4 (next := wpAnyIn (fen C.ro) 0 P .any ops Q f (listed.setIfInBounds i true)) hy2 hy3 p1 R (Pf k1 k2 k3) fun v S' a' w' h1 h2 => hQ v S' s0.env a' w' h1 hE h2
     unfold wpOpIn
     rw [q2]
     dsimp only
     rw [if_pos (by simp [Region.wanted, g1])]
     exact g2
    ·exfalso
     rcases (hchk i hi1).2 j hij y k' hj hy1 with hind | hbe
     ·rw [p3 i k' hij hy1] at hind
      cases hind
     ·exact hgone j i hjT q3' hbe
 have e0 : ((List.range ops.size).filter fun i => decide (i < j)).filterMap (fun i => ks[i]?) = ks.take j := by
  obtain ⟨m, hm⟩ : ∃ m, ops.size = j + m := ⟨ops.size - j, by omega⟩
  rw [hm, List.range_add, List.filter_append, List.filter_eq_self.2 (fun i hi => by simpa using hi), List.filter_eq_nil_iff.2 (fun i hi => by
   obtain ⟨k, _, rfl⟩ := List.mem_map.1 hi
   simp), List.append_nil]
  exact FW ks j
 refine key ops.size (List.range ops.size) (Array.replicate ops.size false) s a _ (fun _ _ => rfl) (by simp) (by simp) List.pairwise_lt_range (fun i => ?_) (fun k o hk hlk hkk e he hb => ?_) (List.mem_range.2 hjl) ⟨σ, ι, R.drew⟩ (by rw [e0]; exact h)
 ·simp only [List.mem_range, Array.getD_eq_getD_getElem?]
  constructor
  ·intro hi
   simp [hi]
  ·rintro ⟨hi, _⟩
   exact hi
 ·simp [hkk] at hlk
theorem H4 {mu : List Nat} {ops : Array Oper} {ks : List Ins} {id j : Nat} {y : Ins} {E : Value → AA → Prop} (htr : Gb P C.n mu ops.toList ops.toList = some ks) (hj : ks[j]? = some y) (hp : Jp ks j = true)
  (R : AP C σ ι s a w) (h : Run P (ks.take j) s fun s1 => B2 P y.kd s1 E) (hQ : ∀ v S' env a' w', E v S' → (∀ t, (∀ k ∈ ks, k.dst ≠ some t) → env t = s.env t) → Az C ⟨env, S'⟩ a' w' → Q (.panic [{ v := v, recovered := false }]) a' w') : (Code.region id ops false).wpIn (fen C.ro) 0 P Q a w := by
 obtain ⟨p1, p2, p3⟩ := Hp hj hp
 obtain ⟨hl, hget⟩ := EP htr
 have hl' : ops.size = ks.length := by rw [← hl, Array.length_toList]
 have hjl : j < ks.length := (List.getElem?_eq_some_iff.1 hj).1
 refine wpIn_region ?_
 have key : ∀ (m k : Nat) (s1 : AS) (a : Act) (w : World), (∀ t, (∀ k ∈ ks, k.dst ≠ some t) → s1.env t = s.env t) → k + m = ops.size → k ≤ j → Az C s1 a w → Run P ((ks.take j).drop k) s1 (fun s1 => B2 P y.kd s1 E) → wpOpsIn (fen C.ro) 0 P ops Q (List.range' k m) a w := by
  intro m
  induction m with
  | zero => intro k s1 a w hE hk hkj; omega
  | succ m ih =>
   intro k s1 a w hE hk hkj hH hr
   have hlt : k < ops.toList.length := by simp; omega
   obtain ⟨oo, hoo⟩ : ∃ oo, ops.toList[k]? = some oo := ⟨_, List.getElem?_eq_getElem hlt⟩
   obtain ⟨kk, h1, h2⟩ := hget k oo hoo
   have hop : ops[k]? = some oo := by rw [← Array.getElem?_toList]; exact hoo
   obtain ⟨σ, ι, R⟩ := hH
   rw [List.range'_succ, wpOpsIn_cons]
   by_cases hkj' : k = j
   ·subst hkj'
    rw [hj] at h1
    cases h1
    rw [List.drop_of_length_le (by simp; omega)] at hr
    obtain ⟨g1, g2⟩ := K4 (next := wpOpsIn (fen C.ro) 0 P ops Q (List.range' (k + 1) m)) h2 ⟨rfl, rfl, rfl⟩ p1 R hr fun v S' a' w' h1 h2 => hQ v S' s1.env a' w' h1 hE h2
    unfold wpOpIn
    rw [hop]
    dsimp only
    rw [if_pos (by simp [Region.wanted, g1])]
    exact g2
   ·have hd : (ks.take j).drop k = kk :: (ks.take j).drop (k + 1) := by
     have hk' : k < (ks.take j).length := by simp; omega
     rw [List.drop_eq_getElem_cons hk']
     congr 1
     rw [List.getElem_take]
     exact (List.getElem?_eq_some_iff.1 h1).2
    rw [hd, E_] at hr
    exact Fp (i := k) hop h2 ⟨rfl, rfl, rfl⟩ R (PD hr) fun s' a' w' hK hH' => ih (k + 1) s' a' w' (fun t ht => (hK.2 t (ht _ (List.mem_of_getElem? h1))).trans (hE t ht)) (by omega) (by omega) hH' hK.1
 rw [List.range_eq_range']
 exact key ops.size 0 s a w (fun _ _ => rfl) (by omega) (by omega) ⟨σ, ι, R⟩ (by simpa using h)
end
section
variable {P : Program} {C : Ctx} {mu : List Nat} {Q : AX → AS → Prop} {s : AS}
theorem IWP.opsPanR {l : List Ins} (j : Nat) (y : Ins) (hj : l[j]? = some y) (hp : Jp l j = true) (h : Run P (l.take j) s fun s1 => B2 P y.kd s1 fun v S' => ∀ env, (∀ t, (l.all fun k => k.dst != some t) = true → env t = s.env t) → Q (.pan v) ⟨env, S'⟩) : IWP P C mu (.ops l) Q s := fun c hc a w hH => by
 have hQ : ∀ (v : Value) (S' : AA) (env : Nat → AV) (a' : Act) (w' : World), (∀ env, (∀ t, (l.all fun k => k.dst != some t) = true → env t = s.env t) → Q (.pan v) ⟨env, S'⟩) → (∀ t, (∀ k ∈ l, k.dst ≠ some t) → env t = s.env t) → Az C ⟨env, S'⟩ a' w' → Ul C Q (.panic [{ v := v, recovered := false }]) a' w' := fun v S' env a' w' hE hk hH => ⟨_, v, ⟨hE env fun t ht => hk t fun k hk' => by simpa using List.all_eq_true.1 ht k hk', rfl⟩, hH⟩
 cases c <;> simp only [A_] at hc
 case region id ops draw =>
  split at hc
  ·rename_i ks e1
   obtain ⟨σ, ι, R⟩ := hH
   cases draw with
   | true =>
    simp only [if_true] at hc
    split at hc
    ·rename_i h1
     cases hc
     simp only [Bool.and_eq_true] at h1
     exact Iz h1.1 e1 (JU.refl _) h1.2 hj hp R h hQ
    ·split at hc
     ·rename_i h1
      cases hc
      simp only [Bool.and_eq_true] at h1
      exact Iz h1.1 e1 (I6 _ 0 _) h1.2 hj hp R h hQ
     ·cases hc
   | false =>
    simp only [Bool.false_eq_true, if_false, Option.some.injEq, IR.ops.injEq] at hc
    subst hc
    exact H4 e1 hj hp R h hQ
  ·cases hc
 all_goals (exfalso; revert hc; (repeat' split) <;> simp)
theorem IWP.opsPanE {l : List Ins} (j : Nat) (y : Ins) (hj : l[j]? = some y) (hp : Jp l j = true) (h : E4 P (l.take j) s fun s1 => B2 P y.kd s1 fun v S' => ∀ env, (∀ t, (l.all fun k => k.dst != some t) = true → env t = s.env t) → Q (.pan v) ⟨env, S'⟩) : IWP P C mu (.ops l) Q s := IWP.opsPanR j y hj hp (Bx h)
theorem IWP.opsPan {l : List Ins} (j : Nat) (y : Ins) (hj : l[j]? = some y) (hp : Jp l j = true) (h : E4 P (l.take j) s fun s1 => B2 P y.kd s1 fun v S' => ∀ env, Q (.pan v) ⟨env, S'⟩) : IWP P C mu (.ops l) Q s :=
 IWP.opsPanR j y hj hp (Oq (fun s1 h1 => Nf h1 fun v S' h2 env _ => h2 env) (Bx h))
def T8 : List Ins → Bool
 | [] => true
 | i :: l => (match i.kd with | .pan _ => false | _ => true) && T8 l
theorem IWP.ops3 {l : List Ins} (hn : T8 l = true) (h : ∀ K : AS → Prop, (∀ s, Q .normal s → K s) → E4 P l s K) : IWP P C mu (.ops l) Q s := IWP.ops2 h
theorem Re {y : IR} {v : Value} (h : Q (.pan v) s) : L6 P C mu y Q (.pan v) s := h
theorem MX {id : Nat} {v : Value} (h : Q (.pan v) s) : AX.inBlock id Q (.pan v) s := h
theorem Sz {K : AS → Prop} {v : Value} (h : Q (.pan v) s) : AX.then K Q (.pan v) s := h
def Tx (C : Ctx) (v : Value) (S' : AA) (e : AX) (s : AS) : Prop := e = .pan v ∧ ∃ s2, Ae C s s2 ∧ s2.S = S' ∧ At S'
theorem RW {f : FuncId} {fn : Func} {c : Code} {x : IR} {xs : List AV} {S : AA} {v : Value} {S' : AA} (hf : P.funcs[f]? = some fn) (hb : fn.body = some c) (hx : A_ P fn.ntmps mu c = some x) (hn : xs.length ≤ fn.ntmps)
  (h : At S → ∀ C : Ctx, C.n = fn.ntmps → C.Top → IWP P C mu x (Tx C v S') (AS.startS xs S)) : S7 P f xs S v S' := by
 intro hclean σ w vs ι hglob hfit hown hvs
 have hl := hvs.len
 let C : Ctx := ⟨fn.ntmps, w.heap.size, fun g => ¬ Bn S ι g, σ, w, S, ι, hclean, hglob, [], none, false⟩
 refine callsIn_wide.1 (callsIn_of_wp_marks (n := 0) hf hb trivial ?_)
 have R : AP C σ ι (AS.startS xs S) { tmps := vs.toArray ++ Array.replicate (fn.ntmps - vs.toArray.size) undef, defers := [] } w := by
  refine ⟨by simp [C]; omega, fun i hi => ?_, ER, hfit, hown.1, hown.2, fun id b g h hg => .inr (fun hno => hno id b h hg), fun _ _ h => h, fun _ _ _ => rfl, ⟨rfl, rfl, rfl⟩, ⟨Nat.le_refl _, Nat.le_refl _⟩, fun _ _ _ => rfl, Upd.refl _ _⟩
  show AN σ S ι _ ((xs[i]?).getD (.tup []))
  rw [Array.getD_eq_getD_getElem?]
  by_cases hlt : i < vs.length
  ·rw [Array.getElem?_append_left (by simpa using hlt)]
   obtain ⟨b, hb1, hb2⟩ := hvs.get' (List.getElem?_eq_getElem hlt)
   rw [hb1]
   simpa [hlt] using hb2
  ·rw [Array.getElem?_append_right (by simp; omega), List.getElem?_eq_none (by omega)]
   have hi' : i < fn.ntmps := hi
   rw [Array.getElem?_replicate, if_pos (by simp; omega)]
   exact .tup (fun _ => undef) rfl (by simp) (by simp)
 refine wpIn_mono (h hclean C rfl ⟨rfl, rfl⟩ c hx _ w ⟨σ, ι, R⟩) fun e a' w' he => ?_
 cases e with
 | panic ch =>
  obtain ⟨s, v', ⟨⟨h1, s2, hg, hS, hc⟩, rfl⟩, hH⟩ := he
  cases h1
  obtain ⟨σ', ι', R1⟩ := hg _ _ hH
  subst hS
  refine R1.leaves (fun h => by cases h) fun a2 w2 R' hd ht => ?_
  exact ⟨σ', ι', rfl, hc, R'.upd, ⟨R'.blk, R'.inj⟩, R'.fit, R'.ext, fun p h1 h2 => R'.old p h1 (fun h => h h2), R'.os, R'.grown.2, fun g h1 h2 => R'.same g h1 (fun h => h h2), fun id b g h1 h2 => R'.base id b g h1 h2⟩
 | normal => obtain ⟨s, h1, h2⟩ := he; cases h1.1
 | ret => obtain ⟨s, h1, h2⟩ := he; cases h1.1
 | exit id => obtain ⟨s, h1, h2⟩ := he; cases h1.1
 | _ => exact he.elim
end
abbrev Wx := @IWP.ops3
abbrev Wy := @Re
abbrev Wz := @MX
abbrev Wv := @Sz
theorem OkF.acP {P : Program} {f n : Nat} {mu : List Nat} {x : IR} {rs : List RV} (o : OkF P f n mu x rs) {xs : List AV} {S S' : AA} {v : Value} (h : At S → ∀ C : Ctx, C.n = n → IWP P C mu x (Tx C v S') (AS.startS xs S)) (hn : xs.length ≤ n := by exact Nat.le_of_ble_eq_true rfl) : S7 P f xs S v S' := by
 obtain ⟨fn, c, hf, hb, rfl, hx, hr⟩ := o.ok
 exact RW hf hb hx hn fun h0 C h1 _ => h h0 C h1

set_option maxRecDepth 100000
def Dx : IR :=
 (.seq (.ops [.i 2 (.box 34 (.t 0)), .i 4 (.alloc 34 [.st (.str (ByteArray.mk (#[]))), .full [], .st (.str (ByteArray.mk (#[]))), .full []])]) (.seq (.ops [.i 5 (.mov (.c (.one (.full []))))]) (.seq (.seq (.ops [.f 12 0 2, .L 13 2 12, .i 14 (.call 22 [.t 13]), .i 15 (.len false (.t 14)), .i 16 (.mov (.n 0))]) (.block 0 (.loop (.seq (.ops [.i 17 (.bin .lss (.t 16) (.t 15))]) (.seq (.cond (.t 17) .skip (.exit 0)) (.seq (.block 1 (.seq (.ops [.m 18 16, .i 19 (.indexAddr 1 (.t 14) (.t 16)), .l 20 19, .m 6 18, .m 7 20]) (.ops [.m 21 5, .m 22 7, .m 23 1, .m 24 6, .i 25 (.bin .add (.t 24) (.n 1)), .i 26 (.call 46 [.t 25]), .i 27 (.bin .add (.t 23) (.t 26)), .i 28 (.build [.st (.str (ByteArray.mk (#[]))), .full []] [(0, 1, .t 27)]), .i 29 (.build [.st (.str (ByteArray.mk (#[]))), .st (.str (ByteArray.mk (#[]))), .full []] [(0, 1, .t 22), (1, 2, .t 28)]), .i 30 (.buildSlice false 51 3 [.t 29]), .i 31 (.append true 51 3 56 (.t 21) (.t 30)), .m 5 31]))) (.ops [.i 32 (.bin .add (.t 16) (.n 1)), .m 16 32]))))))) (.seq (.ops [.m 33 5, .i 34 (.callS 47 [.t 33]), .m 5 34]) (.seq (.ops [.m 36 5, .f 37 0 2, .L 38 2 37, .i 39 (.call 30 [.t 36, .t 38]), .m 35 39, .i 40 (.extract 0 (.t 35)), .i 41 (.extract 1 (.t 35)), .i 8 (.alloc 32 [.st (.str (ByteArray.mk (#[]))), .full []]), .s 2 8 40, .m 9 41]) (.seq (.ops [.m 43 5, .f 44 2 2, .L 45 2 44, .i 46 (.call 30 [.t 43, .t 45]), .m 42 46, .i 47 (.extract 0 (.t 42)), .i 48 (.extract 1 (.t 42)), .i 10 (.alloc 32 [.st (.str (ByteArray.mk (#[]))), .full []]), .s 2 10 47, .m 11 48]) (.seq (.ops [.L 49 2 8, .L 50 2 10, .i 51 (.build [.st (.str (ByteArray.mk (#[]))), .full [], .st (.str (ByteArray.mk (#[]))), .full []] [(0, 2, .t 49), (2, 2, .t 50)]), .s 4 4 51]) .ret)))))))
theorem Gp : OkF Tryd.prog 26 52 [31, 34] Dx [.cell 4 true 4] := .of Tryd.func26 rfl rfl (by kernel_rfl) rfl
def DW : IR :=
 (.seq (.ops [.i 3 (.box 34 (.t 0)), .i 4 (.box 34 (.t 1)), .i 6 (.mov (.c (.one (.full [])))), .i 7 (.mov (.n 0))]) (.seq (.ops [.i 8 (.mov (.c (.one (.full []))))]) (.seq (.ops [.L 22 4 3, .i 23 (.call 26 [.t 22, .c (.one (.st (.str (ByteArray.mk (#[88])))))]), .L 24 4 4, .i 25 (.call 26 [.t 24, .c (.one (.st (.str (ByteArray.mk (#[89])))))]), .i 9 (.alloc 34 [.st (.str (ByteArray.mk (#[]))), .full [], .st (.str (ByteArray.mk (#[]))), .full []]), .i 10 (.alloc 34 [.st (.str (ByteArray.mk (#[]))), .full [], .st (.str (ByteArray.mk (#[]))), .full []]), .s 4 9 23, .s 4 10 25]) (.seq (.seq (.ops [.f 26 0 9, .L 27 2 26, .i 28 (.call 27 [.t 27]), .i 29 (.len false (.t 28)), .i 30 (.mov (.n 0))]) (.block 0 (.loop (.seq (.ops [.i 31 (.bin .lss (.t 30) (.t 29))]) (.seq (.cond (.t 31) .skip (.exit 0)) (.seq (.block 1 (.seq (.ops [.i 32 (.indexAddr 1 (.t 28) (.t 30)), .l 33 32, .m 12 33]) (.seq (.ops [.f 35 0 9, .L 36 2 35, .m 37 12, .i 38 (.call 28 [.t 36, .t 37]), .m 34 38, .i 39 (.extract 0 (.t 34)), .i 40 (.extract 1 (.t 34)), .i 13 (.alloc 32 [.st (.str (ByteArray.mk (#[]))), .full []]), .s 2 13 39, .m 14 40]) (.seq (.seq (.ops [.f 41 0 13, .l 42 41, .i 43 (.call 21 [.t 42]), .m 44 43, .mk (some 45) (some (44, false)) (.mov (.t 2)) .no, .mk (some 46) (some (44, false)) (.mov (.t 45)) .no, .mk (some 47) (some (46, true)) (.mov (.t 12)) .no, .mk (some 48) (some (46, true)) (.len false (.t 47)) .no, .mk (some 49) (some (46, true)) (.bin .eql (.t 48) (.n 0)) .no, .mk (some 50) (some (44, false)) (.pick (.t 46) (.t 49) (.c (.one (.st (.bool false))))) .no, .i 51 (.pick (.t 44) (.c (.one (.st (.bool true)))) (.t 50))]) (.cond (.t 51) (.exit 1) .skip)) (.seq (.ops [.L 53 2 13, .f 54 0 10, .L 55 2 54, .i 56 (.build [.st (.str (ByteArray.mk (#[]))), .full [], .st (.str (ByteArray.mk (#[]))), .full []] [(0, 2, .t 53), (2, 2, .t 55)]), .i 57 (.buildSlice false 34 4 [.t 56]), .i 58 (.call 29 [.t 57]), .m 52 58, .i 59 (.extract 0 (.t 52)), .i 60 (.extract 1 (.t 52)), .m 15 59, .m 16 60]) (.seq (.seq (.ops [.m 61 16, .i 62 (.bin .eql (.t 61) (.n 8))]) (.cond (.t 62) (.seq (.ops [.m 63 16, .i 6 (.mov (.c (.one (.full [])))), .m 7 63]) .ret) .skip)) (.seq (.seq (.ops [.m 64 16, .i 65 (.bin .neq (.t 64) (.n 0))]) (.cond (.t 65) (.exit 1) .skip)) (.seq (.ops [.m 67 15, .f 68 2 9, .L 69 2 68, .i 70 (.call 30 [.t 67, .t 69]), .m 66 70, .i 71 (.extract 0 (.t 66)), .i 72 (.extract 1 (.t 66)), .i 17 (.alloc 32 [.st (.str (ByteArray.mk (#[]))), .full []]), .s 2 17 71, .m 18 72]) (.seq (.ops [.m 74 15, .f 75 0 9, .L 76 2 75, .m 77 12, .f 78 2 10, .L 79 2 78, .i 80 (.call 31 [.t 76, .t 77, .t 79]), .i 81 (.call 30 [.t 74, .t 80]), .m 73 81, .i 82 (.extract 0 (.t 73)), .i 83 (.extract 1 (.t 73)), .i 19 (.alloc 32 [.st (.str (ByteArray.mk (#[]))), .full []]), .s 2 19 82, .m 20 83]) (.seq (.seq (.ops [.m 84 18, .i 85 (.un .not (.t 84)), .m 86 85, .mk (some 87) (some (86, false)) (.mov (.t 20)) .no, .mk (some 88) (some (86, false)) (.un .not (.t 87)) .no, .i 89 (.pick (.t 86) (.c (.one (.st (.bool true)))) (.t 88))]) (.cond (.t 89) (.seq (.ops [.i 6 (.mov (.c (.one (.full [])))), .i 7 (.mov (.n 8))]) .ret) .skip)) (.seq (.ops [.L 90 2 17, .L 91 2 19, .i 92 (.buildSlice false 32 2 [.t 90, .t 91]), .i 93 (.call 32 [.t 92]), .m 21 93]) (.ops [.m 94 8, .m 95 21, .i 96 (.indexAddr 2 (.t 95) (.n 0)), .L 97 2 96, .m 98 21, .i 99 (.indexAddr 2 (.t 98) (.n 1)), .L 100 2 99, .i 101 (.build [.st (.str (ByteArray.mk (#[]))), .full [], .st (.str (ByteArray.mk (#[]))), .full []] [(0, 2, .t 97), (2, 2, .t 100)]), .i 102 (.buildSlice false 34 4 [.t 101]), .i 103 (.append false 34 4 80 (.t 94) (.t 102)), .m 8 103])))))))))))) (.ops [.i 104 (.bin .add (.t 30) (.n 1)), .m 30 104]))))))) (.seq (.ops [.m 105 8, .m 6 105, .i 7 (.mov (.n 0))]) .ret)))))
theorem Fv : OkF Tryd.prog 12 106 [] DW [.t 6, .t 7] := .of Tryd.func12 rfl rfl (by kernel_rfl) rfl
def Cx : IR :=
 (.seq (.ops [.i 2 (.mov (.c (.one (.full [])))), .i 3 (.mov (.n 0))]) (.seq (.seq (.ops [.m 12 0, .i 13 (.call 11 [.t 12]), .m 4 13]) (.seq (.ops [.m 14 4, .i 15 (.bin .neq (.t 14) (.n 0))]) (.cond (.t 15) (.seq (.ops [.m 16 4, .i 2 (.mov (.c (.one (.full [])))), .m 3 16]) .ret) .skip))) (.seq (.ops [.i 5 (.mov (.c (.one (.full []))))]) (.seq (.seq (.ops [.m 17 0, .i 18 (.len false (.t 17)), .i 19 (.mov (.n 0))]) (.block 0 (.loop (.seq (.ops [.i 20 (.bin .lss (.t 19) (.t 18))]) (.seq (.cond (.t 20) .skip (.exit 0)) (.seq (.block 1 (.seq (.ops [.m 21 19, .i 22 (.indexAddr 4 (.t 17) (.t 19)), .L 23 4 22, .i 7 (.alloc 34 [.st (.str (ByteArray.mk (#[]))), .full [], .st (.str (ByteArray.mk (#[]))), .full []]), .m 6 21, .s 4 7 23]) (.seq (.ops [.m 24 0, .i 25 (.len false (.t 24)), .i 26 (.mov (.n 0))]) (.block 2 (.loop (.seq (.ops [.i 27 (.bin .lss (.t 26) (.t 25))]) (.seq (.cond (.t 27) .skip (.exit 2)) (.seq (.block 3 (.seq (.ops [.m 28 26, .i 29 (.indexAddr 4 (.t 24) (.t 26)), .L 30 4 29, .i 9 (.alloc 34 [.st (.str (ByteArray.mk (#[]))), .full [], .st (.str (ByteArray.mk (#[]))), .full []]), .m 8 28, .s 4 9 30]) (.seq (.ops [.L 32 4 7, .L 33 4 9, .m 34 6, .m 35 8, .i 36 (.bin .eql (.t 34) (.t 35)), .i 37 (.call 12 [.t 32, .t 33, .t 36]), .m 31 37, .i 38 (.extract 0 (.t 31)), .i 39 (.extract 1 (.t 31)), .m 10 38, .m 11 39]) (.seq (.seq (.ops [.m 40 11, .i 41 (.bin .neq (.t 40) (.n 0))]) (.cond (.t 41) (.seq (.ops [.m 42 11, .i 2 (.mov (.c (.one (.full [])))), .m 3 42]) .ret) .skip)) (.seq (.ops [.m 43 5, .m 44 10, .i 45 (.append false 34 4 80 (.t 43) (.t 44)), .m 5 45]) (.seq (.ops [.m 46 5, .i 47 (.len false (.t 46)), .i 48 (.bin .gtr (.t 47) (.n 400))]) (.cond (.t 48) (.seq (.ops [.i 2 (.mov (.c (.one (.full [])))), .i 3 (.mov (.n 3))]) .ret) .skip))))))) (.ops [.i 49 (.bin .add (.t 26) (.n 1)), .m 26 49]))))))))) (.ops [.i 50 (.bin .add (.t 19) (.n 1)), .m 19 50]))))))) (.seq (.ops [.m 51 5, .m 2 51, .i 3 (.mov (.n 0))]) .ret)))))
theorem Du : OkF Tryd.prog 5 52 [] Cx [.t 2, .t 3] := .of Tryd.func5 rfl rfl (by kernel_rfl) rfl
def Bk : IR :=
 (.seq (.ops [.i 4 (.mov (.c (.one (.st (.bool false))))), .i 5 (.mov (.n 0))]) (.seq (.ops [.m 13 0, .i 14 (.call 5 [.t 13]), .m 12 14, .i 15 (.extract 0 (.t 12)), .i 16 (.extract 1 (.t 12)), .m 6 15, .m 7 16]) (.seq (.seq (.ops [.m 17 7, .i 18 (.bin .eql (.t 17) (.n 0)), .m 19 18, .mk (some 20) (some (19, true)) (.mov (.t 1)) .no, .mk (some 21) (some (19, true)) (.bin .lss (.t 20) (.n 0)) .no, .mk (some 22) (some (19, true)) (.mov (.t 21)) .no, .mk (some 23) (some (22, false)) (.mov (.t 1)) .no, .mk (some 24) (some (22, false)) (.bin .gtr (.t 23) (.n 400)) .no, .mk (some 25) (some (19, true)) (.pick (.t 22) (.c (.one (.st (.bool true)))) (.t 24)) .no, .i 26 (.pick (.t 19) (.t 25) (.c (.one (.st (.bool false)))))]) (.cond (.t 26) (.ops [.i 7 (.mov (.n 10))]) .skip)) (.seq (.seq (.ops [.m 27 7, .i 28 (.bin .neq (.t 27) (.n 0))]) (.cond (.t 28) (.seq (.ops [.m 29 7, .i 4 (.mov (.c (.one (.st (.bool false))))), .m 5 29]) .ret) .skip)) (.seq (.seq (.ops [.m 30 6, .i 31 (.len false (.t 30)), .i 32 (.mov (.n 0))]) (.block 0 (.loop (.seq (.ops [.i 33 (.bin .lss (.t 32) (.t 31))]) (.seq (.cond (.t 33) .skip (.exit 0)) (.seq (.block 1 (.seq (.ops [.i 34 (.indexAddr 4 (.t 30) (.t 32)), .L 35 4 34, .i 9 (.alloc 34 [.st (.str (ByteArray.mk (#[]))), .full [], .st (.str (ByteArray.mk (#[]))), .full []]), .s 4 9 35]) (.seq (.ops [.m 37 0, .f 38 0 9, .L 39 2 38, .f 40 2 9, .L 41 2 40, .m 42 1, .i 43 (.call 13 [.t 37, .t 39, .t 41, .t 42]), .m 36 43, .i 44 (.extract 0 (.t 36)), .i 45 (.extract 1 (.t 36)), .m 10 44, .m 11 45]) (.seq (.seq (.ops [.m 46 11, .i 47 (.bin .neq (.t 46) (.n 0))]) (.cond (.t 47) (.seq (.ops [.m 48 11, .i 4 (.mov (.c (.one (.st (.bool false))))), .m 5 48]) .ret) .skip)) (.seq (.ops [.m 49 10, .i 50 (.un .not (.t 49))]) (.cond (.t 50) (.seq (.ops [.i 4 (.mov (.c (.one (.st (.bool false))))), .i 5 (.mov (.n 0))]) .ret) .skip)))))) (.ops [.i 51 (.bin .add (.t 32) (.n 1)), .m 32 51]))))))) (.seq (.ops [.i 4 (.mov (.c (.one (.st (.bool true))))), .i 5 (.mov (.n 0))]) .ret))))))
theorem By : OkF Tryd.prog 6 52 [] Bk [.t 4, .t 5] := .of Tryd.func6 rfl rfl (by kernel_rfl) rfl

def A7 (n : Int) : Bool := decide (97 ≤ n ∧ n ≤ 122) || decide (65 ≤ n ∧ n ≤ 90) || decide (48 ≤ n ∧ n ≤ 57)
def Ac (s : ByteArray) (k : Nat) : Int := ((s.data.toList.getD k 0).toNat : Int)
theorem DZ (s : ByteArray) (k : Nat) : 0 ≤ Ac s k ∧ Ac s k ≤ 255 := by
 unfold Ac
 have := (s.data.toList.getD k 0).toNat_lt
 omega
def AQ (s : ByteArray) : Bool := decide (0 < s.size) && decide (65 ≤ Ac s 0) && decide (Ac s 0 ≤ 90)
def Bi (s : ByteArray) (k : Nat) : Bool := (s.data.toList.take k).all fun c => A7 c.toNat
def A0 (s : ByteArray) : Bool := decide (1 ≤ s.size) && decide (s.size ≤ 8) && !(decide (48 ≤ Ac s 0) && decide (Ac s 0 ≤ 57)) && Bi s s.size
theorem FZ (s : ByteArray) (k : Nat) (h : k < s.size) : Bi s (k + 1) = (Bi s k && A7 (Ac s k)) := by
 unfold Bi Ac
 have h2 : k < s.data.toList.length := by simpa using h
 rw [List.take_add_one, List.getD_eq_getElem?_getD, List.getElem?_eq_getElem h2]
 simp
theorem Gw (s : ByteArray) (k : Nat) (h : k < s.size) (hn : A7 (Ac s k) = false) : Bi s s.size = false := by
 unfold Bi Ac at *
 have h2 : k < s.data.toList.length := by simpa using h
 rw [List.getD_eq_getElem?_getD, List.getElem?_eq_getElem h2] at hn
 rw [List.all_eq_false]
 refine ⟨s.data.toList[k], ?_, by simpa using hn⟩
 rw [List.take_of_length_le (by simp)]
 exact List.getElem_mem h2
mutual
def Tm.size : Tm → Nat
 | .mk _ xs => 1 + Tm.sizes xs
def Tm.sizes : List Tm → Nat
 | [] => 0
 | t :: ts => t.size + Tm.sizes ts
end
theorem Tm.sizes_append (xs ys : List Tm) : Tm.sizes (xs ++ ys) = Tm.sizes xs + Tm.sizes ys := by
 induction xs with
 | nil => simp [Tm.sizes]
 | cons t ts ih => simp only [List.cons_append, Tm.sizes, ih]; omega
theorem Tm.sizes_take {xs : List Tm} {k : Nat} {a : Tm} (h : xs[k]? = some a) : Tm.sizes (xs.take (k+1)) = Tm.sizes (xs.take k) + a.size := by
 rw [Aq h, Tm.sizes_append]; simp [Tm.sizes]
theorem Tm.sizes_take_le (xs : List Tm) (k : Nat)  : Tm.sizes (xs.take k) ≤ Tm.sizes xs := by
 have := Tm.sizes_append (xs.take k) (xs.drop k)
 rw [List.take_append_drop] at this
 omega
theorem Tm.size_eq (t : Tm) : t.size = 1 + Tm.sizes t.args := by cases t; rfl
theorem Tm.size_pos (t : Tm) : 1 ≤ t.size := by rw [Tm.size_eq]; omega
theorem Tm.size_mem {a : Tm} {xs : List Tm} (h : a ∈ xs) : a.size ≤ Tm.sizes xs := by
 induction xs with
 | nil => simp at h
 | cons t ts ih =>
  rcases List.mem_cons.1 h with rfl | h
  ·simp only [Tm.sizes]; omega
  ·have := ih h; simp only [Tm.sizes]; omega
theorem Tm.length_le (xs : List Tm) : xs.length ≤ Tm.sizes xs := by
 induction xs with
 | nil => simp [Tm.sizes]
 | cons t ts ih => have := Tm.size_pos t; simp only [Tm.sizes, List.length_cons]; omega
theorem Tm.lt_of_arg {a t : Tm} (h : a ∈ t.args) : SizeOf.sizeOf a < SizeOf.sizeOf t := by
 cases t
 exact Tm.lt_of_mem h
def CF (s : Nat) (m : Int) : Int := if m < s then -1 else m - s
mutual
def Tm.knots : Tm → List Tm
 | .mk n xs => .mk n xs :: Tm.knotsL xs
def Tm.knotsL : List Tm → List Tm
 | [] => []
 | t :: ts => t.knots ++ Tm.knotsL ts
end
theorem Tm.knots_eq (t : Tm) : t.knots = t :: Tm.knotsL t.args := by cases t; rfl
theorem Tm.knotsL_append (xs ys : List Tm) : Tm.knotsL (xs ++ ys) = Tm.knotsL xs ++ Tm.knotsL ys := by
 induction xs with
 | nil => simp [Tm.knotsL]
 | cons t ts ih => simp [Tm.knotsL, ih]
theorem Tm.knotsL_take {xs : List Tm} {k : Nat} {a : Tm} (h : xs[k]? = some a) : Tm.knotsL (xs.take (k+1)) = Tm.knotsL (xs.take k) ++ a.knots := by
 rw [Aq h, Tm.knotsL_append]; simp [Tm.knotsL]
mutual
theorem Tm.knots_length : ∀ t : Tm, t.knots.length = t.size
 | .mk n xs => by simp only [Tm.knots, Tm.size, List.length_cons, Tm.knotsL_length xs]; omega
theorem Tm.knotsL_length : ∀ xs : List Tm, (Tm.knotsL xs).length = Tm.sizes xs
 | [] => rfl
 | t :: ts => by simp only [Tm.knotsL, Tm.sizes, List.length_append, Tm.knots_length t, Tm.knotsL_length ts]
end
def CE (t : Tm) : Int := if A0 t.name = true then (if AQ t.name = true ∧ 0 < t.args.length then 2 else 0) else 1
mutual
def Tm.chk : Tm → Int
 | .mk n xs => if CE (.mk n xs) = 0 then Tm.chkL xs else CE (.mk n xs)
def Tm.chkL : List Tm → Int
 | [] => 0
 | t :: ts => if t.chk = 0 then Tm.chkL ts else t.chk
end
theorem Tm.chk_eq (t : Tm) : t.chk = if CE t = 0 then Tm.chkL t.args else CE t := by cases t; rfl
theorem Tm.chkL_append (xs ys : List Tm) : Tm.chkL (xs ++ ys) = if Tm.chkL xs = 0 then Tm.chkL ys else Tm.chkL xs := by
 induction xs with
 | nil => simp [Tm.chkL]
 | cons t ts ih =>
  simp only [List.cons_append, Tm.chkL]
  by_cases h : t.chk = 0
  ·simp only [h, if_true, ih]
  ·simp only [h, if_false]
theorem Tm.chkL_get {xs : List Tm} {k : Nat} {a : Tm} (h : xs[k]? = some a) (h0 : Tm.chkL (xs.take k) = 0) : (a.chk = 0 → Tm.chkL (xs.take (k+1)) = 0) ∧ (a.chk ≠ 0 → Tm.chkL xs = a.chk) := by
 constructor
 ·intro ha
  rw [Aq h, Tm.chkL_append, if_pos h0]
  simp [Tm.chkL, ha]
 ·intro ha
  rw [← List.take_append_drop k xs, Tm.chkL_append, if_pos h0]
  have hd : xs.drop k = a :: xs.drop (k+1) := by
   have hk := CP h
   rw [List.getElem?_eq_getElem hk] at h
   rw [List.drop_eq_getElem_cons hk]
   simp at h
   rw [h]
  rw [hd]
  simp [Tm.chkL, ha]
def Tm.may (t : Tm) : Int := if 200 < t.size then 3 else t.chk
def C6 (x : ByteArray) (l : List ByteArray) : Bool := l.any fun y => decide (y = x)
theorem GY {x : ByteArray} {l : List ByteArray} : C6 x l = true ↔ x ∈ l := by simp [C6]
theorem LN {x : ByteArray} {l : List ByteArray} : C6 x l = false ↔ x ∉ l := by rw [← Bool.not_eq_true, GY]
def Bb (l : List ByteArray) (n : ByteArray) : List ByteArray := if AQ n && !C6 n l then l ++ [n] else l
def Al (l : List ByteArray) (ks : List Tm) : List ByteArray := ks.foldl (fun l t => Bb l t.name) l
def Tm.varsOf (t : Tm) : List ByteArray := Al [] t.knots
theorem MO (l : List ByteArray) : Al l [] = l := rfl
theorem Fa (l : List ByteArray) (ks ms : List Tm) : Al l (ks ++ ms) = Al (Al l ks) ms := by simp [Al]
theorem JY {l : List ByteArray} {n : ByteArray} (h : AQ n = true) (h' : C6 n l = false) : Bb l n = l ++ [n] := by simp [Bb, h, h']
theorem Ky {l : List ByteArray} {n : ByteArray} (h' : C6 n l = true) : Bb l n = l := by simp [Bb, h']
theorem K6 {l : List ByteArray} {n : ByteArray} (h : AQ n = false) : Bb l n = l := by simp [Bb, h]
theorem F3 (l : List ByteArray) (n : ByteArray) : (Bb l n).length ≤ l.length + 1 := by unfold Bb; split <;> simp
theorem C3 : ∀ (ks : List Tm) (l : List ByteArray), (Al l ks).length ≤ l.length + ks.length
 | [], l => by simp [MO]
 | t :: ts, l => by
  have h1 := C3 ts (Bb l t.name)
  have h2 := F3 l t.name
  have h3 : Al l (t :: ts) = Al (Bb l t.name) ts := rfl
  rw [h3, List.length_cons]
  omega
mutual
def Tm.places : Tm → List (List Int)
 | .mk _ xs => [] :: Tm.placesFrom 0 xs
def Tm.placesFrom : Nat → List Tm → List (List Int)
 | _, [] => []
 | k, t :: ts => t.places.map (fun p => (k : Int) :: p) ++ Tm.placesFrom (k+1) ts
end
theorem Tm.places_eq (t : Tm) : t.places = [] :: Tm.placesFrom 0 t.args := by cases t; rfl
theorem Tm.placesFrom_snoc (a : Tm) : ∀ (k : Nat) (xs : List Tm), Tm.placesFrom k (xs ++ [a]) = Tm.placesFrom k xs ++ a.places.map (fun p => ((k + xs.length : Nat) : Int) :: p)
 | k, [] => by simp [Tm.placesFrom]
 | k, t :: ts => by
  rw [List.cons_append, Tm.placesFrom, Tm.placesFrom_snoc a (k+1) ts, Tm.placesFrom, List.length_cons, show k + 1 + ts.length = k + (ts.length + 1) by omega, List.append_assoc]
def Tm.placesTo (t : Tm) (k : Nat) : List (List Int) := [] :: Tm.placesFrom 0 (t.args.take k)
theorem Tm.placesTo_succ {t : Tm} {k : Nat} {a : Tm} (h : t.args[k]? = some a) : t.placesTo (k+1) = t.placesTo k ++ a.places.map (fun p => (k : Int) :: p) := by
 have hl := CP h
 unfold Tm.placesTo
 rw [Aq h, Tm.placesFrom_snoc, List.length_take, Nat.min_eq_left (by omega), Nat.zero_add, List.cons_append]
theorem Tm.placesTo_all {t : Tm} {k : Nat} (h : k = t.args.length) : t.placesTo k = t.places := by
 subst h
 rw [Tm.places_eq, Tm.placesTo, List.take_length]
mutual
theorem Tm.places_length : ∀ t : Tm, t.places.length = t.size
 | .mk n xs => by simp only [Tm.places, Tm.size, List.length_cons, Tm.placesFrom_length 0 xs]; omega
theorem Tm.placesFrom_length : ∀ (k : Nat) (xs : List Tm), (Tm.placesFrom k xs).length = Tm.sizes xs
 | _, [] => rfl
 | k, t :: ts => by simp only [Tm.placesFrom, Tm.sizes, List.length_append, List.length_map, Tm.places_length t, Tm.placesFrom_length (k+1) ts]
end
mutual
theorem Tm.places_deep : ∀ (t : Tm) (p : List Int), p ∈ t.places → p.length ≤ t.size
 | .mk n xs, p, h => by
  simp only [Tm.places, List.mem_cons] at h
  rcases h with rfl | h
  ·simp
  ·have := Tm.placesFrom_deep 0 xs p h
   simp only [Tm.size]
   omega
theorem Tm.placesFrom_deep : ∀ (k : Nat) (xs : List Tm) (p : List Int), p ∈ Tm.placesFrom k xs → p.length ≤ 1 + Tm.sizes xs
 | _, [], p, h => by simp [Tm.placesFrom] at h
 | k, t :: ts, p, h => by
  simp only [Tm.placesFrom, List.mem_append, List.mem_map] at h
  simp only [Tm.sizes]
  rcases h with ⟨q, hq, rfl⟩ | h
  ·have := Tm.places_deep t q hq
   simp only [List.length_cons]
   omega
  ·have := Tm.placesFrom_deep (k+1) ts p h
   omega
end
theorem Tm.placesTo_length (t : Tm) (k : Nat) : (t.placesTo k).length = 1 + Tm.sizes (t.args.take k) := by
 rw [Tm.placesTo, List.length_cons, Tm.placesFrom_length]; omega
theorem ME {s z : Nat} {m : Int} (h : 0 ≤ CF s m) : CF z (CF s m) = CF (s + z) m := by
 unfold CF at *
 split at h
 ·omega
 ·rename_i h1
  rw [if_neg h1]
  split <;> split <;> omega
theorem Oc {s z : Nat} {m : Int} (h : CF s m < 0) (hz : s ≤ z) : CF s m = CF z m := by
 unfold CF at *
 split at h
 ·rw [if_pos (by assumption), if_pos (by omega)]
 ·omega
theorem Qp (s : Nat) (m : Int) (h : 0 ≤ m) : -1 ≤ CF s m ∧ CF s m ≤ m := by unfold CF; split <;> omega



theorem K3 : ∀ l : List UInt8, Op.bytesLess l l = false
 | [] => by simp [Op.bytesLess]
 | x :: xs => by simp [Op.bytesLess, K3 xs]
theorem Ml : ∀ (a b c : List UInt8), Op.bytesLess a b = true → Op.bytesLess b c = true → Op.bytesLess a c = true
 | _, [], _, h, _ => by simp [Op.bytesLess] at h
 | _, _ :: _, [], _, k => by simp [Op.bytesLess] at k
 | [], _ :: _, _ :: _, _, _ => by simp [Op.bytesLess]
 | x :: xs, y :: ys, z :: zs, h, k => by
  simp only [Op.bytesLess, Bool.or_eq_true, Bool.and_eq_true, decide_eq_true_eq, beq_iff_eq] at h k ⊢
  rcases h with h | ⟨rfl, h⟩
  ·rcases k with k | ⟨rfl, k⟩
   ·exact .inl (UInt8.lt_trans h k)
   ·exact .inl h
  ·rcases k with k | ⟨rfl, k⟩
   ·exact .inl k
   ·exact .inr ⟨rfl, Ml xs ys zs h k⟩
theorem MI : ∀ (a b : List UInt8), Op.bytesLess a b = true ∨ a = b ∨ Op.bytesLess b a = true
 | [], [] => .inr (.inl rfl)
 | [], _ :: _ => .inl (by simp [Op.bytesLess])
 | _ :: _, [] => .inr (.inr (by simp [Op.bytesLess]))
 | x :: xs, y :: ys => by
  simp only [Op.bytesLess, Bool.or_eq_true, Bool.and_eq_true, decide_eq_true_eq, beq_iff_eq, List.cons.injEq]
  rcases Nat.lt_trichotomy x.toNat y.toNat with h | h | h
  ·exact .inl (.inl h)
  ·have e : x = y := UInt8.toNat_inj.1 h
   subst e
   rcases MI xs ys with h | h | h
   ·exact .inl (.inr ⟨rfl, h⟩)
   ·exact .inr (.inl ⟨rfl, h⟩)
   ·exact .inr (.inr (.inr ⟨rfl, h⟩))
  ·exact .inr (.inr (.inl h))
theorem Rn {a b : ByteArray} (h : a.toList = b.toList) : a = b := by
 rw [ByteArray.toList_eq, ByteArray.toList_eq] at h
 cases a; cases b
 simp only at h
 congr 1
 exact Array.toList_inj.1 h
theorem DE (a : ByteArray) : sLt a a = false := K3 _
theorem EE {a b c : ByteArray} (h : sLt a b = true) (k : sLt b c = true) : sLt a c = true := Ml _ _ _ h k
theorem HZ (a b : ByteArray) : sLt a b = true ∨ a = b ∨ sLt b a = true := by
 rcases MI a.toList b.toList with h | h | h
 ·exact .inl h
 ·exact .inr (.inl (Rn h))
 ·exact .inr (.inr h)
def Ep (a b : ByteArray) : Int := if sLt a b = true then -1 else if a = b then 0 else 1
abbrev Bd := ByteArray × Tm
def CX (b : Bd) : List SV := [.str b.1, .str b.2.name, .list (b.2.args.map Ay)]
abbrev Nn (l : List Bd) : AV := .one (.st (.list (l.map CX)))
abbrev aBd (b : Bd) : AV := .agg [.st (.str b.1), .st (.str b.2.name), .st (.list (b.2.args.map Ay))]
instance : TF CX 3 := ⟨fun _ => rfl⟩
theorem Py {ts : List Bd} : ∀ x ∈ ts.map CX, x.length = 3 := by
 intro x hx
 obtain ⟨a, _, rfl⟩ := List.mem_map.1 hx
 rfl
theorem Bl {α : Type} {xs : List α} {k : Nat} {a : α} (h : xs[k]? = some a) : xs.drop k = a :: xs.drop (k + 1) := by
 have hk := CP h
 rw [List.getElem?_eq_getElem hk] at h
 rw [List.drop_eq_getElem_cons hk]
 simp at h
 rw [h]
def BB (l : List Bd) : Prop := l.Pairwise fun a b => sLt a.1 b.1 = true
def lookup (l : List Bd) (n : ByteArray) : Option Tm := (l.find? fun b => decide (b.1 = n)).map (·.2)
theorem D3 {l : List Bd} {n : ByteArray} (h : ∀ b ∈ l, b.1 ≠ n) : lookup l n = none := by
 unfold lookup
 rw [List.find?_eq_none.2 (fun b hb => by simpa using h b hb)]
 rfl
theorem NS {l : List Bd} {n : ByteArray} {k : Nat} {b : Bd} (hk : l[k]? = some b) (hb : b.1 = n) (h : ∀ c ∈ l.take k, c.1 ≠ n) : lookup l n = some b.2 := by
 unfold lookup
 rw [← List.take_append_drop k l, List.find?_append, List.find?_eq_none.2 (fun c hc => by simpa using h c hc), Bl hk]
 simp [hb]
theorem Cl {l : List Bd} {n : ByteArray} {x : Tm} (h : lookup l n = some x) : ∃ b ∈ l, b.1 = n ∧ b.2 = x := by
 unfold lookup at h
 rw [Option.map_eq_some_iff] at h
 obtain ⟨b, h1, h2⟩ := h
 exact ⟨b, List.mem_of_find?_eq_some h1, by simpa using List.find?_some h1, h2⟩
theorem MS {l : List Bd} (h : BB l) {i j : Nat} {a b : Bd} (hi : l[i]? = some a) (hj : l[j]? = some b) (hij : i < j) : sLt a.1 b.1 = true := by
 have h1 := List.pairwise_iff_getElem.1 h
 obtain ⟨hi1, hi2⟩ := List.getElem?_eq_some_iff.1 hi
 obtain ⟨hj1, hj2⟩ := List.getElem?_eq_some_iff.1 hj
 have := h1 i j hi1 hj1 hij
 rw [hi2, hj2] at this
 exact this
mutual
def Tm.on (s : List Bd) : Tm → Tm
 | .mk n xs => match (if xs.isEmpty then lookup s n else none) with
  | some x => x
  | none => .mk n (Tm.onL s xs)
def Tm.onL (s : List Bd) : List Tm → List Tm
 | [] => []
 | t :: ts => t.on s :: Tm.onL s ts
end
theorem Tm.onL_eq (s : List Bd) : ∀ ts : List Tm, Tm.onL s ts = ts.map (Tm.on s)
 | [] => rfl
 | t :: ts => by rw [Tm.onL, Tm.onL_eq s ts]; rfl
theorem Tm.on_leaf {s : List Bd} {t x : Tm} (h : lookup s t.name = some x) (h0 : t.args = []) : t.on s = x := by
 cases t with
 | mk n xs =>
  simp only [Tm.name_mk, Tm.args_mk] at h h0
  subst h0
  simp [Tm.on, h]
theorem Tm.on_knot {s : List Bd} {t : Tm} (h : lookup s t.name = none ∨ t.args ≠ []) : t.on s = .mk t.name (t.args.map (Tm.on s)) := by
 cases t with
 | mk n xs =>
  simp only [Tm.name_mk, Tm.args_mk] at h ⊢
  rw [← Tm.onL_eq]
  rcases h with h | h
  ·simp [Tm.on, h]
  ·cases xs with
   | nil => exact absurd rfl h
   | cons y ys => simp [Tm.on]
theorem Tm.chk_args {t : Tm} (h : t.chk = 0) : (AQ t.name = true → t.args = []) ∧ ∀ a ∈ t.args, a.chk = 0 := by
 have hc := Tm.chk_eq t
 rw [h] at hc
 by_cases h1 : CE t = 0
 ·rw [if_pos h1] at hc
  have key : ∀ {xs : List Tm}, Tm.chkL xs = 0 → ∀ a ∈ xs, a.chk = 0 := by
   intro xs
   induction xs with
   | nil => simp
   | cons x xs ih =>
    intro hx a ha
    simp only [Tm.chkL] at hx
    split at hx
    ·rename_i h2
     rcases List.mem_cons.1 ha with rfl | ha
     ·exact h2
     ·exact ih hx a ha
    ·rename_i h2
     exact absurd hx h2
  refine ⟨fun hv => ?_, key hc.symm⟩
  unfold CE at h1
  split at h1
  ·split at h1
   ·cases h1
   ·rename_i h2
    simp only [hv, true_and, Nat.not_lt, Nat.le_zero] at h2
    exact List.eq_nil_of_length_eq_zero h2
  ·cases h1
 ·rw [if_neg h1] at hc
  exact absurd hc.symm h1
theorem Tm.may_chk {t : Tm} (h : t.may = 0) : t.chk = 0 ∧ t.size ≤ 200 := by
 unfold Tm.may at h
 split at h
 ·cases h
 ·exact ⟨h, by omega⟩

def Lh (b : Bd) : List Bd → List Bd
 | [] => [b]
 | c :: l => if sLt b.1 c.1 = true then b :: c :: l else c :: Lh b l
def BQ (l : List Bd) : List Bd := l.foldl (fun acc b => Lh b acc) []
def Ba (l : List Bd) : Prop := (l.map (·.1)).Nodup
theorem Fk (b : Bd) : ∀ l : List Bd, (Lh b l).Perm (b :: l)
 | [] => List.Perm.refl _
 | c :: l => by
  unfold Lh
  split
  ·exact List.Perm.refl _
  ·exact ((Fk b l).cons c).trans (List.Perm.swap b c l)
theorem G4 {b : Bd} : ∀ {l : List Bd}, BB l → (∀ c ∈ l, c.1 ≠ b.1) → BB (Lh b l)
 | [], _, _ => List.pairwise_cons.2 ⟨by simp, List.Pairwise.nil⟩
 | c :: l, ho, hn => by
  obtain ⟨o1, o2⟩ := List.pairwise_cons.1 ho
  unfold Lh
  split
  ·rename_i h
   exact List.pairwise_cons.2 ⟨fun x hx => by
    rcases List.mem_cons.1 hx with rfl | hx
    ·exact h
    ·exact EE h (o1 x hx), ho⟩
  ·rename_i h
   refine List.pairwise_cons.2 ⟨fun x hx => ?_, G4 o2 fun x hx => hn x (by simp [hx])⟩
   rcases List.mem_cons.1 ((Fk b l).mem_iff.1 hx) with rfl | hx
   ·rcases HZ c.1 x.1 with k | k | k
    ·exact k
    ·exact absurd k (hn c (by simp))
    ·exact absurd k h
   ·exact o1 x hx
theorem E7 : ∀ (l acc : List Bd), (l.foldl (fun acc b => Lh b acc) acc).Perm (l ++ acc)
 | [], acc => List.Perm.refl _
 | b :: l, acc => by
  rw [List.foldl_cons]
  refine (E7 l _).trans ?_
  refine ((Fk b acc).append_left l).trans ?_
  exact List.perm_middle
theorem CI (l : List Bd) : (BQ l).Perm l := by
 have := E7 l []
 rw [List.append_nil] at this
 exact this
theorem Dv : ∀ (l acc : List Bd), BB acc → Ba (acc ++ l) → BB (l.foldl (fun acc b => Lh b acc) acc)
 | [], acc, ho, _ => ho
 | b :: l, acc, ho, hn => by
  rw [List.foldl_cons]
  have hp : (acc ++ b :: l).Perm (Lh b acc ++ l) := (List.perm_middle).trans (by rw [← List.cons_append]; exact ((Fk b acc).symm.append_right l))
  refine Dv l _ (G4 ho fun c hc e => ?_) ((hp.map _).nodup_iff.1 hn)
  unfold Ba at hn
  rw [List.map_append, List.nodup_append] at hn
  exact hn.2.2 _ (List.mem_map.2 ⟨c, hc, rfl⟩) _ (by simp) e
theorem Bh {l : List Bd} (hn : Ba l) : BB (BQ l) := Dv l [] List.Pairwise.nil (by simpa using hn)
theorem Cc {l : List Bd} (ho : BB l) : Ba l := by
 unfold Ba
 rw [List.nodup_iff_pairwise_ne, List.pairwise_map]
 exact ho.imp fun {a b} h e => by rw [e, DE] at h; cases h
theorem Dq : ∀ {l m : List Bd}, BB l → BB m → l.Perm m → l = m
 | [], m, _, _, h => (List.nil_perm.1 h).symm
 | a :: l, [], _, _, h => absurd h.length_eq (by simp)
 | a :: l, c :: m, hl, hm, h => by
  obtain ⟨l1, l2⟩ := List.pairwise_cons.1 hl
  obtain ⟨m1, m2⟩ := List.pairwise_cons.1 hm
  have e : a = c := by
   rcases List.mem_cons.1 (h.mem_iff.1 (List.mem_cons_self)) with e | e
   ·exact e
   ·rcases List.mem_cons.1 (h.mem_iff.2 (List.mem_cons_self)) with e2 | e2
    ·exact e2.symm
    ·have := EE (m1 a e) (l1 c e2)
     rw [DE] at this
     cases this
  subst e
  rw [Dq l2 m2 (List.Perm.cons_inv h)]
theorem Bj {l : List Bd} {b : Bd} : b ∈ BQ l ↔ b ∈ l := (CI l).mem_iff
theorem BS (l : List Bd) : (BQ l).length = l.length := (CI l).length_eq
theorem Dm {l m : List Bd} (h : l.Perm m) (hn : Ba l) : Ba m := ((h.map _).nodup_iff).1 hn

abbrev Pr := Tm × Tm
def BR (p : Pr) : List SV := [.str p.1.name, .list (p.1.args.map Ay), .str p.2.name, .list (p.2.args.map Ay)]
abbrev CG (l : List Pr) : AV := .one (.st (.list (l.map BR)))
abbrev aPr (p : Pr) : AV := .agg [.st (.str p.1.name), .st (.list (p.1.args.map Ay)), .st (.str p.2.name), .st (.list (p.2.args.map Ay))]
instance : TF BR 4 := ⟨fun _ => rfl⟩
theorem HJ {ts : List Pr} : ∀ x ∈ ts.map BR, x.length = 4 := by
 intro x hx
 obtain ⟨a, _, rfl⟩ := List.mem_map.1 hx
 rfl

end Go.Proofs.YtiaopkfapnajaaaDoor
