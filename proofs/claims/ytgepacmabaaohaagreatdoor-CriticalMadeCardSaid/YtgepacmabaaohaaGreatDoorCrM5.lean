/-
  Part 5 of the texts. Conditions: none.
-/
import Derived.Test.YtgepacmabaaohaaGreatDoorCrM4
namespace Go.Proofs.YtgepacmabaaohaaGreatDoor
open Go Go.RowKit
set_option linter.unusedVariables false
set_option linter.unusedSimpArgs false
set_option maxHeartbeats 400000
mutual
def AC.clear (ds : List Nat) : AC → Bool
 | .row id _ => !ds.contains id
 | .part id _ _ => !ds.contains id
 | .rest id _ _ => !ds.contains id
 | .ptr id _ _ _ => !ds.contains id
 | .mptr id => !ds.contains id
 | .yld id => !ds.contains id
 | .ubool => true
 | .fn _ caps => AC.clears ds caps
 | .st _ => true
 | .full _ => true
 | .eptr _ => true
 | .any => true
def AC.clears (ds : List Nat) : List AC → Bool
 | [] => true
 | c :: cs => c.clear ds && AC.clears ds cs
end
theorem Jc {ds : List Nat} : ∀ {l : List AC}, AC.clears ds l = true → ∀ a ∈ l, a.clear ds = true
 | [], _, a, ha => by simp at ha
 | x :: xs, hx, a, ha => by
  rw [AC.clears, Bool.and_eq_true] at hx
  rcases List.mem_cons.1 ha with rfl | ha
  ·exact hx.1
  ·exact Jc hx.2 a ha
def AC.purge (ds : List Nat) : AC → AC
 | .row id n => if ds.contains id then .any else .row id n
 | .part id k n => if ds.contains id then .any else .part id k n
 | .rest id k n => if ds.contains id then .any else .rest id k n
 | .ptr id n k off => if ds.contains id then .any else .ptr id n k off
 | .mptr id => if ds.contains id then .any else .mptr id
 | .yld id => if ds.contains id then .any else .yld id
 | .fn f caps => if AC.clears ds caps then .fn f caps else .any
 | c => c
mutual
def AV.purge (ds : List Nat) : AV → AV
 | .one c => .one (c.purge ds)
 | .agg cs => .agg (cs.map (AC.purge ds))
 | .tup vs => .tup (AV.purges ds vs)
 | .any => .any
def AV.purges (ds : List Nat) : List AV → List AV
 | [] => []
 | v :: vs => v.purge ds :: AV.purges ds vs
end
def AN.purge (ds : List Nat) : AN → AN
 | .box e cs => .box e (cs.map (AC.purge ds))
 | .iter x n seen => .iter (x.purge ds) n seen
 | .loop env r => .loop (AV.purges ds env) r
 | b => b
def Ak (ds : List Nat) (S : AD) : AD := fun id => if ds.contains id then none else (S id).map (AN.purge ds)
def AS.drop (ds : List Nat) (s : AS) : AS := ⟨fun i => (s.env i).purge ds, Ak ds s.S⟩
theorem DK {ds : List Nat} (hds : ∀ d ∈ ds, d < 1000) {id : Nat} (h : 1000 ≤ id) : ds.contains id = false := by
 cases hc : ds.contains id with
 | false => rfl
 | true =>
  have := hds id (List.contains_iff_mem.1 hc)
  omega
mutual
theorem AC.clear_high {ds : List Nat} (hds : ∀ d ∈ ds, d < 1000) : ∀ {c : AC}, c.high = true → c.clear ds = true
 | .st _, _ => rfl
 | .full _, _ => rfl
 | .row id n, h => by
  rw [AC.high] at h
  rw [AC.clear, DK hds (of_decide_eq_true h)]
  rfl
 | .part id k n, h => by
  rw [AC.high] at h
  rw [AC.clear, DK hds (of_decide_eq_true h)]
  rfl
 | .rest id k n, h => by
  rw [AC.high] at h
  rw [AC.clear, DK hds (of_decide_eq_true h)]
  rfl
 | .ptr id n k off, h => by
  rw [AC.high] at h
  rw [AC.clear, DK hds (of_decide_eq_true h)]
  rfl
 | .mptr id, h => by
  rw [AC.high] at h
  rw [AC.clear, DK hds (of_decide_eq_true h)]
  rfl
 | .yld id, h => by
  rw [AC.high] at h
  rw [AC.clear, DK hds (of_decide_eq_true h)]
  rfl
 | .ubool, _ => rfl
 | .eptr _, _ => rfl
 | .fn f caps, h => by
  rw [AC.high] at h
  rw [AC.clear]
  exact AC.clears_highs hds h
 | .any, _ => rfl
theorem AC.clears_highs {ds : List Nat} (hds : ∀ d ∈ ds, d < 1000) : ∀ {cs : List AC}, AC.highs cs = true → AC.clears ds cs = true
 | [], _ => rfl
 | c :: cs, h => by
  rw [AC.highs, Bool.and_eq_true] at h
  rw [AC.clears, AC.clear_high hds h.1, AC.clears_highs hds h.2]
  rfl
end
theorem AC.purge_high {ds : List Nat} (hds : ∀ d ∈ ds, d < 1000) : ∀ {c : AC}, c.high = true → c.purge ds = c
 | .st _, _ => rfl
 | .full _, _ => rfl
 | .row id n, h => by
  rw [AC.high] at h
  simp only [AC.purge, DK hds (of_decide_eq_true h), Bool.false_eq_true, if_false]
 | .part id k n, h => by
  rw [AC.high] at h
  simp only [AC.purge, DK hds (of_decide_eq_true h), Bool.false_eq_true, if_false]
 | .rest id k n, h => by
  rw [AC.high] at h
  simp only [AC.purge, DK hds (of_decide_eq_true h), Bool.false_eq_true, if_false]
 | .ptr id n k off, h => by
  rw [AC.high] at h
  simp only [AC.purge, DK hds (of_decide_eq_true h), Bool.false_eq_true, if_false]
 | .mptr id, h => by
  rw [AC.high] at h
  simp only [AC.purge, DK hds (of_decide_eq_true h), Bool.false_eq_true, if_false]
 | .yld id, h => by
  rw [AC.high] at h
  simp only [AC.purge, DK hds (of_decide_eq_true h), Bool.false_eq_true, if_false]
 | .ubool, _ => rfl
 | .eptr _, _ => rfl
 | .fn f caps, h => by
  rw [AC.high] at h
  simp only [AC.purge, AC.clears_highs hds h, if_true]
 | .any, _ => rfl
mutual
theorem AV.purge_high {ds : List Nat} (hds : ∀ d ∈ ds, d < 1000) : ∀ {c : AV}, c.high = true → c.purge ds = c
 | .one c, h => by rw [AV.high] at h; rw [AV.purge, AC.purge_high hds h]
 | .agg cs, h => by
  rw [AV.high] at h
  rw [AV.purge]
  congr 1
  exact (List.map_congr_left fun a ha => AC.purge_high hds (Ci h a ha)).trans (List.map_id _)
 | .tup vs, h => by rw [AV.high] at h; rw [AV.purge, AV.purges_high hds h]
 | .any, _ => rfl
theorem AV.purges_high {ds : List Nat} (hds : ∀ d ∈ ds, d < 1000) : ∀ {c : List AV}, AV.highs c = true → AV.purges ds c = c
 | [], _ => rfl
 | c :: cs, h => by
  rw [AV.highs, Bool.and_eq_true] at h
  rw [AV.purges, AV.purge_high hds h.1, AV.purges_high hds h.2]
end
theorem AN.purge_high {ds : List Nat} (hds : ∀ d ∈ ds, d < 1000) {b : AN} (h : b.high = true) : b.purge ds = b := by
 cases b with
 | box e cs =>
  rw [AN.high] at h
  simp only [AN.purge]
  congr 1
  exact (List.map_congr_left fun a ha => AC.purge_high hds (Ci h a ha)).trans (List.map_id _)
 | arow => rfl
 | mrow => rfl
 | map => rfl
 | memo => rfl
 | iter x =>
  rw [AN.high] at h
  simp only [AN.purge, AC.purge_high hds h]
 | loop env r =>
  rw [AN.high] at h
  simp only [AN.purge, AV.purges_high hds h]
 | dead => rfl
theorem Nh {ds : List Nat} (hds : ∀ d ∈ ds, d < 1000) {S : AD} (h : BJ S) : Ak ds S = S := by
 funext id
 unfold Ak
 cases hb : S id with
 | none => split <;> rfl
 | some b =>
  obtain ⟨h1, h2⟩ := h id b hb
  rw [DK hds h1, if_neg (by simp), Option.map_some, AN.purge_high hds h2]
theorem Ok {ds : List Nat} {S : AD} {i : Nat} {b : Option AN} (h : ds.contains i = true) : Ak ds (AM S i b) = Ak ds S := by
 funext k
 unfold Ak
 by_cases e : k = i
 ·subst e
  rw [if_pos h, if_pos h]
 ·rw [AO _ e]
theorem IN {ds : List Nat} {S : AD} {i : Nat} {b : AN} (h : ds.contains i = false) : Ak ds (AM S i (some b)) = AM (Ak ds S) i (some (b.purge ds)) := by
 funext k
 unfold Ak
 by_cases e : k = i
 ·subst e
  rw [AG, AG, if_neg (by rw [h]; simp)]
  rfl
 ·rw [AO _ e, AO _ e]
section
variable {C : Ctx} {σ : Sto} {ι : A9} {s : AS} {a : Act} {w : World} {ds : List Nat}
theorem BX (b : AN) : (b.purge ds).len = b.len := by cases b <;> rfl
theorem F8 (b : AN) : (b.purge ds).wid = b.wid := by cases b <;> rfl
theorem Ao.keepClear {ds : List Nat} {S S2 : AD} (hS : ∀ id b, ds.contains id = false → S id = some b → ∃ b', S2 id = some b' ∧ b'.len = b.len ∧ b'.wid = b.wid) {v : Value} {c : AC} (h : Ao σ S ι v c) (hc : c.clear ds = true) : Ao σ S2 ι v c := by
 induction h with
 | st h => exact .st h
 | full h => exact .full h
 | row h1 h2 h3 h4 =>
  rw [AC.clear] at hc
  obtain ⟨b', q1, q2, q3⟩ := hS _ _ (by simpa using hc) h1
  exact .row q1 (by rw [q2]; exact h2) h3 (by rw [q2]; exact h4)
 | part h1 h2 h3 h4 =>
  rw [AC.clear] at hc
  obtain ⟨b', q1, q2, q3⟩ := hS _ _ (by simpa using hc) h1
  exact .part q1 (by rw [q2]; exact h2) h3 (by rw [q2]; exact h4)
 | rest h1 h2 h3 h4 =>
  rw [AC.clear] at hc
  obtain ⟨b', q1, q2, q3⟩ := hS _ _ (by simpa using hc) h1
  exact .rest q1 (by rw [q2]; exact h2) h3 (by rw [q2, q3]; exact h4)
 | ptr h1 h2 h3 h4 =>
  rw [AC.clear] at hc
  obtain ⟨b', q1, q2, q3⟩ := hS _ _ (by simpa using hc) h1
  exact .ptr q1 (by rw [q2]; exact h2) h3 (by rw [q2, q3]; exact h4)
 | mptr h1 h2 h3 h4 =>
  rw [AC.clear] at hc
  obtain ⟨b', q1, q2, q3⟩ := hS _ _ (by simpa using hc) h1
  exact .mptr q1 (by rw [q2]; exact h2) h3 (by rw [q2]; exact h4)
 | yld h1 h2 h3 h4 =>
  rw [AC.clear] at hc
  obtain ⟨b', q1, q2, q3⟩ := hS _ _ (by simpa using hc) h1
  exact .yld q1 (by rw [q2]; exact h2) h3 (by rw [q2]; exact h4)
 | ubool => exact .ubool
 | eptr c h1 h2 hh => exact .eptr c h1 h2 hh
 | fn c h1 h2 h3 ih =>
  rw [AC.clear] at hc
  exact .fn c h1 h2 (fun j a ha => ih j a ha (Jc hc a (List.mem_of_getElem? ha)))
 | any h => exact .any h
theorem Ao.purge (hds : ∀ d ∈ ds, d < 1000) {v : Value} {c : AC} (h : Ao σ s.S ι v c) : Ao σ (s.drop ds).S ι v (c.purge ds) := by
 have h0 := h
 cases h with
 | st h => exact .st h
 | full h => exact .full h
 | @row _ id n b h1 h2 h3 h4 =>
  simp only [AC.purge]
  split
  ·exact .any h3
  ·rename_i hn
   exact .row (b := b.purge ds) (by simp only [AS.drop, Ak, hn]; rw [h1]; rfl) (by rw [BX]; exact h2) h3 (by rw [BX]; exact h4)
 | @part _ id k n b h1 h2 h3 h4 =>
  simp only [AC.purge]
  split
  ·exact .any h3
  ·rename_i hn
   exact .part (b := b.purge ds) (by simp only [AS.drop, Ak, hn]; rw [h1]; rfl) (by rw [BX]; exact h2) h3 (by rw [BX]; exact h4)
 | @rest _ id k n b h1 h2 h3 h4 =>
  simp only [AC.purge]
  split
  ·exact .any h3
  ·rename_i hn
   exact .rest (b := b.purge ds) (by simp only [AS.drop, Ak, hn]; rw [h1]; rfl) (by rw [BX]; exact h2) h3 (by rw [BX, F8]; exact h4)
 | @ptr _ id n k off b h1 h2 h3 h4 =>
  simp only [AC.purge]
  split
  ·exact .any h3
  ·rename_i hn
   exact .ptr (b := b.purge ds) (by simp only [AS.drop, Ak, hn]; rw [h1]; rfl) (by rw [BX]; exact h2) h3 (by rw [BX, F8]; exact h4)
 | @mptr _ id b h1 h2 h3 h4 =>
  simp only [AC.purge]
  split
  ·exact .any h3
  ·rename_i hn
   exact .mptr (b := b.purge ds) (by simp only [AS.drop, Ak, hn]; rw [h1]; rfl) (by rw [BX]; exact h2) h3 (by rw [BX]; exact h4)
 | @yld _ id b h1 h2 h3 h4 =>
  simp only [AC.purge]
  split
  ·exact .any h3
  ·rename_i hn
   exact .yld (b := b.purge ds) (by simp only [AS.drop, Ak, hn]; rw [h1]; rfl) (by rw [BX]; exact h2) h3 (by rw [BX]; exact h4)
 | ubool => exact .ubool
 | eptr c h1 h2 hh => exact .eptr c h1 h2 hh
 | @fn f vs caps c h1 h2 h3 =>
  simp only [AC.purge]
  split
  ·rename_i hh
   exact h0.keepClear (ds := ds) (fun id b hid hb => ⟨b.purge ds, by
    show Ak ds s.S id = _
    unfold Ak
    rw [hid, hb]
    rfl, BX b, F8 b⟩) (by rw [AC.clear]; exact hh)
  ·exact .any rfl
 | any h => exact .any h
mutual
theorem AW.purge (hds : ∀ d ∈ ds, d < 1000) : ∀ {v : Value} {c : AV}, AW σ s.S ι v c → AW σ (s.drop ds).S ι v (c.purge ds)
 | v, .one c, h => by cases h with | one h => exact .one (h.purge hds)
 | v, .agg cs, h => by cases h with | agg h => exact .agg ((h.mono fun _ _ x => x.purge hds).map_right)
 | v, .tup vs, h => by
  cases h with
  | tup c h1 h2 h3 =>
   obtain ⟨k1, k2⟩ := AW.purges hds (c := c) h3
   exact .tup c (by rw [h1, k1]) (fun j b hb => by
    rcases Nat.lt_or_ge j vs.length with hj | hj
    ·exact h2 j _ (List.getElem?_eq_getElem hj)
    ·rw [List.getElem?_eq_none (by omega)] at hb; cases hb) k2
 | v, .any, h => .any
theorem AW.purges (hds : ∀ d ∈ ds, d < 1000) : ∀ {vs : List AV} {c : Nat → Value}, (∀ j b, vs[j]? = some b → AW σ s.S ι (c j) b) → vs.length = (AV.purges ds vs).length ∧ ∀ j b, (AV.purges ds vs)[j]? = some b → AW σ (s.drop ds).S ι (c j) b
 | [], c, h => by simp [AV.purges]
 | x :: xs, c, h => by
  obtain ⟨m1, m2⟩ := AW.purges hds (vs := xs) (c := fun j => c (j + 1)) (fun j b hb => h (j + 1) b (by simpa using hb))
  refine ⟨by simp [AV.purges, ← m1], fun j b hb => ?_⟩
  cases j with
  | zero =>
   simp [AV.purges] at hb
   subst hb
   exact AW.purge hds (h 0 x rfl)
  | succ j => exact m2 j b (by simpa [AV.purges] using hb)
end
theorem CD.purge (hds : ∀ d ∈ ds, d < 1000) {h : Hnd} {b : AN} (hr : CD σ s.S ι w h b) : CD σ (s.drop ds).S ι w h (b.purge ds) := by
 cases hr with
 | box h1 h2 h3 h4 h5 => exact .box h1 h2 h3 ((h4.mono fun _ _ x => x.purge hds).map_right) h5
 | afull h1 h2 h3 h4 => exact .afull h1 h2 h3 h4
 | arow h1 h2 h3 h4 h5 h6 h7 h8 h9 hh => exact .arow h1 h2 h3 h4 h5 h6 h7 h8 h9 hh
 | mnil h1 h2 => exact .mnil h1 h2
 | mrow h1 h2 h3 h4 h5 h6 h7 h8 h9 => exact .mrow h1 h2 h3 h4 h5 h6 h7 h8 h9
 | map h1 h2 h3 h4 => exact .map h1 h2 h3 h4
 | memo h1 h2 h3 h4 => exact .memo h1 h2 h3 h4
 | iter h1 h2 h3 h4 => exact .iter h1 h2 (h3.purge hds) h4
 | loop h1 h2 h3 h4 h5 =>
  obtain ⟨k1, k2⟩ := AW.purges hds h4
  exact .loop h1 h2 (by rw [← k1]; exact h3) k2 h5
 | dead h1 => exact .dead h1
theorem GH {id : Nat} {b : AN} (h : (s.drop ds).S id = some b) : ∃ b', s.S id = some b' ∧ b = b'.purge ds := by
 simp only [AS.drop, Ak] at h
 split at h
 ·cases h
 ·rw [Option.map_eq_some_iff] at h
  obtain ⟨b', h1, h2⟩ := h
  exact ⟨b', h1, h2.symm⟩
theorem Af.drop (ds : List Nat) (s : AS) (hds : ∀ d ∈ ds, d < 1000) : Af C s (s.drop ds) := fun a w ⟨σ, ι, R⟩ => by
 refine ⟨σ, ι, R.size, fun i hi => (R.env i hi).purge hds, R.nod, R.fit, fun id b h => ?_, fun id id' b b' g h1 h2 g1 g2 => ?_, fun id b g h hg => ?_, R.ext, R.old, R.os, R.grown, R.same, fun id b hb => ?_⟩
 ·obtain ⟨b', h1, rfl⟩ := GH h
  exact (R.blk id b' h1).purge hds
 ·obtain ⟨c1, k1, _⟩ := GH h1
  obtain ⟨c2, k2, _⟩ := GH h2
  exact R.inj _ _ _ _ _ k1 k2 g1 g2
 ·obtain ⟨c1, k1, _⟩ := GH h
  exact R.base _ _ _ k1 hg
 ·obtain ⟨b', h1, h2, h3⟩ := R.upd id b hb
  have hid := (C.clean id b hb).1
  have hnc : ds.contains id = false := by
   cases hc : ds.contains id with
   | false => rfl
   | true =>
    have := hds id (List.contains_iff_mem.1 hc)
    omega
  refine ⟨b'.purge ds, by simp only [AS.drop, Ak, hnc]; rw [h1]; rfl, by rw [BX]; exact h2, fun hl => ?_⟩
  rw [BX] at hl
  rw [F8]
  exact h3 hl
theorem Af.share {id : Nat} {e : TypeId} {wd : Nat} {xs : List (List SV)} (hS : s.S id = some (.mrow e wd xs)) : Af C s (s.set id (.arow e wd xs)) := fun a w ⟨σ, ι, R⟩ => by
 have hb := R.blk _ _ hS
 have hι : AM ι id (ι id) = ι := by
  funext k
  unfold AM
  split
  ·rename_i h; rw [h]
  ·rfl
 cases hb with
 | mnil h1 h2 =>
  obtain ⟨hu, R'⟩ := R.turn (w' := w) hS (.arow e wd []) (ι id) (σ' := σ) (fun _ _ h => h) (fun _ _ _ => rfl) R.fit (Nat.le_refl _) (fun _ => ⟨rfl, rfl⟩) ⟨rfl, rfl, rfl⟩ (Nat.le_refl _) (fun _ _ _ => rfl) (fun g h => .inl h) (fun hu => .afull h1 (by simpa using h2) (by simp) (.list (b := 0) (o := 0) (w := 0) (fun _ _ => undef) rfl (by simp) (by rw [h2]; simp [maxLen]) (fun _ => h2) (by simp) (by simp) (fun _ h _ => absurd h (by omega)) (by simp) (by simp)))
  exact ⟨σ, _, R'⟩
 | @mrow _ _ _ g vs h1 h2 h3 h4 h5 h6 h7 h8 h9 =>
  have hl : BO σ vs.toList wd xs := ⟨h7, fun k x j y hx hy => by simpa using h8 k x j y hx hy⟩
  have hkeep := H_ (σ := σ) (w' := w) (g := g) (k := xs.length * wd) (fun p x e hx => by rw [h9 _ e] at hx; cases hx)
  obtain ⟨hu, R'⟩ := R.turn (w' := w) hS (.arow e wd xs) (ι id) (σ' := EU σ w g (xs.length * wd)) hkeep (fun p hp _ => Ha (fun e => hp (by rw [e]; exact h1))) (F4 R.fit) (Nat.le_refl _) (fun _ => ⟨rfl, rfl⟩) ⟨rfl, rfl, rfl⟩ (Nat.le_refl _) (fun _ _ _ => rfl) (fun g h => .inl h)
   (fun hu => by
    have := IX (S' := (s.set id (.arow e wd xs)).S) (ι' := AM ι id (ι id)) (w' := w) (p := (ι id).p) h2 h3 h4 h5 h6 hl hkeep (fun p hp hne => absurd (h9 p hp) hne)
    rw [← h1] at this
    exact this)
  exact ⟨_, _, R'⟩
theorem Af.own (t id : Nat) (e : TypeId) (wd : Nat) {xs : List (List SV)} (ht : s.env t = .one (.full xs)) (hid : s.S id = none) (hw : ∀ x ∈ xs, x.length = wd) (hn : t < C.n) : Af C s ⟨AM s.env t (.one (.row id xs.length)), AM s.S id (some (.arow e wd xs))⟩ := fun a w ⟨σ, ι, R⟩ => by
 have rt := R.env t hn
 rw [ht] at rt
 generalize hv : a.tmps.getD t undef = v at rt
 cases Ad rt with
 | @full p len xs hs =>
  have hl : len = xs.length := by
   obtain ⟨p', cap', e1, _⟩ := Cd hs
   cases e1
   rfl
  subst hl
  obtain ⟨hu, R'⟩ := R.fresh (w' := w) hid (.arow e wd xs) ⟨p, xs.length, none⟩ (Ext.refl _ _) R.fit (Below.refl _ _) (by simp) (fun S' ι' hu => .afull rfl rfl hw hs)
  refine ⟨σ, _, R'.size, fun i hi => ?_, R'.nod, R'.fit, R'.blk, R'.inj, R'.base, R'.ext, R'.old, R'.os, R'.grown, R'.same, R'.upd⟩
  show AW σ (s.set id (.arow e wd xs)).S _ _ (AM s.env t _ i)
  unfold AM
  split
  ·rename_i e1
   subst e1
   rw [hv]
   exact .one (.row (b := .arow e wd xs) (by simp [AS.set, AG]) (Nat.le_refl _) rfl fun _ => by simp [AM])
  ·exact R'.env i hi
theorem Af.ownM (t id : Nat) (e : TypeId) (wd : Nat) (ht : s.env t = .one (.full [])) (hid : s.S id = none) (hn : t < C.n) : Af C s ⟨AM s.env t (.one (.row id 0)), AM s.S id (some (.mrow e wd []))⟩ := fun a w ⟨σ, ι, R⟩ => by
 have rt := R.env t hn
 rw [ht] at rt
 generalize hv : a.tmps.getD t undef = v at rt
 cases Ad rt with
 | @full p len xs hs =>
  have hl : len = 0 := by
   obtain ⟨p', cap', e1, _⟩ := Cd hs
   cases e1
   rfl
  subst hl
  obtain ⟨hu, R'⟩ := R.fresh (w' := w) hid (.mrow e wd []) ⟨p, 0, none⟩ (Ext.refl _ _) R.fit (Below.refl _ _) (by simp) (fun S' ι' hu => .mnil rfl rfl)
  refine ⟨σ, _, R'.size, fun i hi => ?_, R'.nod, R'.fit, R'.blk, R'.inj, R'.base, R'.ext, R'.old, R'.os, R'.grown, R'.same, R'.upd⟩
  show AW σ (s.set id (.mrow e wd [])).S _ _ (AM s.env t _ i)
  unfold AM
  split
  ·rename_i e1
   subst e1
   rw [hv]
   exact .one (.row (b := .mrow e wd []) (by simp [AS.set, AG]) (Nat.le_refl _) rfl fun _ => by simp [AM])
  ·exact R'.env i hi
theorem Af.toPart (t id n : Nat) (ht : s.env t = .one (.row id n)) (hn : t < C.n) : Af C s ⟨AM s.env t (.one (.part id n n)), s.S⟩ := fun a w ⟨σ, ι, R⟩ => by
 have rt := R.env t hn
 rw [ht] at rt
 refine ⟨σ, ι, R.size, fun i hi => ?_, R.nod, R.fit, R.blk, R.inj, R.base, R.ext, R.old, R.os, R.grown, R.same, R.upd⟩
 show AW σ s.S ι _ (AM s.env t _ i)
 unfold AM
 split
 ·rename_i e1
  subst e1
  obtain ⟨b, h1, h2, h3⟩ := Cq (Ad rt)
  exact .one (.part h1 h2 (Ad rt).one fun hl => ⟨Nat.le_refl _, h3 hl⟩)
 ·exact R.env i hi
theorem Af.keep (t id k n : Nat) {e : TypeId} {wd : Nat} {xs : List (List SV)} (ht : s.env t = .one (.part id k n)) (hS : s.S id = some (.arow e wd xs)) (hl : n = xs.length) (hn : t < C.n) : Af C s ⟨AM s.env t (.one (.st (.list (xs.take k)))), s.S⟩ := fun a w ⟨σ, ι, R⟩ => by
 have rt := R.env t hn
 rw [ht] at rt
 refine ⟨σ, ι, R.size, fun i hi => ?_, R.nod, R.fit, R.blk, R.inj, R.base, R.ext, R.old, R.os, R.grown, R.same, R.upd⟩
 show AW σ s.S ι _ (AM s.env t _ i)
 unfold AM
 split
 ·rename_i e1
  subst e1
  obtain ⟨b, h1, h2, h3⟩ := Et (Ad rt)
  rw [hS] at h1
  cases h1
  obtain ⟨h4, h5⟩ := h3 hl
  rw [h5]
  have hb := R.blk _ _ hS
  have hr := hb.srep
  have hmem : ∀ {kk x}, (xs.take k)[kk]? = some x → xs[kk]? = some x := fun hx => by
   rw [List.getElem?_take] at hx
   split at hx
   ·exact hx
   ·cases hx
  cases hr with
  | @list p len cap b o w' _ c q1 q2 q3 q4 q5 q6 qh q7 q8 =>
   exact .one (.st (.list (b := b) (o := o) (w := w') c (by rw [List.length_take]; omega) (by omega) q3 q4 (fun hne => q5 (by omega)) (fun x hx => q6 x (List.mem_of_mem_take hx)) (fun e1 e2 e3 => qh e1 e2 (fun e4 => e3 (by rw [e4]; exact List.take_nil))) (fun kk x j a hx ha => q7 kk x j a (hmem hx) ha) (fun kk x j a hx ha => q8 kk x j a (hmem hx) ha)))
 ·exact R.env i hi
theorem Af.ownC (id j nid : Nat) (e : TypeId) (wd : Nat) {xs : List (List SV)} {ty : TypeId} {cs : List AC} (hb : s.S id = some (.box ty cs)) (hc : cs[j]? = some (.full xs)) (hn : s.S nid = none) (hw : ∀ x ∈ xs, x.length = wd) :
  Af C s ((s.set nid (.arow e wd xs)).set id (.box ty (cs.set j (.row nid xs.length)))) := fun a w ⟨σ, ι, R⟩ => by
 have hbk := R.blk id _ hb
 have hne : id ≠ nid := fun e => by subst e; rw [hb] at hn; cases hn
 cases hbk with
 | @box _ _ g vs h1 h2 h3 h4 h5 =>
  obtain ⟨v, hv, hr⟩ := h4.get hc
  cases hr with
  | @full p len xs hs =>
   have hl : len = xs.length := by
    obtain ⟨p', cap', e1, _⟩ := Cd hs
    cases e1
    rfl
   subst hl
   obtain ⟨hu, R'⟩ := R.fresh (w' := w) hn (.arow e wd xs) ⟨p, xs.length, none⟩ (Ext.refl _ _) R.fit (Below.refl _ _) (by simp) (fun S' ι' hu => .afull rfl rfl hw hs)
   have hb' : (s.set nid (.arow e wd xs)).S id = some (.box ty cs) := by simp [AS.set, AO _ hne, hb]
   have hι : AM ι nid ⟨p, xs.length, none⟩ id = ι id := AO _ hne _
   obtain ⟨hu2, R2⟩ := R'.turn (w' := w) hb' (.box ty (cs.set j (.row nid xs.length))) (AM ι nid ⟨p, xs.length, none⟩ id) (σ' := σ) (fun _ _ h => h) (fun _ _ _ => rfl) R.fit (Nat.le_refl _) (fun _ => ⟨by simp [AN.wid], rfl⟩) ⟨rfl, rfl, rfl⟩ (Nat.le_refl _) (fun _ _ _ => rfl) (fun g h => .inl h) (fun hu2 => by
    refine .box (by rw [hι]; exact h1) (by rw [hι]; exact h2) h3 (Ag.of_get (by rw [List.length_set]; exact h4.len) fun k u c hu' hck => ?_) h5
    by_cases hk : k = j
    ·subst hk
     rw [hv] at hu'
     cases hu'
     have hlt : k < cs.length := (List.getElem?_eq_some_iff.1 hc).1
     rw [List.getElem?_set_self hlt] at hck
     cases hck
     exact .row (b := .arow e wd xs) (by simp [AS.set, AM, hne.symm]) (Nat.le_refl _) rfl fun _ => by simp [AM, hne.symm]
    ·rw [List.getElem?_set_ne (fun e => hk e.symm)] at hck
     obtain ⟨u', q1, q2⟩ := h4.get hck
     rw [hu'] at q1
     cases q1
     exact (q2.mono (fun _ _ h => h) hu).mono (fun _ _ h => h) hu2)
   exact ⟨_, _, R2⟩
theorem NK {v : Value} {c : AV} (h : AW σ noS noH v c) : AW σ s.S ι v c := h.mono (fun _ _ h => h) (Hu _ _)
theorem Af.settle (t : Nat) {v : AV} (h : outV s.S (s.env t) = some v) : Af C s ⟨AM s.env t v, s.S⟩ := fun a w ⟨σ, ι, R⟩ => by
 refine ⟨σ, ι, R.size, fun i hi => ?_, R.nod, R.fit, R.blk, R.inj, R.base, R.ext, R.old, R.os, R.grown, R.same, R.upd⟩
 show AW σ s.S ι _ (AM s.env t v i)
 unfold AM
 split
 ·rename_i e
  subst e
  exact NK (R.outV (R.env i hi) h)
 ·exact R.env i hi
def AV.low (v : AV) : AV := if v.high then v else .any
theorem AU.low (R : AU C σ ι s a w) (hb : ∀ i b, 1000 ≤ i → s.S i = some b → b.high = true) : AU C σ ι ⟨fun i => (s.env i).low, CX s.S⟩ a w := by
 have hS : ∀ i b, 1000 ≤ i → s.S i = some b → CX s.S i = some b := fun i b hi h => by
  show (if i < 1000 then none else s.S i) = some b
  rw [if_neg (by omega), h]
 have hinv : ∀ i b, CX s.S i = some b → 1000 ≤ i ∧ s.S i = some b := fun i b h => by
  have h' : (if i < 1000 then none else s.S i) = some b := h
  split at h'
  ·cases h'
  ·exact ⟨by omega, h'⟩
 refine ⟨R.size, fun i hi => ?_, R.nod, R.fit, fun id b h => ?_, fun id id' b b' g h1 h2 g1 g2 => R.inj _ _ _ _ g (hinv _ _ h1).2 (hinv _ _ h2).2 g1 g2, fun id b g h hg => R.base _ _ g (hinv _ _ h).2 hg, R.ext, R.old, R.os, R.grown, R.same, fun id b h => ?_⟩
 ·show AW σ (CX s.S) ι _ ((s.env i).low)
  unfold AV.low
  split
  ·rename_i hh
   exact (R.env i hi).low hS hh
  ·exact .any
 ·obtain ⟨h1, h2⟩ := hinv _ _ h
  have hh := hb id b h1 h2
  cases R.blk id b h2 with
  | box k1 k2 k3 k4 k5 => exact .box k1 k2 k3 (Ov hS k4 hh) k5
  | afull k1 k2 k3 k4 => exact .afull k1 k2 k3 k4
  | arow k1 k2 k3 k4 k5 k6 k7 k8 k9 kh => exact .arow k1 k2 k3 k4 k5 k6 k7 k8 k9 kh
  | mnil k1 k2 => exact .mnil k1 k2
  | mrow k1 k2 k3 k4 k5 k6 k7 k8 k9 => exact .mrow k1 k2 k3 k4 k5 k6 k7 k8 k9
  | map k1 k2 k3 k4 => exact .map k1 k2 k3 k4
  | memo k1 k2 k3 k4 => exact .memo k1 k2 k3 k4
  | iter k1 k2 k3 k4 => exact .iter k1 k2 (k3.low hS hh) k4
  | loop k1 k2 k3 k4 k5 => exact .loop k1 k2 k3 (AW.lows hS k4 hh) k5
  | dead k1 => exact .dead k1
 ·obtain ⟨b', h1, h2⟩ := R.upd id b h
  exact ⟨b', hS _ _ (C.clean id b h).1 h1, h2⟩
theorem Af.low (hb : ∀ i b, 1000 ≤ i → s.S i = some b → b.high = true) : Af C s ⟨fun i => (s.env i).low, CX s.S⟩ := fun a w ⟨σ, ι, R⟩ => ⟨σ, ι, R.low hb⟩
def BP (id a : Nat) (i : Nat) : Nat := if i = id then a else i
def AV.hand (id a : Nat) (v : AV) : AV := if (v.ren (BP id a)).high then v.ren (BP id a) else .any
section
variable {S S2 : AD} {ι2 : A9} {id a0 : Nat}
theorem Ao.hand (hS : ∀ i b, 1000 ≤ BP id a0 i → S i = some b → S2 (BP id a0 i) = some b ∧ ι2 (BP id a0 i) = ι i) {v : Value} {c : AC} (h : Ao σ S ι v c) (hc : (c.ren (BP id a0)).high = true) : Ao σ S2 ι2 v (c.ren (BP id a0)) := by
 induction h with
 | st h => exact .st h
 | full h => exact .full h
 | row h1 h2 h3 h4 =>
  rw [AC.ren, AC.high] at hc
  obtain ⟨q1, q2⟩ := hS _ _ (of_decide_eq_true hc) h1
  rw [AC.ren]
  exact .row q1 h2 h3 (fun hn => by rw [q2]; exact h4 hn)
 | part h1 h2 h3 h4 =>
  rw [AC.ren, AC.high] at hc
  obtain ⟨q1, q2⟩ := hS _ _ (of_decide_eq_true hc) h1
  rw [AC.ren]
  exact .part q1 h2 h3 (fun hn => by rw [q2]; exact h4 hn)
 | rest h1 h2 h3 h4 =>
  rw [AC.ren, AC.high] at hc
  obtain ⟨q1, q2⟩ := hS _ _ (of_decide_eq_true hc) h1
  rw [AC.ren]
  exact .rest q1 h2 h3 (fun hn => by rw [q2]; exact h4 hn)
 | ptr h1 h2 h3 h4 =>
  rw [AC.ren, AC.high] at hc
  obtain ⟨q1, q2⟩ := hS _ _ (of_decide_eq_true hc) h1
  rw [AC.ren]
  exact .ptr q1 h2 h3 (fun hn => by rw [q2]; exact h4 hn)
 | mptr h1 h2 h3 h4 =>
  rw [AC.ren, AC.high] at hc
  obtain ⟨q1, q2⟩ := hS _ _ (of_decide_eq_true hc) h1
  rw [AC.ren]
  exact .mptr q1 h2 h3 (fun hn => by rw [q2]; exact h4 hn)
 | yld h1 h2 h3 h4 =>
  rw [AC.ren, AC.high] at hc
  obtain ⟨q1, q2⟩ := hS _ _ (of_decide_eq_true hc) h1
  rw [AC.ren]
  exact .yld q1 h2 h3 (fun hn => by rw [q2]; exact h4 hn)
 | ubool => exact .ubool
 | eptr c h1 h2 hh => exact .eptr c h1 h2 hh
 | @fn f vs caps c h1 h2 h3 ih =>
  rw [AC.ren, AC.high] at hc
  rw [AC.ren]
  have key : ∀ (j : Nat) (b : AC), (AC.rens (BP id a0) caps)[j]? = some b → ∃ a, caps[j]? = some a ∧ b = a.ren (BP id a0) := fun j b hb => by
   rw [AC.rens_eq, List.getElem?_map, Option.map_eq_some_iff] at hb
   obtain ⟨a, ha, rfl⟩ := hb
   exact ⟨a, ha, rfl⟩
  refine .fn c (by rw [AC.rens_eq]; simpa using h1) (fun j b hb => ?_) (fun j b hb => ?_)
  ·obtain ⟨a, ha, rfl⟩ := key j b hb
   exact h2 j a ha
  ·have hm := Ci hc b (List.mem_of_getElem? hb)
   obtain ⟨a, ha, rfl⟩ := key j b hb
   exact ih j a ha hm
 | any h => exact .any h
mutual
theorem AW.hand (hS : ∀ i b, 1000 ≤ BP id a0 i → S i = some b → S2 (BP id a0 i) = some b ∧ ι2 (BP id a0 i) = ι i) : ∀ {v : Value} {c : AV}, AW σ S ι v c → (c.ren (BP id a0)).high = true → AW σ S2 ι2 v (c.ren (BP id a0))
 | v, .one c, h, hc => by
  rw [AV.ren] at hc ⊢
  rw [AV.high] at hc
  cases h with | one h => exact .one (h.hand hS hc)
 | v, .agg cs, h, hc => by
  rw [AV.ren] at hc ⊢
  rw [AV.high] at hc
  cases h with
  | agg h =>
   refine .agg (Ag.of_get (by rw [AC.rens_eq]; simpa using h.len) fun j x c hx hcj => ?_)
   have hm := Ci hc c (List.mem_of_getElem? hcj)
   rw [AC.rens_eq, List.getElem?_map, Option.map_eq_some_iff] at hcj
   obtain ⟨c', hc', rfl⟩ := hcj
   obtain ⟨x', h1, h2⟩ := h.get hc'
   rw [hx] at h1
   cases h1
   exact h2.hand hS hm
 | v, .tup vs, h, hc => by
  rw [AV.ren] at hc ⊢
  rw [AV.high] at hc
  cases h with
  | tup c h1 h2 h3 =>
   obtain ⟨k1, k2⟩ := AW.hands hS h3 hc
   exact .tup c (by rw [h1, k1]) (fun j b hb => by
    rcases Nat.lt_or_ge j vs.length with hj | hj
    ·exact h2 j _ (List.getElem?_eq_getElem hj)
    ·rw [List.getElem?_eq_none (by omega)] at hb; cases hb) k2
 | v, .any, h, _ => .any
theorem AW.hands (hS : ∀ i b, 1000 ≤ BP id a0 i → S i = some b → S2 (BP id a0 i) = some b ∧ ι2 (BP id a0 i) = ι i) : ∀ {vs : List AV} {c : Nat → Value}, (∀ j b, vs[j]? = some b → AW σ S ι (c j) b) → AV.highs (AV.rens (BP id a0) vs) = true → vs.length = (AV.rens (BP id a0) vs).length ∧ ∀ j b, (AV.rens (BP id a0) vs)[j]? = some b → AW σ S2 ι2 (c j) b
 | [], c, h, _ => by simp [AV.rens]
 | x :: xs, c, h, hc => by
  rw [AV.rens, AV.highs, Bool.and_eq_true] at hc
  obtain ⟨m1, m2⟩ := AW.hands hS (vs := xs) (c := fun j => c (j + 1)) (fun j b hb => h (j + 1) b (by simpa using hb)) hc.2
  refine ⟨by simp [AV.rens, ← m1], fun j b hb => ?_⟩
  cases j with
  | zero =>
   simp [AV.rens] at hb
   subst hb
   exact AW.hand hS (h 0 x rfl) hc.1
  | succ j => exact m2 j b (by simpa [AV.rens] using hb)
end
end
theorem Ao.stay {S S2 : AD} {ι2 : A9} (hS : ∀ i b, 1000 ≤ i → S i = some b → S2 i = some b ∧ ι2 i = ι i) {v : Value} {c : AC} (h : Ao σ S ι v c) (hc : c.high = true) : Ao σ S2 ι2 v c := by
 induction h with
 | st h => exact .st h
 | full h => exact .full h
 | row h1 h2 h3 h4 =>
  rw [AC.high] at hc
  obtain ⟨q1, q2⟩ := hS _ _ (of_decide_eq_true hc) h1
  exact .row q1 h2 h3 (fun hn => by rw [q2]; exact h4 hn)
 | part h1 h2 h3 h4 =>
  rw [AC.high] at hc
  obtain ⟨q1, q2⟩ := hS _ _ (of_decide_eq_true hc) h1
  exact .part q1 h2 h3 (fun hn => by rw [q2]; exact h4 hn)
 | rest h1 h2 h3 h4 =>
  rw [AC.high] at hc
  obtain ⟨q1, q2⟩ := hS _ _ (of_decide_eq_true hc) h1
  exact .rest q1 h2 h3 (fun hn => by rw [q2]; exact h4 hn)
 | ptr h1 h2 h3 h4 =>
  rw [AC.high] at hc
  obtain ⟨q1, q2⟩ := hS _ _ (of_decide_eq_true hc) h1
  exact .ptr q1 h2 h3 (fun hn => by rw [q2]; exact h4 hn)
 | mptr h1 h2 h3 h4 =>
  rw [AC.high] at hc
  obtain ⟨q1, q2⟩ := hS _ _ (of_decide_eq_true hc) h1
  exact .mptr q1 h2 h3 (fun hn => by rw [q2]; exact h4 hn)
 | yld h1 h2 h3 h4 =>
  rw [AC.high] at hc
  obtain ⟨q1, q2⟩ := hS _ _ (of_decide_eq_true hc) h1
  exact .yld q1 h2 h3 (fun hn => by rw [q2]; exact h4 hn)
 | ubool => exact .ubool
 | eptr c h1 h2 hh => exact .eptr c h1 h2 hh
 | fn c h1 h2 h3 ih =>
  rw [AC.high] at hc
  exact .fn c h1 h2 (fun j a ha => ih j a ha (Ci hc a (List.mem_of_getElem? ha)))
 | any h => exact .any h
theorem AU.hand (R : AU C σ ι s a w) (id a0 : Nat) {b0 : AN} (hid : id < 1000) (ha : 1000 ≤ a0) (hSa : s.S a0 = none) (hb0 : s.S id = some b0) (hbh : b0.high = true) (hb : ∀ i b, 1000 ≤ i → s.S i = some b → b.high = true) :
  AU C σ (AM ι a0 (ι id)) ⟨fun i => (s.env i).hand id a0, AM (CX s.S) a0 (some b0)⟩ a w ∧ ∀ i b, 1000 ≤ BP id a0 i → s.S i = some b → AM (CX s.S) a0 (some b0) (BP id a0 i) = some b ∧ AM ι a0 (ι id) (BP id a0 i) = ι i := by
 have hlow : ∀ i, 1000 ≤ i → CX s.S i = s.S i := fun i hi => by
  show (if i < 1000 then none else s.S i) = _
  rw [if_neg (by omega)]
 have hS : ∀ i b, 1000 ≤ BP id a0 i → s.S i = some b → AM (CX s.S) a0 (some b0) (BP id a0 i) = some b ∧ AM ι a0 (ι id) (BP id a0 i) = ι i := fun i b hi h => by
  unfold BP at hi ⊢
  by_cases e : i = id
  ·subst e
   rw [if_pos rfl, AG, AG, ← hb0, h]
   exact ⟨rfl, rfl⟩
  ·rw [if_neg e] at hi ⊢
   have hne : i ≠ a0 := fun e => by subst e; rw [hSa] at h; cases h
   rw [AO _ hne, AO _ hne, hlow i hi]
   exact ⟨h, rfl⟩
 have hS' : ∀ i b, 1000 ≤ i → s.S i = some b → AM (CX s.S) a0 (some b0) i = some b ∧ AM ι a0 (ι id) i = ι i := fun i b hi h => by
  have hne : i ≠ a0 := fun e => by subst e; rw [hSa] at h; cases h
  rw [AO _ hne, AO _ hne, hlow i hi]
  exact ⟨h, rfl⟩
 have hinv : ∀ i b, AM (CX s.S) a0 (some b0) i = some b → (i = a0 ∧ b = b0) ∨ (i ≠ a0 ∧ 1000 ≤ i ∧ s.S i = some b) := fun i b h => by
  by_cases e : i = a0
  ·subst e
   rw [AG] at h
   cases h
   exact .inl ⟨rfl, rfl⟩
  ·rw [AO _ e] at h
   have h' : (if i < 1000 then none else s.S i) = some b := h
   split at h'
   ·cases h'
   ·exact .inr ⟨e, by omega, h'⟩
 refine ⟨⟨R.size, fun i hi => ?_, R.nod, R.fit, fun i b h => ?_, fun i j b c g h1 h2 g1 g2 => ?_, fun i b g h hg => ?_, R.ext, R.old, R.os, R.grown, R.same, fun i b h => ?_⟩, hS⟩
 ·show AW σ (AM (CX s.S) a0 (some b0)) _ _ ((s.env i).hand id a0)
  unfold AV.hand
  split
  ·rename_i hh
   exact (R.env i hi).hand hS hh
  ·exact .any
 ·rcases hinv i b h with ⟨rfl, rfl⟩ | ⟨hne, h1, h2⟩
  ·rw [AG]
   exact (R.blk id _ hb0).samecells (fun v c hv hc => hv.stay hS' hc) hbh
  ·rw [AO _ hne]
   exact (R.blk i b h2).samecells (fun v c hv hc => hv.stay hS' hc) (hb i b h1 h2)
 ·rcases hinv i b h1 with ⟨rfl, rfl⟩ | ⟨hne, k1, k2⟩ <;> rcases hinv j c h2 with ⟨rfl, rfl⟩ | ⟨hne', k1', k2'⟩
  ·rfl
  ·rw [AG] at g1
   rw [AO _ hne'] at g2
   have := R.inj _ _ _ _ g hb0 k2' g1 g2
   omega
  ·rw [AG] at g2
   rw [AO _ hne] at g1
   have := R.inj _ _ _ _ g k2 hb0 g1 g2
   omega
  ·rw [AO _ hne] at g1
   rw [AO _ hne'] at g2
   exact R.inj _ _ _ _ g k2 k2' g1 g2
 ·rcases hinv i b h with ⟨rfl, rfl⟩ | ⟨hne, k1, k2⟩
  ·rw [AG] at hg
   exact R.base _ _ g hb0 hg
  ·rw [AO _ hne] at hg
   exact R.base _ _ g k2 hg
 ·obtain ⟨b', h1, h2, h3⟩ := R.upd i b h
  obtain ⟨q1, q2⟩ := hS' i b' (C.clean i b h).1 h1
  exact ⟨b', q1, h2, fun hl => ⟨(h3 hl).1, by rw [q2]; exact (h3 hl).2⟩⟩
theorem Af.hand (id a0 : Nat) {b0 : AN} (hid : id < 1000) (ha : 1000 ≤ a0) (hSa : s.S a0 = none) (hb0 : s.S id = some b0) (hbh : b0.high = true) (hb : ∀ i b, 1000 ≤ i → s.S i = some b → b.high = true) : Af C s ⟨fun i => (s.env i).hand id a0, AM (CX s.S) a0 (some b0)⟩ := fun a w ⟨σ, ι, R⟩ =>
 ⟨σ, _, (R.hand id a0 hid ha hSa hb0 hbh hb).1⟩
theorem H3 {C : Ctx} {rs : List RV} {S' : AD} {e : AX} {s : AS} (he : match e with | .normal => True | .ret => True | _ => False) (id a0 : Nat) (r0 : AV) {b0 : AN} (hid : id < 1000) (ha : 1000 ≤ a0) (hSa : s.S a0 = none) (hb0 : s.S id = some b0) (hbh : b0.high = true) (hb : ∀ i b, 1000 ≤ i → s.S i = some b → b.high = true)
  (h1 : (AA s rs).map AH = some r0) (hh : (r0.ren (BP id a0)).high = true) (h3 : AM (CX s.S) a0 (some b0) = S') (hc : BJ S') : JE C rs (r0.ren (BP id a0)) S' e s :=
 ⟨he, s, ⟨fun i => (s.env i).hand id a0, AM (CX s.S) a0 (some b0)⟩, r0, Af.refl _ _, h1, fun σ ι a w R => ⟨σ, _, (R.hand id a0 hid ha hSa hb0 hbh hb).1, fun v hv => hv.hand (R.hand id a0 hid ha hSa hb0 hbh hb).2 hh⟩, h3, hc⟩
theorem A7 (S : AD) (i : Nat) : upS S (up1 i) = (S i).map (AN.ren up1) := by
 show (if i + 1000 < 1000 then none else (S (i + 1000 - 1000)).map (AN.ren up1)) = _
 rw [if_neg (by omega), Nat.add_sub_cancel]
theorem VK (S : AD) (i : Nat) (b : AN) : dnS (AM S (up1 i) (some b)) = AM (dnS S) i (some (b.ren dn1)) := by
 funext k
 show (AM S (up1 i) (some b) (up1 k)).map _ = AM (dnS S) i _ k
 by_cases h : k = i
 ·subst h
  rw [AG, AG]
  rfl
 ·have hne : up1 k ≠ up1 i := fun e => h (by have := congrArg dn1 e; rw [Qx, Qx] at this; exact this)
  rw [AO _ hne, AO _ h]
  rfl
theorem HN (S : AD) {i : Nat} (h : i < 1000) (b : Option AN) : CX (AM S i b) = CX S := by
 funext k
 show (if k < 1000 then none else AM S i b k) = (if k < 1000 then none else S k)
 split
 ·rfl
 ·exact AO _ (by omega) _
theorem SD (S : AD) {i : Nat} (h : 1000 ≤ i) (b : Option AN) : CX (AM S i b) = AM (CX S) i b := by
 funext k
 show (if k < 1000 then none else AM S i b k) = AM (CX S) i b k
 by_cases e : k = i
 ·subst e
  rw [if_neg (by omega), AG, AG]
 ·rw [AO _ e, AO _ e]
  rfl
theorem C2 {S : AD} (h : BJ S) {i : Nat} (hi : 1000 ≤ i) {b : AN} (hb : b.high = true) : BJ (AM S i (some b)) := fun k c hk => by
 by_cases e : k = i
 ·subst e
  rw [AG] at hk
  cases hk
  exact ⟨hi, hb⟩
 ·rw [AO _ e] at hk
  exact h k c hk
theorem Uk {S : AD} {i : Nat} {b : AN} (h : ∀ k c, 1000 ≤ k → S k = some c → c.high = true) (hb : b.high = true) : ∀ k c, 1000 ≤ k → AM S i (some b) k = some c → c.high = true := fun k c hk hc => by
 by_cases e : k = i
 ·subst e
  rw [AG] at hc
  cases hc
  exact hb
 ·rw [AO _ e] at hc
  exact h k c hk hc
theorem IB {S : AD} {i : Nat} (hi : i < 1000) {b : Option AN} (h : ∀ k c, 1000 ≤ k → S k = some c → c.high = true) : ∀ k c, 1000 ≤ k → AM S i b k = some c → c.high = true := fun k c hk hc => by
 rw [AO _ (by omega)] at hc
 exact h k c hk hc
end
theorem IWP.loopD {P : Program} {C : Ctx} {mu : List Nat} {Q : AX → AS → Prop} {s : AS} {x : IR} (ds : List Nat) (Inv : Nat → AS → Prop) (m0 : Nat) (h0 : Inv m0 s) (h : ∀ m s, Inv m s → IWP P C mu x (AX.then (fun s' => ∃ m', m' < m ∧ Inv m' (s'.drop ds)) Q) s) (hds : ∀ d ∈ ds, d < 1000 := by decide) : IWP P C mu (.loop x) Q s := by
 refine IWP.loop (fun m s => ∃ s1, Af C s s1 ∧ Inv m s1) m0 ⟨s, Af.refl _ _, h0⟩ fun m s ⟨s1, hg, hi⟩ => ?_
 refine (IWP.ghost hg (h m s1 hi)).mono fun e s2 he => ?_
 cases e with
 | normal =>
  obtain ⟨m', h1, h2⟩ := he
  exact ⟨m', h1, _, Af.drop ds s2 hds, h2⟩
 | _ => exact he
theorem Ao.out {σ : Sto} {S : AD} {ι : A9} {v : Value} {c : AC} (h : Ao σ S ι v c) (hc : outC noS c = some c) : Ao σ noS noH v c := by
 cases h with
 | st h => exact .st h
 | full h => simp [outC, stC] at hc
 | row h1 h2 h3 h4 => simp [outC, stC, noS] at hc
 | part h1 h2 h3 h4 => simp [outC, stC, noS] at hc
 | rest h1 h2 h3 h4 => simp [outC, stC, noS] at hc
 | ptr h1 h2 h3 h4 => simp [outC, stC] at hc
 | mptr h1 h2 h3 h4 => simp [outC, stC] at hc
 | yld h1 h2 h3 h4 => simp [outC, stC] at hc
 | ubool => exact .ubool
 | eptr c h1 h2 hh => exact .eptr c h1 h2 hh
 | @fn f vs caps c h1 h2 h3 =>
  cases caps with
  | nil => exact .fn c h1 h2 (by simp)
  | cons x xs =>
   have hall : (x :: xs).all AC.stay = true := by
    unfold outC at hc
    by_cases e : (x :: xs).all AC.stay = true
    ·exact e
    ·simp only [e, if_false] at hc
     cases hc
   exact .fn c h1 h2 fun j a ha => (h3 j a ha).staying (List.all_eq_true.1 hall a (List.mem_of_getElem? ha))
 | any h => simp [outC, stC] at hc
theorem Jf : ∀ {cs : List AC}, outCs noS cs = some cs → ∀ c ∈ cs, outC noS c = some c
 | [], _, c, hc => by simp at hc
 | x :: xs, h, c, hc => by
  simp only [outCs] at h
  split at h
  ·rename_i y ys h1 h2
   simp only [Option.some.injEq, List.cons.injEq] at h
   obtain ⟨rfl, rfl⟩ := h
   rcases List.mem_cons.1 hc with rfl | hc
   ·exact h1
   ·exact Jf h2 c hc
  ·cases h
mutual
theorem AW.out {σ : Sto} {S : AD} {ι : A9} : ∀ {v : Value} {c : AV}, AW σ S ι v c → outV noS c = some c → AW σ noS noH v c
 | v, .one c, h, hc => by
  rw [outV, Option.map_eq_some_iff] at hc
  obtain ⟨a, h1, h2⟩ := hc
  cases h2
  cases h with | one h => exact .one (h.out h1)
 | v, .agg cs, h, hc => by
  rw [outV, Option.map_eq_some_iff] at hc
  obtain ⟨a, h1, h2⟩ := hc
  cases h2
  cases h with
  | agg h => exact .agg (Ag.of_get h.len fun j x c hx hcj => by
    obtain ⟨x', q1, q2⟩ := h.get hcj
    rw [hx] at q1
    cases q1
    exact q2.out (Jf h1 c (List.mem_of_getElem? hcj)))
 | v, .tup vs, h, hc => by
  rw [outV, Option.map_eq_some_iff] at hc
  obtain ⟨a, h1, h2⟩ := hc
  cases h2
  cases h with
  | tup c k1 k2 k3 => exact .tup c k1 k2 (AW.outs k3 h1)
 | v, .any, h, _ => .any
theorem AW.outs {σ : Sto} {S : AD} {ι : A9} : ∀ {vs : List AV} {c : Nat → Value}, (∀ j b, vs[j]? = some b → AW σ S ι (c j) b) → outVs noS vs = some vs → ∀ j b, vs[j]? = some b → AW σ noS noH (c j) b
 | [], c, h, _, j, b, hb => by simp at hb
 | x :: xs, c, h, hc, j, b, hb => by
  rw [outVs] at hc
  split at hc
  ·rename_i y ys h1 h2
   simp only [Option.some.injEq, List.cons.injEq] at hc
   obtain ⟨rfl, rfl⟩ := hc
   cases j with
   | zero =>
    simp at hb
    subst hb
    exact AW.out (h 0 _ rfl) h1
   | succ j => exact AW.outs (c := fun j => c (j + 1)) (fun j b hb => h (j + 1) b (by simpa using hb)) h2 j b (by simpa using hb)
  ·cases hc
end
theorem AQ.toS {P : Program} {f : FuncId} {xs : List AV} {S : AD} {r : AV} (h : AQ P f xs r) (hx : outVs noS xs = some xs) : An P f xs S r S := by
 intro hclean σ w vs ι hglob hfit hown hvs
 have hvs' : Ag (AW σ noS noH) vs xs := Ag.of_get hvs.len fun j v x hv hxj => by
  have := AW.outs (c := fun j => (vs[j]?).getD undef) (σ := σ) (S := S) (ι := ι) (vs := xs) (fun j b hb => by
   obtain ⟨v', h1, h2⟩ := hvs.get hb
   rw [h1]
   exact h2) hx j x hxj
  rw [hv] at this
  exact this
 refine (h σ w vs hglob hfit hvs').mono fun e w' he => ?_
 obtain ⟨v, σ', he1, he2, hf, hext, hb⟩ := he
 have hlt : ∀ id b g, S id = some b → (ι id).g = some g → g < w.heap.size := fun id b g h1 h2 => (hown.1 id b h1).gsome h2
 refine ⟨v, σ', ι, he1, hclean, Upd.refl _ _, ⟨fun id b hid => (hown.1 id b hid).mono hext.keep (Upd.refl _ _) (fun g hg => hb.block g (hlt id b g hid hg)) (fun g hg p hp => hext.old p (by have := hlt id b g hid hg; omega)), hown.2⟩,
  NK (s := ⟨fun _ => .any, S⟩) he2, hf, hext.keep, fun p hp _ => hext.old p hp, ⟨hb.os, hb.tape, hb.output⟩, hb.size, fun g hg _ => hb.block g hg, fun id b g h1 h2 => .inr fun hn => hn id b h1 h2⟩
theorem Of {C : Ctx} {rs : List RV} {r : AV} {S' : AD} {e : AX} {s : AS} (he : match e with | .normal => True | .ret => True | _ => False) (r0 : AV) (h1 : (AA s rs).map AH = some r0) (h2 : outV s.S r0 = some r) (hb : ∀ i b, 1000 ≤ i → s.S i = some b → b.high = true) (h3 : CX s.S = S') (hc : BJ S') : JE C rs r S' e s := by
 refine ⟨he, s, ⟨fun i => (s.env i).low, CX s.S⟩, r0, Af.refl _ _, h1, fun σ ι a w R => ?_, h3, hc⟩
 exact ⟨σ, ι, R.low hb, fun v hv => NK (s := ⟨fun i => (s.env i).low, CX s.S⟩) (R.outV hv h2)⟩
theorem LW {C : Ctx} {rs : List RV} {r : AV} {S' : AD} {e : AX} {s : AS} (he : match e with | .normal => True | .ret => True | _ => False) (h1 : (AA s rs).map AH = some r) (hh : r.high = true) (hb : ∀ i b, 1000 ≤ i → s.S i = some b → b.high = true) (h3 : CX s.S = S') (hc : BJ S') : JE C rs r S' e s :=
 ⟨he, s, ⟨fun i => (s.env i).low, CX s.S⟩, r, Af.refl _ _, h1, fun σ ι a w R => ⟨σ, ι, R.low hb, fun v hv => hv.low (fun i b hi hS => by
  show CX s.S i = some b
  unfold CX
  rw [if_neg (by omega)]
  exact hS) hh⟩, h3, hc⟩
theorem CR {C : Ctx} {rs : List RV} {r : AV} {e : AX} {s : AS} {S : AD} (r0 : AV) (hS : BJ S) (he : match e with | .normal => True | .ret => True | _ => False)
  (h1 : (AA s rs).map AH = some r0) (h2 : outV s.S r0 = some r) (h4 : ∀ i, 1000 ≤ i → s.S i = S i) : JE C rs r S e s :=
 Of he r0 h1 h2 (fun i b hi hb => (hS i b (by rw [← h4 i hi]; exact hb)).2) (by
  funext i
  unfold CX
  split
  ·exact (AR hS (by omega)).symm
  ·exact h4 i (by omega)) hS
theorem Wz {C : Ctx} {rs : List RV} {e : AX} {s : AS} {ty : TypeId} {w n : Nat} {ys : List (List SV)} {mu : Bool} (he : match e with | .normal => True | .ret => True | _ => False) (id : Nat) (hid : id < 1000) (hb0 : s.S id = some (JF mu ty w ys)) (hlow : ∀ i, 1000 ≤ i → s.S i = none)
  (h1 : (AA s rs).map AH = some (.one (.row id n))) : JE C rs (.one (.row 1000 n)) (fun i => if i = 1000 then some (JF mu ty w ys) else noS i) e s := by
 have e1 : (AV.one (.row id n)).ren (BP id 1000) = .one (.row 1000 n) := by simp [AV.ren, AC.ren, BP]
 rw [← e1]
 refine H3 he id 1000 _ hid (by decide) (hlow 1000 (by decide)) hb0 (by cases mu <;> rfl) (fun i b hi hb => by rw [hlow i hi] at hb; cases hb) h1 (by rw [e1]; rfl) ?_ ?_
 ·funext i
  unfold AM CX noS
  by_cases h2 : i = 1000
  ·rw [if_pos h2, if_pos h2]
  ·rw [if_neg h2, if_neg h2]
   split
   ·rfl
   ·exact hlow i (by omega)
 ·intro i b hb
  have hb : (if i = 1000 then some (JF mu ty w ys) else noS i) = some b := hb
  split at hb
  ·rename_i h2
   cases hb
   exact ⟨by omega, by cases mu <;> rfl⟩
  ·cases hb

open Cod (wid dat)
inductive Tm where
 | mk (name : ByteArray) (args : List Tm)
def Tm.name : Tm → ByteArray | .mk n _ => n
def Tm.args : Tm → List Tm | .mk _ xs => xs
theorem Tm.eta (t : Tm) : Tm.mk t.name t.args = t := by cases t; rfl
mutual
def Tm.dat : Tm → Dat
 | .mk n xs => .agg [.str n, .row 2 (Tm.dats xs)]
def Tm.dats : List Tm → List Dat
 | [] => []
 | t :: ts => t.dat :: Tm.dats ts
end
theorem Tm.dats_eq : ∀ xs : List Tm, Tm.dats xs = xs.map Tm.dat
 | [] => rfl
 | t :: ts => by rw [Tm.dats, Tm.dats_eq ts]; rfl
theorem Tm.dat_is {σ : Sto} {n : ByteArray} {xs : List Tm} {cs : List Value} (h : (Tm.dat (.mk n xs)).Is σ cs) :
  ∃ p len cap, cs = [.string n, .slice p len cap] ∧ n.size ≤ maxLen ∧ len = xs.length ∧ len ≤ cap ∧ cap ≤ maxLen ∧ (p = none → cap = 0) ∧ ∃ b o, (len ≠ 0 → p = some ⟨b, o, none⟩) ∧ Dat.RowIs σ 2 (xs.map Tm.dat) b o := by
 rw [Tm.dat, Tm.dats_eq] at h
 obtain ⟨x, y, rfl, ⟨rfl, hn⟩, x', y', rfl, ⟨p, len, cap, rfl, hl, r⟩, rfl⟩ := h
 exact ⟨p, len, cap, rfl, hn, by simpa using hl, r⟩
instance : Cod Tm := ⟨2, Tm.dat, fun σ t cs h => by
 cases t
 obtain ⟨p, len, cap, rfl, _⟩ := Tm.dat_is h
 rfl⟩
def TmV (σ : Sto) (v : Value) (t : Tm) : Prop := ∃ p len cap, v = .agg #[.string t.name, .slice p len cap] ∧ t.name.size ≤ maxLen ∧ Slc σ p len cap t.args
theorem TmV.ext {σ σ' : Sto} {N : Nat} {v : Value} {t : Tm} (h : TmV σ v t) (he : Ext N σ σ') : TmV σ' v t := by
 obtain ⟨p, len, cap, h1, h2, h3⟩ := h
 exact ⟨p, len, cap, h1, h2, h3.ext he⟩
theorem Slc.str {σ : Sto} {p : Option Addr} {len cap : Nat} {xs : List ByteArray} (h : Slc σ p len cap xs) (k : Nat) (hk : k < len) :
  ∃ b o a, p = some ⟨b, o, none⟩ ∧ Hid (xs[k]? = some a) ∧ σ ⟨b, o + k, none⟩ = some (.string a) ∧ a.size ≤ maxLen := by
 have hl := h.length
 obtain ⟨b, o, hp, cs, h1, h2, h3⟩ := h.get k (by omega)
 obtain ⟨rfl, h4⟩ := SM.1 h3
 have := h2 0 _ rfl
 exact ⟨b, o, xs[k], hp, Lib.hid (List.getElem?_eq_getElem (by omega)), by simpa [Cod.wid] using this, h4⟩
theorem R3 {n : Int} (h : (Lit.int .i64 n).wf = true) : -9223372036854775808 ≤ n ∧ n ≤ 9223372036854775807 := by
 simpa [Lit.wf, IntKind.min, IntKind.max, IntKind.signed, IntKind.bits] using h
theorem Slc.int {σ : Sto} {p : Option Addr} {len cap : Nat} {xs : List Int} (h : Slc σ p len cap xs) (k : Nat) (hk : k < len) :
  ∃ b o a, p = some ⟨b, o, none⟩ ∧ Hid (xs[k]? = some a) ∧ σ ⟨b, o + k, none⟩ = some (.int .i64 a) ∧ -9223372036854775808 ≤ a ∧ a ≤ 9223372036854775807 := by
 have hl := h.length
 obtain ⟨b, o, hp, cs, h1, h2, h3⟩ := h.get k (by omega)
 obtain ⟨rfl, h4⟩ := St.1 h3
 have := h2 0 _ rfl
 exact ⟨b, o, xs[k], hp, Lib.hid (List.getElem?_eq_getElem (by omega)), by simpa [Cod.wid] using this, R3 h4⟩
theorem AY {α : Type} {xs : List α} {k : Nat} {a : α} (h : xs[k]? = some a) : xs.take (k + 1) = xs.take k ++ [a] := by
 rw [List.take_add_one, h]; rfl
theorem Bh {α : Type} {xs : List α} {k : Nat} {a : α} (h : xs[k]? = some a) : k < xs.length := by
 rcases Nat.lt_or_ge k xs.length with h' | h'
 ·exact h'
 ·rw [List.getElem?_eq_none h'] at h; cases h
theorem AI {α : Type} {xs : List α} {k : Nat} {a : α} (h : xs[k]? = some a) : a ∈ xs := List.mem_of_getElem? h
theorem Tm.lt_of_mem {a : Tm} {n : ByteArray} {xs : List Tm} (h : a ∈ xs) : SizeOf.sizeOf a < SizeOf.sizeOf (Tm.mk n xs) := by
 have := List.sizeOf_lt_of_mem h
 simp only [Tm.mk.sizeOf_spec]
 omega

theorem SH (c P Q : Prop) [Decidable c] : ((c → P) ∧ (¬ c → Q)) = if c then P else Q := by
 by_cases h : c <;> simp [h]
theorem TA {c A B : Prop} [Decidable c] (h : (c → A) ∧ (¬ c → B)) : if c then A else B := by
 by_cases hc : c
 ·rw [if_pos hc]; exact h.1 hc
 ·rw [if_neg hc]; exact h.2 hc
theorem Th (b : Bool) (P Q : Prop) : ((b = true → P) ∧ (b = false → Q)) = if b = true then P else Q := by
 cases b <;> simp
attribute [congr] Nt.congr H0.congr
mutual
def Ap : Tm → List SV
 | .mk n xs => [.str n, .list (RT xs)]
def RT : List Tm → List (List SV)
 | [] => []
 | t :: ts => Ap t :: RT ts
end
theorem O5 : ∀ xs : List Tm, RT xs = xs.map Ap
 | [] => rfl
 | t :: ts => by rw [RT, O5 ts]; rfl
theorem BC (t : Tm) : Ap t = [.str t.name, .list (t.args.map Ap)] := by
 cases t
 rw [Ap, O5]
 rfl
theorem Ug (t : Tm) : (Ap t).length = 2 := by rw [BC]; rfl
class Vu {α : Type} (f : α → List SV) (n : outParam Nat) : Prop where
 ok : ∀ a, (f a).length = n
theorem W2 {α : Type} {f : α → List SV} {n : Nat} [h : Vu f n] {ts : List α} : ∀ x ∈ ts.map f, x.length = n := fun x hx => by
 obtain ⟨a, _, rfl⟩ := List.mem_map.1 hx
 exact h.ok a
instance : Vu Ap 2 := ⟨fun t => by rw [BC]; rfl⟩
theorem CS {ts : List Tm} : ∀ x ∈ ts.map Ap, x.length = 2 := by
 intro x hx
 obtain ⟨a, _, rfl⟩ := List.mem_map.1 hx
 exact Ug a
theorem Tm.args_mk (n : ByteArray) (xs : List Tm) : (Tm.mk n xs).args = xs := rfl
theorem Tm.name_mk (n : ByteArray) (xs : List Tm) : (Tm.mk n xs).name = n := rfl
abbrev AK (n : Int) : AV := .one (.st (.int .i64 n))
abbrev Ab (b : Bool) : AV := .one (.st (.bool b))
abbrev Bi (s : ByteArray) : AV := .one (.st (.str s))
abbrev aTm (t : Tm) : AV := .agg [.st (.str t.name), .st (.list (t.args.map Ap))]
abbrev HL (n : Int) : List SV := [.int .i64 n]
abbrev DU (s : ByteArray) : List SV := [.str s]
abbrev Ji (p : List Int) : List SV := [.list (p.map HL)]
abbrev PA (l : List (List Int)) : AV := .one (.st (.list (l.map Ji)))
abbrev EA (l : List Int) : AV := .one (.st (.list (l.map HL)))
abbrev DV (l : List ByteArray) : AV := .one (.st (.list (l.map DU)))
abbrev Dn (l : List Tm) : AV := .one (.st (.list (l.map Ap)))
theorem AT {α : Type} {xs : List α} {k : Nat} (h : k < xs.length) : ∃ a, xs[k]? = some a := ⟨xs[k], List.getElem?_eq_getElem h⟩
theorem EF (n : Int) : inR .i64 n ↔ -9223372036854775808 ≤ n ∧ n ≤ 9223372036854775807 := by
 simp [inR, IntKind.min, IntKind.max, IntKind.signed, IntKind.bits]
theorem PU {l : List Int} (h : (SV.list (l.map HL)).known) : l.length ≤ maxLen ∧ ∀ n ∈ l, inR .i64 n := by
 obtain ⟨h1, h2⟩ := h
 refine ⟨by simpa using h1, fun n hn => ?_⟩
 have := G8.1 (Ft.1 h2 (HL n) (List.mem_map.2 ⟨n, hn, rfl⟩)) (.int .i64 n) (by simp)
 exact this
theorem Ep : maxLen = 9223372036854775807 := by simp [maxLen]
theorem Dt {S : AD} {xs : List (List SV)} (h : (AV.one (.st (.list xs))).known S) : xs.length ≤ 9223372036854775807 := by
 simp only [AV.known, AC.known, SV.known] at h
 rw [Ep] at h
 exact h.1
theorem Ei {S : AD} {t : Tm} (h : (aTm t).known S) : t.name.size ≤ 9223372036854775807 ∧ t.args.length ≤ 9223372036854775807 := by
 have h1 : t.name.size ≤ maxLen := by
  have := h (.st (.str t.name)) (by simp)
  simpa [AC.known, SV.known] using this
 have h2 : t.args.length ≤ maxLen := by
  have := h (.st (.list (t.args.map Ap))) (by simp)
  simp only [AC.known, SV.known, List.length_map] at this
  exact this.1
 rw [Ep] at h1 h2
 exact ⟨h1, h2⟩

def Kd.isCall : Kd → Bool
 | .call _ _ => true
 | .callS _ _ => true
 | .callV _ _ => true
 | .callN _ _ => true
 | .callR _ _ => true
 | .callW _ _ => true
 | .callX _ _ => true
 | .callY _ _ => true
 | .buildFlat _ => false
 | .cutP _ _ _ => false
 | .indexP _ _ _ => false
 | .appP _ _ _ _ _ => false
 | .restP _ _ _ => false
 | .appS _ _ _ => false
 | .loadL _ _ _ => false
 | .indexL _ _ _ => false
 | .buildL _ _ => false
 | .fieldL _ _ => false
 | .lenL _ _ => false
 | .appF _ _ _ _ _ _ => false
 | .clearP _ _ _ _ => false
 | .mov _ => false
 | .pick _ _ _ => false
 | .alloc _ _ => false
 | .box _ _ => false
 | .build _ _ => false
 | .buildSlice _ _ _ _ => false
 | .load _ _ _ => false
 | .store _ _ _ => false
 | .fieldAddr _ _ => false
 | .field _ _ _ _ => false
 | .indexAddr _ _ _ => false
 | .indexArr _ _ _ _ => false
 | .indexStr _ _ => false
 | .bin _ _ _ => false
 | .eqB _ _ _ => false
 | .eqN _ _ => false
 | .eqE _ _ => false
 | .never => false
 | .pan _ => false
 | .iface _ _ => false
 | .strOf _ => false
 | .un _ _ => false
 | .sliceS _ _ _ => false
 | .sliceL _ _ _ _ => false
 | .sliceM _ _ _ _ => false
 | .extract _ _ => false
 | .len _ _ => false
 | .append _ _ _ _ _ _ => false
 | .conv _ _ => false
 | .nilCheck _ => false
 | .mm _ _ _ => false
 | .makeSlice _ _ _ _ _ _ => false
 | .makeFunc _ _ => false
 | .makeMap _ => false
 | .lookup _ _ _ _ _ => false
 | .mapSet _ _ _ _ => false
 | .mapEntry _ _ _ _ => false
 | .entrySet _ _ _ => false
 | .rangeM _ => false
 | .next _ => false
 | .entry _ => false
 | .lenM _ => false
 | .buildArr _ => false
 | .makeMemo => false
 | .memoGet _ _ _ _ => false
 | .memoSet _ _ _ => false
inductive V3 (P : Program) (f : FuncId) (vs : List AV) (d : Option Nat) (l : List Ins) (s : AS) (K : AS → Prop) : Prop
 | mk (r : AV) (h1 : AQ P f vs r) (h2 : Run P l (s.put d r) K)
inductive NR (P : Program) (f : FuncId) (vs : List AV) (S : AD) (ks : List Nat) (d : Option Nat) (l : List Ins) (env : Nat → AV) (K : AS → Prop) : Prop
 | mk (r : AV) (S' : AD) (h1 : An P f vs (upS S) r S') (h2 : (∀ k ∈ ks, dnS S' k = S k) ∧ Run P l ((⟨env, dnS S'⟩ : AS).put d (r.ren dn1)) K)
inductive TE (P : Program) (f : FuncId) (vs : List AV) (ks : List Nat) (d : Option Nat) (l : List Ins) (s : AS) (K : AS → Prop) : Prop
 | mk (mu : Bool) (e : TypeId) (w : Nat) (ys : List (List SV)) (h1 : E2 P f vs e w ys mu) (h2 : s.S (d.getD 0) = none ∧ (∀ k ∈ ks, (s.set (d.getD 0) (JF mu e w ys)).S k = s.S k) ∧ Run P l ((s.set (d.getD 0) (JF mu e w ys)).put d (.one (.row (d.getD 0) ys.length))) K)
inductive WC (P : Program) (f : FuncId) (vs : List AV) (d : Option Nat) (l : List Ins) (s : AS) (K : AS → Prop) : Prop
 | mk (r : AV) (rows : List (Nat × AN)) (h0 : ∀ q ∈ rows, s.S q.1 = some q.2) (h1 : ∀ T : AD, (∀ q ∈ rows, T q.1 = some q.2) → An P f vs (upS T) r (upS T)) (h2 : Run P l (s.put d (r.ren dn1)) K)
inductive S9 (P : Program) (f : FuncId) (vs : List AV) (ks : List Nat) (d : Option Nat) (l : List Ins) (s : AS) (K : AS → Prop) : Prop
 | mk (r : AV) (rows : List (Nat × AN × AN)) (h0 : Qi s.S rows) (h1 : ∀ T : AD, Qi T rows → An P f vs (upS T) r (upS (FP T rows))) (h2 : (∀ k ∈ ks, FP s.S rows k = s.S k) ∧ Run P l ((⟨s.env, FP s.S rows⟩ : AS).put d (r.ren dn1)) K)
inductive UZ (P : Program) (S : AD) (hs : Bool) (G : AD → (AV → AD → Prop) → Prop) (d : Option Nat) (l : List Ins) (env : Nat → AV) (K : AS → Prop) : Prop
 | mk (T : AD) (Post : AV → AD → Prop) (h1 : BJ T) (h2 : ∀ i, 1000 ≤ i → S i = T i) (h3 : hs = true) (h4 : G T Post) (h5 : ∀ r S', BJ S' → Post r S' → Run P l ((⟨env, Ed S S'⟩ : AS).put d r) K)
theorem DG {S : AD} {i : Nat} {b : AN} (h : S i = some b) : ∀ q ∈ [(i, b)], S q.1 = some q.2 := fun q hq => by rw [List.mem_singleton.1 hq]; exact h
def Kd.goC (P : Program) (d : Option Nat) (s : AS) (t : Tag) (l : List Ins) (K : AS → Prop) : Kd → Prop
 | .call f xs => match t with
  | .no => match outVs s.S (s.evs xs) with
   | some vs => V3 P f vs d l s K
   | none => False
  | _ => False
 | .callR f xs => match t with
  | .no => WC P f (AV.rens up1 (s.evs xs)) d l s K
  | _ => False
 | .callW f xs => match t with
  | .no => S9 P f (AV.rens up1 (s.evs xs)) [] d l s K
  | .keeps ks => S9 P f (AV.rens up1 (s.evs xs)) ks d l s K
  | .onb _ => False
 | .callX f xs => match t with
  | .no => UZ P s.S (AV.highs ((s.evs xs).map (IA s.S))) (Q_ P f ((s.evs xs).map (IA s.S))) d l s.env K
  | _ => False
 | .callY f xs => match t with
  | .no => UZ P s.S ((s.ev f).high && AV.highs ((s.evs xs).map (IA s.S))) (Qt P (s.ev f) ((s.evs xs).map (IA s.S))) d l s.env K
  | _ => False
 | .callN f xs => match t with
  | .no => match outVs s.S (s.evs xs) with
   | some vs => TE P f vs [] d l s K
   | none => False
  | .keeps ks => match outVs s.S (s.evs xs) with
   | some vs => TE P f vs ks d l s K
   | none => False
  | .onb _ => False
 | .callS f xs => match t with
  | .no => NR P f (AV.rens up1 (s.evs xs)) s.S [] d l s.env K
  | .keeps ks => NR P f (AV.rens up1 (s.evs xs)) s.S ks d l s.env K
  | .onb _ => False
 | .callV f xs => match (s.ev f).fnOf with
  | some (g, caps) => CT P g = true ∧ match t with
   | .no => NR P g (AV.rens up1 (s.evs xs ++ caps.map .one)) s.S [] d l s.env K
   | .keeps ks => NR P g (AV.rens up1 (s.evs xs ++ caps.map .one)) s.S ks d l s.env K
   | .onb _ => False
  | _ => False
 | _ => False
def G3 (P : Program) : List Ins → AS → (AS → Prop) → Prop
 | [], s, K => K s
 | i :: l, s, K => match i.kd.isCall with
  | false => match i.guard with
   | none => i.kd.goT P (i.dst.getD 0) s i.tag fun v s' => G3 P l (s'.put i.dst v) K
   | some (g, want) => match s.env g with
    | .one (.st (.bool b)) => (b = want → i.kd.goT P (i.dst.getD 0) s i.tag fun v s' => G3 P l (s'.put i.dst v) K) ∧ (¬ b = want → G3 P l (s.put i.dst (.tup [])) K)
    | .tup [] => G3 P l (s.put i.dst (.tup [])) K
    | _ => False
  | true => match i.guard with
   | none => i.kd.goC P i.dst s i.tag l K
   | some (g, want) => match s.env g with
    | .one (.st (.bool b)) => (b = want → i.kd.goC P i.dst s i.tag l K) ∧ (¬ b = want → G3 P l (s.put i.dst (.tup [])) K)
    | .tup [] => G3 P l (s.put i.dst (.tup [])) K
    | _ => False
section
variable {P : Program}
theorem RQ {kd : Kd} {d : Option Nat} {s : AS} {t : Tag} {l : List Ins} {K : AS → Prop} (h : kd.goC P d s t l K) : kd.goT P (d.getD 0) s t fun v s' => Run P l (s'.put d v) K := by
 cases kd <;> simp only [Kd.goC] at h
 case call f xs =>
  cases t <;> simp only at h
  split at h
  ·rename_i vs e
   obtain ⟨r, h1, h2⟩ := h
   simp only [Kd.goT, Kd.go, e]
   exact ⟨r, h1, trivial, h2⟩
  ·exact h.elim
 case callN f xs =>
  cases t <;> simp only at h
  ·split at h
   ·rename_i vs e
    obtain ⟨mu, ty, w, ys, h1, h2, _, h3⟩ := h
    simp only [Kd.goT, Kd.go, e]
    exact ⟨mu, ty, w, ys, h1, h2, trivial, h3⟩
   ·exact h.elim
  ·split at h
   ·rename_i vs e
    obtain ⟨mu, ty, w, ys, h1, h2, h4, h3⟩ := h
    simp only [Kd.goT, Kd.go, e]
    exact ⟨mu, ty, w, ys, h1, h2, h4, h3⟩
   ·exact h.elim
 case callW f xs =>
  cases t <;> simp only at h
  ·obtain ⟨r, rows, h0, h1, _, h2⟩ := h
   simp only [Kd.goT, Kd.go]
   exact ⟨r, rows, h0, h1, trivial, h2⟩
  ·obtain ⟨r, rows, h0, h1, hk, h2⟩ := h
   simp only [Kd.goT, Kd.go]
   exact ⟨r, rows, h0, h1, hk, h2⟩
 case callX f xs =>
  cases t <;> simp only at h
  obtain ⟨T, Post, h1, h2, h3, h4, h5⟩ := h
  exact ⟨T, Post, h1, h2, h3, h4, fun r S' k1 k2 => ⟨trivial, h5 r S' k1 k2⟩⟩
 case callY f xs =>
  cases t <;> simp only at h
  obtain ⟨T, Post, h1, h2, h3, h4, h5⟩ := h
  exact ⟨T, Post, h1, h2, h3, h4, fun r S' k1 k2 => ⟨trivial, h5 r S' k1 k2⟩⟩
 case callR f xs =>
  cases t <;> simp only at h
  obtain ⟨r, rows, h0, h1, h2⟩ := h
  simp only [Kd.goT, Kd.go]
  exact ⟨r, rows, h0, h1, trivial, h2⟩
 case callS f xs =>
  cases t <;> simp only at h
  ·obtain ⟨r, S', h1, h2, h3⟩ := h
   exact ⟨r, S', h1, trivial, h3⟩
  ·obtain ⟨r, S', h1, h2, h3⟩ := h
   exact ⟨r, S', h1, h2, h3⟩
 case callV f xs =>
  split at h
  ·rename_i g caps e
   obtain ⟨hp, h⟩ := h
   cases t <;> simp only at h
   ·obtain ⟨r, S', h1, h2, h3⟩ := h
    simp only [Kd.goT, Kd.go, e]
    exact ⟨hp, r, S', h1, trivial, h3⟩
   ·obtain ⟨r, S', h1, h2, h3⟩ := h
    simp only [Kd.goT, Kd.go, e]
    exact ⟨hp, r, S', h1, h2, h3⟩
  ·exact h.elim
theorem Cb : ∀ {l : List Ins} {s : AS} {K : AS → Prop}, G3 P l s K → Run P l s K
 | [], s, K, h => h
 | i :: l, s, K, h => by
  unfold G3 at h
  unfold Run
  split at h
  ·split at h
   ·rename_i e
    simp only [e]
    exact Eb h fun v s' _ h' => Cb h'
   ·rename_i g want e
    simp only [e]
    split at h
    ·rename_i b e2
     simp only [e2]
     exact ⟨fun hb => Eb (h.1 hb) fun v s' _ h' => Cb h', fun hb => Cb (h.2 hb)⟩
    ·rename_i e2
     simp only [e2]
     exact Cb h
    ·exact h.elim
  ·split at h
   ·rename_i e
    simp only [e]
    exact RQ h
   ·rename_i g want e
    simp only [e]
    split at h
    ·rename_i b e2
     simp only [e2]
     exact ⟨fun hb => RQ (h.1 hb), fun hb => Cb (h.2 hb)⟩
    ·rename_i e2
     simp only [e2]
     exact Cb h
    ·exact h.elim
theorem IU {l : List Ins} {s : AS} {K : AS → Prop} {A : Prop} (h : A ∧ G3 P l s K) : A ∧ Run P l s K := ⟨h.1, Cb h.2⟩
theorem IWP.ops2 {C : Ctx} {mu : List Nat} {Q : AX → AS → Prop} {s : AS} {l : List Ins} (h : ∀ K : AS → Prop, (∀ s, Q .normal s → K s) → G3 P l s K) : IWP P C mu (.ops l) Q s := IWP.opsK fun K hK => Cb (h K hK)
end
attribute [go_sem] Vp US TU MN Ins.i Ins.m Ins.L Ins.l Ins.f Ins.s Opd.n JF FP G3 Kd.isCall Kd.goC Kd.goT Tag.ok Kd.ptrOpd F3 List.forall_mem_cons List.not_mem_nil Kd.go AS.ev AS.evs AS.put AS.set AM AV.cells Hf DW Fu stP Ti stC stCs outC outCs outV outVs If Co Cm Cx Ur EV SU Sh optI Ol splice AN.len AS.start AS.startS noS List.getElem?_cons_zero List.getElem?_cons_succ List.getElem?_nil List.getElem?_map Option.isSome_none Option.isSome_some Option.map_some Option.map_none Option.getD_some Option.getD_none List.length_map List.length_cons List.length_nil List.length_append List.map_cons List.map_nil List.take_succ_cons List.take_zero List.take_nil List.drop_succ_cons List.drop_zero List.drop_nil List.nil_append List.cons_append List.append_nil Nat.zero_add Nat.add_zero Nat.le_refl Nat.zero_le if_true if_false Bool.false_eq_true true_and and_true Option.some.injEq Int.toNat_natCast Int.natCast_nonneg Int.ofNat_eq_natCast ite_self decide_true decide_false not_true_eq_false not_false_eq_true true_implies false_implies implies_true Bool.true_eq_false eq_self Bool.not_true Bool.not_false beq_self_eq_true Tm.args_mk Tm.name_mk AV.rens AV.ren AC.ren AC.rens AN.ren A7 Qx VK QN
abbrev Wa := @IWP.seq
abbrev Wb := @Fi
abbrev Wc := @IWP.block
abbrev Wd := @IWP.skip
abbrev We := @IWP.exit
abbrev Wg := @Lf
abbrev Wh := @OC
abbrev Wi := @F2
abbrev Wj := @Hk
abbrev Wk := @Hq
abbrev Wl := @JA
abbrev Wm := @L0
abbrev Wn := @OA
abbrev Wo := @IWP.ops2
abbrev Wp := @IWP.cond
abbrev Wq := @Cb
abbrev Wr := @IU
abbrev iC := @TA
abbrev Cg := @V3.mk
abbrev dT := @decide_eq_true_eq
abbrev dF := @decide_eq_false_iff_not
abbrev nL := @Int.ofNat_lt
abbrev eT := @BC
abbrev iR := @EF
attribute [go_sem ↓] SH Th
theorem Ai {a b : Prop} (k : b) (h : a := by first | omega | exact W2 | (simp [Ep] <;> omega)) : a ∧ b := ⟨h, k⟩
theorem Z0 {id id' : Nat} {Q : AX → AS → Prop} {s : AS} (h : Q (.exit id') s) (hne : id' ≠ id := by decide) : AX.inBlock id Q (.exit id') s := Hq hne h
theorem fN {α : Type} (p : α → Prop) : ∀ x ∈ ([] : List α), p x := List.forall_mem_nil p
class Hd (goal : Prop) (prev : outParam Prop) : Prop where
 imp : prev → goal
theorem W {goal prev : Prop} [s : Hd goal prev] (h : prev) : goal := s.imp h
section
variable {P : Program} {C : Ctx} {mu : List Nat} {x y : IR} {Q : AX → AS → Prop} {s : AS} {id : Nat} {K : AS → Prop}
instance : Hd (IWP P C mu (.seq x y) Q s) (IWP P C mu x (Nn P C mu y Q) s) := ⟨IWP.seq⟩
instance : Hd (Nn P C mu y Q .normal s) (IWP P C mu y Q s) := ⟨Fi⟩
instance : Hd (IWP P C mu (.block id x) Q s) (IWP P C mu x (AX.inBlock id Q) s) := ⟨IWP.block⟩
instance : Hd (IWP P C mu .skip Q s) (Q .normal s) := ⟨IWP.skip⟩
instance : Hd (IWP P C mu (.exit id) Q s) (Q (.exit id) s) := ⟨IWP.exit⟩
instance : Hd (IWP P C mu .ret Q s) (Q .ret s) := ⟨IWP.ret⟩
instance : Hd (Nn P C mu y Q (.exit id) s) (Q (.exit id) s) := ⟨Lf⟩
instance : Hd (Nn P C mu y Q .ret s) (Q .ret s) := ⟨OC⟩
instance : Hd (AX.inBlock id Q .normal s) (Q .normal s) := ⟨F2⟩
instance : Hd (AX.inBlock id Q (.exit id) s) (Q .normal s) := ⟨Hk⟩
instance : Hd (AX.inBlock id Q .ret s) (Q .ret s) := ⟨JA⟩
instance : Hd (AX.then K Q (.exit id) s) (Q (.exit id) s) := ⟨L0⟩
instance : Hd (AX.then K Q .ret s) (Q .ret s) := ⟨OA⟩
class Tu (goal : Prop) (prev : outParam Prop) : Prop where
 imp : prev → goal
class Qj (goal : Prop) (prev : outParam Prop) : Prop where
 imp : prev → goal
theorem U {goal prev : Prop} [s : Tu goal prev] (h : prev) : goal := s.imp h
theorem V {goal prev : Prop} [s : Qj goal prev] (h : prev) : goal := s.imp h
instance {l : List Ins} : Tu (Run P l s K) (G3 P l s K) := ⟨Cb⟩
instance {l : List Ins} {A : Prop} : Tu (A ∧ Run P l s K) (A ∧ G3 P l s K) := ⟨IU⟩
instance {l : List Ins} : Qj (Run P l s K) (G3 P l s K) := ⟨Cb⟩
instance {l : List Ins} {A : Prop} : Qj (A ∧ Run P l s K) (A ∧ G3 P l s K) := ⟨IU⟩
instance {c0 : Opd} : Qj (IWP P C mu (.cond c0 x y) Q s) (match s.ev c0 with | .one (.st (.bool b)) => (b = true → IWP P C mu x Q s) ∧ (b = false → IWP P C mu y Q s) | .one .ubool => IWP P C mu x Q s ∧ IWP P C mu y Q s | _ => False) := ⟨IWP.cond⟩
end
theorem IWP.fresh {P : Program} {C : Ctx} {mu : List Nat} {x : IR} {Q : AX → AS → Prop} {s : AS} (h1000 : ∀ i, 1000 ≤ i → s.S i = none) (h : ∀ env' : Nat → AV, (∀ i v, s.env i = .one (.st v) → env' i = .one (.st v)) → IWP P C mu x Q ⟨env', noS⟩) : IWP P C mu x Q s := by
 refine IWP.ghost (Af.low (s := s) fun i b hi hb => by rw [h1000 i hi] at hb; cases hb) ?_
 have e : CX s.S = noS := by
  funext i
  show (if i < 1000 then none else s.S i) = none
  split
  ·rfl
  ·exact h1000 i (by omega)
 rw [e]
 exact h _ fun i v hv => by rw [hv]; rfl
theorem IWP.mid {P : Program} {C : Ctx} {mu : List Nat} {x y : IR} {Q : AX → AS → Prop} {s : AS} (M : AS → Prop) (h1 : IWP P C mu x (fun e s => e = .normal ∧ M s) s) (h2 : ∀ s, M s → IWP P C mu y Q s) : IWP P C mu (x.seq y) Q s :=
 IWP.seq (h1.mono fun e s ⟨he, hm⟩ => by subst he; exact Fi (h2 s hm))
theorem Wv {R G : Prop} (f : R → G) (h : R) : G := f h

section
variable {P : Program} {C : Ctx} {a : Act} {w : World} {σ : Sto} {ι : A9} {s : AS} {Q : Exit → Act → World → Prop} {o : Oper}
end
section
variable {P : Program} {C : Ctx} {mu : List Nat} {Q : AX → AS → Prop} {s : AS}
end

set_option maxRecDepth 100000
def ER : IR :=
 (.seq (.ops [.i 2 (.box 31 (.t 0)), .i 4 (.alloc 31 [.st (.str (ByteArray.mk (#[]))), .full [], .st (.str (ByteArray.mk (#[]))), .full []])]) (.seq (.ops [.i 5 (.mov (.c (.one (.full []))))]) (.seq (.seq (.ops [.f 12 0 2, .L 13 2 12, .i 14 (.call 41 [.t 13]), .i 15 (.len false (.t 14)), .i 16 (.mov (.n 0))]) (.block 0 (.loop (.seq (.ops [.i 17 (.bin .lss (.t 16) (.t 15))]) (.seq (.cond (.t 17) .skip (.exit 0)) (.seq (.block 1 (.seq (.ops [.m 18 16, .i 19 (.indexAddr 1 (.t 14) (.t 16)), .l 20 19, .m 6 18, .m 7 20]) (.ops [.m 21 5, .m 22 7, .m 23 1, .m 24 6, .i 25 (.bin .add (.t 24) (.n 1)), .i 26 (.call 68 [.t 25]), .i 27 (.bin .add (.t 23) (.t 26)), .i 28 (.build [.st (.str (ByteArray.mk (#[]))), .full []] [(0, 1, .t 27)]), .i 29 (.build [.st (.str (ByteArray.mk (#[]))), .st (.str (ByteArray.mk (#[]))), .full []] [(0, 1, .t 22), (1, 2, .t 28)]), .i 30 (.buildSlice false 81 3 [.t 29]), .i 31 (.append true 81 3 56 (.t 21) (.t 30)), .m 5 31]))) (.ops [.i 32 (.bin .add (.t 16) (.n 1)), .m 16 32]))))))) (.seq (.ops [.m 33 5, .i 34 (.callS 69 [.t 33]), .m 5 34]) (.seq (.ops [.m 36 5, .f 37 0 2, .L 38 2 37, .i 39 (.call 49 [.t 36, .t 38]), .m 35 39, .i 40 (.extract 0 (.t 35)), .i 41 (.extract 1 (.t 35)), .i 8 (.alloc 29 [.st (.str (ByteArray.mk (#[]))), .full []]), .s 2 8 40, .m 9 41]) (.seq (.ops [.m 43 5, .f 44 2 2, .L 45 2 44, .i 46 (.call 49 [.t 43, .t 45]), .m 42 46, .i 47 (.extract 0 (.t 42)), .i 48 (.extract 1 (.t 42)), .i 10 (.alloc 29 [.st (.str (ByteArray.mk (#[]))), .full []]), .s 2 10 47, .m 11 48]) (.seq (.ops [.L 49 2 8, .L 50 2 10, .i 51 (.build [.st (.str (ByteArray.mk (#[]))), .full [], .st (.str (ByteArray.mk (#[]))), .full []] [(0, 2, .t 49), (2, 2, .t 50)]), .s 4 4 51]) .ret)))))))
theorem Hv : OkF Tryz.prog 45 52 [31, 34] ER [.cell 4 true 4] := .of Tryz.func45 rfl rfl (by kernel_rfl) rfl
def GY : IR :=
 (.seq (.ops [.i 2 (.box 31 (.t 0)), .i 4 (.alloc 31 [.st (.str (ByteArray.mk (#[]))), .full [], .st (.str (ByteArray.mk (#[]))), .full []])]) (.seq (.ops [.f 8 0 2, .L 9 2 8, .i 10 (.call 19 [.t 9]), .m 5 10]) (.seq (.ops [.i 6 (.mov (.c (.one (.full []))))]) (.seq (.seq (.ops [.i 7 (.mov (.n 0))]) (.block 0 (.loop (.seq (.seq (.ops [.m 11 7, .m 12 5, .i 13 (.len false (.t 12)), .i 14 (.bin .lss (.t 11) (.t 13))]) (.cond (.t 14) .skip (.exit 0))) (.seq (.block 1 (.ops [.m 17 6, .m 18 5, .m 19 7, .i 20 (.indexAddr 1 (.t 18) (.t 19)), .l 21 20, .m 22 1, .m 23 7, .i 24 (.call 58 [.t 23]), .i 25 (.bin .add (.t 22) (.t 24)), .i 26 (.build [.st (.str (ByteArray.mk (#[]))), .full []] [(0, 1, .t 25)]), .i 27 (.build [.st (.str (ByteArray.mk (#[]))), .st (.str (ByteArray.mk (#[]))), .full []] [(0, 1, .t 21), (1, 2, .t 26)]), .i 28 (.buildSlice false 81 3 [.t 27]), .i 29 (.append false 81 3 56 (.t 17) (.t 28)), .m 6 29])) (.ops [.m 15 7, .i 16 (.bin .add (.t 15) (.n 1)), .m 7 16])))))) (.seq (.ops [.m 30 6, .f 31 0 2, .L 32 2 31, .i 33 (.call 59 [.t 30, .t 32]), .m 34 6, .f 35 2 2, .L 36 2 35, .i 37 (.call 59 [.t 34, .t 36]), .i 38 (.build [.st (.str (ByteArray.mk (#[]))), .full [], .st (.str (ByteArray.mk (#[]))), .full []] [(0, 2, .t 33), (2, 2, .t 37)]), .s 4 4 38]) .ret)))))
theorem LF : OkF Tryz.prog 31 39 [] GY [.cell 4 true 4] := .of Tryz.func31 rfl rfl (by kernel_rfl) rfl
def Dl : IR :=
 (.seq (.ops [.i 3 (.box 31 (.t 0)), .i 4 (.box 31 (.t 1)), .i 6 (.mov (.c (.one (.full [])))), .i 7 (.mov (.n 0))]) (.seq (.ops [.i 8 (.mov (.c (.one (.full []))))]) (.seq (.ops [.L 22 4 3, .i 23 (.call 45 [.t 22, .c (.one (.st (.str (ByteArray.mk (#[88])))))]), .L 24 4 4, .i 25 (.call 45 [.t 24, .c (.one (.st (.str (ByteArray.mk (#[89])))))]), .i 9 (.alloc 31 [.st (.str (ByteArray.mk (#[]))), .full [], .st (.str (ByteArray.mk (#[]))), .full []]), .i 10 (.alloc 31 [.st (.str (ByteArray.mk (#[]))), .full [], .st (.str (ByteArray.mk (#[]))), .full []]), .s 4 9 23, .s 4 10 25]) (.seq (.seq (.ops [.f 26 0 9, .L 27 2 26, .i 28 (.call 46 [.t 27]), .i 29 (.len false (.t 28)), .i 30 (.mov (.n 0))]) (.block 0 (.loop (.seq (.ops [.i 31 (.bin .lss (.t 30) (.t 29))]) (.seq (.cond (.t 31) .skip (.exit 0)) (.seq (.block 1 (.seq (.ops [.i 32 (.indexAddr 1 (.t 28) (.t 30)), .l 33 32, .m 12 33]) (.seq (.ops [.f 35 0 9, .L 36 2 35, .m 37 12, .i 38 (.call 47 [.t 36, .t 37]), .m 34 38, .i 39 (.extract 0 (.t 34)), .i 40 (.extract 1 (.t 34)), .i 13 (.alloc 29 [.st (.str (ByteArray.mk (#[]))), .full []]), .s 2 13 39, .m 14 40]) (.seq (.seq (.ops [.f 41 0 13, .l 42 41, .i 43 (.call 40 [.t 42]), .m 44 43, .mk (some 45) (some (44, false)) (.mov (.t 2)) .no, .mk (some 46) (some (44, false)) (.mov (.t 45)) .no, .mk (some 47) (some (46, true)) (.mov (.t 12)) .no, .mk (some 48) (some (46, true)) (.len false (.t 47)) .no, .mk (some 49) (some (46, true)) (.bin .eql (.t 48) (.n 0)) .no, .mk (some 50) (some (44, false)) (.pick (.t 46) (.t 49) (.c (.one (.st (.bool false))))) .no, .i 51 (.pick (.t 44) (.c (.one (.st (.bool true)))) (.t 50))]) (.cond (.t 51) (.exit 1) .skip)) (.seq (.ops [.L 53 2 13, .f 54 0 10, .L 55 2 54, .i 56 (.build [.st (.str (ByteArray.mk (#[]))), .full [], .st (.str (ByteArray.mk (#[]))), .full []] [(0, 2, .t 53), (2, 2, .t 55)]), .i 57 (.buildSlice false 31 4 [.t 56]), .i 58 (.call 48 [.t 57]), .m 52 58, .i 59 (.extract 0 (.t 52)), .i 60 (.extract 1 (.t 52)), .m 15 59, .m 16 60]) (.seq (.seq (.ops [.m 61 16, .i 62 (.bin .eql (.t 61) (.n 8))]) (.cond (.t 62) (.seq (.ops [.m 63 16, .i 6 (.mov (.c (.one (.full [])))), .m 7 63]) .ret) .skip)) (.seq (.seq (.ops [.m 64 16, .i 65 (.bin .neq (.t 64) (.n 0))]) (.cond (.t 65) (.exit 1) .skip)) (.seq (.ops [.m 67 15, .f 68 2 9, .L 69 2 68, .i 70 (.call 49 [.t 67, .t 69]), .m 66 70, .i 71 (.extract 0 (.t 66)), .i 72 (.extract 1 (.t 66)), .i 17 (.alloc 29 [.st (.str (ByteArray.mk (#[]))), .full []]), .s 2 17 71, .m 18 72]) (.seq (.ops [.m 74 15, .f 75 0 9, .L 76 2 75, .m 77 12, .f 78 2 10, .L 79 2 78, .i 80 (.call 50 [.t 76, .t 77, .t 79]), .i 81 (.call 49 [.t 74, .t 80]), .m 73 81, .i 82 (.extract 0 (.t 73)), .i 83 (.extract 1 (.t 73)), .i 19 (.alloc 29 [.st (.str (ByteArray.mk (#[]))), .full []]), .s 2 19 82, .m 20 83]) (.seq (.seq (.ops [.m 84 18, .i 85 (.un .not (.t 84)), .m 86 85, .mk (some 87) (some (86, false)) (.mov (.t 20)) .no, .mk (some 88) (some (86, false)) (.un .not (.t 87)) .no, .i 89 (.pick (.t 86) (.c (.one (.st (.bool true)))) (.t 88))]) (.cond (.t 89) (.seq (.ops [.i 6 (.mov (.c (.one (.full [])))), .i 7 (.mov (.n 8))]) .ret) .skip)) (.seq (.ops [.L 90 2 17, .L 91 2 19, .i 92 (.buildSlice false 29 2 [.t 90, .t 91]), .i 93 (.call 51 [.t 92]), .m 21 93]) (.ops [.m 94 8, .m 95 21, .i 96 (.indexAddr 2 (.t 95) (.n 0)), .L 97 2 96, .m 98 21, .i 99 (.indexAddr 2 (.t 98) (.n 1)), .L 100 2 99, .i 101 (.build [.st (.str (ByteArray.mk (#[]))), .full [], .st (.str (ByteArray.mk (#[]))), .full []] [(0, 2, .t 97), (2, 2, .t 100)]), .i 102 (.buildSlice false 31 4 [.t 101]), .i 103 (.append false 31 4 80 (.t 94) (.t 102)), .m 8 103])))))))))))) (.ops [.i 104 (.bin .add (.t 30) (.n 1)), .m 30 104]))))))) (.seq (.ops [.m 105 8, .m 6 105, .i 7 (.mov (.n 0))]) .ret)))))
theorem GS : OkF Tryz.prog 24 106 [] Dl [.t 6, .t 7] := .of Tryz.func24 rfl rfl (by kernel_rfl) rfl
def ET : IR :=
 (.seq (.ops [.i 3 (.box 31 (.t 0)), .i 4 (.box 31 (.t 1)), .i 6 (.mov (.c (.one (.full [])))), .i 7 (.mov (.n 0))]) (.seq (.ops [.L 22 4 3, .i 23 (.call 31 [.t 22, .c (.one (.st (.str (ByteArray.mk (#[80])))))]), .i 8 (.alloc 31 [.st (.str (ByteArray.mk (#[]))), .full [], .st (.str (ByteArray.mk (#[]))), .full []]), .s 4 8 23]) (.seq (.ops [.L 24 4 4, .i 25 (.call 31 [.t 24, .c (.one (.st (.str (ByteArray.mk (#[81])))))]), .i 9 (.alloc 31 [.st (.str (ByteArray.mk (#[]))), .full [], .st (.str (ByteArray.mk (#[]))), .full []]), .s 4 9 25]) (.seq (.ops [.f 26 0 8, .L 27 2 26, .i 28 (.call 32 [.t 27]), .m 10 28]) (.seq (.ops [.i 11 (.mov (.c (.one (.full []))))]) (.seq (.seq (.ops [.i 12 (.mov (.n 0))]) (.block 0 (.loop (.seq (.seq (.ops [.m 29 12, .m 30 10, .i 31 (.len false (.t 30)), .i 32 (.bin .lss (.t 29) (.t 31))]) (.cond (.t 32) .skip (.exit 0))) (.seq (.block 1 (.seq (.ops [.f 36 0 8, .L 37 2 36, .m 38 10, .m 39 12, .i 40 (.indexAddr 1 (.t 38) (.t 39)), .l 41 40, .i 42 (.call 33 [.t 37, .t 41]), .m 35 42, .i 43 (.extract 0 (.t 35)), .i 44 (.extract 1 (.t 35)), .i 13 (.alloc 29 [.st (.str (ByteArray.mk (#[]))), .full []]), .s 2 13 43, .m 14 44]) (.seq (.seq (.ops [.f 45 0 13, .l 46 45, .i 47 (.call 18 [.t 46]), .m 48 47, .mk (some 49) (some (48, false)) (.mov (.t 2)) .no, .mk (some 50) (some (48, false)) (.mov (.t 49)) .no, .mk (some 51) (some (50, true)) (.mov (.t 12)) .no, .mk (some 52) (some (50, true)) (.bin .eql (.t 51) (.n 0)) .no, .mk (some 53) (some (48, false)) (.pick (.t 50) (.t 52) (.c (.one (.st (.bool false))))) .no, .i 54 (.pick (.t 48) (.c (.one (.st (.bool true)))) (.t 53))]) (.cond (.t 54) (.exit 1) .skip)) (.seq (.ops [.L 56 2 13, .f 57 0 9, .L 58 2 57, .i 59 (.build [.st (.str (ByteArray.mk (#[]))), .full [], .st (.str (ByteArray.mk (#[]))), .full []] [(0, 2, .t 56), (2, 2, .t 58)]), .i 60 (.buildSlice false 31 4 [.t 59]), .i 61 (.call 34 [.t 60]), .m 55 61, .i 62 (.extract 0 (.t 55)), .i 63 (.extract 1 (.t 55)), .m 15 62, .m 16 63]) (.seq (.seq (.ops [.m 64 16, .i 65 (.bin .eql (.t 64) (.n 8))]) (.cond (.t 65) (.seq (.ops [.m 66 16, .i 6 (.mov (.c (.one (.full [])))), .m 7 66]) .ret) .skip)) (.seq (.seq (.ops [.m 67 16, .i 68 (.bin .neq (.t 67) (.n 0))]) (.cond (.t 68) (.exit 1) .skip)) (.seq (.ops [.m 70 15, .f 71 2 8, .L 72 2 71, .i 73 (.call 35 [.t 70, .t 72]), .m 69 73, .i 74 (.extract 0 (.t 69)), .i 75 (.extract 1 (.t 69)), .i 17 (.alloc 29 [.st (.str (ByteArray.mk (#[]))), .full []]), .s 2 17 74, .m 18 75]) (.seq (.ops [.m 77 15, .f 78 0 8, .L 79 2 78, .m 80 10, .m 81 12, .i 82 (.indexAddr 1 (.t 80) (.t 81)), .l 83 82, .f 84 2 9, .L 85 2 84, .i 86 (.call 36 [.t 79, .t 83, .t 85]), .i 87 (.call 35 [.t 77, .t 86]), .m 76 87, .i 88 (.extract 0 (.t 76)), .i 89 (.extract 1 (.t 76)), .i 19 (.alloc 29 [.st (.str (ByteArray.mk (#[]))), .full []]), .s 2 19 88, .m 20 89]) (.seq (.seq (.ops [.m 90 18, .i 91 (.un .not (.t 90)), .m 92 91, .mk (some 93) (some (92, false)) (.mov (.t 20)) .no, .mk (some 94) (some (92, false)) (.un .not (.t 93)) .no, .i 95 (.pick (.t 92) (.c (.one (.st (.bool true)))) (.t 94))]) (.cond (.t 95) (.seq (.ops [.i 6 (.mov (.c (.one (.full [])))), .i 7 (.mov (.n 8))]) .ret) .skip)) (.seq (.ops [.L 96 2 17, .L 97 2 19, .i 98 (.buildSlice false 29 2 [.t 96, .t 97]), .i 99 (.call 37 [.t 98]), .m 21 99]) (.ops [.m 100 11, .m 101 21, .i 102 (.indexAddr 2 (.t 101) (.n 0)), .L 103 2 102, .m 104 21, .i 105 (.indexAddr 2 (.t 104) (.n 1)), .L 106 2 105, .i 107 (.build [.st (.str (ByteArray.mk (#[]))), .full [], .st (.str (ByteArray.mk (#[]))), .full []] [(0, 2, .t 103), (2, 2, .t 106)]), .i 108 (.buildSlice false 31 4 [.t 107]), .i 109 (.append false 31 4 80 (.t 100) (.t 108)), .m 11 109]))))))))))) (.ops [.m 33 12, .i 34 (.bin .add (.t 33) (.n 1)), .m 12 34])))))) (.seq (.ops [.m 110 11, .m 6 110, .i 7 (.mov (.n 0))]) .ret)))))))
theorem HG : OkF Tryz.prog 21 111 [] ET [.t 6, .t 7] := .of Tryz.func21 rfl rfl (by kernel_rfl) rfl
def C9 : IR :=
 (.seq (.ops [.i 2 (.mov (.c (.one (.full [])))), .i 3 (.mov (.n 0))]) (.seq (.seq (.ops [.m 12 0, .i 13 (.call 23 [.t 12]), .m 4 13]) (.seq (.ops [.m 14 4, .i 15 (.bin .neq (.t 14) (.n 0))]) (.cond (.t 15) (.seq (.ops [.m 16 4, .i 2 (.mov (.c (.one (.full [])))), .m 3 16]) .ret) .skip))) (.seq (.ops [.i 5 (.mov (.c (.one (.full []))))]) (.seq (.seq (.ops [.m 17 0, .i 18 (.len false (.t 17)), .i 19 (.mov (.n 0))]) (.block 0 (.loop (.seq (.ops [.i 20 (.bin .lss (.t 19) (.t 18))]) (.seq (.cond (.t 20) .skip (.exit 0)) (.seq (.block 1 (.seq (.ops [.m 21 19, .i 22 (.indexAddr 4 (.t 17) (.t 19)), .L 23 4 22, .i 7 (.alloc 31 [.st (.str (ByteArray.mk (#[]))), .full [], .st (.str (ByteArray.mk (#[]))), .full []]), .m 6 21, .s 4 7 23]) (.seq (.ops [.m 24 0, .i 25 (.len false (.t 24)), .i 26 (.mov (.n 0))]) (.block 2 (.loop (.seq (.ops [.i 27 (.bin .lss (.t 26) (.t 25))]) (.seq (.cond (.t 27) .skip (.exit 2)) (.seq (.block 3 (.seq (.ops [.m 28 26, .i 29 (.indexAddr 4 (.t 24) (.t 26)), .L 30 4 29, .i 9 (.alloc 31 [.st (.str (ByteArray.mk (#[]))), .full [], .st (.str (ByteArray.mk (#[]))), .full []]), .m 8 28, .s 4 9 30]) (.seq (.ops [.L 32 4 7, .L 33 4 9, .m 34 6, .m 35 8, .i 36 (.bin .eql (.t 34) (.t 35)), .i 37 (.call 24 [.t 32, .t 33, .t 36]), .m 31 37, .i 38 (.extract 0 (.t 31)), .i 39 (.extract 1 (.t 31)), .m 10 38, .m 11 39]) (.seq (.seq (.ops [.m 40 11, .i 41 (.bin .neq (.t 40) (.n 0))]) (.cond (.t 41) (.seq (.ops [.m 42 11, .i 2 (.mov (.c (.one (.full [])))), .m 3 42]) .ret) .skip)) (.seq (.ops [.m 43 5, .m 44 10, .i 45 (.append false 31 4 80 (.t 43) (.t 44)), .m 5 45]) (.seq (.ops [.m 46 5, .i 47 (.len false (.t 46)), .i 48 (.bin .gtr (.t 47) (.n 400))]) (.cond (.t 48) (.seq (.ops [.i 2 (.mov (.c (.one (.full [])))), .i 3 (.mov (.n 3))]) .ret) .skip))))))) (.ops [.i 49 (.bin .add (.t 26) (.n 1)), .m 26 49]))))))))) (.ops [.i 50 (.bin .add (.t 19) (.n 1)), .m 19 50]))))))) (.seq (.ops [.m 51 5, .m 2 51, .i 3 (.mov (.n 0))]) .ret)))))
theorem EG : OkF Tryz.prog 10 52 [] C9 [.t 2, .t 3] := .of Tryz.func10 rfl rfl (by kernel_rfl) rfl
def HS : IR :=
 (.seq (.ops [.i 2 (.mov (.c (.one (.full [])))), .i 3 (.mov (.n 0))]) (.seq (.ops [.i 4 (.mov (.c (.one (.full []))))]) (.seq (.seq (.ops [.i 5 (.mov (.n 0))]) (.block 0 (.loop (.seq (.seq (.ops [.m 9 5, .m 10 0, .i 11 (.len false (.t 10)), .i 12 (.bin .lss (.t 9) (.t 11))]) (.cond (.t 12) .skip (.exit 0))) (.seq (.block 1 (.seq (.ops [.i 6 (.mov (.n 0))]) (.block 2 (.loop (.seq (.seq (.ops [.m 15 6, .m 16 0, .i 17 (.len false (.t 16)), .i 18 (.bin .lss (.t 15) (.t 17))]) (.cond (.t 18) .skip (.exit 2))) (.seq (.block 3 (.seq (.ops [.m 22 0, .m 23 5, .i 24 (.indexAddr 4 (.t 22) (.t 23)), .L 25 4 24, .m 26 0, .m 27 6, .i 28 (.indexAddr 4 (.t 26) (.t 27)), .L 29 4 28, .m 30 5, .m 31 6, .i 32 (.bin .eql (.t 30) (.t 31)), .i 33 (.call 21 [.t 25, .t 29, .t 32]), .m 21 33, .i 34 (.extract 0 (.t 21)), .i 35 (.extract 1 (.t 21)), .m 7 34, .m 8 35]) (.seq (.seq (.ops [.m 36 8, .i 37 (.bin .neq (.t 36) (.n 0))]) (.cond (.t 37) (.seq (.ops [.m 38 8, .i 2 (.mov (.c (.one (.full [])))), .m 3 38]) .ret) .skip)) (.seq (.ops [.m 39 4, .m 40 7, .i 41 (.append false 31 4 80 (.t 39) (.t 40)), .m 4 41]) (.seq (.ops [.m 42 4, .i 43 (.len false (.t 42)), .i 44 (.bin .gtr (.t 43) (.n 400))]) (.cond (.t 44) (.seq (.ops [.i 2 (.mov (.c (.one (.full [])))), .i 3 (.mov (.n 3))]) .ret) .skip)))))) (.ops [.m 19 6, .i 20 (.bin .add (.t 19) (.n 1)), .m 6 20]))))))) (.ops [.m 13 5, .i 14 (.bin .add (.t 13) (.n 1)), .m 5 14])))))) (.seq (.ops [.m 45 4, .m 2 45, .i 3 (.mov (.n 0))]) .ret))))
theorem Ml : OkF Tryz.prog 8 46 [] HS [.t 2, .t 3] := .of Tryz.func8 rfl rfl (by kernel_rfl) rfl
def Bp : IR :=
 (.seq (.ops [.i 4 (.mov (.c (.one (.st (.bool false))))), .i 5 (.mov (.n 0))]) (.seq (.ops [.m 13 0, .i 14 (.call 10 [.t 13]), .m 12 14, .i 15 (.extract 0 (.t 12)), .i 16 (.extract 1 (.t 12)), .m 6 15, .m 7 16]) (.seq (.seq (.ops [.m 17 7, .i 18 (.bin .eql (.t 17) (.n 0)), .m 19 18, .mk (some 20) (some (19, true)) (.mov (.t 1)) .no, .mk (some 21) (some (19, true)) (.bin .lss (.t 20) (.n 0)) .no, .mk (some 22) (some (19, true)) (.mov (.t 21)) .no, .mk (some 23) (some (22, false)) (.mov (.t 1)) .no, .mk (some 24) (some (22, false)) (.bin .gtr (.t 23) (.n 400)) .no, .mk (some 25) (some (19, true)) (.pick (.t 22) (.c (.one (.st (.bool true)))) (.t 24)) .no, .i 26 (.pick (.t 19) (.t 25) (.c (.one (.st (.bool false)))))]) (.cond (.t 26) (.ops [.i 7 (.mov (.n 10))]) .skip)) (.seq (.seq (.ops [.m 27 7, .i 28 (.bin .neq (.t 27) (.n 0))]) (.cond (.t 28) (.seq (.ops [.m 29 7, .i 4 (.mov (.c (.one (.st (.bool false))))), .m 5 29]) .ret) .skip)) (.seq (.seq (.ops [.m 30 6, .i 31 (.len false (.t 30)), .i 32 (.mov (.n 0))]) (.block 0 (.loop (.seq (.ops [.i 33 (.bin .lss (.t 32) (.t 31))]) (.seq (.cond (.t 33) .skip (.exit 0)) (.seq (.block 1 (.seq (.ops [.i 34 (.indexAddr 4 (.t 30) (.t 32)), .L 35 4 34, .i 9 (.alloc 31 [.st (.str (ByteArray.mk (#[]))), .full [], .st (.str (ByteArray.mk (#[]))), .full []]), .s 4 9 35]) (.seq (.ops [.m 37 0, .f 38 0 9, .L 39 2 38, .f 40 2 9, .L 41 2 40, .m 42 1, .i 43 (.call 25 [.t 37, .t 39, .t 41, .t 42]), .m 36 43, .i 44 (.extract 0 (.t 36)), .i 45 (.extract 1 (.t 36)), .m 10 44, .m 11 45]) (.seq (.seq (.ops [.m 46 11, .i 47 (.bin .neq (.t 46) (.n 0))]) (.cond (.t 47) (.seq (.ops [.m 48 11, .i 4 (.mov (.c (.one (.st (.bool false))))), .m 5 48]) .ret) .skip)) (.seq (.ops [.m 49 10, .i 50 (.un .not (.t 49))]) (.cond (.t 50) (.seq (.ops [.i 4 (.mov (.c (.one (.st (.bool false))))), .i 5 (.mov (.n 0))]) .ret) .skip)))))) (.ops [.i 51 (.bin .add (.t 32) (.n 1)), .m 32 51]))))))) (.seq (.ops [.i 4 (.mov (.c (.one (.st (.bool true))))), .i 5 (.mov (.n 0))]) .ret))))))
theorem B2 : OkF Tryz.prog 11 52 [] Bp [.t 4, .t 5] := .of Tryz.func11 rfl rfl (by kernel_rfl) rfl
def DT : IR :=
 (.seq (.ops [.i 4 (.mov (.c (.one (.st (.bool false))))), .i 5 (.mov (.n 0))]) (.seq (.ops [.m 12 0, .i 13 (.call 8 [.t 12]), .m 11 13, .i 14 (.extract 0 (.t 11)), .i 15 (.extract 1 (.t 11)), .m 6 14, .m 7 15]) (.seq (.seq (.ops [.m 16 7, .i 17 (.bin .neq (.t 16) (.n 0))]) (.cond (.t 17) (.seq (.ops [.m 18 7, .i 4 (.mov (.c (.one (.st (.bool false))))), .m 5 18]) .ret) .skip)) (.seq (.seq (.ops [.m 19 1, .i 20 (.bin .lss (.t 19) (.n 0)), .m 21 20, .mk (some 22) (some (21, false)) (.mov (.t 1)) .no, .mk (some 23) (some (21, false)) (.bin .gtr (.t 22) (.n 400)) .no, .i 24 (.pick (.t 21) (.c (.one (.st (.bool true)))) (.t 23))]) (.cond (.t 24) (.seq (.ops [.i 4 (.mov (.c (.one (.st (.bool false))))), .i 5 (.mov (.n 10))]) .ret) .skip)) (.seq (.seq (.ops [.i 8 (.mov (.n 0))]) (.block 0 (.loop (.seq (.seq (.ops [.m 25 8, .m 26 6, .i 27 (.len false (.t 26)), .i 28 (.bin .lss (.t 25) (.t 27))]) (.cond (.t 28) .skip (.exit 0))) (.seq (.block 1 (.seq (.ops [.m 32 0, .m 33 6, .m 34 8, .i 35 (.indexAddr 4 (.t 33) (.t 34)), .f 36 0 35, .L 37 2 36, .m 38 6, .m 39 8, .i 40 (.indexAddr 4 (.t 38) (.t 39)), .f 41 2 40, .L 42 2 41, .m 43 1, .i 44 (.call 22 [.t 32, .t 37, .t 42, .t 43]), .m 31 44, .i 45 (.extract 0 (.t 31)), .i 46 (.extract 1 (.t 31)), .m 9 45, .m 10 46]) (.seq (.ops [.m 47 10, .i 48 (.bin .neq (.t 47) (.n 0)), .m 49 48, .mk (some 50) (some (49, false)) (.mov (.t 9)) .no, .mk (some 51) (some (49, false)) (.un .not (.t 50)) .no, .i 52 (.pick (.t 49) (.c (.one (.st (.bool true)))) (.t 51))]) (.cond (.t 52) (.seq (.ops [.m 53 10, .i 4 (.mov (.c (.one (.st (.bool false))))), .m 5 53]) .ret) .skip)))) (.ops [.m 29 8, .i 30 (.bin .add (.t 29) (.n 1)), .m 8 30])))))) (.seq (.ops [.i 4 (.mov (.c (.one (.st (.bool true))))), .i 5 (.mov (.n 0))]) .ret))))))
theorem EN : OkF Tryz.prog 9 54 [] DT [.t 4, .t 5] := .of Tryz.func9 rfl rfl (by kernel_rfl) rfl
def Bg : IR :=
 (.seq (.ops [.i 4 (.mov (.c (.one (.st (.bool false)))))]) (.seq (.seq (.ops [.m 14 0, .i 15 (.call 5 [.t 14])]) (.cond (.t 15) (.seq (.ops [.i 4 (.mov (.c (.one (.st (.bool true)))))]) .ret) .skip)) (.seq (.ops [.m 16 0, .i 17 (.call 6 [.t 16]), .m 5 17]) (.seq (.ops [.i 6 (.mov (.c (.one (.full []))))]) (.seq (.ops [.i 7 (.mov (.c (.one (.st (.bool false)))))]) (.seq (.ops [.m 18 5, .m 8 18]) (.seq (.seq (.ops [.m 19 5, .i 20 (.bin .eql (.t 19) (.n 0))]) (.cond (.t 20) (.seq (.seq (.ops [.m 21 0, .i 22 (.len false (.t 21)), .i 23 (.bin .gtr (.t 22) (.n 6)), .m 24 23, .mk (some 25) (some (24, false)) (.mov (.t 1)) .no, .mk (some 26) (some (24, false)) (.bin .gtr (.t 25) (.n 20)) .no, .mk (some 27) (some (24, false)) (.mov (.t 26)) .no, .mk (some 28) (some (27, true)) (.mov (.t 1)) .no, .mk (some 29) (some (27, true)) (.bin .leq (.t 28) (.n 400)) .no, .mk (some 30) (some (24, false)) (.pick (.t 27) (.t 29) (.c (.one (.st (.bool false))))) .no, .i 31 (.pick (.t 24) (.c (.one (.st (.bool true)))) (.t 30))]) (.cond (.t 31) (.seq (.ops [.i 4 (.mov (.c (.one (.st (.bool true)))))]) .ret) .skip)) (.seq (.seq (.ops [.i 9 (.mov (.n 0))]) (.block 0 (.loop (.seq (.seq (.ops [.m 32 9, .m 33 0, .i 34 (.len false (.t 33)), .i 35 (.bin .lss (.t 32) (.t 34))]) (.cond (.t 35) .skip (.exit 0))) (.seq (.block 1 (.seq (.ops [.m 38 0, .m 39 9, .i 40 (.indexAddr 4 (.t 38) (.t 39)), .f 41 0 40, .L 42 2 41, .i 43 (.call 7 [.t 42, .n 12]), .i 44 (.bin .gtr (.t 43) (.n 12)), .m 45 44, .mk (some 46) (some (45, false)) (.mov (.t 0)) .no, .mk (some 47) (some (45, false)) (.mov (.t 9)) .no, .mk (some 48) (some (45, false)) (.indexAddr 4 (.t 46) (.t 47)) .no, .mk (some 49) (some (45, false)) (.fieldAddr 2 (.t 48)) .no, .mk (some 50) (some (45, false)) (.load true 2 (.t 49)) .no, .mk (some 51) (some (45, false)) (.call 7 [.t 50, .n 12]) .no, .mk (some 52) (some (45, false)) (.bin .gtr (.t 51) (.n 12)) .no, .i 53 (.pick (.t 45) (.c (.one (.st (.bool true)))) (.t 52))]) (.cond (.t 53) (.seq (.ops [.i 4 (.mov (.c (.one (.st (.bool true)))))]) .ret) .skip))) (.ops [.m 36 9, .i 37 (.bin .add (.t 36) (.n 1)), .m 9 37])))))) (.seq (.ops [.m 55 0, .i 56 (.call 8 [.t 55]), .m 54 56, .i 57 (.extract 0 (.t 54)), .i 58 (.extract 1 (.t 54)), .m 6 57, .m 5 58]) (.ops [.m 60 0, .m 61 1, .i 62 (.call 9 [.t 60, .t 61]), .m 59 62, .i 63 (.extract 0 (.t 59)), .i 64 (.extract 1 (.t 59)), .m 7 63, .m 8 64])))) .skip)) (.seq (.ops [.m 66 0, .i 67 (.call 10 [.t 66]), .m 65 67, .i 68 (.extract 0 (.t 65)), .i 69 (.extract 1 (.t 65)), .m 10 68, .m 11 69]) (.seq (.ops [.m 71 0, .m 72 1, .i 73 (.call 11 [.t 71, .t 72]), .m 70 73, .i 74 (.extract 0 (.t 70)), .i 75 (.extract 1 (.t 70)), .m 12 74, .m 13 75]) (.seq (.ops [.m 76 10, .m 77 11, .m 78 6, .m 79 5, .i 80 (.call 12 [.t 76, .t 77, .t 78, .t 79]), .m 81 80, .mk (some 82) (some (81, true)) (.mov (.t 12)) .no, .mk (some 83) (some (81, true)) (.mov (.t 7)) .no, .mk (some 84) (some (81, true)) (.eqB false (.t 82) (.t 83)) .no, .i 85 (.pick (.t 81) (.t 84) (.c (.one (.st (.bool false))))), .m 86 85, .mk (some 87) (some (86, true)) (.mov (.t 13)) .no, .mk (some 88) (some (86, true)) (.mov (.t 8)) .no, .mk (some 89) (some (86, true)) (.bin .eql (.t 87) (.t 88)) .no, .i 90 (.pick (.t 86) (.t 89) (.c (.one (.st (.bool false))))), .m 4 90]) .ret))))))))))
theorem By : OkF Tryz.prog 3 91 [] Bg [.t 4] := .of Tryz.func3 rfl rfl (by kernel_rfl) rfl
def Iv : IR :=
 (.seq (.ops [.i 8 (.mov (.c (.one (.st (.bool false)))))]) (.seq (.seq (.ops [.m 10 3, .i 11 (.bin .neq (.t 10) (.n 0))]) (.cond (.t 11) (.seq (.ops [.m 12 1, .m 13 3, .i 14 (.bin .eql (.t 12) (.t 13)), .m 15 14, .mk (some 16) (some (15, true)) (.mov (.t 0)) .no, .mk (some 17) (some (15, true)) (.len false (.t 16)) .no, .mk (some 18) (some (15, true)) (.bin .eql (.t 17) (.n 0)) .no, .i 19 (.pick (.t 15) (.t 18) (.c (.one (.st (.bool false))))), .m 8 19]) .ret) .skip)) (.seq (.seq (.ops [.m 20 1, .i 21 (.bin .neq (.t 20) (.n 0)), .m 22 21, .mk (some 23) (some (22, false)) (.mov (.t 0)) .no, .mk (some 24) (some (22, false)) (.len false (.t 23)) .no, .mk (some 25) (some (22, false)) (.mov (.t 2)) .no, .mk (some 26) (some (22, false)) (.len false (.t 25)) .no, .mk (some 27) (some (22, false)) (.bin .neq (.t 24) (.t 26)) .no, .i 28 (.pick (.t 22) (.c (.one (.st (.bool true)))) (.t 27))]) (.cond (.t 28) (.seq (.ops [.i 8 (.mov (.c (.one (.st (.bool false)))))]) .ret) .skip)) (.seq (.seq (.ops [.i 9 (.mov (.n 0))]) (.block 0 (.loop (.seq (.seq (.ops [.m 29 9, .m 30 0, .i 31 (.len false (.t 30)), .i 32 (.bin .lss (.t 29) (.t 31))]) (.cond (.t 32) .skip (.exit 0))) (.seq (.block 1 (.seq (.ops [.m 35 0, .m 36 9, .i 37 (.indexAddr 4 (.t 35) (.t 36)), .f 38 0 37, .L 39 2 38, .m 40 2, .m 41 9, .i 42 (.indexAddr 4 (.t 40) (.t 41)), .f 43 0 42, .L 44 2 43, .i 45 (.call 26 [.t 39, .t 44]), .i 46 (.un .not (.t 45)), .m 47 46, .mk (some 48) (some (47, false)) (.mov (.t 0)) .no, .mk (some 49) (some (47, false)) (.mov (.t 9)) .no, .mk (some 50) (some (47, false)) (.indexAddr 4 (.t 48) (.t 49)) .no, .mk (some 51) (some (47, false)) (.fieldAddr 2 (.t 50)) .no, .mk (some 52) (some (47, false)) (.load true 2 (.t 51)) .no, .mk (some 53) (some (47, false)) (.mov (.t 2)) .no, .mk (some 54) (some (47, false)) (.mov (.t 9)) .no, .mk (some 55) (some (47, false)) (.indexAddr 4 (.t 53) (.t 54)) .no, .mk (some 56) (some (47, false)) (.fieldAddr 2 (.t 55)) .no, .mk (some 57) (some (47, false)) (.load true 2 (.t 56)) .no, .mk (some 58) (some (47, false)) (.call 26 [.t 52, .t 57]) .no, .mk (some 59) (some (47, false)) (.un .not (.t 58)) .no, .i 60 (.pick (.t 47) (.c (.one (.st (.bool true)))) (.t 59))]) (.cond (.t 60) (.seq (.ops [.i 8 (.mov (.c (.one (.st (.bool false)))))]) .ret) .skip))) (.ops [.m 33 9, .i 34 (.bin .add (.t 33) (.n 1)), .m 9 34])))))) (.seq (.ops [.i 8 (.mov (.c (.one (.st (.bool true)))))]) .ret)))))
theorem OJ : OkF Tryz.prog 12 61 [] Iv [.t 8] := .of Tryz.func12 rfl rfl (by kernel_rfl) rfl

def A_ (n : Int) : Bool := decide (97 ≤ n ∧ n ≤ 122) || decide (65 ≤ n ∧ n ≤ 90) || decide (48 ≤ n ∧ n ≤ 57)
def Ah (s : ByteArray) (k : Nat) : Int := ((s.data.toList.getD k 0).toNat : Int)
theorem FF (s : ByteArray) (k : Nat) : 0 ≤ Ah s k ∧ Ah s k ≤ 255 := by
 unfold Ah
 have := (s.data.toList.getD k 0).toNat_lt
 omega
def AL (s : ByteArray) : Bool := decide (0 < s.size) && decide (65 ≤ Ah s 0) && decide (Ah s 0 ≤ 90)
def Bo (s : ByteArray) (k : Nat) : Bool := (s.data.toList.take k).all fun c => A_ c.toNat
def Ax (s : ByteArray) : Bool := decide (1 ≤ s.size) && decide (s.size ≤ 8) && !(decide (48 ≤ Ah s 0) && decide (Ah s 0 ≤ 57)) && Bo s s.size
theorem FW (s : ByteArray) (k : Nat) (h : k < s.size) : Bo s (k + 1) = (Bo s k && A_ (Ah s k)) := by
 unfold Bo Ah
 have h2 : k < s.data.toList.length := by simpa using h
 rw [List.take_add_one, List.getD_eq_getElem?_getD, List.getElem?_eq_getElem h2]
 simp
theorem HI (s : ByteArray) (k : Nat) (h : k < s.size) (hn : A_ (Ah s k) = false) : Bo s s.size = false := by
 unfold Bo Ah at *
 have h2 : k < s.data.toList.length := by simpa using h
 rw [List.getD_eq_getElem?_getD, List.getElem?_eq_getElem h2] at hn
 rw [List.all_eq_false]
 refine ⟨s.data.toList[k], ?_, by simpa using hn⟩
 rw [List.take_of_length_le (by simp)]
 exact List.getElem_mem h2
mutual
def Tm.size : Tm → Nat
 | .mk _ xs => 1 + Tm.sizes xs
def Tm.sizes : List Tm → Nat
 | [] => 0
 | t :: ts => t.size + Tm.sizes ts
end
theorem Tm.sizes_append (xs ys : List Tm) : Tm.sizes (xs ++ ys) = Tm.sizes xs + Tm.sizes ys := by
 induction xs with
 | nil => simp [Tm.sizes]
 | cons t ts ih => simp only [List.cons_append, Tm.sizes, ih]; omega
theorem Tm.sizes_take {xs : List Tm} {k : Nat} {a : Tm} (h : xs[k]? = some a) : Tm.sizes (xs.take (k+1)) = Tm.sizes (xs.take k) + a.size := by
 rw [AY h, Tm.sizes_append]; simp [Tm.sizes]
theorem Tm.sizes_take_le (xs : List Tm) (k : Nat)  : Tm.sizes (xs.take k) ≤ Tm.sizes xs := by
 have := Tm.sizes_append (xs.take k) (xs.drop k)
 rw [List.take_append_drop] at this
 omega
theorem Tm.size_eq (t : Tm) : t.size = 1 + Tm.sizes t.args := by cases t; rfl
theorem Tm.size_pos (t : Tm) : 1 ≤ t.size := by rw [Tm.size_eq]; omega
theorem Tm.size_mem {a : Tm} {xs : List Tm} (h : a ∈ xs) : a.size ≤ Tm.sizes xs := by
 induction xs with
 | nil => simp at h
 | cons t ts ih =>
  rcases List.mem_cons.1 h with rfl | h
  ·simp only [Tm.sizes]; omega
  ·have := ih h; simp only [Tm.sizes]; omega
theorem Tm.length_le (xs : List Tm) : xs.length ≤ Tm.sizes xs := by
 induction xs with
 | nil => simp [Tm.sizes]
 | cons t ts ih => have := Tm.size_pos t; simp only [Tm.sizes, List.length_cons]; omega
theorem Tm.lt_of_arg {a t : Tm} (h : a ∈ t.args) : SizeOf.sizeOf a < SizeOf.sizeOf t := by
 cases t
 exact Tm.lt_of_mem h
def CU (s : Nat) (m : Int) : Int := if m < s then -1 else m - s
def BE (s : Nat) (m : Int) : Int := if m < s then m + 1 else s
mutual
def Tm.knots : Tm → List Tm
 | .mk n xs => .mk n xs :: Tm.knotsL xs
def Tm.knotsL : List Tm → List Tm
 | [] => []
 | t :: ts => t.knots ++ Tm.knotsL ts
end
theorem Tm.knots_eq (t : Tm) : t.knots = t :: Tm.knotsL t.args := by cases t; rfl
theorem Tm.knotsL_append (xs ys : List Tm) : Tm.knotsL (xs ++ ys) = Tm.knotsL xs ++ Tm.knotsL ys := by
 induction xs with
 | nil => simp [Tm.knotsL]
 | cons t ts ih => simp [Tm.knotsL, ih]
theorem Tm.knotsL_take {xs : List Tm} {k : Nat} {a : Tm} (h : xs[k]? = some a) : Tm.knotsL (xs.take (k+1)) = Tm.knotsL (xs.take k) ++ a.knots := by
 rw [AY h, Tm.knotsL_append]; simp [Tm.knotsL]
mutual
theorem Tm.knots_length : ∀ t : Tm, t.knots.length = t.size
 | .mk n xs => by simp only [Tm.knots, Tm.size, List.length_cons, Tm.knotsL_length xs]; omega
theorem Tm.knotsL_length : ∀ xs : List Tm, (Tm.knotsL xs).length = Tm.sizes xs
 | [] => rfl
 | t :: ts => by simp only [Tm.knotsL, Tm.sizes, List.length_append, Tm.knots_length t, Tm.knotsL_length ts]
end
def BQ (t : Tm) : Int := if Ax t.name = true then (if AL t.name = true ∧ 0 < t.args.length then 2 else 0) else 1
mutual
def Tm.chk : Tm → Int
 | .mk n xs => if BQ (.mk n xs) = 0 then Tm.chkL xs else BQ (.mk n xs)
def Tm.chkL : List Tm → Int
 | [] => 0
 | t :: ts => if t.chk = 0 then Tm.chkL ts else t.chk
end
def Bl : List Tm → Int
 | [] => 0
 | t :: ts => if BQ t = 0 then Bl ts else BQ t
theorem Tm.chk_eq (t : Tm) : t.chk = if BQ t = 0 then Tm.chkL t.args else BQ t := by cases t; rfl
theorem De (xs ys : List Tm) : Bl (xs ++ ys) = if Bl xs = 0 then Bl ys else Bl xs := by
 induction xs with
 | nil => simp [Bl]
 | cons t ts ih =>
  simp only [List.cons_append, Bl]
  by_cases h : BQ t = 0
  ·simp only [h, if_true, ih]
  ·simp only [h, if_false]
mutual
theorem Tm.firstErr_knots : ∀ t : Tm, Bl t.knots = t.chk
 | .mk n xs => by
  simp only [Tm.knots, Bl, Tm.chk]
  split
  ·exact Tm.firstErr_knotsL xs
  ·rfl
theorem Tm.firstErr_knotsL : ∀ xs : List Tm, Bl (Tm.knotsL xs) = Tm.chkL xs
 | [] => rfl
 | t :: ts => by
  simp only [Tm.knotsL, De, Tm.firstErr_knots t, Tm.firstErr_knotsL ts, Tm.chkL]
end
theorem Tm.chkL_append (xs ys : List Tm) : Tm.chkL (xs ++ ys) = if Tm.chkL xs = 0 then Tm.chkL ys else Tm.chkL xs := by
 induction xs with
 | nil => simp [Tm.chkL]
 | cons t ts ih =>
  simp only [List.cons_append, Tm.chkL]
  by_cases h : t.chk = 0
  ·simp only [h, if_true, ih]
  ·simp only [h, if_false]
theorem Tm.chkL_get {xs : List Tm} {k : Nat} {a : Tm} (h : xs[k]? = some a) (h0 : Tm.chkL (xs.take k) = 0) : (a.chk = 0 → Tm.chkL (xs.take (k+1)) = 0) ∧ (a.chk ≠ 0 → Tm.chkL xs = a.chk) := by
 constructor
 ·intro ha
  rw [AY h, Tm.chkL_append, if_pos h0]
  simp [Tm.chkL, ha]
 ·intro ha
  rw [← List.take_append_drop k xs, Tm.chkL_append, if_pos h0]
  have hd : xs.drop k = a :: xs.drop (k+1) := by
   have hk := Bh h
   rw [List.getElem?_eq_getElem hk] at h
   rw [List.drop_eq_getElem_cons hk]
   simp at h
   rw [h]
  rw [hd]
  simp [Tm.chkL, ha]
theorem M_ {xs : List Tm} {k : Nat} {a : Tm} (h : xs[k]? = some a) (h0 : Bl (xs.take k) = 0) : (BQ a = 0 → Bl (xs.take (k+1)) = 0) ∧ (BQ a ≠ 0 → Bl xs = BQ a) := by
 constructor
 ·intro ha
  rw [AY h, De, if_pos h0]
  simp [Bl, ha]
 ·intro ha
  rw [← List.take_append_drop k xs, De, if_pos h0]
  have hd : xs.drop k = a :: xs.drop (k+1) := by
   have hk := Bh h
   rw [List.getElem?_eq_getElem hk] at h
   rw [List.drop_eq_getElem_cons hk]
   simp at h
   rw [h]
  rw [hd]
  simp [Bl, ha]
def Tm.may (t : Tm) : Int := if 200 < t.size then 3 else t.chk
def B_ (x : ByteArray) (l : List ByteArray) : Bool := l.any fun y => decide (y = x)
theorem Cc {x : ByteArray} {l : List ByteArray} : B_ x l = true ↔ x ∈ l := by simp [B_]
theorem GC {x : ByteArray} {l : List ByteArray} : B_ x l = false ↔ x ∉ l := by rw [← Bool.not_eq_true, Cc]
def A5 (l : List ByteArray) (n : ByteArray) : List ByteArray := if AL n && !B_ n l then l ++ [n] else l
def Aa (l : List ByteArray) (ks : List Tm) : List ByteArray := ks.foldl (fun l t => A5 l t.name) l
def Tm.varsOf (t : Tm) : List ByteArray := Aa [] t.knots
theorem OY (l : List ByteArray) : Aa l [] = l := rfl
theorem My (l : List ByteArray) (ks : List Tm) (t : Tm) : Aa l (ks ++ [t]) = A5 (Aa l ks) t.name := by simp [Aa]
theorem Fb (l : List ByteArray) (ks ms : List Tm) : Aa l (ks ++ ms) = Aa (Aa l ks) ms := by simp [Aa]
theorem FD {l : List ByteArray} {n : ByteArray} (h : AL n = true) (h' : B_ n l = false) : A5 l n = l ++ [n] := by simp [A5, h, h']
theorem EZ {l : List ByteArray} {n : ByteArray} (h' : B_ n l = true) : A5 l n = l := by simp [A5, h']
theorem H9 {l : List ByteArray} {n : ByteArray} (h : AL n = false) : A5 l n = l := by simp [A5, h]
theorem GV (l : List ByteArray) (n : ByteArray) : (A5 l n).length ≤ l.length + 1 := by unfold A5; split <;> simp
theorem CZ : ∀ (ks : List Tm) (l : List ByteArray), (Aa l ks).length ≤ l.length + ks.length
 | [], l => by simp [OY]
 | t :: ts, l => by
  have h1 := CZ ts (A5 l t.name)
  have h2 := GV l t.name
  have h3 : Aa l (t :: ts) = Aa (A5 l t.name) ts := rfl
  rw [h3, List.length_cons]
  omega
mutual
def Tm.places : Tm → List (List Int)
 | .mk _ xs => [] :: Tm.placesFrom 0 xs
def Tm.placesFrom : Nat → List Tm → List (List Int)
 | _, [] => []
 | k, t :: ts => t.places.map (fun p => (k : Int) :: p) ++ Tm.placesFrom (k+1) ts
end
theorem Tm.places_eq (t : Tm) : t.places = [] :: Tm.placesFrom 0 t.args := by cases t; rfl
theorem Tm.placesFrom_snoc (a : Tm) : ∀ (k : Nat) (xs : List Tm), Tm.placesFrom k (xs ++ [a]) = Tm.placesFrom k xs ++ a.places.map (fun p => ((k + xs.length : Nat) : Int) :: p)
 | k, [] => by simp [Tm.placesFrom]
 | k, t :: ts => by
  rw [List.cons_append, Tm.placesFrom, Tm.placesFrom_snoc a (k+1) ts, Tm.placesFrom, List.length_cons, show k + 1 + ts.length = k + (ts.length + 1) by omega, List.append_assoc]
def Tm.placesTo (t : Tm) (k : Nat) : List (List Int) := [] :: Tm.placesFrom 0 (t.args.take k)
theorem Tm.placesTo_succ {t : Tm} {k : Nat} {a : Tm} (h : t.args[k]? = some a) : t.placesTo (k+1) = t.placesTo k ++ a.places.map (fun p => (k : Int) :: p) := by
 have hl := Bh h
 unfold Tm.placesTo
 rw [AY h, Tm.placesFrom_snoc, List.length_take, Nat.min_eq_left (by omega), Nat.zero_add, List.cons_append]
theorem Tm.placesTo_all {t : Tm} {k : Nat} (h : k = t.args.length) : t.placesTo k = t.places := by
 subst h
 rw [Tm.places_eq, Tm.placesTo, List.take_length]
mutual
theorem Tm.places_length : ∀ t : Tm, t.places.length = t.size
 | .mk n xs => by simp only [Tm.places, Tm.size, List.length_cons, Tm.placesFrom_length 0 xs]; omega
theorem Tm.placesFrom_length : ∀ (k : Nat) (xs : List Tm), (Tm.placesFrom k xs).length = Tm.sizes xs
 | _, [] => rfl
 | k, t :: ts => by simp only [Tm.placesFrom, Tm.sizes, List.length_append, List.length_map, Tm.places_length t, Tm.placesFrom_length (k+1) ts]
end
mutual
theorem Tm.places_deep : ∀ (t : Tm) (p : List Int), p ∈ t.places → p.length ≤ t.size
 | .mk n xs, p, h => by
  simp only [Tm.places, List.mem_cons] at h
  rcases h with rfl | h
  ·simp
  ·have := Tm.placesFrom_deep 0 xs p h
   simp only [Tm.size]
   omega
theorem Tm.placesFrom_deep : ∀ (k : Nat) (xs : List Tm) (p : List Int), p ∈ Tm.placesFrom k xs → p.length ≤ 1 + Tm.sizes xs
 | _, [], p, h => by simp [Tm.placesFrom] at h
 | k, t :: ts, p, h => by
  simp only [Tm.placesFrom, List.mem_append, List.mem_map] at h
  simp only [Tm.sizes]
  rcases h with ⟨q, hq, rfl⟩ | h
  ·have := Tm.places_deep t q hq
   simp only [List.length_cons]
   omega
  ·have := Tm.placesFrom_deep (k+1) ts p h
   omega
end
theorem Tm.placesTo_length (t : Tm) (k : Nat) : (t.placesTo k).length = 1 + Tm.sizes (t.args.take k) := by
 rw [Tm.placesTo, List.length_cons, Tm.placesFrom_length]; omega
theorem N_ {s z : Nat} {m : Int} (h : 0 ≤ CU s m) : CU z (CU s m) = CU (s + z) m := by
 unfold CU at *
 split at h
 ·omega
 ·rename_i h1
  rw [if_neg h1]
  split <;> split <;> omega
theorem Pu {s z : Nat} {m : Int} (h : CU s m < 0) (hz : s ≤ z) : CU s m = CU z m := by
 unfold CU at *
 split at h
 ·rw [if_pos (by assumption), if_pos (by omega)]
 ·omega
theorem Rv (s : Nat) (m : Int) (h : 0 ≤ m) : -1 ≤ CU s m ∧ CU s m ≤ m := by unfold CU; split <;> omega
theorem KY {s z : Nat} {m : Int} (h : (s : Int) ≤ m) : (s : Int) + BE z (m - s) = BE (s + z) m := by
 unfold BE
 split <;> split <;> omega
theorem FH {s z : Nat} {m : Int} (h : m < BE s m) (hz : s ≤ z) : BE z m = m + 1 := by
 unfold BE at *
 split at h <;> split <;> omega
theorem HU (s : Nat) (m : Int) (h : 0 ≤ m) : 0 ≤ BE s m ∧ BE s m ≤ m + 1 := by unfold BE; split <;> omega
theorem Hg {s : Nat} {m : Int} (h : ¬ m < BE s m) : BE s m = s ∧ (s : Int) ≤ m := by
 unfold BE at *
 split at h
 ·omega
 ·rename_i h2
  rw [if_neg h2]
  omega



theorem MS : ∀ l : List UInt8, Op.bytesLess l l = false
 | [] => by simp [Op.bytesLess]
 | x :: xs => by simp [Op.bytesLess, MS xs]
theorem O3 : ∀ (a b c : List UInt8), Op.bytesLess a b = true → Op.bytesLess b c = true → Op.bytesLess a c = true
 | _, [], _, h, _ => by simp [Op.bytesLess] at h
 | _, _ :: _, [], _, k => by simp [Op.bytesLess] at k
 | [], _ :: _, _ :: _, _, _ => by simp [Op.bytesLess]
 | x :: xs, y :: ys, z :: zs, h, k => by
  simp only [Op.bytesLess, Bool.or_eq_true, Bool.and_eq_true, decide_eq_true_eq, beq_iff_eq] at h k ⊢
  rcases h with h | ⟨rfl, h⟩
  ·rcases k with k | ⟨rfl, k⟩
   ·exact .inl (UInt8.lt_trans h k)
   ·exact .inl h
  ·rcases k with k | ⟨rfl, k⟩
   ·exact .inl k
   ·exact .inr ⟨rfl, O3 xs ys zs h k⟩
theorem O6 : ∀ (a b : List UInt8), Op.bytesLess a b = true ∨ a = b ∨ Op.bytesLess b a = true
 | [], [] => .inr (.inl rfl)
 | [], _ :: _ => .inl (by simp [Op.bytesLess])
 | _ :: _, [] => .inr (.inr (by simp [Op.bytesLess]))
 | x :: xs, y :: ys => by
  simp only [Op.bytesLess, Bool.or_eq_true, Bool.and_eq_true, decide_eq_true_eq, beq_iff_eq, List.cons.injEq]
  rcases Nat.lt_trichotomy x.toNat y.toNat with h | h | h
  ·exact .inl (.inl h)
  ·have e : x = y := UInt8.toNat_inj.1 h
   subst e
   rcases O6 xs ys with h | h | h
   ·exact .inl (.inr ⟨rfl, h⟩)
   ·exact .inr (.inl ⟨rfl, h⟩)
   ·exact .inr (.inr (.inr ⟨rfl, h⟩))
  ·exact .inr (.inr (.inl h))
theorem T5 {a b : ByteArray} (h : a.toList = b.toList) : a = b := by
 rw [ByteArray.toList_eq, ByteArray.toList_eq] at h
 cases a; cases b
 simp only at h
 congr 1
 exact Array.toList_inj.1 h
theorem DP (a : ByteArray) : sLt a a = false := MS _
theorem Dy {a b c : ByteArray} (h : sLt a b = true) (k : sLt b c = true) : sLt a c = true := O3 _ _ _ h k
theorem IQ (a b : ByteArray) : sLt a b = true ∨ a = b ∨ sLt b a = true := by
 rcases O6 a.toList b.toList with h | h | h
 ·exact .inl h
 ·exact .inr (.inl (T5 h))
 ·exact .inr (.inr h)
def FB (a b : ByteArray) : Int := if sLt a b = true then -1 else if a = b then 0 else 1
abbrev Bd := ByteArray × Tm
def BG (b : Bd) : List SV := [.str b.1, .str b.2.name, .list (b.2.args.map Ap)]
abbrev Dc (l : List Bd) : AV := .one (.st (.list (l.map BG)))
abbrev aBd (b : Bd) : AV := .agg [.st (.str b.1), .st (.str b.2.name), .st (.list (b.2.args.map Ap))]
instance : Vu BG 3 := ⟨fun _ => rfl⟩
theorem GN {ts : List Bd} : ∀ x ∈ ts.map BG, x.length = 3 := by
 intro x hx
 obtain ⟨a, _, rfl⟩ := List.mem_map.1 hx
 rfl
theorem BS {α : Type} {xs : List α} {k : Nat} {a : α} (h : xs[k]? = some a) : xs.drop k = a :: xs.drop (k + 1) := by
 have hk := Bh h
 rw [List.getElem?_eq_getElem hk] at h
 rw [List.drop_eq_getElem_cons hk]
 simp at h
 rw [h]
def BA (l : List Bd) : Prop := l.Pairwise fun a b => sLt a.1 b.1 = true
def lookup (l : List Bd) (n : ByteArray) : Option Tm := (l.find? fun b => decide (b.1 = n)).map (·.2)
theorem C3 {l : List Bd} {n : ByteArray} (h : ∀ b ∈ l, b.1 ≠ n) : lookup l n = none := by
 unfold lookup
 rw [List.find?_eq_none.2 (fun b hb => by simpa using h b hb)]
 rfl
theorem Ij {l : List Bd} {n : ByteArray} {k : Nat} {b : Bd} (hk : l[k]? = some b) (hb : b.1 = n) (h : ∀ c ∈ l.take k, c.1 ≠ n) : lookup l n = some b.2 := by
 unfold lookup
 rw [← List.take_append_drop k l, List.find?_append, List.find?_eq_none.2 (fun c hc => by simpa using h c hc), BS hk]
 simp [hb]
theorem Cw {l : List Bd} {n : ByteArray} {x : Tm} (h : lookup l n = some x) : ∃ b ∈ l, b.1 = n ∧ b.2 = x := by
 unfold lookup at h
 rw [Option.map_eq_some_iff] at h
 obtain ⟨b, h1, h2⟩ := h
 exact ⟨b, List.mem_of_find?_eq_some h1, by simpa using List.find?_some h1, h2⟩
theorem Io {l : List Bd} (h : BA l) {i j : Nat} {a b : Bd} (hi : l[i]? = some a) (hj : l[j]? = some b) (hij : i < j) : sLt a.1 b.1 = true := by
 have h1 := List.pairwise_iff_getElem.1 h
 obtain ⟨hi1, hi2⟩ := List.getElem?_eq_some_iff.1 hi
 obtain ⟨hj1, hj2⟩ := List.getElem?_eq_some_iff.1 hj
 have := h1 i j hi1 hj1 hij
 rw [hi2, hj2] at this
 exact this
mutual
def Tm.on (s : List Bd) : Tm → Tm
 | .mk n xs => match (if xs.isEmpty then lookup s n else none) with
  | some x => x
  | none => .mk n (Tm.onL s xs)
def Tm.onL (s : List Bd) : List Tm → List Tm
 | [] => []
 | t :: ts => t.on s :: Tm.onL s ts
end
theorem Tm.onL_eq (s : List Bd) : ∀ ts : List Tm, Tm.onL s ts = ts.map (Tm.on s)
 | [] => rfl
 | t :: ts => by rw [Tm.onL, Tm.onL_eq s ts]; rfl
theorem Tm.on_leaf {s : List Bd} {t x : Tm} (h : lookup s t.name = some x) (h0 : t.args = []) : t.on s = x := by
 cases t with
 | mk n xs =>
  simp only [Tm.name_mk, Tm.args_mk] at h h0
  subst h0
  simp [Tm.on, h]
theorem Tm.on_knot {s : List Bd} {t : Tm} (h : lookup s t.name = none ∨ t.args ≠ []) : t.on s = .mk t.name (t.args.map (Tm.on s)) := by
 cases t with
 | mk n xs =>
  simp only [Tm.name_mk, Tm.args_mk] at h ⊢
  rw [← Tm.onL_eq]
  rcases h with h | h
  ·simp [Tm.on, h]
  ·cases xs with
   | nil => exact absurd rfl h
   | cons y ys => simp [Tm.on]
theorem Tm.chk_args {t : Tm} (h : t.chk = 0) : (AL t.name = true → t.args = []) ∧ ∀ a ∈ t.args, a.chk = 0 := by
 have hc := Tm.chk_eq t
 rw [h] at hc
 by_cases h1 : BQ t = 0
 ·rw [if_pos h1] at hc
  have key : ∀ {xs : List Tm}, Tm.chkL xs = 0 → ∀ a ∈ xs, a.chk = 0 := by
   intro xs
   induction xs with
   | nil => simp
   | cons x xs ih =>
    intro hx a ha
    simp only [Tm.chkL] at hx
    split at hx
    ·rename_i h2
     rcases List.mem_cons.1 ha with rfl | ha
     ·exact h2
     ·exact ih hx a ha
    ·rename_i h2
     exact absurd hx h2
  refine ⟨fun hv => ?_, key hc.symm⟩
  unfold BQ at h1
  split at h1
  ·split at h1
   ·cases h1
   ·rename_i h2
    simp only [hv, true_and, Nat.not_lt, Nat.le_zero] at h2
    exact List.eq_nil_of_length_eq_zero h2
  ·cases h1
 ·rw [if_neg h1] at hc
  exact absurd hc.symm h1
theorem Tm.may_chk {t : Tm} (h : t.may = 0) : t.chk = 0 ∧ t.size ≤ 200 := by
 unfold Tm.may at h
 split at h
 ·cases h
 ·exact ⟨h, by omega⟩

def GO (b : Bd) : List Bd → List Bd
 | [] => [b]
 | c :: l => if sLt b.1 c.1 = true then b :: c :: l else c :: GO b l
def Ay (l : List Bd) : List Bd := l.foldl (fun acc b => GO b acc) []
def BK (l : List Bd) : Prop := (l.map (·.1)).Nodup
theorem F9 (b : Bd) : ∀ l : List Bd, (GO b l).Perm (b :: l)
 | [] => List.Perm.refl _
 | c :: l => by
  unfold GO
  split
  ·exact List.Perm.refl _
  ·exact ((F9 b l).cons c).trans (List.Perm.swap b c l)
theorem Hl {b : Bd} : ∀ {l : List Bd}, BA l → (∀ c ∈ l, c.1 ≠ b.1) → BA (GO b l)
 | [], _, _ => List.pairwise_cons.2 ⟨by simp, List.Pairwise.nil⟩
 | c :: l, ho, hn => by
  obtain ⟨o1, o2⟩ := List.pairwise_cons.1 ho
  unfold GO
  split
  ·rename_i h
   exact List.pairwise_cons.2 ⟨fun x hx => by
    rcases List.mem_cons.1 hx with rfl | hx
    ·exact h
    ·exact Dy h (o1 x hx), ho⟩
  ·rename_i h
   refine List.pairwise_cons.2 ⟨fun x hx => ?_, Hl o2 fun x hx => hn x (by simp [hx])⟩
   rcases List.mem_cons.1 ((F9 b l).mem_iff.1 hx) with rfl | hx
   ·rcases IQ c.1 x.1 with k | k | k
    ·exact k
    ·exact absurd k (hn c (by simp))
    ·exact absurd k h
   ·exact o1 x hx
theorem Pf (l : List Bd) (b : Bd) : Ay (l ++ [b]) = GO b (Ay l) := by unfold Ay; rw [List.foldl_append]; rfl
theorem F5 : ∀ (l acc : List Bd), (l.foldl (fun acc b => GO b acc) acc).Perm (l ++ acc)
 | [], acc => List.Perm.refl _
 | b :: l, acc => by
  rw [List.foldl_cons]
  refine (F5 l _).trans ?_
  refine ((F9 b acc).append_left l).trans ?_
  exact List.perm_middle
theorem BW (l : List Bd) : (Ay l).Perm l := by
 have := F5 l []
 rw [List.append_nil] at this
 exact this
theorem EP : ∀ (l acc : List Bd), BA acc → BK (acc ++ l) → BA (l.foldl (fun acc b => GO b acc) acc)
 | [], acc, ho, _ => ho
 | b :: l, acc, ho, hn => by
  rw [List.foldl_cons]
  have hp : (acc ++ b :: l).Perm (GO b acc ++ l) := (List.perm_middle).trans (by rw [← List.cons_append]; exact ((F9 b acc).symm.append_right l))
  refine EP l _ (Hl ho fun c hc e => ?_) ((hp.map _).nodup_iff.1 hn)
  unfold BK at hn
  rw [List.map_append, List.nodup_append] at hn
  exact hn.2.2 _ (List.mem_map.2 ⟨c, hc, rfl⟩) _ (by simp) e
theorem Bb {l : List Bd} (hn : BK l) : BA (Ay l) := EP l [] List.Pairwise.nil (by simpa using hn)
theorem CO {l : List Bd} (ho : BA l) : BK l := by
 unfold BK
 rw [List.nodup_iff_pairwise_ne, List.pairwise_map]
 exact ho.imp fun {a b} h e => by rw [e, DP] at h; cases h
theorem D1 : ∀ {l m : List Bd}, BA l → BA m → l.Perm m → l = m
 | [], m, _, _, h => (List.nil_perm.1 h).symm
 | a :: l, [], _, _, h => absurd h.length_eq (by simp)
 | a :: l, c :: m, hl, hm, h => by
  obtain ⟨l1, l2⟩ := List.pairwise_cons.1 hl
  obtain ⟨m1, m2⟩ := List.pairwise_cons.1 hm
  have e : a = c := by
   rcases List.mem_cons.1 (h.mem_iff.1 (List.mem_cons_self)) with e | e
   ·exact e
   ·rcases List.mem_cons.1 (h.mem_iff.2 (List.mem_cons_self)) with e2 | e2
    ·exact e2.symm
    ·have := Dy (m1 a e) (l1 c e2)
     rw [DP] at this
     cases this
  subst e
  rw [D1 l2 m2 (List.Perm.cons_inv h)]
theorem Bq {l : List Bd} {b : Bd} : b ∈ Ay l ↔ b ∈ l := (BW l).mem_iff
theorem BM (l : List Bd) : (Ay l).length = l.length := (BW l).length_eq
theorem Ca {l m : List Bd} (h : l.Perm m) (hn : BK l) : BK m := ((h.map _).nodup_iff).1 hn

abbrev Pr := Tm × Tm
def At (p : Pr) : List SV := [.str p.1.name, .list (p.1.args.map Ap), .str p.2.name, .list (p.2.args.map Ap)]
abbrev BF (l : List Pr) : AV := .one (.st (.list (l.map At)))
abbrev aPr (p : Pr) : AV := .agg [.st (.str p.1.name), .st (.list (p.1.args.map Ap)), .st (.str p.2.name), .st (.list (p.2.args.map Ap))]
instance : Vu At 4 := ⟨fun _ => rfl⟩
theorem Es {ts : List Pr} : ∀ x ∈ ts.map At, x.length = 4 := by
 intro x hx
 obtain ⟨a, _, rfl⟩ := List.mem_map.1 hx
 rfl

def occ (x : ByteArray) (t : Tm) : Bool := t.knots.any fun k => decide (k.name = x)
theorem Jg (p : Tm → Bool) : ∀ xs : List Tm, (Tm.knotsL xs).any p = xs.any fun t => t.knots.any p
 | [] => rfl
 | t :: ts => by rw [Tm.knotsL, List.any_append, Jg p ts, List.any_cons]
theorem J0 (x : ByteArray) (t : Tm) : occ x t = (decide (t.name = x) || t.args.any (occ x)) := by
 unfold occ
 rw [Tm.knots_eq, List.any_cons, Jg]
theorem GJ {x : ByteArray} {t : Tm} : occ x t = true ↔ t.name = x ∨ ∃ a ∈ t.args, occ x a = true := by
 rw [J0, Bool.or_eq_true, decide_eq_true_eq, List.any_eq_true]
theorem JN {x : ByteArray} {t a : Tm} (ha : a ∈ t.args) (h : occ x a = true) : occ x t = true := GJ.2 (.inr ⟨a, ha, h⟩)
theorem M6 {x : ByteArray} {t : Tm} (h : occ x t = false) : t.name ≠ x ∧ ∀ a ∈ t.args, occ x a = false := by
 rw [J0, Bool.or_eq_false_iff, decide_eq_false_iff_not, List.any_eq_false] at h
 exact ⟨h.1, fun a ha => by simpa using h.2 a ha⟩
theorem I9 {x : ByteArray} (hv : AL x = true) : ∀ (ks : List Tm) (l : List ByteArray), x ∈ Aa l ks ↔ x ∈ l ∨ ∃ k ∈ ks, k.name = x
 | [], l => by simp [Aa]
 | t :: ks, l => by
  have e : Aa l (t :: ks) = Aa (A5 l t.name) ks := rfl
  rw [e, I9 hv ks]
  have h1 : x ∈ A5 l t.name ↔ x ∈ l ∨ t.name = x := by
   unfold A5
   split
   ·rename_i h
    rw [List.mem_append, List.mem_singleton]
    exact ⟨fun h => h.imp id Eq.symm, fun h => h.imp id Eq.symm⟩
   ·rename_i h
    refine ⟨.inl, fun h' => ?_⟩
    rcases h' with h' | h'
    ·exact h'
    ·subst h'
     rw [hv, Bool.true_and, Bool.not_eq_true'] at h
     have h : B_ t.name l = true := by
      cases hc : B_ t.name l with
      | true => rfl
      | false => exact absurd hc h
     exact Cc.1 h
  rw [h1]
  simp only [List.mem_cons, exists_eq_or_imp]
  constructor
  ·rintro ((h | h) | h)
   ·exact .inl h
   ·exact .inr (.inl h)
   ·exact .inr (.inr h)
  ·rintro (h | h | h)
   ·exact .inl (.inl h)
   ·exact .inl (.inr h)
   ·exact .inr h
theorem Iw {x : ByteArray} (hv : AL x = true) (t : Tm) : B_ x t.varsOf = occ x t := by
 rw [Bool.eq_iff_iff, Cc]
 unfold Tm.varsOf occ
 rw [I9 hv]
 simp [List.any_eq_true]
def I8 (s : List Bd) (t : Tm) : Prop := ∀ b ∈ s, occ b.1 t = false
theorem V4 {s : List Bd} {t : Tm} (h : I8 s t) : t.on s = t := by
 induction hN : SizeOf.sizeOf t using Nat.strongRecOn generalizing t with
 | _ N ih =>
 subst hN
 have hl : lookup s t.name = none := C3 fun b hb e => (M6 (h b hb)).1 e.symm
 rw [Tm.on_knot (.inl hl)]
 have hm : t.args.map (Tm.on s) = t.args := by
  conv => rhs; rw [← List.map_id t.args]
  exact List.map_congr_left fun a ha => ih _ (Tm.lt_of_arg ha) (fun b hb => (M6 (h b hb)).2 a ha) rfl
 rw [hm]
 cases t; rfl
theorem QU {s : List Bd} {n : ByteArray} (h : lookup s n = none) : ∀ b ∈ s, b.1 ≠ n := by
 unfold lookup at h
 rw [Option.map_eq_none_iff, List.find?_eq_none] at h
 exact fun b hb e => h b hb (by simpa using e)
theorem Qa {s : List Bd} (hv : ∀ b ∈ s, AL b.1 = true) {t : Tm} (hc : t.chk = 0) {y : ByteArray} (h : occ y (t.on s) = true) : (occ y t = true ∧ ∀ b ∈ s, b.1 ≠ y) ∨ ∃ b ∈ s, occ y b.2 = true := by
 induction hN : SizeOf.sizeOf t using Nat.strongRecOn generalizing t with
 | _ N ih =>
 subst hN
 obtain ⟨c1, c2⟩ := Tm.chk_args hc
 cases hl : lookup s t.name with
 | some x =>
  obtain ⟨b, hb, hbn, hbx⟩ := Cw hl
  rw [Tm.on_leaf hl (c1 (by rw [← hbn]; exact hv b hb)), ← hbx] at h
  exact .inr ⟨b, hb, h⟩
 | none =>
  rw [Tm.on_knot (.inl hl), GJ] at h
  rcases h with h | ⟨a, ha, h⟩
  ·simp only [Tm.name_mk] at h
   refine .inl ⟨GJ.2 (.inl h), fun b hb => ?_⟩
   rw [← h]
   exact QU hl b hb
  ·simp only [Tm.args_mk, List.mem_map] at ha
   obtain ⟨c, hc', rfl⟩ := ha
   rcases ih _ (Tm.lt_of_arg hc') (c2 c hc') h rfl with h | h
   ·exact .inl ⟨JN hc' h.1, h.2⟩
   ·exact .inr h
theorem WF {t : Tm} (h : BQ t = 0) (ha : ∀ a ∈ t.args, a.chk = 0) : t.chk = 0 := by
 rw [Tm.chk_eq, if_pos h]
 have key : ∀ {xs : List Tm}, (∀ a ∈ xs, a.chk = 0) → Tm.chkL xs = 0 := by
  intro xs
  induction xs with
  | nil => intro _; rfl
  | cons x xs ih => intro hx; simp only [Tm.chkL]; rw [if_pos (hx x (by simp))]; exact ih fun a ha => hx a (by simp [ha])
 exact key ha
theorem Vy {t : Tm} (h : t.chk = 0) : BQ t = 0 := by
 rw [Tm.chk_eq] at h
 by_cases h1 : BQ t = 0
 ·exact h1
 ·rw [if_neg h1] at h; exact h
theorem Kf {s : List Bd} (hs : ∀ b ∈ s, b.2.chk = 0) {t : Tm} (hc : t.chk = 0) : (t.on s).chk = 0 := by
 induction hN : SizeOf.sizeOf t using Nat.strongRecOn generalizing t with
 | _ N ih =>
 subst hN
 obtain ⟨c1, c2⟩ := Tm.chk_args hc
 by_cases hleaf : (∃ x, lookup s t.name = some x) ∧ t.args = []
 ·obtain ⟨⟨x, hx⟩, h0⟩ := hleaf
  rw [Tm.on_leaf hx h0]
  obtain ⟨b, hb, _, rfl⟩ := Cw hx
  exact hs b hb
 ·have hon : t.on s = .mk t.name (t.args.map (Tm.on s)) := Tm.on_knot (by
   cases hl : lookup s t.name with
   | none => exact .inl rfl
   | some x => exact .inr fun h0 => hleaf ⟨⟨x, hl⟩, h0⟩)
  rw [hon]
  refine WF ?_ fun a ha => ?_
  ·have := Vy hc
   unfold BQ at this ⊢
   simpa only [Tm.name_mk, Tm.args_mk, List.length_map] using this
  ·simp only [Tm.args_mk, List.mem_map] at ha
   obtain ⟨c, hc', rfl⟩ := ha
   exact ih _ (Tm.lt_of_arg hc') (c2 c hc') rfl
inductive Ws where
 | err (e : Int)
 | go (s : List Bd) (ps : List Pr)
def B5 (s : List Bd) (x : ByteArray) (t : Tm) : Ws :=
 if occ x t = true then .err 6 else if (s.all fun b => decide ((b.2.on [(x, t)]).size ≤ 2000)) = true then .go (Ay (s.map (fun b => (b.1, b.2.on [(x, t)])) ++ [(x, t)])) [] else .err 8
def BZ (s : List Bd) (p : Pr) : Ws :=
 if 2000 < (p.1.on s).size ∨ 2000 < (p.2.on s).size then .err 8
 else if AL (p.1.on s).name = true ∧ (p.1.on s).name = (p.2.on s).name then .go s []
 else if AL (p.1.on s).name = true then B5 s (p.1.on s).name (p.2.on s)
 else if AL (p.2.on s).name = true then B5 s (p.2.on s).name (p.1.on s)
 else if (p.1.on s).name = (p.2.on s).name ∧ (p.1.on s).args.length = (p.2.on s).args.length then .go s ((p.1.on s).args.zip (p.2.on s).args)
 else .err 5
inductive Ck : Nat → List Bd → List Pr → List Bd × Int → Prop
 | nil {s} : Ck 0 s [] (s, 0)
 | err {s p l e} : BZ s p = .err e → Ck 1 s (p :: l) ([], e)
 | go {s p l s' ps n r} : BZ s p = .go s' ps → Ck n s' (ps ++ l) r → Ck (n + 1) s (p :: l) r
def IF (C v : Nat) (s : List Bd) : List Pr → Prop
 | [] => True
 | p :: l => l.length + 2000 * min (p.1.on s).size 2000 + 4000000 * v ≤ C ∧ IF C v s l
theorem IF.less {C v v' : Nat} {s s' : List Bd} (hv : v' + 1 ≤ v) : ∀ {l : List Pr}, IF C v s l → IF C v' s' l
 | [], _ => trivial
 | p :: l, h => ⟨by have := h.1; have := Nat.min_le_right (p.1.on s').size 2000; omega, IF.less hv h.2⟩
theorem IF.more {C v m : Nat} {s : List Bd} {l : List Pr} (hm : m + 1 ≤ 2000) (hC : l.length + 2000 * (m + 1) + 4000000 * v ≤ C) (hl : IF C v s l) : ∀ {ps : List Pr}, ps.length ≤ 2000 → (∀ c ∈ ps, (c.1.on s).size ≤ m) → IF C v s (ps ++ l)
 | [], _, _ => hl
 | c :: ps, h1, h2 => by
  refine ⟨?_, IF.more hm hC hl (by simp at h1; omega) fun c hc => h2 c (by simp [hc])⟩
  have h3 := h2 c (by simp)
  have h4 := Nat.min_le_left (c.1.on s).size 2000
  simp only [List.length_cons] at h1
  have e : (ps ++ l).length = ps.length + l.length := List.length_append
  show (ps ++ l).length + _ + _ ≤ C
  omega
structure B6 (U : List ByteArray) (C : Nat) (s : List Bd) (l : List Pr) : Prop where
 ord : BA s
 var : ∀ b ∈ s, AL b.1 = true
 inU : ∀ b ∈ s, b.1 ∈ U
 chk : ∀ b ∈ s, b.2.chk = 0
 siz : ∀ b ∈ s, b.2.size ≤ 2000
 idem : ∀ b ∈ s, I8 s b.2
 ranU : ∀ b ∈ s, ∀ y, occ y b.2 = true → y ∈ U
 lchk : ∀ p ∈ l, p.1.chk = 0 ∧ p.2.chk = 0
 lU : ∀ p ∈ l, ∀ y, (occ y p.1 = true → y ∈ U) ∧ (occ y p.2 = true → y ∈ U)
 lsiz : ∀ p ∈ l, p.1.size ≤ 2000 ∧ p.2.size ≤ 2000
 fits : IF C (U.length - s.length) s l
theorem I0 {x : ByteArray} : ∀ {m : List ByteArray}, x ∈ m → (m.filter fun y => !decide (y = x)).length + 1 ≤ m.length
 | y :: m, h => by
  have hle := List.length_filter_le (fun y => !decide (y = x)) m
  by_cases e : y = x
  ·rw [List.filter_cons_of_neg (by simp [e]), List.length_cons]
   omega
  ·rw [List.filter_cons_of_pos (by simp [e]), List.length_cons, List.length_cons]
   have := I0 (x := x) (m := m) ((List.mem_cons.1 h).resolve_left fun h => e h.symm)
   omega
theorem IH : ∀ {l m : List ByteArray}, l.Nodup → (∀ x ∈ l, x ∈ m) → l.length ≤ m.length
 | [], m, _, _ => Nat.zero_le _
 | x :: l, m, hn, hs => by
  obtain ⟨n1, n2⟩ := List.nodup_cons.1 hn
  have h1 := IH (m := m.filter fun y => !decide (y = x)) n2 fun y hy => List.mem_filter.2 ⟨hs y (by simp [hy]), by
   have : y ≠ x := fun e => n1 (by rw [← e]; exact hy)
   simp [this]⟩
  have := I0 (hs x (by simp))
  rw [List.length_cons]
  omega
theorem B6.len {U : List ByteArray} {C : Nat} {s : List Bd} {l : List Pr} (h : B6 U C s l) : s.length ≤ U.length := by
 have := IH (l := s.map (fun b : Bd => b.1)) (m := U) (CO h.ord) fun x hx => by
  obtain ⟨b, hb, rfl⟩ := List.mem_map.1 hx
  exact h.inU b hb
 simpa using this
theorem B6.stack {U : List ByteArray} {C : Nat} {s : List Bd} {l : List Pr} (h : B6 U C s l) : l.length ≤ C + 1 := by
 cases l with
 | nil => simp
 | cons p l => have := h.fits.1; simp; omega
def Fy (s : List Bd) : List Pr → Nat
 | [] => 0
 | p :: l => (p.1.on s).size + Fy s l
theorem Iy (s : List Bd) : ∀ (ps l : List Pr), Fy s (ps ++ l) = Fy s ps + Fy s l
 | [], l => by simp [Fy]
 | p :: ps, l => by rw [List.cons_append, Fy, Iy s ps l, Fy]; omega
theorem EQ {α β : Type} {xs : List α} {ys : List β} {c : α × β} (h : c ∈ xs.zip ys) : c.1 ∈ xs ∧ c.2 ∈ ys := by
 obtain ⟨a, b⟩ := c
 exact ⟨(List.of_mem_zip h).1, (List.of_mem_zip h).2⟩
theorem B6.tail {U : List ByteArray} {C : Nat} {s : List Bd} {p : Pr} {l : List Pr} (h : B6 U C s (p :: l)) : B6 U C s l :=
 { h with lchk := fun q hq => h.lchk q (by simp [hq]), lU := fun q hq => h.lU q (by simp [hq]), lsiz := fun q hq => h.lsiz q (by simp [hq]), fits := h.fits.2 }
theorem onU {U : List ByteArray} {C : Nat} {s : List Bd} {l : List Pr} (h : B6 U C s l) {t : Tm} (hc : t.chk = 0) (hU : ∀ y, occ y t = true → y ∈ U) : (t.on s).chk = 0 ∧ I8 s (t.on s) ∧ ∀ y, occ y (t.on s) = true → y ∈ U := by
 refine ⟨Kf h.chk hc, fun b hb => ?_, fun y hy => ?_⟩
 ·cases ho : occ b.1 (t.on s) with
  | false => rfl
  | true =>
   rcases Qa h.var hc ho with ⟨_, k⟩ | ⟨c, hc', k⟩
   ·exact absurd rfl (k b hb)
   ·rw [h.idem c hc' b hb] at k; cases k
 ·rcases Qa h.var hc hy with ⟨k, _⟩ | ⟨c, hc', k⟩
  ·exact hU y k
  ·exact h.ranU c hc' y k
theorem KK {U : List ByteArray} {C : Nat} {s : List Bd} {l : List Pr} (h : B6 U C s l) {x : ByteArray} {t : Tm} (hx : AL x = true) (hxU : x ∈ U) (hxs : ∀ b ∈ s, b.1 ≠ x) (htc : t.chk = 0) (hts : t.size ≤ 2000) (htn : I8 s t) (htU : ∀ y, occ y t = true → y ∈ U) {s' : List Bd} {ps : List Pr} (hb : B5 s x t = .go s' ps) :
  ps = [] ∧ B6 U C s' l ∧ s.length < s'.length := by
 unfold B5 at hb
 split at hb
 ·cases hb
 rename_i ho
 have ho : occ x t = false := by simpa using ho
 split at hb
 ·rename_i hall
  cases hb
  have hone : ∀ b ∈ [(x, t)], AL b.1 = true := by simp [hx]
  have honec : ∀ b ∈ ([(x, t)] : List Bd), b.2.chk = 0 := by simp [htc]
  have hmem : ∀ b, b ∈ s.map (fun b => (b.1, b.2.on [(x, t)])) ++ [(x, t)] ↔ (∃ c ∈ s, b = (c.1, c.2.on [(x, t)])) ∨ b = (x, t) := fun b => by
   simp only [List.mem_append, List.mem_map, List.mem_singleton]
   constructor
   ·rintro (⟨c, hc, rfl⟩ | h)
    ·exact .inl ⟨c, hc, rfl⟩
    ·exact .inr h
   ·rintro (⟨c, hc, rfl⟩ | h)
    ·exact .inl ⟨c, hc, rfl⟩
    ·exact .inr h
  have hnamed : BK (s.map (fun b => (b.1, b.2.on [(x, t)])) ++ [(x, t)]) := by
   have := CO h.ord
   unfold BK at this ⊢
   rw [List.map_append, List.map_map, List.nodup_append]
   refine ⟨this, by simp, fun a ha b hb e => ?_⟩
   obtain ⟨c, hc, rfl⟩ := List.mem_map.1 ha
   simp only [List.map_cons, List.map_nil, List.mem_singleton] at hb
   exact hxs c hc (e.trans hb)
  have hoccr : ∀ c ∈ s, ∀ y, occ y (c.2.on [(x, t)]) = true → (occ y c.2 = true ∧ x ≠ y) ∨ occ y t = true := fun c hc y hy => by
   rcases Qa hone (h.chk c hc) hy with ⟨k1, k2⟩ | ⟨b, hb, k⟩
   ·exact .inl ⟨k1, k2 (x, t) (by simp)⟩
   ·rw [List.mem_singleton] at hb
    subst hb
    exact .inr k
  have hfree : ∀ b ∈ s.map (fun b => (b.1, b.2.on [(x, t)])) ++ [(x, t)], ∀ c ∈ s.map (fun b => (b.1, b.2.on [(x, t)])) ++ [(x, t)], occ c.1 b.2 = false := fun b hb c hc => by
   cases hoc : occ c.1 b.2 with
   | false => rfl
   | true =>
    exfalso
    rcases (hmem b).1 hb with ⟨b', hb', rfl⟩ | rfl
    ·rcases hoccr b' hb' _ hoc with ⟨k1, k2⟩ | k
     ·rcases (hmem c).1 hc with ⟨c', hc', rfl⟩ | rfl
      ·have := h.idem b' hb' c' hc'
       rw [k1] at this
       cases this
      ·exact k2 rfl
     ·rcases (hmem c).1 hc with ⟨c', hc', rfl⟩ | rfl
      ·have := htn c' hc'
       rw [k] at this
       cases this
      ·rw [k] at ho; cases ho
    ·rcases (hmem c).1 hc with ⟨c', hc', rfl⟩ | rfl
     ·have := htn c' hc'
      rw [hoc] at this
      cases this
     ·rw [hoc] at ho; cases ho
  have hlen : (Ay (s.map (fun b => (b.1, b.2.on [(x, t)])) ++ [(x, t)])).length = s.length + 1 := by rw [BM]; simp
  have hinU : ∀ b ∈ Ay (s.map (fun b => (b.1, b.2.on [(x, t)])) ++ [(x, t)]), b.1 ∈ U := fun b hb => by
   rcases (hmem b).1 (Bq.1 hb) with ⟨c, hc, rfl⟩ | rfl
   ·exact h.inU c hc
   ·exact hxU
  have hle : s.length + 1 ≤ U.length := by
   have := IH (l := (Ay (s.map (fun b => (b.1, b.2.on [(x, t)])) ++ [(x, t)])).map (fun b : Bd => b.1)) (m := U) (CO (Bb hnamed)) fun y hy => by
    obtain ⟨b, hb, rfl⟩ := List.mem_map.1 hy
    exact hinU b hb
   rw [List.length_map, hlen] at this
   exact this
  refine ⟨rfl, ⟨Bb hnamed, fun b hb => ?_, hinU, fun b hb => ?_, fun b hb => ?_, fun b hb c hc => hfree b (Bq.1 hb) c (Bq.1 hc), fun b hb y hy => ?_, h.lchk, h.lU, h.lsiz, IF.less (by rw [hlen]; omega) h.fits⟩, by rw [hlen]; omega⟩
  ·rcases (hmem b).1 (Bq.1 hb) with ⟨c, hc, rfl⟩ | rfl
   ·exact h.var c hc
   ·exact hx
  ·rcases (hmem b).1 (Bq.1 hb) with ⟨c, hc, rfl⟩ | rfl
   ·exact Kf honec (h.chk c hc)
   ·exact htc
  ·rcases (hmem b).1 (Bq.1 hb) with ⟨c, hc, rfl⟩ | rfl
   ·have := List.all_eq_true.1 hall c hc
    simpa using this
   ·exact hts
  ·rcases (hmem b).1 (Bq.1 hb) with ⟨c, hc, rfl⟩ | rfl
   ·rcases hoccr c hc y hy with k | k
    ·exact h.ranU c hc y k.1
    ·exact htU y k
   ·exact htU y hy
 ·cases hb
theorem DJ {U : List ByteArray} {C : Nat} {s : List Bd} {p : Pr} {l : List Pr} (h : B6 U C s (p :: l)) {s' : List Bd} {ps : List Pr} (hs : BZ s p = .go s' ps) :
  B6 U C s' (ps ++ l) ∧ (s.length < s'.length ∨ (s' = s ∧ Fy s (ps ++ l) < Fy s (p :: l))) := by
 obtain ⟨hc1, hc2⟩ := h.lchk p (by simp)
 have hU := h.lU p (by simp)
 obtain ⟨a1, a2, a3⟩ := onU h hc1 fun y => (hU y).1
 obtain ⟨b1, b2, b3⟩ := onU h hc2 fun y => (hU y).2
 have hpos := Tm.size_pos (p.1.on s)
 have nameNo : ∀ {t : Tm}, I8 s t → ∀ b ∈ s, b.1 ≠ t.name := fun {t} hn b hb e => (M6 (hn b hb)).1 e.symm
 have nameU : ∀ {t : Tm}, (∀ y, occ y t = true → y ∈ U) → t.name ∈ U := fun {t} ht => ht _ (GJ.2 (.inl rfl))
 unfold BZ at hs
 split at hs
 ·cases hs
 rename_i hz
 rw [not_or] at hz
 split at hs
 ·cases hs
  exact ⟨h.tail, .inr ⟨rfl, by simp only [List.nil_append, Fy]; omega⟩⟩
 split at hs
 ·rename_i hv
  obtain ⟨rfl, k1, k2⟩ := KK h.tail hv (nameU a3) (nameNo a2) b1 (by omega) b2 b3 hs
  exact ⟨k1, .inl k2⟩
 split at hs
 ·rename_i hv
  obtain ⟨rfl, k1, k2⟩ := KK h.tail hv (nameU b3) (nameNo b2) a1 (by omega) a2 a3 hs
  exact ⟨k1, .inl k2⟩
 split at hs
 ·rename_i heq
  cases hs
  have hsz := Tm.size_eq (p.1.on s)
  have hlen := Tm.length_le (p.1.on s).args
  have hid : ∀ a ∈ (p.1.on s).args, a.on s = a := fun a ha => V4 fun b hb => (M6 (a2 b hb)).2 a ha
  have hsum : ∀ (xs ys : List Tm), (∀ a ∈ xs, a.on s = a) → Fy s (xs.zip ys) ≤ Tm.sizes xs := by
   intro xs
   induction xs with
   | nil => intro ys _; simp [Fy]
   | cons x xs ih =>
    intro ys hx
    cases ys with
    | nil => simp [Fy]
    | cons y ys =>
     have := ih ys fun a ha => hx a (by simp [ha])
     simp only [List.zip_cons_cons, Fy, Tm.sizes]
     rw [hx x (by simp)]
     omega
  have hzl : ((p.1.on s).args.zip (p.2.on s).args).length ≤ (p.1.on s).args.length := by rw [List.length_zip]; exact Nat.min_le_left _ _
  have hmin : min (p.1.on s).size 2000 = (p.1.on s).size := Nat.min_eq_left (by omega)
  have hf := h.fits.1
  rw [hmin] at hf
  have hszb := Tm.size_eq (p.2.on s)
  refine ⟨⟨h.ord, h.var, h.inU, h.chk, h.siz, h.idem, h.ranU, fun q hq => ?_, fun q hq => ?_, fun q hq => ?_, IF.more (m := (p.1.on s).size - 1) (by omega) (by omega) h.fits.2 (by omega) fun c hc => ?_⟩, .inr ⟨rfl, ?_⟩⟩
  ·rcases List.mem_append.1 hq with hq | hq
   ·exact ⟨(Tm.chk_args a1).2 _ (EQ hq).1, (Tm.chk_args b1).2 _ (EQ hq).2⟩
   ·exact h.tail.lchk q hq
  ·rcases List.mem_append.1 hq with hq | hq
   ·exact fun y => ⟨fun hy => a3 y (JN (EQ hq).1 hy), fun hy => b3 y (JN (EQ hq).2 hy)⟩
   ·exact h.tail.lU q hq
  ·rcases List.mem_append.1 hq with hq | hq
   ·have h1 := Tm.size_mem (EQ hq).1
    have h2 := Tm.size_mem (EQ hq).2
    omega
   ·exact h.tail.lsiz q hq
  ·rw [hid _ (EQ hc).1]
   have h1 := Tm.size_mem (EQ hc).1
   omega
  ·rw [Iy]
   have h1 := hsum _ (p.2.on s).args hid
   simp only [Fy]
   omega
 ·cases hs
theorem IE {U : List ByteArray} {C : Nat} : ∀ (v m : Nat) (s : List Bd) (l : List Pr), B6 U C s l → U.length - s.length = v → Fy s l = m → ∃ n r, Ck n s l r := by
 intro v
 induction v using Nat.strongRecOn with
 | _ v ihv =>
 intro m
 induction m using Nat.strongRecOn with
 | _ m ihm =>
 intro s l h hv hm
 cases l with
 | nil => exact ⟨0, _, .nil⟩
 | cons p l =>
  cases hs : BZ s p with
  | err e => exact ⟨1, _, .err hs⟩
  | go s' ps =>
   obtain ⟨h', hd⟩ := DJ h hs
   have hlen := h'.len
   rcases hd with hd | ⟨rfl, hd⟩
   ·obtain ⟨n, r, hr⟩ := ihv (U.length - s'.length) (by omega) _ s' _ h' rfl rfl
    exact ⟨n + 1, r, .go hs hr⟩
   ·obtain ⟨n, r, hr⟩ := ihm (Fy s' (ps ++ l)) (by omega) s' _ h' hv rfl
    exact ⟨n + 1, r, .go hs hr⟩


theorem HC (y : ByteArray) : lookup [] y = none := rfl
theorem Fc (b : Bd) (l : List Bd) (y : ByteArray) : lookup (b :: l) y = if b.1 = y then some b.2 else lookup l y := by
 unfold lookup
 by_cases h : b.1 = y
 ·rw [List.find?_cons_of_pos (by simpa using h), if_pos h]; rfl
 ·rw [List.find?_cons_of_neg (by simpa using h), if_neg h]
theorem PS {l : List Bd} (hn : BK l) {y : ByteArray} {x : Tm} : lookup l y = some x ↔ (y, x) ∈ l := by
 induction l with
 | nil => simp [HC]
 | cons b l ih =>
  obtain ⟨n1, n2⟩ := List.nodup_cons.1 (show ((b :: l).map fun c : Bd => c.1).Nodup from hn)
  rw [Fc, List.mem_cons]
  by_cases h : b.1 = y
  ·rw [if_pos h]
   constructor
   ·intro e
    cases e
    exact .inl (by rw [← h])
   ·rintro (e | e)
    ·rw [← e]
    ·exact absurd (List.mem_map.2 ⟨(y, x), e, rfl⟩) (by subst h; exact n1)
  ·rw [if_neg h, ih n2]
   constructor
   ·exact .inr
   ·rintro (e | e)
    ·exact absurd (by rw [← e]) h
    ·exact e
def U5 (y : ByteArray) : Tm := .mk y []
structure OkB (s : List Bd) : Prop where
 ord : BA s
 var : ∀ b ∈ s, AL b.1 = true
 nam : ∀ b ∈ s, Ax b.1 = true
 chk : ∀ b ∈ s, b.2.chk = 0
theorem MK {t : Tm} (h : t.chk = 0) : BQ t = 0 := by
 rw [Tm.chk_eq] at h
 by_cases h1 : BQ t = 0
 ·exact h1
 ·rw [if_neg h1] at h; exact h
theorem PG {n : ByteArray} {xs ys : List Tm} (h : (Tm.mk n xs).chk = 0) (hl : ys.length = xs.length) (hy : ∀ y ∈ ys, y.chk = 0) : (Tm.mk n ys).chk = 0 := by
 have h1 : BQ (Tm.mk n ys) = 0 := by
  have := MK h
  unfold BQ at this ⊢
  rw [Tm.name_mk, Tm.args_mk] at this ⊢
  rw [hl]; exact this
 rw [Tm.chk_eq, if_pos h1, Tm.args_mk]
 clear h h1 hl
 induction ys with
 | nil => rfl
 | cons x ys ih =>
  simp only [Tm.chkL]
  rw [if_pos (hy x (by simp))]
  exact ih fun y h => hy y (by simp [h])
theorem VW {s : List Bd} (hs : ∀ b ∈ s, b.2.chk = 0) {t : Tm} (hc : t.chk = 0) : (t.on s).chk = 0 := by
 induction hN : SizeOf.sizeOf t using Nat.strongRecOn generalizing t with
 | _ N ih =>
 subst hN
 obtain ⟨c1, c2⟩ := Tm.chk_args hc
 by_cases hleaf : (∃ x, lookup s t.name = some x) ∧ t.args = []
 ·obtain ⟨⟨x, hx⟩, h0⟩ := hleaf
  rw [Tm.on_leaf hx h0]
  obtain ⟨b, hb, _, rfl⟩ := Cw hx
  exact hs b hb
 ·have hon : t.on s = .mk t.name (t.args.map (Tm.on s)) := Tm.on_knot (by
   cases hl : lookup s t.name with
   | none => exact .inl rfl
   | some x => exact .inr fun h0 => hleaf ⟨⟨x, hl⟩, h0⟩)
  rw [hon]
  refine PG (xs := t.args) (by cases t; exact hc) (by simp) fun y hy => ?_
  obtain ⟨c, hc', rfl⟩ := List.mem_map.1 hy
  exact ih _ (Tm.lt_of_arg hc') (c2 c hc') rfl
theorem N1 {y : ByteArray} (h : Ax y = true) : (U5 y).chk = 0 := by
 have h0 : BQ (U5 y) = 0 := by
  unfold BQ U5
  rw [Tm.name_mk, if_pos h, if_neg (by simp [Tm.args_mk])]
 rw [Tm.chk_eq, if_pos h0]
 rfl

end Go.Proofs.YtgepacmabaaohaaGreatDoor
