/-
  Part 5 of the texts. Conditions: none.
-/
import Derived.Test.YtgcddcaachpbnaaGreatReM4
import Derived.Shelf.Sort.Plain
import Derived.Shelf.Slices.In.SortNone
import Derived.Test.YtgcddcaachpbnaaGreatProg
import Derived.Sort.Walk0
namespace Go.Proofs.YtgcddcaachpbnaaGreat
open Go Go.RowKit
set_option linter.unusedVariables false
set_option linter.unusedSimpArgs false
set_option maxHeartbeats 400000
mutual
def AC.clear (ds : List Nat) : AC → Bool
 | .row id _ => !ds.contains id
 | .part id _ _ => !ds.contains id
 | .rest id _ _ => !ds.contains id
 | .ptr id _ _ _ => !ds.contains id
 | .mptr id => !ds.contains id
 | .yld id => !ds.contains id
 | .ubool => true
 | .fn _ caps => AC.clears ds caps
 | .st _ => true
 | .full _ => true
 | .eptr _ => true
 | .any => true
def AC.clears (ds : List Nat) : List AC → Bool
 | [] => true
 | c :: cs => c.clear ds && AC.clears ds cs
end
theorem Jn {ds : List Nat} : ∀ {l : List AC}, AC.clears ds l = true → ∀ a ∈ l, a.clear ds = true
 | [], _, a, ha => by simp at ha
 | x :: xs, hx, a, ha => by
  rw [AC.clears, Bool.and_eq_true] at hx
  rcases List.mem_cons.1 ha with rfl | ha
  ·exact hx.1
  ·exact Jn hx.2 a ha
def AC.purge (ds : List Nat) : AC → AC
 | .row id n => if ds.contains id then .any else .row id n
 | .part id k n => if ds.contains id then .any else .part id k n
 | .rest id k n => if ds.contains id then .any else .rest id k n
 | .ptr id n k off => if ds.contains id then .any else .ptr id n k off
 | .mptr id => if ds.contains id then .any else .mptr id
 | .yld id => if ds.contains id then .any else .yld id
 | .fn f caps => if AC.clears ds caps then .fn f caps else .any
 | c => c
mutual
def AV.purge (ds : List Nat) : AV → AV
 | .one c => .one (c.purge ds)
 | .agg cs => .agg (cs.map (AC.purge ds))
 | .tup vs => .tup (AV.purges ds vs)
 | .any => .any
def AV.purges (ds : List Nat) : List AV → List AV
 | [] => []
 | v :: vs => v.purge ds :: AV.purges ds vs
end
def AL.purge (ds : List Nat) : AL → AL
 | .box e cs => .box e (cs.map (AC.purge ds))
 | .iter x n seen => .iter (x.purge ds) n seen
 | .loop env r => .loop (AV.purges ds env) r
 | b => b
def Ac (ds : List Nat) (S : AA) : AA := fun id => if ds.contains id then none else (S id).map (AL.purge ds)
def AS.drop (ds : List Nat) (s : AS) : AS := ⟨fun i => (s.env i).purge ds, Ac ds s.S⟩
theorem Co {ds : List Nat} (hds : ∀ d ∈ ds, d < 1000) {id : Nat} (h : 1000 ≤ id) : ds.contains id = false := by
 cases hc : ds.contains id with
 | false => rfl
 | true =>
  have := hds id (List.contains_iff_mem.1 hc)
  omega
mutual
theorem AC.clear_high {ds : List Nat} (hds : ∀ d ∈ ds, d < 1000) : ∀ {c : AC}, c.high = true → c.clear ds = true
 | .st _, _ => rfl
 | .full _, _ => rfl
 | .row id n, h => by
  rw [AC.high] at h
  rw [AC.clear, Co hds (of_decide_eq_true h)]
  rfl
 | .part id k n, h => by
  rw [AC.high] at h
  rw [AC.clear, Co hds (of_decide_eq_true h)]
  rfl
 | .rest id k n, h => by
  rw [AC.high] at h
  rw [AC.clear, Co hds (of_decide_eq_true h)]
  rfl
 | .ptr id n k off, h => by
  rw [AC.high] at h
  rw [AC.clear, Co hds (of_decide_eq_true h)]
  rfl
 | .mptr id, h => by
  rw [AC.high] at h
  rw [AC.clear, Co hds (of_decide_eq_true h)]
  rfl
 | .yld id, h => by
  rw [AC.high] at h
  rw [AC.clear, Co hds (of_decide_eq_true h)]
  rfl
 | .ubool, _ => rfl
 | .eptr _, _ => rfl
 | .fn f caps, h => by
  rw [AC.high] at h
  rw [AC.clear]
  exact AC.clears_highs hds h
 | .any, _ => rfl
theorem AC.clears_highs {ds : List Nat} (hds : ∀ d ∈ ds, d < 1000) : ∀ {cs : List AC}, AC.highs cs = true → AC.clears ds cs = true
 | [], _ => rfl
 | c :: cs, h => by
  rw [AC.highs, Bool.and_eq_true] at h
  rw [AC.clears, AC.clear_high hds h.1, AC.clears_highs hds h.2]
  rfl
end
theorem AC.purge_high {ds : List Nat} (hds : ∀ d ∈ ds, d < 1000) : ∀ {c : AC}, c.high = true → c.purge ds = c
 | .st _, _ => rfl
 | .full _, _ => rfl
 | .row id n, h => by
  rw [AC.high] at h
  simp only [AC.purge, Co hds (of_decide_eq_true h), Bool.false_eq_true, if_false]
 | .part id k n, h => by
  rw [AC.high] at h
  simp only [AC.purge, Co hds (of_decide_eq_true h), Bool.false_eq_true, if_false]
 | .rest id k n, h => by
  rw [AC.high] at h
  simp only [AC.purge, Co hds (of_decide_eq_true h), Bool.false_eq_true, if_false]
 | .ptr id n k off, h => by
  rw [AC.high] at h
  simp only [AC.purge, Co hds (of_decide_eq_true h), Bool.false_eq_true, if_false]
 | .mptr id, h => by
  rw [AC.high] at h
  simp only [AC.purge, Co hds (of_decide_eq_true h), Bool.false_eq_true, if_false]
 | .yld id, h => by
  rw [AC.high] at h
  simp only [AC.purge, Co hds (of_decide_eq_true h), Bool.false_eq_true, if_false]
 | .ubool, _ => rfl
 | .eptr _, _ => rfl
 | .fn f caps, h => by
  rw [AC.high] at h
  simp only [AC.purge, AC.clears_highs hds h, if_true]
 | .any, _ => rfl
mutual
theorem AV.purge_high {ds : List Nat} (hds : ∀ d ∈ ds, d < 1000) : ∀ {c : AV}, c.high = true → c.purge ds = c
 | .one c, h => by rw [AV.high] at h; rw [AV.purge, AC.purge_high hds h]
 | .agg cs, h => by
  rw [AV.high] at h
  rw [AV.purge]
  congr 1
  exact (List.map_congr_left fun a ha => AC.purge_high hds (CT h a ha)).trans (List.map_id _)
 | .tup vs, h => by rw [AV.high] at h; rw [AV.purge, AV.purges_high hds h]
 | .any, _ => rfl
theorem AV.purges_high {ds : List Nat} (hds : ∀ d ∈ ds, d < 1000) : ∀ {c : List AV}, AV.highs c = true → AV.purges ds c = c
 | [], _ => rfl
 | c :: cs, h => by
  rw [AV.highs, Bool.and_eq_true] at h
  rw [AV.purges, AV.purge_high hds h.1, AV.purges_high hds h.2]
end
theorem AL.purge_high {ds : List Nat} (hds : ∀ d ∈ ds, d < 1000) {b : AL} (h : b.high = true) : b.purge ds = b := by
 cases b with
 | box e cs =>
  rw [AL.high] at h
  simp only [AL.purge]
  congr 1
  exact (List.map_congr_left fun a ha => AC.purge_high hds (CT h a ha)).trans (List.map_id _)
 | arow => rfl
 | mrow => rfl
 | map => rfl
 | memo => rfl
 | iter x =>
  rw [AL.high] at h
  simp only [AL.purge, AC.purge_high hds h]
 | loop env r =>
  rw [AL.high] at h
  simp only [AL.purge, AV.purges_high hds h]
 | dead => rfl
theorem NI {ds : List Nat} (hds : ∀ d ∈ ds, d < 1000) {S : AA} (h : Ar S) : Ac ds S = S := by
 funext id
 unfold Ac
 cases hb : S id with
 | none => split <;> rfl
 | some b =>
  obtain ⟨h1, h2⟩ := h id b hb
  rw [Co hds h1, if_neg (by simp), Option.map_some, AL.purge_high hds h2]
theorem Oe {ds : List Nat} {S : AA} {i : Nat} {b : Option AL} (h : ds.contains i = true) : Ac ds (AG S i b) = Ac ds S := by
 funext k
 unfold Ac
 by_cases e : k = i
 ·subst e
  rw [if_pos h, if_pos h]
 ·rw [AH _ e]
theorem IL {ds : List Nat} {S : AA} {i : Nat} {b : AL} (h : ds.contains i = false) : Ac ds (AG S i (some b)) = AG (Ac ds S) i (some (b.purge ds)) := by
 funext k
 unfold Ac
 by_cases e : k = i
 ·subst e
  rw [AE, AE, if_neg (by rw [h]; simp)]
  rfl
 ·rw [AH _ e, AH _ e]
section
variable {C : Ctx} {σ : Sto} {ι : Ax} {s : AS} {a : Act} {w : World} {ds : List Nat}
theorem BM (b : AL) : (b.purge ds).len = b.len := by cases b <;> rfl
theorem F_ (b : AL) : (b.purge ds).wid = b.wid := by cases b <;> rfl
theorem Ao.keepClear {ds : List Nat} {S S2 : AA} (hS : ∀ id b, ds.contains id = false → S id = some b → ∃ b', S2 id = some b' ∧ b'.len = b.len ∧ b'.wid = b.wid) {v : Value} {c : AC} (h : Ao σ S ι v c) (hc : c.clear ds = true) : Ao σ S2 ι v c := by
 induction h with
 | st h => exact .st h
 | full h => exact .full h
 | row h1 h2 h3 h4 =>
  rw [AC.clear] at hc
  obtain ⟨b', q1, q2, q3⟩ := hS _ _ (by simpa using hc) h1
  exact .row q1 (by rw [q2]; exact h2) h3 (by rw [q2]; exact h4)
 | part h1 h2 h3 h4 =>
  rw [AC.clear] at hc
  obtain ⟨b', q1, q2, q3⟩ := hS _ _ (by simpa using hc) h1
  exact .part q1 (by rw [q2]; exact h2) h3 (by rw [q2]; exact h4)
 | rest h1 h2 h3 h4 =>
  rw [AC.clear] at hc
  obtain ⟨b', q1, q2, q3⟩ := hS _ _ (by simpa using hc) h1
  exact .rest q1 (by rw [q2]; exact h2) h3 (by rw [q2, q3]; exact h4)
 | ptr h1 h2 h3 h4 =>
  rw [AC.clear] at hc
  obtain ⟨b', q1, q2, q3⟩ := hS _ _ (by simpa using hc) h1
  exact .ptr q1 (by rw [q2]; exact h2) h3 (by rw [q2, q3]; exact h4)
 | mptr h1 h2 h3 h4 =>
  rw [AC.clear] at hc
  obtain ⟨b', q1, q2, q3⟩ := hS _ _ (by simpa using hc) h1
  exact .mptr q1 (by rw [q2]; exact h2) h3 (by rw [q2]; exact h4)
 | yld h1 h2 h3 h4 =>
  rw [AC.clear] at hc
  obtain ⟨b', q1, q2, q3⟩ := hS _ _ (by simpa using hc) h1
  exact .yld q1 (by rw [q2]; exact h2) h3 (by rw [q2]; exact h4)
 | ubool => exact .ubool
 | eptr c h1 h2 hh => exact .eptr c h1 h2 hh
 | fn c h1 h2 h3 ih =>
  rw [AC.clear] at hc
  exact .fn c h1 h2 (fun j a ha => ih j a ha (Jn hc a (List.mem_of_getElem? ha)))
 | any h => exact .any h
theorem Ao.purge (hds : ∀ d ∈ ds, d < 1000) {v : Value} {c : AC} (h : Ao σ s.S ι v c) : Ao σ (s.drop ds).S ι v (c.purge ds) := by
 have h0 := h
 cases h with
 | st h => exact .st h
 | full h => exact .full h
 | @row _ id n b h1 h2 h3 h4 =>
  simp only [AC.purge]
  split
  ·exact .any h3
  ·rename_i hn
   exact .row (b := b.purge ds) (by simp only [AS.drop, Ac, hn]; rw [h1]; rfl) (by rw [BM]; exact h2) h3 (by rw [BM]; exact h4)
 | @part _ id k n b h1 h2 h3 h4 =>
  simp only [AC.purge]
  split
  ·exact .any h3
  ·rename_i hn
   exact .part (b := b.purge ds) (by simp only [AS.drop, Ac, hn]; rw [h1]; rfl) (by rw [BM]; exact h2) h3 (by rw [BM]; exact h4)
 | @rest _ id k n b h1 h2 h3 h4 =>
  simp only [AC.purge]
  split
  ·exact .any h3
  ·rename_i hn
   exact .rest (b := b.purge ds) (by simp only [AS.drop, Ac, hn]; rw [h1]; rfl) (by rw [BM]; exact h2) h3 (by rw [BM, F_]; exact h4)
 | @ptr _ id n k off b h1 h2 h3 h4 =>
  simp only [AC.purge]
  split
  ·exact .any h3
  ·rename_i hn
   exact .ptr (b := b.purge ds) (by simp only [AS.drop, Ac, hn]; rw [h1]; rfl) (by rw [BM]; exact h2) h3 (by rw [BM, F_]; exact h4)
 | @mptr _ id b h1 h2 h3 h4 =>
  simp only [AC.purge]
  split
  ·exact .any h3
  ·rename_i hn
   exact .mptr (b := b.purge ds) (by simp only [AS.drop, Ac, hn]; rw [h1]; rfl) (by rw [BM]; exact h2) h3 (by rw [BM]; exact h4)
 | @yld _ id b h1 h2 h3 h4 =>
  simp only [AC.purge]
  split
  ·exact .any h3
  ·rename_i hn
   exact .yld (b := b.purge ds) (by simp only [AS.drop, Ac, hn]; rw [h1]; rfl) (by rw [BM]; exact h2) h3 (by rw [BM]; exact h4)
 | ubool => exact .ubool
 | eptr c h1 h2 hh => exact .eptr c h1 h2 hh
 | @fn f vs caps c h1 h2 h3 =>
  simp only [AC.purge]
  split
  ·rename_i hh
   exact h0.keepClear (ds := ds) (fun id b hid hb => ⟨b.purge ds, by
    show Ac ds s.S id = _
    unfold Ac
    rw [hid, hb]
    rfl, BM b, F_ b⟩) (by rw [AC.clear]; exact hh)
  ·exact .any rfl
 | any h => exact .any h
mutual
theorem AR.purge (hds : ∀ d ∈ ds, d < 1000) : ∀ {v : Value} {c : AV}, AR σ s.S ι v c → AR σ (s.drop ds).S ι v (c.purge ds)
 | v, .one c, h => by cases h with | one h => exact .one (h.purge hds)
 | v, .agg cs, h => by cases h with | agg h => exact .agg ((h.mono fun _ _ x => x.purge hds).map_right)
 | v, .tup vs, h => by
  cases h with
  | tup c h1 h2 h3 =>
   obtain ⟨k1, k2⟩ := AR.purges hds (c := c) h3
   exact .tup c (by rw [h1, k1]) (fun j b hb => by
    rcases Nat.lt_or_ge j vs.length with hj | hj
    ·exact h2 j _ (List.getElem?_eq_getElem hj)
    ·rw [List.getElem?_eq_none (by omega)] at hb; cases hb) k2
 | v, .any, h => .any
theorem AR.purges (hds : ∀ d ∈ ds, d < 1000) : ∀ {vs : List AV} {c : Nat → Value}, (∀ j b, vs[j]? = some b → AR σ s.S ι (c j) b) → vs.length = (AV.purges ds vs).length ∧ ∀ j b, (AV.purges ds vs)[j]? = some b → AR σ (s.drop ds).S ι (c j) b
 | [], c, h => by simp [AV.purges]
 | x :: xs, c, h => by
  obtain ⟨m1, m2⟩ := AR.purges hds (vs := xs) (c := fun j => c (j + 1)) (fun j b hb => h (j + 1) b (by simpa using hb))
  refine ⟨by simp [AV.purges, ← m1], fun j b hb => ?_⟩
  cases j with
  | zero =>
   simp [AV.purges] at hb
   subst hb
   exact AR.purge hds (h 0 x rfl)
  | succ j => exact m2 j b (by simpa [AV.purges] using hb)
end
theorem Be.purge (hds : ∀ d ∈ ds, d < 1000) {h : Hnd} {b : AL} (hr : Be σ s.S ι w h b) : Be σ (s.drop ds).S ι w h (b.purge ds) := by
 cases hr with
 | box h1 h2 h3 h4 h5 => exact .box h1 h2 h3 ((h4.mono fun _ _ x => x.purge hds).map_right) h5
 | afull h1 h2 h3 h4 => exact .afull h1 h2 h3 h4
 | arow h1 h2 h3 h4 h5 h6 h7 h8 h9 hh => exact .arow h1 h2 h3 h4 h5 h6 h7 h8 h9 hh
 | mnil h1 h2 => exact .mnil h1 h2
 | mrow h1 h2 h3 h4 h5 h6 h7 h8 h9 => exact .mrow h1 h2 h3 h4 h5 h6 h7 h8 h9
 | map h1 h2 h3 h4 => exact .map h1 h2 h3 h4
 | memo h1 h2 h3 h4 => exact .memo h1 h2 h3 h4
 | iter h1 h2 h3 h4 => exact .iter h1 h2 (h3.purge hds) h4
 | loop h1 h2 h3 h4 h5 =>
  obtain ⟨k1, k2⟩ := AR.purges hds h4
  exact .loop h1 h2 (by rw [← k1]; exact h3) k2 h5
 | dead h1 => exact .dead h1
theorem F1 {id : Nat} {b : AL} (h : (s.drop ds).S id = some b) : ∃ b', s.S id = some b' ∧ b = b'.purge ds := by
 simp only [AS.drop, Ac] at h
 split at h
 ·cases h
 ·rw [Option.map_eq_some_iff] at h
  obtain ⟨b', h1, h2⟩ := h
  exact ⟨b', h1, h2.symm⟩
theorem Aa.drop (ds : List Nat) (s : AS) (hds : ∀ d ∈ ds, d < 1000) : Aa C s (s.drop ds) := fun a w ⟨σ, ι, R⟩ => by
 refine ⟨σ, ι, R.size, fun i hi => (R.env i hi).purge hds, R.nod, R.fit, fun id b h => ?_, fun id id' b b' g h1 h2 g1 g2 => ?_, fun id b g h hg => ?_, R.ext, R.old, R.os, R.grown, R.same, fun id b hb => ?_⟩
 ·obtain ⟨b', h1, rfl⟩ := F1 h
  exact (R.blk id b' h1).purge hds
 ·obtain ⟨c1, k1, _⟩ := F1 h1
  obtain ⟨c2, k2, _⟩ := F1 h2
  exact R.inj _ _ _ _ _ k1 k2 g1 g2
 ·obtain ⟨c1, k1, _⟩ := F1 h
  exact R.base _ _ _ k1 hg
 ·obtain ⟨b', h1, h2, h3⟩ := R.upd id b hb
  have hid := (C.clean id b hb).1
  have hnc : ds.contains id = false := by
   cases hc : ds.contains id with
   | false => rfl
   | true =>
    have := hds id (List.contains_iff_mem.1 hc)
    omega
  refine ⟨b'.purge ds, by simp only [AS.drop, Ac, hnc]; rw [h1]; rfl, by rw [BM]; exact h2, fun hl => ?_⟩
  rw [BM] at hl
  rw [F_]
  exact h3 hl
theorem Aa.share {id : Nat} {e : TypeId} {wd : Nat} {xs : List (List SV)} (hS : s.S id = some (.mrow e wd xs)) : Aa C s (s.set id (.arow e wd xs)) := fun a w ⟨σ, ι, R⟩ => by
 have hb := R.blk _ _ hS
 have hι : AG ι id (ι id) = ι := by
  funext k
  unfold AG
  split
  ·rename_i h; rw [h]
  ·rfl
 cases hb with
 | mnil h1 h2 =>
  obtain ⟨hu, R'⟩ := R.turn (w' := w) hS (.arow e wd []) (ι id) (σ' := σ) (fun _ _ h => h) (fun _ _ _ => rfl) R.fit (Nat.le_refl _) (fun _ => ⟨rfl, rfl⟩) ⟨rfl, rfl, rfl⟩ (Nat.le_refl _) (fun _ _ _ => rfl) (fun g h => .inl h) (fun hu => .afull h1 (by simpa using h2) (by simp) (.list (b := 0) (o := 0) (w := 0) (fun _ _ => undef) rfl (by simp) (by rw [h2]; simp [maxLen]) (fun _ => h2) (by simp) (by simp) (fun _ h _ => absurd h (by omega)) (by simp) (by simp)))
  exact ⟨σ, _, R'⟩
 | @mrow _ _ _ g vs h1 h2 h3 h4 h5 h6 h7 h8 h9 =>
  have hl : A_ σ vs.toList wd xs := ⟨h7, fun k x j y hx hy => by simpa using h8 k x j y hx hy⟩
  have hkeep := EX (σ := σ) (w' := w) (g := g) (k := xs.length * wd) (fun p x e hx => by rw [h9 _ e] at hx; cases hx)
  obtain ⟨hu, R'⟩ := R.turn (w' := w) hS (.arow e wd xs) (ι id) (σ' := D1 σ w g (xs.length * wd)) hkeep (fun p hp _ => EY (fun e => hp (by rw [e]; exact h1))) (Ds R.fit) (Nat.le_refl _) (fun _ => ⟨rfl, rfl⟩) ⟨rfl, rfl, rfl⟩ (Nat.le_refl _) (fun _ _ _ => rfl) (fun g h => .inl h)
   (fun hu => by
    have := Hy (S' := (s.set id (.arow e wd xs)).S) (ι' := AG ι id (ι id)) (w' := w) (p := (ι id).p) h2 h3 h4 h5 h6 hl hkeep (fun p hp hne => absurd (h9 p hp) hne)
    rw [← h1] at this
    exact this)
  exact ⟨_, _, R'⟩
theorem Aa.own (t id : Nat) (e : TypeId) (wd : Nat) {xs : List (List SV)} (ht : s.env t = .one (.full xs)) (hid : s.S id = none) (hw : ∀ x ∈ xs, x.length = wd) (hn : t < C.n) : Aa C s ⟨AG s.env t (.one (.row id xs.length)), AG s.S id (some (.arow e wd xs))⟩ := fun a w ⟨σ, ι, R⟩ => by
 have rt := R.env t hn
 rw [ht] at rt
 generalize hv : a.tmps.getD t undef = v at rt
 cases AY rt with
 | @full p len xs hs =>
  have hl : len = xs.length := by
   obtain ⟨p', cap', e1, _⟩ := B9 hs
   cases e1
   rfl
  subst hl
  obtain ⟨hu, R'⟩ := R.fresh (w' := w) hid (.arow e wd xs) ⟨p, xs.length, none⟩ (Ext.refl _ _) R.fit (Below.refl _ _) (by simp) (fun S' ι' hu => .afull rfl rfl hw hs)
  refine ⟨σ, _, R'.size, fun i hi => ?_, R'.nod, R'.fit, R'.blk, R'.inj, R'.base, R'.ext, R'.old, R'.os, R'.grown, R'.same, R'.upd⟩
  show AR σ (s.set id (.arow e wd xs)).S _ _ (AG s.env t _ i)
  unfold AG
  split
  ·rename_i e1
   subst e1
   rw [hv]
   exact .one (.row (b := .arow e wd xs) (by simp [AS.set, AE]) (Nat.le_refl _) rfl fun _ => by simp [AG])
  ·exact R'.env i hi
theorem Aa.ownM (t id : Nat) (e : TypeId) (wd : Nat) (ht : s.env t = .one (.full [])) (hid : s.S id = none) (hn : t < C.n) : Aa C s ⟨AG s.env t (.one (.row id 0)), AG s.S id (some (.mrow e wd []))⟩ := fun a w ⟨σ, ι, R⟩ => by
 have rt := R.env t hn
 rw [ht] at rt
 generalize hv : a.tmps.getD t undef = v at rt
 cases AY rt with
 | @full p len xs hs =>
  have hl : len = 0 := by
   obtain ⟨p', cap', e1, _⟩ := B9 hs
   cases e1
   rfl
  subst hl
  obtain ⟨hu, R'⟩ := R.fresh (w' := w) hid (.mrow e wd []) ⟨p, 0, none⟩ (Ext.refl _ _) R.fit (Below.refl _ _) (by simp) (fun S' ι' hu => .mnil rfl rfl)
  refine ⟨σ, _, R'.size, fun i hi => ?_, R'.nod, R'.fit, R'.blk, R'.inj, R'.base, R'.ext, R'.old, R'.os, R'.grown, R'.same, R'.upd⟩
  show AR σ (s.set id (.mrow e wd [])).S _ _ (AG s.env t _ i)
  unfold AG
  split
  ·rename_i e1
   subst e1
   rw [hv]
   exact .one (.row (b := .mrow e wd []) (by simp [AS.set, AE]) (Nat.le_refl _) rfl fun _ => by simp [AG])
  ·exact R'.env i hi
theorem Aa.keep (t id k n : Nat) {e : TypeId} {wd : Nat} {xs : List (List SV)} (ht : s.env t = .one (.part id k n)) (hS : s.S id = some (.arow e wd xs)) (hl : n = xs.length) (hn : t < C.n) : Aa C s ⟨AG s.env t (.one (.st (.list (xs.take k)))), s.S⟩ := fun a w ⟨σ, ι, R⟩ => by
 have rt := R.env t hn
 rw [ht] at rt
 refine ⟨σ, ι, R.size, fun i hi => ?_, R.nod, R.fit, R.blk, R.inj, R.base, R.ext, R.old, R.os, R.grown, R.same, R.upd⟩
 show AR σ s.S ι _ (AG s.env t _ i)
 unfold AG
 split
 ·rename_i e1
  subst e1
  obtain ⟨b, h1, h2, h3⟩ := Ea (AY rt)
  rw [hS] at h1
  cases h1
  obtain ⟨h4, h5⟩ := h3 hl
  rw [h5]
  have hb := R.blk _ _ hS
  have hr := hb.srep
  have hmem : ∀ {kk x}, (xs.take k)[kk]? = some x → xs[kk]? = some x := fun hx => by
   rw [List.getElem?_take] at hx
   split at hx
   ·exact hx
   ·cases hx
  cases hr with
  | @list p len cap b o w' _ c q1 q2 q3 q4 q5 q6 qh q7 q8 =>
   exact .one (.st (.list (b := b) (o := o) (w := w') c (by rw [List.length_take]; omega) (by omega) q3 q4 (fun hne => q5 (by omega)) (fun x hx => q6 x (List.mem_of_mem_take hx)) (fun e1 e2 e3 => qh e1 e2 (fun e4 => e3 (by rw [e4]; exact List.take_nil))) (fun kk x j a hx ha => q7 kk x j a (hmem hx) ha) (fun kk x j a hx ha => q8 kk x j a (hmem hx) ha)))
 ·exact R.env i hi
theorem Aa.ownC (id j nid : Nat) (e : TypeId) (wd : Nat) {xs : List (List SV)} {ty : TypeId} {cs : List AC} (hb : s.S id = some (.box ty cs)) (hc : cs[j]? = some (.full xs)) (hn : s.S nid = none) (hw : ∀ x ∈ xs, x.length = wd) :
  Aa C s ((s.set nid (.arow e wd xs)).set id (.box ty (cs.set j (.row nid xs.length)))) := fun a w ⟨σ, ι, R⟩ => by
 have hbk := R.blk id _ hb
 have hne : id ≠ nid := fun e => by subst e; rw [hb] at hn; cases hn
 cases hbk with
 | @box _ _ g vs h1 h2 h3 h4 h5 =>
  obtain ⟨v, hv, hr⟩ := h4.get hc
  cases hr with
  | @full p len xs hs =>
   have hl : len = xs.length := by
    obtain ⟨p', cap', e1, _⟩ := B9 hs
    cases e1
    rfl
   subst hl
   obtain ⟨hu, R'⟩ := R.fresh (w' := w) hn (.arow e wd xs) ⟨p, xs.length, none⟩ (Ext.refl _ _) R.fit (Below.refl _ _) (by simp) (fun S' ι' hu => .afull rfl rfl hw hs)
   have hb' : (s.set nid (.arow e wd xs)).S id = some (.box ty cs) := by simp [AS.set, AH _ hne, hb]
   have hι : AG ι nid ⟨p, xs.length, none⟩ id = ι id := AH _ hne _
   obtain ⟨hu2, R2⟩ := R'.turn (w' := w) hb' (.box ty (cs.set j (.row nid xs.length))) (AG ι nid ⟨p, xs.length, none⟩ id) (σ' := σ) (fun _ _ h => h) (fun _ _ _ => rfl) R.fit (Nat.le_refl _) (fun _ => ⟨by simp [AL.wid], rfl⟩) ⟨rfl, rfl, rfl⟩ (Nat.le_refl _) (fun _ _ _ => rfl) (fun g h => .inl h) (fun hu2 => by
    refine .box (by rw [hι]; exact h1) (by rw [hι]; exact h2) h3 (Ag.of_get (by rw [List.length_set]; exact h4.len) fun k u c hu' hck => ?_) h5
    by_cases hk : k = j
    ·subst hk
     rw [hv] at hu'
     cases hu'
     have hlt : k < cs.length := (List.getElem?_eq_some_iff.1 hc).1
     rw [List.getElem?_set_self hlt] at hck
     cases hck
     exact .row (b := .arow e wd xs) (by simp [AS.set, AG, hne.symm]) (Nat.le_refl _) rfl fun _ => by simp [AG, hne.symm]
    ·rw [List.getElem?_set_ne (fun e => hk e.symm)] at hck
     obtain ⟨u', q1, q2⟩ := h4.get hck
     rw [hu'] at q1
     cases q1
     exact (q2.mono (fun _ _ h => h) hu).mono (fun _ _ h => h) hu2)
   exact ⟨_, _, R2⟩
theorem P6 {v : Value} {c : AV} (h : AR σ noS noH v c) : AR σ s.S ι v c := h.mono (fun _ _ h => h) (HT _ _)
def AV.low (v : AV) : AV := if v.high then v else .any
theorem AQ.low (R : AQ C σ ι s a w) (hb : ∀ i b, 1000 ≤ i → s.S i = some b → b.high = true) : AQ C σ ι ⟨fun i => (s.env i).low, Bl s.S⟩ a w := by
 have hS : ∀ i b, 1000 ≤ i → s.S i = some b → Bl s.S i = some b := fun i b hi h => by
  show (if i < 1000 then none else s.S i) = some b
  rw [if_neg (by omega), h]
 have hinv : ∀ i b, Bl s.S i = some b → 1000 ≤ i ∧ s.S i = some b := fun i b h => by
  have h' : (if i < 1000 then none else s.S i) = some b := h
  split at h'
  ·cases h'
  ·exact ⟨by omega, h'⟩
 refine ⟨R.size, fun i hi => ?_, R.nod, R.fit, fun id b h => ?_, fun id id' b b' g h1 h2 g1 g2 => R.inj _ _ _ _ g (hinv _ _ h1).2 (hinv _ _ h2).2 g1 g2, fun id b g h hg => R.base _ _ g (hinv _ _ h).2 hg, R.ext, R.old, R.os, R.grown, R.same, fun id b h => ?_⟩
 ·show AR σ (Bl s.S) ι _ ((s.env i).low)
  unfold AV.low
  split
  ·rename_i hh
   exact (R.env i hi).low hS hh
  ·exact .any
 ·obtain ⟨h1, h2⟩ := hinv _ _ h
  have hh := hb id b h1 h2
  cases R.blk id b h2 with
  | box k1 k2 k3 k4 k5 => exact .box k1 k2 k3 (OB hS k4 hh) k5
  | afull k1 k2 k3 k4 => exact .afull k1 k2 k3 k4
  | arow k1 k2 k3 k4 k5 k6 k7 k8 k9 kh => exact .arow k1 k2 k3 k4 k5 k6 k7 k8 k9 kh
  | mnil k1 k2 => exact .mnil k1 k2
  | mrow k1 k2 k3 k4 k5 k6 k7 k8 k9 => exact .mrow k1 k2 k3 k4 k5 k6 k7 k8 k9
  | map k1 k2 k3 k4 => exact .map k1 k2 k3 k4
  | memo k1 k2 k3 k4 => exact .memo k1 k2 k3 k4
  | iter k1 k2 k3 k4 => exact .iter k1 k2 (k3.low hS hh) k4
  | loop k1 k2 k3 k4 k5 => exact .loop k1 k2 k3 (AR.lows hS k4 hh) k5
  | dead k1 => exact .dead k1
 ·obtain ⟨b', h1, h2⟩ := R.upd id b h
  exact ⟨b', hS _ _ (C.clean id b h).1 h1, h2⟩
theorem Aa.low (hb : ∀ i b, 1000 ≤ i → s.S i = some b → b.high = true) : Aa C s ⟨fun i => (s.env i).low, Bl s.S⟩ := fun a w ⟨σ, ι, R⟩ => ⟨σ, ι, R.low hb⟩
def BS (id a : Nat) (i : Nat) : Nat := if i = id then a else i
def AV.hand (id a : Nat) (v : AV) : AV := if (v.ren (BS id a)).high then v.ren (BS id a) else .any
section
variable {S S2 : AA} {ι2 : Ax} {id a0 : Nat}
theorem Ao.hand (hS : ∀ i b, 1000 ≤ BS id a0 i → S i = some b → S2 (BS id a0 i) = some b ∧ ι2 (BS id a0 i) = ι i) {v : Value} {c : AC} (h : Ao σ S ι v c) (hc : (c.ren (BS id a0)).high = true) : Ao σ S2 ι2 v (c.ren (BS id a0)) := by
 induction h with
 | st h => exact .st h
 | full h => exact .full h
 | row h1 h2 h3 h4 =>
  rw [AC.ren, AC.high] at hc
  obtain ⟨q1, q2⟩ := hS _ _ (of_decide_eq_true hc) h1
  rw [AC.ren]
  exact .row q1 h2 h3 (fun hn => by rw [q2]; exact h4 hn)
 | part h1 h2 h3 h4 =>
  rw [AC.ren, AC.high] at hc
  obtain ⟨q1, q2⟩ := hS _ _ (of_decide_eq_true hc) h1
  rw [AC.ren]
  exact .part q1 h2 h3 (fun hn => by rw [q2]; exact h4 hn)
 | rest h1 h2 h3 h4 =>
  rw [AC.ren, AC.high] at hc
  obtain ⟨q1, q2⟩ := hS _ _ (of_decide_eq_true hc) h1
  rw [AC.ren]
  exact .rest q1 h2 h3 (fun hn => by rw [q2]; exact h4 hn)
 | ptr h1 h2 h3 h4 =>
  rw [AC.ren, AC.high] at hc
  obtain ⟨q1, q2⟩ := hS _ _ (of_decide_eq_true hc) h1
  rw [AC.ren]
  exact .ptr q1 h2 h3 (fun hn => by rw [q2]; exact h4 hn)
 | mptr h1 h2 h3 h4 =>
  rw [AC.ren, AC.high] at hc
  obtain ⟨q1, q2⟩ := hS _ _ (of_decide_eq_true hc) h1
  rw [AC.ren]
  exact .mptr q1 h2 h3 (fun hn => by rw [q2]; exact h4 hn)
 | yld h1 h2 h3 h4 =>
  rw [AC.ren, AC.high] at hc
  obtain ⟨q1, q2⟩ := hS _ _ (of_decide_eq_true hc) h1
  rw [AC.ren]
  exact .yld q1 h2 h3 (fun hn => by rw [q2]; exact h4 hn)
 | ubool => exact .ubool
 | eptr c h1 h2 hh => exact .eptr c h1 h2 hh
 | @fn f vs caps c h1 h2 h3 ih =>
  rw [AC.ren, AC.high] at hc
  rw [AC.ren]
  have key : ∀ (j : Nat) (b : AC), (AC.rens (BS id a0) caps)[j]? = some b → ∃ a, caps[j]? = some a ∧ b = a.ren (BS id a0) := fun j b hb => by
   rw [AC.rens_eq, List.getElem?_map, Option.map_eq_some_iff] at hb
   obtain ⟨a, ha, rfl⟩ := hb
   exact ⟨a, ha, rfl⟩
  refine .fn c (by rw [AC.rens_eq]; simpa using h1) (fun j b hb => ?_) (fun j b hb => ?_)
  ·obtain ⟨a, ha, rfl⟩ := key j b hb
   exact h2 j a ha
  ·have hm := CT hc b (List.mem_of_getElem? hb)
   obtain ⟨a, ha, rfl⟩ := key j b hb
   exact ih j a ha hm
 | any h => exact .any h
mutual
theorem AR.hand (hS : ∀ i b, 1000 ≤ BS id a0 i → S i = some b → S2 (BS id a0 i) = some b ∧ ι2 (BS id a0 i) = ι i) : ∀ {v : Value} {c : AV}, AR σ S ι v c → (c.ren (BS id a0)).high = true → AR σ S2 ι2 v (c.ren (BS id a0))
 | v, .one c, h, hc => by
  rw [AV.ren] at hc ⊢
  rw [AV.high] at hc
  cases h with | one h => exact .one (h.hand hS hc)
 | v, .agg cs, h, hc => by
  rw [AV.ren] at hc ⊢
  rw [AV.high] at hc
  cases h with
  | agg h =>
   refine .agg (Ag.of_get (by rw [AC.rens_eq]; simpa using h.len) fun j x c hx hcj => ?_)
   have hm := CT hc c (List.mem_of_getElem? hcj)
   rw [AC.rens_eq, List.getElem?_map, Option.map_eq_some_iff] at hcj
   obtain ⟨c', hc', rfl⟩ := hcj
   obtain ⟨x', h1, h2⟩ := h.get hc'
   rw [hx] at h1
   cases h1
   exact h2.hand hS hm
 | v, .tup vs, h, hc => by
  rw [AV.ren] at hc ⊢
  rw [AV.high] at hc
  cases h with
  | tup c h1 h2 h3 =>
   obtain ⟨k1, k2⟩ := AR.hands hS h3 hc
   exact .tup c (by rw [h1, k1]) (fun j b hb => by
    rcases Nat.lt_or_ge j vs.length with hj | hj
    ·exact h2 j _ (List.getElem?_eq_getElem hj)
    ·rw [List.getElem?_eq_none (by omega)] at hb; cases hb) k2
 | v, .any, h, _ => .any
theorem AR.hands (hS : ∀ i b, 1000 ≤ BS id a0 i → S i = some b → S2 (BS id a0 i) = some b ∧ ι2 (BS id a0 i) = ι i) : ∀ {vs : List AV} {c : Nat → Value}, (∀ j b, vs[j]? = some b → AR σ S ι (c j) b) → AV.highs (AV.rens (BS id a0) vs) = true → vs.length = (AV.rens (BS id a0) vs).length ∧ ∀ j b, (AV.rens (BS id a0) vs)[j]? = some b → AR σ S2 ι2 (c j) b
 | [], c, h, _ => by simp [AV.rens]
 | x :: xs, c, h, hc => by
  rw [AV.rens, AV.highs, Bool.and_eq_true] at hc
  obtain ⟨m1, m2⟩ := AR.hands hS (vs := xs) (c := fun j => c (j + 1)) (fun j b hb => h (j + 1) b (by simpa using hb)) hc.2
  refine ⟨by simp [AV.rens, ← m1], fun j b hb => ?_⟩
  cases j with
  | zero =>
   simp [AV.rens] at hb
   subst hb
   exact AR.hand hS (h 0 x rfl) hc.1
  | succ j => exact m2 j b (by simpa [AV.rens] using hb)
end
end
theorem Ao.stay {S S2 : AA} {ι2 : Ax} (hS : ∀ i b, 1000 ≤ i → S i = some b → S2 i = some b ∧ ι2 i = ι i) {v : Value} {c : AC} (h : Ao σ S ι v c) (hc : c.high = true) : Ao σ S2 ι2 v c := by
 induction h with
 | st h => exact .st h
 | full h => exact .full h
 | row h1 h2 h3 h4 =>
  rw [AC.high] at hc
  obtain ⟨q1, q2⟩ := hS _ _ (of_decide_eq_true hc) h1
  exact .row q1 h2 h3 (fun hn => by rw [q2]; exact h4 hn)
 | part h1 h2 h3 h4 =>
  rw [AC.high] at hc
  obtain ⟨q1, q2⟩ := hS _ _ (of_decide_eq_true hc) h1
  exact .part q1 h2 h3 (fun hn => by rw [q2]; exact h4 hn)
 | rest h1 h2 h3 h4 =>
  rw [AC.high] at hc
  obtain ⟨q1, q2⟩ := hS _ _ (of_decide_eq_true hc) h1
  exact .rest q1 h2 h3 (fun hn => by rw [q2]; exact h4 hn)
 | ptr h1 h2 h3 h4 =>
  rw [AC.high] at hc
  obtain ⟨q1, q2⟩ := hS _ _ (of_decide_eq_true hc) h1
  exact .ptr q1 h2 h3 (fun hn => by rw [q2]; exact h4 hn)
 | mptr h1 h2 h3 h4 =>
  rw [AC.high] at hc
  obtain ⟨q1, q2⟩ := hS _ _ (of_decide_eq_true hc) h1
  exact .mptr q1 h2 h3 (fun hn => by rw [q2]; exact h4 hn)
 | yld h1 h2 h3 h4 =>
  rw [AC.high] at hc
  obtain ⟨q1, q2⟩ := hS _ _ (of_decide_eq_true hc) h1
  exact .yld q1 h2 h3 (fun hn => by rw [q2]; exact h4 hn)
 | ubool => exact .ubool
 | eptr c h1 h2 hh => exact .eptr c h1 h2 hh
 | fn c h1 h2 h3 ih =>
  rw [AC.high] at hc
  exact .fn c h1 h2 (fun j a ha => ih j a ha (CT hc a (List.mem_of_getElem? ha)))
 | any h => exact .any h
theorem AQ.hand (R : AQ C σ ι s a w) (id a0 : Nat) {b0 : AL} (hid : id < 1000) (ha : 1000 ≤ a0) (hSa : s.S a0 = none) (hb0 : s.S id = some b0) (hbh : b0.high = true) (hb : ∀ i b, 1000 ≤ i → s.S i = some b → b.high = true) :
  AQ C σ (AG ι a0 (ι id)) ⟨fun i => (s.env i).hand id a0, AG (Bl s.S) a0 (some b0)⟩ a w ∧ ∀ i b, 1000 ≤ BS id a0 i → s.S i = some b → AG (Bl s.S) a0 (some b0) (BS id a0 i) = some b ∧ AG ι a0 (ι id) (BS id a0 i) = ι i := by
 have hlow : ∀ i, 1000 ≤ i → Bl s.S i = s.S i := fun i hi => by
  show (if i < 1000 then none else s.S i) = _
  rw [if_neg (by omega)]
 have hS : ∀ i b, 1000 ≤ BS id a0 i → s.S i = some b → AG (Bl s.S) a0 (some b0) (BS id a0 i) = some b ∧ AG ι a0 (ι id) (BS id a0 i) = ι i := fun i b hi h => by
  unfold BS at hi ⊢
  by_cases e : i = id
  ·subst e
   rw [if_pos rfl, AE, AE, ← hb0, h]
   exact ⟨rfl, rfl⟩
  ·rw [if_neg e] at hi ⊢
   have hne : i ≠ a0 := fun e => by subst e; rw [hSa] at h; cases h
   rw [AH _ hne, AH _ hne, hlow i hi]
   exact ⟨h, rfl⟩
 have hS' : ∀ i b, 1000 ≤ i → s.S i = some b → AG (Bl s.S) a0 (some b0) i = some b ∧ AG ι a0 (ι id) i = ι i := fun i b hi h => by
  have hne : i ≠ a0 := fun e => by subst e; rw [hSa] at h; cases h
  rw [AH _ hne, AH _ hne, hlow i hi]
  exact ⟨h, rfl⟩
 have hinv : ∀ i b, AG (Bl s.S) a0 (some b0) i = some b → (i = a0 ∧ b = b0) ∨ (i ≠ a0 ∧ 1000 ≤ i ∧ s.S i = some b) := fun i b h => by
  by_cases e : i = a0
  ·subst e
   rw [AE] at h
   cases h
   exact .inl ⟨rfl, rfl⟩
  ·rw [AH _ e] at h
   have h' : (if i < 1000 then none else s.S i) = some b := h
   split at h'
   ·cases h'
   ·exact .inr ⟨e, by omega, h'⟩
 refine ⟨⟨R.size, fun i hi => ?_, R.nod, R.fit, fun i b h => ?_, fun i j b c g h1 h2 g1 g2 => ?_, fun i b g h hg => ?_, R.ext, R.old, R.os, R.grown, R.same, fun i b h => ?_⟩, hS⟩
 ·show AR σ (AG (Bl s.S) a0 (some b0)) _ _ ((s.env i).hand id a0)
  unfold AV.hand
  split
  ·rename_i hh
   exact (R.env i hi).hand hS hh
  ·exact .any
 ·rcases hinv i b h with ⟨rfl, rfl⟩ | ⟨hne, h1, h2⟩
  ·rw [AE]
   exact (R.blk id _ hb0).samecells (fun v c hv hc => hv.stay hS' hc) hbh
  ·rw [AH _ hne]
   exact (R.blk i b h2).samecells (fun v c hv hc => hv.stay hS' hc) (hb i b h1 h2)
 ·rcases hinv i b h1 with ⟨rfl, rfl⟩ | ⟨hne, k1, k2⟩ <;> rcases hinv j c h2 with ⟨rfl, rfl⟩ | ⟨hne', k1', k2'⟩
  ·rfl
  ·rw [AE] at g1
   rw [AH _ hne'] at g2
   have := R.inj _ _ _ _ g hb0 k2' g1 g2
   omega
  ·rw [AE] at g2
   rw [AH _ hne] at g1
   have := R.inj _ _ _ _ g k2 hb0 g1 g2
   omega
  ·rw [AH _ hne] at g1
   rw [AH _ hne'] at g2
   exact R.inj _ _ _ _ g k2 k2' g1 g2
 ·rcases hinv i b h with ⟨rfl, rfl⟩ | ⟨hne, k1, k2⟩
  ·rw [AE] at hg
   exact R.base _ _ g hb0 hg
  ·rw [AH _ hne] at hg
   exact R.base _ _ g k2 hg
 ·obtain ⟨b', h1, h2, h3⟩ := R.upd i b h
  obtain ⟨q1, q2⟩ := hS' i b' (C.clean i b h).1 h1
  exact ⟨b', q1, h2, fun hl => ⟨(h3 hl).1, by rw [q2]; exact (h3 hl).2⟩⟩
theorem Aa.hand (id a0 : Nat) {b0 : AL} (hid : id < 1000) (ha : 1000 ≤ a0) (hSa : s.S a0 = none) (hb0 : s.S id = some b0) (hbh : b0.high = true) (hb : ∀ i b, 1000 ≤ i → s.S i = some b → b.high = true) : Aa C s ⟨fun i => (s.env i).hand id a0, AG (Bl s.S) a0 (some b0)⟩ := fun a w ⟨σ, ι, R⟩ =>
 ⟨σ, _, (R.hand id a0 hid ha hSa hb0 hbh hb).1⟩
theorem Lu {C : Ctx} {rs : List RV} {S' : AA} {e : AX} {s : AS} (he : match e with | .normal => True | .ret => True | _ => False) (id a0 : Nat) (r0 : AV) {b0 : AL} (hid : id < 1000) (ha : 1000 ≤ a0) (hSa : s.S a0 = none) (hb0 : s.S id = some b0) (hbh : b0.high = true) (hb : ∀ i b, 1000 ≤ i → s.S i = some b → b.high = true)
  (h1 : (AB s rs).map AI = some r0) (hh : (r0.ren (BS id a0)).high = true) (h3 : AG (Bl s.S) a0 (some b0) = S') (hc : Ar S') : Gc C rs (r0.ren (BS id a0)) S' e s :=
 ⟨he, s, ⟨fun i => (s.env i).hand id a0, AG (Bl s.S) a0 (some b0)⟩, r0, Aa.refl _ _, h1, fun σ ι a w R => ⟨σ, _, (R.hand id a0 hid ha hSa hb0 hbh hb).1, fun v hv => hv.hand (R.hand id a0 hid ha hSa hb0 hbh hb).2 hh⟩, h3, hc⟩
theorem Bv (S : AA) (i : Nat) : upS S (up1 i) = (S i).map (AL.ren up1) := by
 show (if i + 1000 < 1000 then none else (S (i + 1000 - 1000)).map (AL.ren up1)) = _
 rw [if_neg (by omega), Nat.add_sub_cancel]
theorem ML (S : AA) (i : Nat) (b : AL) : dnS (AG S (up1 i) (some b)) = AG (dnS S) i (some (b.ren dn1)) := by
 funext k
 show (AG S (up1 i) (some b) (up1 k)).map _ = AG (dnS S) i _ k
 by_cases h : k = i
 ·subst h
  rw [AE, AE]
  rfl
 ·have hne : up1 k ≠ up1 i := fun e => h (by have := congrArg dn1 e; rw [JY, JY] at this; exact this)
  rw [AH _ hne, AH _ h]
  rfl
theorem KN (S : AA) {i : Nat} (h : i < 1000) (b : Option AL) : Bl (AG S i b) = Bl S := by
 funext k
 show (if k < 1000 then none else AG S i b k) = (if k < 1000 then none else S k)
 split
 ·rfl
 ·exact AH _ (by omega) _
theorem Re (S : AA) {i : Nat} (h : 1000 ≤ i) (b : Option AL) : Bl (AG S i b) = AG (Bl S) i b := by
 funext k
 show (if k < 1000 then none else AG S i b k) = AG (Bl S) i b k
 by_cases e : k = i
 ·subst e
  rw [if_neg (by omega), AE, AE]
 ·rw [AH _ e, AH _ e]
  rfl
theorem A9 {S : AA} (h : Ar S) {i : Nat} (hi : 1000 ≤ i) {b : AL} (hb : b.high = true) : Ar (AG S i (some b)) := fun k c hk => by
 by_cases e : k = i
 ·subst e
  rw [AE] at hk
  cases hk
  exact ⟨hi, hb⟩
 ·rw [AH _ e] at hk
  exact h k c hk
theorem Sh {S : AA} {i : Nat} {b : AL} (h : ∀ k c, 1000 ≤ k → S k = some c → c.high = true) (hb : b.high = true) : ∀ k c, 1000 ≤ k → AG S i (some b) k = some c → c.high = true := fun k c hk hc => by
 by_cases e : k = i
 ·subst e
  rw [AE] at hc
  cases hc
  exact hb
 ·rw [AH _ e] at hc
  exact h k c hk hc
theorem IC {S : AA} {i : Nat} (hi : i < 1000) {b : Option AL} (h : ∀ k c, 1000 ≤ k → S k = some c → c.high = true) : ∀ k c, 1000 ≤ k → AG S i b k = some c → c.high = true := fun k c hk hc => by
 rw [AH _ (by omega)] at hc
 exact h k c hk hc
end
theorem IWP.loopD {P : Program} {C : Ctx} {mu : List Nat} {Q : AX → AS → Prop} {s : AS} {x : IR} (ds : List Nat) (Inv : Nat → AS → Prop) (m0 : Nat) (h0 : Inv m0 s) (h : ∀ m s, Inv m s → IWP P C mu x (AX.then (fun s' => ∃ m', m' < m ∧ Inv m' (s'.drop ds)) Q) s) (hds : ∀ d ∈ ds, d < 1000 := by decide) : IWP P C mu (.loop x) Q s := by
 refine IWP.loop (fun m s => ∃ s1, Aa C s s1 ∧ Inv m s1) m0 ⟨s, Aa.refl _ _, h0⟩ fun m s ⟨s1, hg, hi⟩ => ?_
 refine (IWP.ghost hg (h m s1 hi)).mono fun e s2 he => ?_
 cases e with
 | normal =>
  obtain ⟨m', h1, h2⟩ := he
  exact ⟨m', h1, _, Aa.drop ds s2 hds, h2⟩
 | _ => exact he
theorem Ao.out {σ : Sto} {S : AA} {ι : Ax} {v : Value} {c : AC} (h : Ao σ S ι v c) (hc : outC noS c = some c) : Ao σ noS noH v c := by
 cases h with
 | st h => exact .st h
 | full h => simp [outC, stC] at hc
 | row h1 h2 h3 h4 => simp [outC, stC, noS] at hc
 | part h1 h2 h3 h4 => simp [outC, stC, noS] at hc
 | rest h1 h2 h3 h4 => simp [outC, stC, noS] at hc
 | ptr h1 h2 h3 h4 => simp [outC, stC] at hc
 | mptr h1 h2 h3 h4 => simp [outC, stC] at hc
 | yld h1 h2 h3 h4 => simp [outC, stC] at hc
 | ubool => exact .ubool
 | eptr c h1 h2 hh => exact .eptr c h1 h2 hh
 | @fn f vs caps c h1 h2 h3 =>
  cases caps with
  | nil => exact .fn c h1 h2 (by simp)
  | cons x xs =>
   have hall : (x :: xs).all AC.stay = true := by
    unfold outC at hc
    by_cases e : (x :: xs).all AC.stay = true
    ·exact e
    ·simp only [e, if_false] at hc
     cases hc
   exact .fn c h1 h2 fun j a ha => (h3 j a ha).staying (List.all_eq_true.1 hall a (List.mem_of_getElem? ha))
 | any h => simp [outC, stC] at hc
theorem JW : ∀ {cs : List AC}, outCs noS cs = some cs → ∀ c ∈ cs, outC noS c = some c
 | [], _, c, hc => by simp at hc
 | x :: xs, h, c, hc => by
  simp only [outCs] at h
  split at h
  ·rename_i y ys h1 h2
   simp only [Option.some.injEq, List.cons.injEq] at h
   obtain ⟨rfl, rfl⟩ := h
   rcases List.mem_cons.1 hc with rfl | hc
   ·exact h1
   ·exact JW h2 c hc
  ·cases h
mutual
theorem AR.out {σ : Sto} {S : AA} {ι : Ax} : ∀ {v : Value} {c : AV}, AR σ S ι v c → outV noS c = some c → AR σ noS noH v c
 | v, .one c, h, hc => by
  rw [outV, Option.map_eq_some_iff] at hc
  obtain ⟨a, h1, h2⟩ := hc
  cases h2
  cases h with | one h => exact .one (h.out h1)
 | v, .agg cs, h, hc => by
  rw [outV, Option.map_eq_some_iff] at hc
  obtain ⟨a, h1, h2⟩ := hc
  cases h2
  cases h with
  | agg h => exact .agg (Ag.of_get h.len fun j x c hx hcj => by
    obtain ⟨x', q1, q2⟩ := h.get hcj
    rw [hx] at q1
    cases q1
    exact q2.out (JW h1 c (List.mem_of_getElem? hcj)))
 | v, .tup vs, h, hc => by
  rw [outV, Option.map_eq_some_iff] at hc
  obtain ⟨a, h1, h2⟩ := hc
  cases h2
  cases h with
  | tup c k1 k2 k3 => exact .tup c k1 k2 (AR.outs k3 h1)
 | v, .any, h, _ => .any
theorem AR.outs {σ : Sto} {S : AA} {ι : Ax} : ∀ {vs : List AV} {c : Nat → Value}, (∀ j b, vs[j]? = some b → AR σ S ι (c j) b) → outVs noS vs = some vs → ∀ j b, vs[j]? = some b → AR σ noS noH (c j) b
 | [], c, h, _, j, b, hb => by simp at hb
 | x :: xs, c, h, hc, j, b, hb => by
  rw [outVs] at hc
  split at hc
  ·rename_i y ys h1 h2
   simp only [Option.some.injEq, List.cons.injEq] at hc
   obtain ⟨rfl, rfl⟩ := hc
   cases j with
   | zero =>
    simp at hb
    subst hb
    exact AR.out (h 0 _ rfl) h1
   | succ j => exact AR.outs (c := fun j => c (j + 1)) (fun j b hb => h (j + 1) b (by simpa using hb)) h2 j b (by simpa using hb)
  ·cases hc
end
theorem AN.toS {P : Program} {f : FuncId} {xs : List AV} {S : AA} {r : AV} (h : AN P f xs r) (hx : outVs noS xs = some xs) : As P f xs S r S := by
 intro hclean σ w vs ι hglob hfit hown hvs
 have hvs' : Ag (AR σ noS noH) vs xs := Ag.of_get hvs.len fun j v x hv hxj => by
  have := AR.outs (c := fun j => (vs[j]?).getD undef) (σ := σ) (S := S) (ι := ι) (vs := xs) (fun j b hb => by
   obtain ⟨v', h1, h2⟩ := hvs.get hb
   rw [h1]
   exact h2) hx j x hxj
  rw [hv] at this
  exact this
 refine (h σ w vs hglob hfit hvs').mono fun e w' he => ?_
 obtain ⟨v, σ', he1, he2, hf, hext, hb⟩ := he
 have hlt : ∀ id b g, S id = some b → (ι id).g = some g → g < w.heap.size := fun id b g h1 h2 => (hown.1 id b h1).gsome h2
 refine ⟨v, σ', ι, he1, hclean, Upd.refl _ _, ⟨fun id b hid => (hown.1 id b hid).mono hext.keep (Upd.refl _ _) (fun g hg => hb.block g (hlt id b g hid hg)) (fun g hg p hp => hext.old p (by have := hlt id b g hid hg; omega)), hown.2⟩,
  P6 (s := ⟨fun _ => .any, S⟩) he2, hf, hext.keep, fun p hp _ => hext.old p hp, ⟨hb.os, hb.tape, hb.output⟩, hb.size, fun g hg _ => hb.block g hg, fun id b g h1 h2 => .inr fun hn => hn id b h1 h2⟩
theorem Ju {C : Ctx} {rs : List RV} {r : AV} {S' : AA} {e : AX} {s : AS} (he : match e with | .normal => True | .ret => True | _ => False) (r0 : AV) (h1 : (AB s rs).map AI = some r0) (h2 : outV s.S r0 = some r) (hb : ∀ i b, 1000 ≤ i → s.S i = some b → b.high = true) (h3 : Bl s.S = S') (hc : Ar S') : Gc C rs r S' e s := by
 refine ⟨he, s, ⟨fun i => (s.env i).low, Bl s.S⟩, r0, Aa.refl _ _, h1, fun σ ι a w R => ?_, h3, hc⟩
 exact ⟨σ, ι, R.low hb, fun v hv => P6 (s := ⟨fun i => (s.env i).low, Bl s.S⟩) (R.outV hv h2)⟩
theorem MD {C : Ctx} {rs : List RV} {r : AV} {S' : AA} {e : AX} {s : AS} (he : match e with | .normal => True | .ret => True | _ => False) (h1 : (AB s rs).map AI = some r) (hh : r.high = true) (hb : ∀ i b, 1000 ≤ i → s.S i = some b → b.high = true) (h3 : Bl s.S = S') (hc : Ar S') : Gc C rs r S' e s :=
 ⟨he, s, ⟨fun i => (s.env i).low, Bl s.S⟩, r, Aa.refl _ _, h1, fun σ ι a w R => ⟨σ, ι, R.low hb, fun v hv => hv.low (fun i b hi hS => by
  show Bl s.S i = some b
  unfold Bl
  rw [if_neg (by omega)]
  exact hS) hh⟩, h3, hc⟩
theorem CO {C : Ctx} {rs : List RV} {r : AV} {e : AX} {s : AS} {S : AA} (r0 : AV) (hS : Ar S) (he : match e with | .normal => True | .ret => True | _ => False)
  (h1 : (AB s rs).map AI = some r0) (h2 : outV s.S r0 = some r) (h4 : ∀ i, 1000 ≤ i → s.S i = S i) : Gc C rs r S e s :=
 Ju he r0 h1 h2 (fun i b hi hb => (hS i b (by rw [← h4 i hi]; exact hb)).2) (by
  funext i
  unfold Bl
  split
  ·exact (Aj hS (by omega)).symm
  ·exact h4 i (by omega)) hS
theorem Uz {C : Ctx} {rs : List RV} {e : AX} {s : AS} {ty : TypeId} {w n : Nat} {ys : List (List SV)} {mu : Bool} (he : match e with | .normal => True | .ret => True | _ => False) (id : Nat) (hid : id < 1000) (hb0 : s.S id = some (I7 mu ty w ys)) (hlow : ∀ i, 1000 ≤ i → s.S i = none)
  (h1 : (AB s rs).map AI = some (.one (.row id n))) : Gc C rs (.one (.row 1000 n)) (fun i => if i = 1000 then some (I7 mu ty w ys) else noS i) e s := by
 have e1 : (AV.one (.row id n)).ren (BS id 1000) = .one (.row 1000 n) := by simp [AV.ren, AC.ren, BS]
 rw [← e1]
 refine Lu he id 1000 _ hid (by decide) (hlow 1000 (by decide)) hb0 (by cases mu <;> rfl) (fun i b hi hb => by rw [hlow i hi] at hb; cases hb) h1 (by rw [e1]; rfl) ?_ ?_
 ·funext i
  unfold AG Bl noS
  by_cases h2 : i = 1000
  ·rw [if_pos h2, if_pos h2]
  ·rw [if_neg h2, if_neg h2]
   split
   ·rfl
   ·exact hlow i (by omega)
 ·intro i b hb
  have hb : (if i = 1000 then some (I7 mu ty w ys) else noS i) = some b := hb
  split at hb
  ·rename_i h2
   cases hb
   exact ⟨by omega, by cases mu <;> rfl⟩
  ·cases hb

open Cod (wid dat)
inductive Tm where
 | mk (name : ByteArray) (args : List Tm)
def Tm.name : Tm → ByteArray | .mk n _ => n
def Tm.args : Tm → List Tm | .mk _ xs => xs
theorem Tm.eta (t : Tm) : Tm.mk t.name t.args = t := by cases t; rfl
mutual
def Tm.dat : Tm → Dat
 | .mk n xs => .agg [.str n, .row 2 (Tm.dats xs)]
def Tm.dats : List Tm → List Dat
 | [] => []
 | t :: ts => t.dat :: Tm.dats ts
end
theorem Tm.dats_eq : ∀ xs : List Tm, Tm.dats xs = xs.map Tm.dat
 | [] => rfl
 | t :: ts => by rw [Tm.dats, Tm.dats_eq ts]; rfl
theorem Tm.dat_is {σ : Sto} {n : ByteArray} {xs : List Tm} {cs : List Value} (h : (Tm.dat (.mk n xs)).Is σ cs) :
  ∃ p len cap, cs = [.string n, .slice p len cap] ∧ n.size ≤ maxLen ∧ len = xs.length ∧ len ≤ cap ∧ cap ≤ maxLen ∧ (p = none → cap = 0) ∧ ∃ b o, (len ≠ 0 → p = some ⟨b, o, none⟩) ∧ Dat.RowIs σ 2 (xs.map Tm.dat) b o := by
 rw [Tm.dat, Tm.dats_eq] at h
 obtain ⟨x, y, rfl, ⟨rfl, hn⟩, x', y', rfl, ⟨p, len, cap, rfl, hl, r⟩, rfl⟩ := h
 exact ⟨p, len, cap, rfl, hn, by simpa using hl, r⟩
instance : Cod Tm := ⟨2, Tm.dat, fun σ t cs h => by
 cases t
 obtain ⟨p, len, cap, rfl, _⟩ := Tm.dat_is h
 rfl⟩
def TmV (σ : Sto) (v : Value) (t : Tm) : Prop := ∃ p len cap, v = .agg #[.string t.name, .slice p len cap] ∧ t.name.size ≤ maxLen ∧ Slc σ p len cap t.args
theorem TmV.ext {σ σ' : Sto} {N : Nat} {v : Value} {t : Tm} (h : TmV σ v t) (he : Ext N σ σ') : TmV σ' v t := by
 obtain ⟨p, len, cap, h1, h2, h3⟩ := h
 exact ⟨p, len, cap, h1, h2, h3.ext he⟩
theorem Slc.str {σ : Sto} {p : Option Addr} {len cap : Nat} {xs : List ByteArray} (h : Slc σ p len cap xs) (k : Nat) (hk : k < len) :
  ∃ b o a, p = some ⟨b, o, none⟩ ∧ Hid (xs[k]? = some a) ∧ σ ⟨b, o + k, none⟩ = some (.string a) ∧ a.size ≤ maxLen := by
 have hl := h.length
 obtain ⟨b, o, hp, cs, h1, h2, h3⟩ := h.get k (by omega)
 obtain ⟨rfl, h4⟩ := RS.1 h3
 have := h2 0 _ rfl
 exact ⟨b, o, xs[k], hp, Lib.hid (List.getElem?_eq_getElem (by omega)), by simpa [Cod.wid] using this, h4⟩
theorem RZ {n : Int} (h : (Lit.int .i64 n).wf = true) : -9223372036854775808 ≤ n ∧ n ≤ 9223372036854775807 := by
 simpa [Lit.wf, IntKind.min, IntKind.max, IntKind.signed, IntKind.bits] using h
theorem Slc.int {σ : Sto} {p : Option Addr} {len cap : Nat} {xs : List Int} (h : Slc σ p len cap xs) (k : Nat) (hk : k < len) :
  ∃ b o a, p = some ⟨b, o, none⟩ ∧ Hid (xs[k]? = some a) ∧ σ ⟨b, o + k, none⟩ = some (.int .i64 a) ∧ -9223372036854775808 ≤ a ∧ a ≤ 9223372036854775807 := by
 have hl := h.length
 obtain ⟨b, o, hp, cs, h1, h2, h3⟩ := h.get k (by omega)
 obtain ⟨rfl, h4⟩ := Qj.1 h3
 have := h2 0 _ rfl
 exact ⟨b, o, xs[k], hp, Lib.hid (List.getElem?_eq_getElem (by omega)), by simpa [Cod.wid] using this, RZ h4⟩
theorem Ak {α : Type} {xs : List α} {k : Nat} {a : α} (h : xs[k]? = some a) : xs.take (k + 1) = xs.take k ++ [a] := by
 rw [List.take_add_one, h]; rfl
theorem Bn {α : Type} {xs : List α} {k : Nat} {a : α} (h : xs[k]? = some a) : k < xs.length := by
 rcases Nat.lt_or_ge k xs.length with h' | h'
 ·exact h'
 ·rw [List.getElem?_eq_none h'] at h; cases h
theorem AP {α : Type} {xs : List α} {k : Nat} {a : α} (h : xs[k]? = some a) : a ∈ xs := List.mem_of_getElem? h
theorem Tm.lt_of_mem {a : Tm} {n : ByteArray} {xs : List Tm} (h : a ∈ xs) : SizeOf.sizeOf a < SizeOf.sizeOf (Tm.mk n xs) := by
 have := List.sizeOf_lt_of_mem h
 simp only [Tm.mk.sizeOf_spec]
 omega

theorem Qk (c P Q : Prop) [Decidable c] : ((c → P) ∧ (¬ c → Q)) = if c then P else Q := by
 by_cases h : c <;> simp [h]
theorem TK {c A B : Prop} [Decidable c] (h : (c → A) ∧ (¬ c → B)) : if c then A else B := by
 by_cases hc : c
 ·rw [if_pos hc]; exact h.1 hc
 ·rw [if_neg hc]; exact h.2 hc
theorem S4 (b : Bool) (P Q : Prop) : ((b = true → P) ∧ (b = false → Q)) = if b = true then P else Q := by
 cases b <;> simp
attribute [congr] N_.congr IN.congr
mutual
def Al : Tm → List SV
 | .mk n xs => [.str n, .list (P3 xs)]
def P3 : List Tm → List (List SV)
 | [] => []
 | t :: ts => Al t :: P3 ts
end
theorem OG : ∀ xs : List Tm, P3 xs = xs.map Al
 | [] => rfl
 | t :: ts => by rw [P3, OG ts]; rfl
theorem BI (t : Tm) : Al t = [.str t.name, .list (t.args.map Al)] := by
 cases t
 rw [Al, OG]
 rfl
theorem TI (t : Tm) : (Al t).length = 2 := by rw [BI]; rfl
class T8 {α : Type} (f : α → List SV) (n : outParam Nat) : Prop where
 ok : ∀ a, (f a).length = n
theorem U5 {α : Type} {f : α → List SV} {n : Nat} [h : T8 f n] {ts : List α} : ∀ x ∈ ts.map f, x.length = n := fun x hx => by
 obtain ⟨a, _, rfl⟩ := List.mem_map.1 hx
 exact h.ok a
instance : T8 Al 2 := ⟨fun t => by rw [BI]; rfl⟩
theorem C3 {ts : List Tm} : ∀ x ∈ ts.map Al, x.length = 2 := by
 intro x hx
 obtain ⟨a, _, rfl⟩ := List.mem_map.1 hx
 exact TI a
theorem Tm.args_mk (n : ByteArray) (xs : List Tm) : (Tm.mk n xs).args = xs := rfl
theorem Tm.name_mk (n : ByteArray) (xs : List Tm) : (Tm.mk n xs).name = n := rfl
abbrev AO (n : Int) : AV := .one (.st (.int .i64 n))
abbrev Ad (b : Bool) : AV := .one (.st (.bool b))
abbrev CP (s : ByteArray) : AV := .one (.st (.str s))
abbrev aTm (t : Tm) : AV := .agg [.st (.str t.name), .st (.list (t.args.map Al))]
abbrev Kx (n : Int) : List SV := [.int .i64 n]
abbrev B7 (s : ByteArray) : List SV := [.str s]
abbrev QR (p : List Int) : List SV := [.list (p.map Kx)]
abbrev Qp (l : List (List Int)) : AV := .one (.st (.list (l.map QR)))
abbrev FQ (l : List Int) : AV := .one (.st (.list (l.map Kx)))
abbrev B3 (l : List ByteArray) : AV := .one (.st (.list (l.map B7)))
abbrev FH (l : List Tm) : AV := .one (.st (.list (l.map Al)))
theorem Af {α : Type} {xs : List α} {k : Nat} (h : k < xs.length) : ∃ a, xs[k]? = some a := ⟨xs[k], List.getElem?_eq_getElem h⟩
theorem EH (n : Int) : inR .i64 n ↔ -9223372036854775808 ≤ n ∧ n ≤ 9223372036854775807 := by
 simp [inR, IntKind.min, IntKind.max, IntKind.signed, IntKind.bits]
theorem PL {l : List Int} (h : (SV.list (l.map Kx)).known) : l.length ≤ maxLen ∧ ∀ n ∈ l, inR .i64 n := by
 obtain ⟨h1, h2⟩ := h
 refine ⟨by simpa using h1, fun n hn => ?_⟩
 have := Gt.1 (Fp.1 h2 (Kx n) (List.mem_map.2 ⟨n, hn, rfl⟩)) (.int .i64 n) (by simp)
 exact this
theorem Df : maxLen = 9223372036854775807 := by simp [maxLen]
theorem Dd {S : AA} {xs : List (List SV)} (h : (AV.one (.st (.list xs))).known S) : xs.length ≤ 9223372036854775807 := by
 simp only [AV.known, AC.known, SV.known] at h
 rw [Df] at h
 exact h.1
theorem Fm {S : AA} {t : Tm} (h : (aTm t).known S) : t.name.size ≤ 9223372036854775807 ∧ t.args.length ≤ 9223372036854775807 := by
 have h1 : t.name.size ≤ maxLen := by
  have := h (.st (.str t.name)) (by simp)
  simpa [AC.known, SV.known] using this
 have h2 : t.args.length ≤ maxLen := by
  have := h (.st (.list (t.args.map Al))) (by simp)
  simp only [AC.known, SV.known, List.length_map] at this
  exact this.1
 rw [Df] at h1 h2
 exact ⟨h1, h2⟩

def Kd.isCall : Kd → Bool
 | .call _ _ => true
 | .callS _ _ => true
 | .callV _ _ => true
 | .callN _ _ => true
 | .callR _ _ => true
 | .callW _ _ => true
 | .callX _ _ => true
 | .callY _ _ => true
 | .buildFlat _ => false
 | .cutP _ _ _ => false
 | .indexP _ _ _ => false
 | .appP _ _ _ _ _ => false
 | .restP _ _ _ => false
 | .appS _ _ _ => false
 | .loadL _ _ _ => false
 | .indexL _ _ _ => false
 | .buildL _ _ => false
 | .fieldL _ _ => false
 | .lenL _ _ => false
 | .appF _ _ _ _ _ _ => false
 | .clearP _ _ _ _ => false
 | .copyP _ _ => false
 | .mov _ => false
 | .pick _ _ _ => false
 | .alloc _ _ => false
 | .box _ _ => false
 | .build _ _ => false
 | .buildSlice _ _ _ _ => false
 | .load _ _ _ => false
 | .store _ _ _ => false
 | .fieldAddr _ _ => false
 | .field _ _ _ _ => false
 | .indexAddr _ _ _ => false
 | .indexArr _ _ _ _ => false
 | .indexStr _ _ => false
 | .bin _ _ _ => false
 | .eqB _ _ _ => false
 | .eqN _ _ => false
 | .eqE _ _ => false
 | .never => false
 | .pan _ => false
 | .iface _ _ => false
 | .strOf _ => false
 | .un _ _ => false
 | .sliceS _ _ _ => false
 | .sliceL _ _ _ _ => false
 | .sliceM _ _ _ _ => false
 | .extract _ _ => false
 | .len _ _ => false
 | .append _ _ _ _ _ _ => false
 | .conv _ _ => false
 | .nilCheck _ => false
 | .mm _ _ _ => false
 | .makeSlice _ _ _ _ _ _ => false
 | .makeFunc _ _ => false
 | .makeMap _ => false
 | .lookup _ _ _ _ _ => false
 | .mapSet _ _ _ _ => false
 | .mapEntry _ _ _ _ => false
 | .entrySet _ _ _ => false
 | .rangeM _ => false
 | .next _ => false
 | .entry _ => false
 | .lenM _ => false
 | .buildArr _ => false
 | .makeMemo => false
 | .memoGet _ _ _ _ => false
 | .memoSet _ _ _ => false
inductive UQ (P : Program) (f : FuncId) (vs : List AV) (d : Option Nat) (l : List Ins) (s : AS) (K : AS → Prop) : Prop
 | mk (r : AV) (h1 : AN P f vs r) (h2 : Run P l (s.put d r) K)
inductive Mj (P : Program) (f : FuncId) (vs : List AV) (S : AA) (ks : List Nat) (d : Option Nat) (l : List Ins) (env : Nat → AV) (K : AS → Prop) : Prop
 | mk (r : AV) (S' : AA) (h1 : As P f vs (upS S) r S') (h2 : (∀ k ∈ ks, dnS S' k = S k) ∧ Run P l ((⟨env, dnS S'⟩ : AS).put d (r.ren dn1)) K)
inductive SG (P : Program) (f : FuncId) (vs : List AV) (ks : List Nat) (d : Option Nat) (l : List Ins) (s : AS) (K : AS → Prop) : Prop
 | mk (mu : Bool) (e : TypeId) (w : Nat) (ys : List (List SV)) (h1 : Ev P f vs e w ys mu) (h2 : s.S (d.getD 0) = none ∧ (∀ k ∈ ks, (s.set (d.getD 0) (I7 mu e w ys)).S k = s.S k) ∧ Run P l ((s.set (d.getD 0) (I7 mu e w ys)).put d (.one (.row (d.getD 0) ys.length))) K)
inductive Uh (P : Program) (f : FuncId) (vs : List AV) (d : Option Nat) (l : List Ins) (s : AS) (K : AS → Prop) : Prop
 | mk (r : AV) (rows : List (Nat × AL)) (h0 : ∀ q ∈ rows, s.S q.1 = some q.2) (h1 : ∀ T : AA, (∀ q ∈ rows, T q.1 = some q.2) → As P f vs (upS T) r (upS T)) (h2 : Run P l (s.put d (r.ren dn1)) K)
inductive Sk (P : Program) (f : FuncId) (vs : List AV) (ks : List Nat) (d : Option Nat) (l : List Ins) (s : AS) (K : AS → Prop) : Prop
 | mk (r : AV) (rows : List (Nat × AL × AL)) (h0 : QL s.S rows) (h1 : ∀ T : AA, QL T rows → As P f vs (upS T) r (upS (E7 T rows))) (h2 : (∀ k ∈ ks, E7 s.S rows k = s.S k) ∧ Run P l ((⟨s.env, E7 s.S rows⟩ : AS).put d (r.ren dn1)) K)
inductive Jm (P : Program) (S : AA) (hs : Bool) (G : AA → (AV → AA → Prop) → Prop) (d : Option Nat) (l : List Ins) (env : Nat → AV) (K : AS → Prop) : Prop
 | mk (T : AA) (Post : AV → AA → Prop) (h1 : Ar T) (h2 : ∀ i, 1000 ≤ i → S i = T i) (h3 : hs = true) (h4 : G T Post) (h5 : ∀ r S', Ar S' → Post r S' → Run P l ((⟨env, Du S S'⟩ : AS).put d r) K)
def Kd.goC (P : Program) (d : Option Nat) (s : AS) (t : Tag) (l : List Ins) (K : AS → Prop) : Kd → Prop
 | .call f xs => match t with
  | .no => match outVs s.S (s.evs xs) with
   | some vs => UQ P f vs d l s K
   | none => False
  | _ => False
 | .callR f xs => match t with
  | .no => Uh P f (AV.rens up1 (s.evs xs)) d l s K
  | _ => False
 | .callW f xs => match t with
  | .no => Sk P f (AV.rens up1 (s.evs xs)) [] d l s K
  | .keeps ks => Sk P f (AV.rens up1 (s.evs xs)) ks d l s K
  | .onb _ => False
 | .callX f xs => match t with
  | .no => Jm P s.S (AV.highs ((s.evs xs).map (II s.S))) (F8 P f ((s.evs xs).map (II s.S))) d l s.env K
  | _ => False
 | .callY f xs => match t with
  | .no => Jm P s.S ((s.ev f).high && AV.highs ((s.evs xs).map (II s.S))) (HW P (s.ev f) ((s.evs xs).map (II s.S))) d l s.env K
  | _ => False
 | .callN f xs => match t with
  | .no => match outVs s.S (s.evs xs) with
   | some vs => SG P f vs [] d l s K
   | none => False
  | .keeps ks => match outVs s.S (s.evs xs) with
   | some vs => SG P f vs ks d l s K
   | none => False
  | .onb _ => False
 | .callS f xs => match t with
  | .no => Mj P f (AV.rens up1 (s.evs xs)) s.S [] d l s.env K
  | .keeps ks => Mj P f (AV.rens up1 (s.evs xs)) s.S ks d l s.env K
  | .onb _ => False
 | .callV f xs => match (s.ev f).fnOf with
  | some (g, caps) => CJ P g = true ∧ match t with
   | .no => Mj P g (AV.rens up1 (s.evs xs ++ caps.map .one)) s.S [] d l s.env K
   | .keeps ks => Mj P g (AV.rens up1 (s.evs xs ++ caps.map .one)) s.S ks d l s.env K
   | .onb _ => False
  | _ => False
 | _ => False
def Ga (P : Program) : List Ins → AS → (AS → Prop) → Prop
 | [], s, K => K s
 | i :: l, s, K => match i.kd.isCall with
  | false => match i.guard with
   | none => i.kd.goT P (i.dst.getD 0) s i.tag fun v s' => Ga P l (s'.put i.dst v) K
   | some (g, want) => match s.env g with
    | .one (.st (.bool b)) => (b = want → i.kd.goT P (i.dst.getD 0) s i.tag fun v s' => Ga P l (s'.put i.dst v) K) ∧ (¬ b = want → Ga P l (s.put i.dst (.tup [])) K)
    | .tup [] => Ga P l (s.put i.dst (.tup [])) K
    | _ => False
  | true => match i.guard with
   | none => i.kd.goC P i.dst s i.tag l K
   | some (g, want) => match s.env g with
    | .one (.st (.bool b)) => (b = want → i.kd.goC P i.dst s i.tag l K) ∧ (¬ b = want → Ga P l (s.put i.dst (.tup [])) K)
    | .tup [] => Ga P l (s.put i.dst (.tup [])) K
    | _ => False
section
variable {P : Program}
theorem QT {kd : Kd} {d : Option Nat} {s : AS} {t : Tag} {l : List Ins} {K : AS → Prop} (h : kd.goC P d s t l K) : kd.goT P (d.getD 0) s t fun v s' => Run P l (s'.put d v) K := by
 cases kd <;> simp only [Kd.goC] at h
 case call f xs =>
  cases t <;> simp only at h
  split at h
  ·rename_i vs e
   obtain ⟨r, h1, h2⟩ := h
   simp only [Kd.goT, Kd.go, e]
   exact ⟨r, h1, trivial, h2⟩
  ·exact h.elim
 case callN f xs =>
  cases t <;> simp only at h
  ·split at h
   ·rename_i vs e
    obtain ⟨mu, ty, w, ys, h1, h2, _, h3⟩ := h
    simp only [Kd.goT, Kd.go, e]
    exact ⟨mu, ty, w, ys, h1, h2, trivial, h3⟩
   ·exact h.elim
  ·split at h
   ·rename_i vs e
    obtain ⟨mu, ty, w, ys, h1, h2, h4, h3⟩ := h
    simp only [Kd.goT, Kd.go, e]
    exact ⟨mu, ty, w, ys, h1, h2, h4, h3⟩
   ·exact h.elim
 case callW f xs =>
  cases t <;> simp only at h
  ·obtain ⟨r, rows, h0, h1, _, h2⟩ := h
   simp only [Kd.goT, Kd.go]
   exact ⟨r, rows, h0, h1, trivial, h2⟩
  ·obtain ⟨r, rows, h0, h1, hk, h2⟩ := h
   simp only [Kd.goT, Kd.go]
   exact ⟨r, rows, h0, h1, hk, h2⟩
 case callX f xs =>
  cases t <;> simp only at h
  obtain ⟨T, Post, h1, h2, h3, h4, h5⟩ := h
  exact ⟨T, Post, h1, h2, h3, h4, fun r S' k1 k2 => ⟨trivial, h5 r S' k1 k2⟩⟩
 case callY f xs =>
  cases t <;> simp only at h
  obtain ⟨T, Post, h1, h2, h3, h4, h5⟩ := h
  exact ⟨T, Post, h1, h2, h3, h4, fun r S' k1 k2 => ⟨trivial, h5 r S' k1 k2⟩⟩
 case callR f xs =>
  cases t <;> simp only at h
  obtain ⟨r, rows, h0, h1, h2⟩ := h
  simp only [Kd.goT, Kd.go]
  exact ⟨r, rows, h0, h1, trivial, h2⟩
 case callS f xs =>
  cases t <;> simp only at h
  ·obtain ⟨r, S', h1, h2, h3⟩ := h
   exact ⟨r, S', h1, trivial, h3⟩
  ·obtain ⟨r, S', h1, h2, h3⟩ := h
   exact ⟨r, S', h1, h2, h3⟩
 case callV f xs =>
  split at h
  ·rename_i g caps e
   obtain ⟨hp, h⟩ := h
   cases t <;> simp only at h
   ·obtain ⟨r, S', h1, h2, h3⟩ := h
    simp only [Kd.goT, Kd.go, e]
    exact ⟨hp, r, S', h1, trivial, h3⟩
   ·obtain ⟨r, S', h1, h2, h3⟩ := h
    simp only [Kd.goT, Kd.go, e]
    exact ⟨hp, r, S', h1, h2, h3⟩
  ·exact h.elim
theorem CG : ∀ {l : List Ins} {s : AS} {K : AS → Prop}, Ga P l s K → Run P l s K
 | [], s, K, h => h
 | i :: l, s, K, h => by
  unfold Ga at h
  unfold Run
  split at h
  ·split at h
   ·rename_i e
    simp only [e]
    exact ER h fun v s' _ h' => CG h'
   ·rename_i g want e
    simp only [e]
    split at h
    ·rename_i b e2
     simp only [e2]
     exact ⟨fun hb => ER (h.1 hb) fun v s' _ h' => CG h', fun hb => CG (h.2 hb)⟩
    ·rename_i e2
     simp only [e2]
     exact CG h
    ·exact h.elim
  ·split at h
   ·rename_i e
    simp only [e]
    exact QT h
   ·rename_i g want e
    simp only [e]
    split at h
    ·rename_i b e2
     simp only [e2]
     exact ⟨fun hb => QT (h.1 hb), fun hb => CG (h.2 hb)⟩
    ·rename_i e2
     simp only [e2]
     exact CG h
    ·exact h.elim
theorem H9 {l : List Ins} {s : AS} {K : AS → Prop} {A : Prop} (h : A ∧ Ga P l s K) : A ∧ Run P l s K := ⟨h.1, CG h.2⟩
theorem IWP.ops2 {C : Ctx} {mu : List Nat} {Q : AX → AS → Prop} {s : AS} {l : List Ins} (h : ∀ K : AS → Prop, (∀ s, Q .normal s → K s) → Ga P l s K) : IWP P C mu (.ops l) Q s := IWP.opsK fun K hK => CG (h K hK)
end
attribute [go_sem] UL SQ TC K4 Ins.i Ins.m Ins.L Ins.l Ins.f Ins.s Opd.n I7 E7 Ga Kd.isCall Kd.goC Kd.goT Tag.ok Kd.ptrOpd Fg List.forall_mem_cons List.not_mem_nil Kd.go AS.ev AS.evs AS.put AS.set AG AV.cells HB DJ FP stP S7 stC stCs outC outCs outV outVs IW Cs CU Cj Sz EJ RT Qo optI Ol splice AL.len AS.start AS.startS noS List.getElem?_cons_zero List.getElem?_cons_succ List.getElem?_nil List.getElem?_map Option.isSome_none Option.isSome_some Option.map_some Option.map_none Option.getD_some Option.getD_none List.length_map List.length_cons List.length_nil List.length_append List.map_cons List.map_nil List.take_succ_cons List.take_zero List.take_nil List.drop_succ_cons List.drop_zero List.drop_nil List.nil_append List.cons_append List.append_nil Nat.zero_add Nat.add_zero Nat.le_refl Nat.zero_le if_true if_false Bool.false_eq_true true_and and_true Option.some.injEq Int.toNat_natCast Int.natCast_nonneg Int.ofNat_eq_natCast ite_self decide_true decide_false not_true_eq_false not_false_eq_true true_implies false_implies implies_true Bool.true_eq_false eq_self Bool.not_true Bool.not_false beq_self_eq_true Tm.args_mk Tm.name_mk AV.rens AV.ren AC.ren AC.rens AL.ren Bv JY ML Ma
theorem UC (T : AA) (i : Nat) (b : AL) : upS (AG T i (some b)) = AG (upS T) (up1 i) (some (b.ren up1)) := by
 funext k
 show (if k < 1000 then none else (AG T i (some b) (k - 1000)).map (AL.ren up1)) = _
 by_cases e : k = up1 i
 ·subst e
  rw [AE, if_neg (by have := BL i; omega), show up1 i - 1000 = i from JY i, AE]
  rfl
 ·rw [AH _ e]
  by_cases hk : k < 1000
  ·rw [if_pos hk]
   show none = if k < 1000 then none else _
   rw [if_pos hk]
  ·rw [if_neg hk, AH _ (fun h => e (by rw [← h]; exact (KK (by omega)).symm))]
   show _ = if k < 1000 then none else _
   rw [if_neg hk]
abbrev Wa := @IWP.seq
abbrev Wb := @Fi
abbrev Wc := @IWP.block
abbrev Wd := @IWP.skip
abbrev We := @IWP.exit
abbrev Wg := @ME
abbrev Wh := @Nf
abbrev Wi := @Fk
abbrev Wj := @HN
abbrev Wk := @Hk
abbrev Wl := @Ij
abbrev Wm := @Ln
abbrev Wn := @Oc
abbrev Wo := @IWP.ops2
abbrev Wp := @IWP.cond
abbrev Wq := @CG
abbrev Wr := @H9
abbrev iC := @TK
abbrev Cg := @UQ.mk
abbrev dT := @decide_eq_true_eq
abbrev dF := @decide_eq_false_iff_not
abbrev nL := @Int.ofNat_lt
abbrev eT := @BI
abbrev iR := @EH
attribute [go_sem ↓] Qk S4
theorem Ai {a b : Prop} (k : b) (h : a := by first | omega | exact U5 | (simp [Df] <;> omega)) : a ∧ b := ⟨h, k⟩
theorem Z0 {id id' : Nat} {Q : AX → AS → Prop} {s : AS} (h : Q (.exit id') s) (hne : id' ≠ id := by decide) : AX.inBlock id Q (.exit id') s := Hk hne h
theorem fN {α : Type} (p : α → Prop) : ∀ x ∈ ([] : List α), p x := List.forall_mem_nil p
class HU (goal : Prop) (prev : outParam Prop) : Prop where
 imp : prev → goal
theorem W {goal prev : Prop} [s : HU goal prev] (h : prev) : goal := s.imp h
section
variable {P : Program} {C : Ctx} {mu : List Nat} {x y : IR} {Q : AX → AS → Prop} {s : AS} {id : Nat} {K : AS → Prop}
instance : HU (IWP P C mu (.seq x y) Q s) (IWP P C mu x (OD P C mu y Q) s) := ⟨IWP.seq⟩
instance : HU (OD P C mu y Q .normal s) (IWP P C mu y Q s) := ⟨Fi⟩
instance : HU (IWP P C mu (.block id x) Q s) (IWP P C mu x (AX.inBlock id Q) s) := ⟨IWP.block⟩
instance : HU (IWP P C mu .skip Q s) (Q .normal s) := ⟨IWP.skip⟩
instance : HU (IWP P C mu (.exit id) Q s) (Q (.exit id) s) := ⟨IWP.exit⟩
instance : HU (IWP P C mu .ret Q s) (Q .ret s) := ⟨IWP.ret⟩
instance : HU (OD P C mu y Q (.exit id) s) (Q (.exit id) s) := ⟨ME⟩
instance : HU (OD P C mu y Q .ret s) (Q .ret s) := ⟨Nf⟩
instance : HU (AX.inBlock id Q .normal s) (Q .normal s) := ⟨Fk⟩
instance : HU (AX.inBlock id Q (.exit id) s) (Q .normal s) := ⟨HN⟩
instance : HU (AX.inBlock id Q .ret s) (Q .ret s) := ⟨Ij⟩
instance : HU (AX.then K Q (.exit id) s) (Q (.exit id) s) := ⟨Ln⟩
instance : HU (AX.then K Q .ret s) (Q .ret s) := ⟨Oc⟩
class R_ (goal : Prop) (prev : outParam Prop) : Prop where
 imp : prev → goal
class P9 (goal : Prop) (prev : outParam Prop) : Prop where
 imp : prev → goal
theorem U {goal prev : Prop} [s : R_ goal prev] (h : prev) : goal := s.imp h
theorem V {goal prev : Prop} [s : P9 goal prev] (h : prev) : goal := s.imp h
instance {l : List Ins} : R_ (Run P l s K) (Ga P l s K) := ⟨CG⟩
instance {l : List Ins} {A : Prop} : R_ (A ∧ Run P l s K) (A ∧ Ga P l s K) := ⟨H9⟩
instance {l : List Ins} : P9 (Run P l s K) (Ga P l s K) := ⟨CG⟩
instance {l : List Ins} {A : Prop} : P9 (A ∧ Run P l s K) (A ∧ Ga P l s K) := ⟨H9⟩
instance {c0 : Opd} : P9 (IWP P C mu (.cond c0 x y) Q s) (match s.ev c0 with | .one (.st (.bool b)) => (b = true → IWP P C mu x Q s) ∧ (b = false → IWP P C mu y Q s) | .one .ubool => IWP P C mu x Q s ∧ IWP P C mu y Q s | _ => False) := ⟨IWP.cond⟩
end
theorem IWP.fresh {P : Program} {C : Ctx} {mu : List Nat} {x : IR} {Q : AX → AS → Prop} {s : AS} (h1000 : ∀ i, 1000 ≤ i → s.S i = none) (h : ∀ env' : Nat → AV, (∀ i v, s.env i = .one (.st v) → env' i = .one (.st v)) → IWP P C mu x Q ⟨env', noS⟩) : IWP P C mu x Q s := by
 refine IWP.ghost (Aa.low (s := s) fun i b hi hb => by rw [h1000 i hi] at hb; cases hb) ?_
 have e : Bl s.S = noS := by
  funext i
  show (if i < 1000 then none else s.S i) = none
  split
  ·rfl
  ·exact h1000 i (by omega)
 rw [e]
 exact h _ fun i v hv => by rw [hv]; rfl
theorem IWP.mid {P : Program} {C : Ctx} {mu : List Nat} {x y : IR} {Q : AX → AS → Prop} {s : AS} (M : AS → Prop) (h1 : IWP P C mu x (fun e s => e = .normal ∧ M s) s) (h2 : ∀ s, M s → IWP P C mu y Q s) : IWP P C mu (x.seq y) Q s :=
 IWP.seq (h1.mono fun e s ⟨he, hm⟩ => by subst he; exact Fi (h2 s hm))

section
variable {P : Program} {C : Ctx} {a : Act} {w : World} {σ : Sto} {ι : Ax} {s : AS} {Q : Exit → Act → World → Prop} {o : Oper}
end
section
variable {P : Program} {C : Ctx} {mu : List Nat} {Q : AX → AS → Prop} {s : AS}
end

def US (P : Program) (f : FuncId) (caps : List AV) (Need : AA → Prop) {α : Type} (encs : α → List AV) (all : List α) : Prop :=
 ∀ (y : Nat) (Inv : List α → AA → Prop) (Jx : AA → Prop) (T : AA), 1000 ≤ y → (∀ pre T, Inv pre T → Need T) →
  (∀ pre v, (pre ++ [v]) <+: all → ∀ T, Inv pre T → HW P (.one (.yld y)) (encs v) T fun r T' => (r = .one (.st (.bool true)) ∧ Inv (pre ++ [v]) T') ∨ (r = .one (.st (.bool false)) ∧ Jx T')) →
  Inv [] T → F8 P f (.one (.yld y) :: caps) T fun _ T' => Inv all T' ∨ Jx T'
def L8 (env : Nat → AV) : List Nat → List AV → Nat → AV
 | p :: ps, v :: vs => L8 (AG env p v) ps vs
 | _, _ => env
section
variable {σ : Sto} {S : AA} {ι : Ax}
theorem LO {n : Nat} : ∀ {ps : List Nat} {vs : List Value} {xs : List AV} {tmps : Array Value} {env : Nat → AV}, Ag (AR σ S ι) vs xs → n ≤ tmps.size → (∀ i, i < n → AR σ S ι (tmps.getD i undef) (env i)) →
  n ≤ ((ps.zip vs).foldl (fun t (p, v) => t.setIfInBounds p v) tmps).size ∧ ∀ i, i < n → AR σ S ι (((ps.zip vs).foldl (fun t (p, v) => t.setIfInBounds p v) tmps).getD i undef) (L8 env ps xs i)
 | [], vs, xs, tmps, env, h, hs, he => ⟨hs, he⟩
 | p :: ps, [], [], tmps, env, h, hs, he => ⟨hs, he⟩
 | p :: ps, v :: vs, x :: xs, tmps, env, h, hs, he => by
  cases h with
  | cons h1 h2 =>
   refine LO (ps := ps) h2 (by simpa using hs) fun i hi => ?_
   unfold AG
   by_cases e : i = p
   ·subst e
    rw [if_pos rfl, Array.getD_eq_getD_getElem?, Array.getElem?_setIfInBounds_self_of_lt (by omega)]
    exact h1
   ·rw [if_neg e, Array.getD_eq_getD_getElem?, Array.getElem?_setIfInBounds_ne (fun h => e h.symm), ← Array.getD_eq_getD_getElem?]
    exact he i hi
end
section
variable {P : Program} {C : Ctx} {mu : List Nat} {Q : AX → AS → Prop} {s : AS} {x y : IR} {σ : Sto} {ι : Ax} {a : Act} {w : World}
theorem AQ.upped (R : AQ C σ ι s a w) : ∃ ι1 : Ax, (∀ i, ι1 (up1 i) = ι i) ∧ Dm σ (upS s.S) ι1 w ∧ (∀ v c, AR σ s.S ι v c → AR σ (upS s.S) ι1 v (c.ren up1)) ∧
  ∀ {Post : AV → AA → Prop} {e : Ending} {w' : World}, Pf σ (upS s.S) ι1 w Post e w' → ∃ v r S' σ' ι2, e = .returned v ∧ Post r S' ∧ Ar S' ∧ Upd s.S ι (dnS S') ι2 ∧ AQ C σ' ι2 ⟨s.env, dnS S'⟩ a w' := by
 have hup : ∀ i, dn1 (up1 i) = i := JY
 have hS : ∀ i b, s.S i = some b → upS s.S (up1 i) = some (b.ren up1) := fun i b hb => CF hb
 obtain ⟨ι1, hι1⟩ : ∃ ι1 : Ax, ∀ i, ι1 i = ι (dn1 i) := ⟨fun i => ι (dn1 i), fun _ => rfl⟩
 have hι : ∀ i b, s.S i = some b → ι1 (up1 i) = ι i := fun i b _ => by rw [hι1, hup]
 have hown : Dm σ (upS s.S) ι1 w := by
  refine ⟨fun id b hb => ?_, fun id id' b b' g h1 h2 g1 g2 => ?_⟩
  ·obtain ⟨hle, b', h1, rfl⟩ := ED hb
   have := Be.ren (S2 := upS s.S) (ι2 := ι1) (ρ := up1) hS hι (R.blk _ _ h1)
   rw [hι1]
   exact this
  ·obtain ⟨l1, c1, k1, _⟩ := ED h1
   obtain ⟨l2, c2, k2, _⟩ := ED h2
   rw [hι1] at g1 g2
   have := R.inj _ _ _ _ g k1 k2 g1 g2
   rw [← KK l1, ← KK l2, this]
 refine ⟨ι1, fun i => by rw [hι1, hup], hown, fun v c hv => AR.ren (S2 := upS s.S) (ι2 := ι1) (ρ := up1) hS hι hv, fun {Post e w'} he => ?_⟩
 obtain ⟨v, r, S', σ', ι', rfl, hP, hclean, hupd, hown', hv, hf', hkeep, hold, hos, hsz, hsame, hbase⟩ := he
 have hSd : ∀ i b, S' i = some b → dnS S' (dn1 i) = some (b.ren dn1) := fun i b hb => FV (hclean i b hb).1 hb
 obtain ⟨ι2, hι2⟩ : ∃ ι2 : Ax, ∀ i, ι2 i = ι' (up1 i) := ⟨fun i => ι' (up1 i), fun _ => rfl⟩
 have hιd : ∀ i b, S' i = some b → ι2 (dn1 i) = ι' i := fun i b hb => by
  rw [hι2, KK (hclean i b hb).1]
 have hu : Upd s.S ι (dnS S') ι2 := fun id b hb => by
  obtain ⟨b', h1, h2, h3⟩ := hupd _ _ (hS id b hb)
  have h4 := hSd _ _ h1
  rw [hup] at h4
  refine ⟨_, h4, by rw [Bj] at h2 ⊢; exact h2, fun hl => ?_⟩
  rw [Bj] at hl
  obtain ⟨q1, q2⟩ := h3 (by rw [Bj]; exact hl)
  refine ⟨by rw [I_] at q1 ⊢; exact q1, ?_⟩
  rw [hι2, q2, hι1, hup]
 have hnot : ∀ g, g < C.N → ¬ C.G g → Bz (upS s.S) ι1 g := fun g h1 h2 id b hb hg => by
  obtain ⟨_, b', k1, _⟩ := ED hb
  rw [hι1] at hg
  rcases R.base _ _ g k1 hg with h | h
  ·omega
  ·exact h2 h
 refine ⟨v, r, S', σ', ι2, rfl, hP, hclean, hu, ?_⟩
 refine ⟨R.size, fun i hi => (R.env i hi).mono hkeep hu, R.nod.mono (fun D h => (hsame D (Array.getElem?_eq_some_iff.1 h).1 (Ez hown.1 h)).trans h), hf', fun id b hb => ?_, fun id id' b b' g h1 h2 g1 g2 => ?_, fun id b g hb hg => ?_, fun p x hx => hkeep _ _ (R.ext p x hx), fun p h1 h2 => ?_, ⟨hos.1.trans R.os.1, hos.2.1.trans R.os.2.1, hos.2.2.trans R.os.2.2⟩, ⟨Nat.le_trans R.grown.1 hsz, Nat.le_trans R.grown.2 hsz⟩, fun g h1 h2 => ?_, R.upd.trans hu⟩
 ·obtain ⟨b', h1, rfl⟩ := EF hb
  have := Be.ren (S2 := dnS S') (ι2 := ι2) (ρ := dn1) hSd hιd (hown'.1 _ _ h1)
  rw [hι2]
  exact this
 ·obtain ⟨c1, k1, _⟩ := EF h1
  obtain ⟨c2, k2, _⟩ := EF h2
  rw [hι2] at g1 g2
  have := congrArg dn1 (hown'.2 _ _ _ _ g k1 k2 g1 g2)
  rw [hup, hup] at this
  exact this
 ·obtain ⟨b', h1, _⟩ := EF hb
  rw [hι2] at hg
  rcases hbase _ _ g h1 hg with h2 | h2
  ·exact .inl (by have := R.grown.1; omega)
  ·by_cases hN : g < C.N
   ·by_cases hG : C.G g
    ·exact .inr hG
    ·exact absurd (hnot g hN hG) h2
   ·exact .inl (by omega)
 ·exact (hold p (by have := R.grown.1; omega) (hnot _ h1 h2)).trans (R.old p h1 h2)
 ·exact (hsame g (by have := R.grown.1; omega) (hnot g h1 h2)).trans (R.same g h1 h2)
theorem AQ.setLoop (R : AQ C σ ι s a w) {id l : Nat} {env : List AV} {r : Loop} (r' : Loop) (hS : s.S id = some (.loop env r)) (hl : (ι id).g = some l) (hr : r'.tmps = r.tmps) : w.heap[l]? = some (.loop r) ∧ ∃ ι', AQ C σ ι' (s.set id (.loop env r')) a (w.putObj l (.loop r')) ∧ Upd s.S ι (s.set id (.loop env r')).S ι' := by
 have hb := R.blk id _ hS
 cases hb with
 | loop h1 h2 h3 h4 h5 =>
  rw [hl] at h1
  cases h1
  exact ⟨h2, R.setBlk (o' := .loop r') hS hl h2 h5 rfl rfl fun S' ι' hu => .loop hl (DI h2).1 (by rw [hr]; exact h3) (fun j a ha => by rw [hr]; exact (h4 j a ha).mono (fun _ _ h => h) hu) h5⟩
def Mq (C : Ctx) (y : Nat) (b : AL) (N : AA → Prop) (Jx : AX → AA → Prop) (e : AX) (s : AS) : Prop := ∃ s2 U, Aa C s s2 ∧ s2.S = AG U y (some b) ∧ Ar s2.S ∧ U y = none ∧ match e with
 | .normal => N U
 | .ret => Jx .ret U
 | .exit i => Jx (.exit i) U
 | .pan _ => False
theorem E0 {C : Ctx} {σ0 : Sto} {T : AA} {ι0 : Ax} {w0 : World} (hC : C.N = w0.heap.size) (hw : C.w0 = w0) (hσ : C.σ0 = σ0) (hG : ∀ g, C.G g ↔ ¬ Bz T ι0 g) (hS0 : C.S0 = T) (hι0 : C.ι0 = ι0) (R : AQ C σ ι s a w) (hc : Ar s.S) {Post : AV → AA → Prop} {b : Bool} (hP : Post (.one (.st (.bool b))) s.S) : Pf σ0 T ι0 w0 Post (.returned (.bool b)) w := by
 have hupd := R.upd
 rw [hS0, hι0] at hupd
 subst hσ hw
 exact ⟨.bool b, _, s.S, σ, ι, rfl, hP, hc, hupd, ⟨R.blk, R.inj⟩, .one (.st .bool), R.fit, R.ext, fun p h1 h2 => R.old p (by rw [hC]; exact h1) (fun h => (hG _).1 h h2), R.os, R.grown.2, fun g h1 h2 => R.same g (by rw [hC]; exact h1) (fun h => (hG _).1 h h2), fun id b g h1 h2 => (R.base id b g h1 h2).imp (fun h => by rw [← hC]; exact h) fun h => (hG _).1 h⟩
theorem L7 {S : AA} {i : Nat} {b c : Option AL} : AG (AG S i b) i c = AG S i c := by
 funext j
 unfold AG
 split <;> rfl
inductive Tq : Code → AX → Prop
 | ret : Tq .ret .ret
 | exit (i : Nat) : Tq (.exit i) (.exit i)
theorem S5 {fn : FuncId} {ps : Array Tmp} {ca cb : Code} {D : Nat} {n : Nat} {env : List AV} {tmps : Array Value} (hx : BC P n mu ca = some x) (hy : BC P n mu cb = some y) (hn : env.length = n) {yb : Nat} (hyb : 1000 ≤ yb) {rec : LoopState → Option Code → Loop} (hrec : rec = fun st pe => { state := st, pending := pe, fn, tmps, params := ps, assign := ca, body := cb, defers := D }) {vs : List AV} (hps : vs.length = ps.size)
  {U : AA} (hU : U yb = none) {N : AA → Prop} {Jx : AX → AA → Prop}
  (h : Ar (AG U yb (some (.loop env (rec .ready none)))) → ∀ C' : Ctx, C'.n = n → IWP P C' mu x (AX.then (fun s1 => s1.S yb = some (.loop env (rec .ready none)) ∧ IWP P C' mu y (Mq C' yb (.loop env (rec .busy none)) N Jx) (s1.set yb (.loop env (rec .busy none)))) fun _ _ => False) ⟨L8 (fun i => (env[i]?).getD .any) ps.toList vs, AG U yb (some (.loop env (rec .ready none)))⟩) :
  HW P (.one (.yld yb)) vs (AG U yb (some (.loop env (rec .ready none)))) fun r T' => (r = .one (.st (.bool true)) ∧ ∃ U', T' = AG U' yb (some (.loop env (rec .ready none))) ∧ U' yb = none ∧ N U') ∨
   (r = .one (.st (.bool false)) ∧ ∃ U' c e, T' = AG U' yb (some (.loop env (rec .done (some c)))) ∧ U' yb = none ∧ Tq c e ∧ Jx e U') := by
 intro hclean σ w vy xs ι hglob hfit hown hvy hxs
 obtain ⟨T, hT⟩ : ∃ T, AG U yb (some (.loop env (rec .ready none))) = T := ⟨_, rfl⟩
 have hTy : T yb = some (.loop env (rec .ready none)) := by rw [← hT]; exact AE _ _ _
 rw [hT] at hclean hown hvy hxs h ⊢
 have hhigh := (hclean _ _ hTy).2
 have hb := hown.1 _ _ hTy
 obtain ⟨l, hl, rfl⟩ : ∃ l, (ι yb).g = some l ∧ vy = .func (.yield l) #[] #[] := by
  cases hvy with
  | one hv =>
   cases hv with
   | yld k1 k2 k3 k4 =>
    rw [hTy] at k1
    cases k1
    exact k4 rfl
 have hlen := hxs.len
 cases hb with
 | loop k1 k2 k3 k4 k5 =>
 rw [hl] at k1
 cases k1
 have htm : (rec .ready none).tmps = tmps := by rw [hrec]
 refine ⟨l, rfl, fun ro => ⟨fn, _, ca, cb, by
  have := run_yield (P := P) (args := xs.toArray) k2 (by rw [hrec]; simp; omega)
  rw [hrec] at this
  exact this, ?_⟩⟩
 let C' : Ctx := ⟨n, w.heap.size, fun g => ¬ Bz T ι g, σ, w, T, ι, hclean, hglob, [], some l, false⟩
 have hset := LO (σ := σ) (S := T) (ι := ι) (n := n) (ps := ps.toList) (env := fun i => (env[i]?).getD .any) (tmps := tmps) hxs (by rw [htm] at k3; omega) fun i hi => by
  have hi' : i < env.length := by omega
  have := k4 i _ (List.getElem?_eq_getElem hi')
  rw [htm] at this
  simpa [hi'] using this
 have hfold : (ps.zip xs.toArray).foldl (fun t (p, v) => t.setIfInBounds p v) tmps = (ps.toList.zip xs).foldl (fun t (p, v) => t.setIfInBounds p v) tmps := by
  rw [← Array.foldl_toList, Array.toList_zip]
 have R0 : AQ C' σ ι ⟨L8 (fun i => (env[i]?).getD .any) ps.toList vs, T⟩ { tmps := (ps.zip xs.toArray).foldl (fun t (p, v) => t.setIfInBounds p v) tmps, defers := [] } w := by
  refine ⟨?_, fun i hi => ?_, EO, hfit, hown.1, hown.2, fun id b g h hg => .inr (fun hno => hno id b h hg), fun _ _ h => h, fun _ _ _ => rfl, ⟨rfl, rfl, rfl⟩, ⟨Nat.le_refl _, Nat.le_refl _⟩, fun _ _ _ => rfl, Upd.refl _ _⟩
  ·dsimp only
   rw [hfold]
   exact hset.1
  ·dsimp only
   rw [hfold]
   exact hset.2 i hi
 refine roundIn_of_wpIn (F := fen ro) (n := 0) trivial (wpIn_mono (h hclean C' rfl ca hx _ w ⟨σ, ι, R0⟩) fun e a1 w1 he => ?_)
 have same : ∀ {σ1 : Sto} {ι1 : Ax} {s1 : AS} {a1 : Act} {w1 : World} {b : AL}, AQ C' σ1 ι1 s1 a1 w1 → s1.S yb = some b → b.len = 1 → (ι1 yb).g = some l := fun R1 hs hl1 => by
  obtain ⟨b', h1, h2, h3⟩ := R1.upd yb _ hTy
  rw [hs] at h1
  cases h1
  rw [(h3 hl1).2]
  exact hl
 cases e with
 | normal =>
  obtain ⟨s1, ⟨h1, h2⟩, σ1, ι1, R1⟩ := he
  obtain ⟨q1, ι2, R2, _⟩ := R1.setLoop (rec .busy none) h1 (same R1 h1 rfl) (by rw [hrec])
  refine ⟨_, by
   have := run_beginRound (P := P) q1 (by rw [hrec])
   rw [hrec] at this
   exact this, ?_⟩
  have e1 : (w1.putObj l (.loop (rec .busy none))) = w1.putObj l (.loop { state := .busy, pending := none, fn, tmps, params := ps, assign := ca, body := cb, defers := D }) := by rw [hrec]
  rw [← e1]
  refine wpIn_mono (h2 cb hy _ _ ⟨σ1, ι2, R2⟩) fun e3 a3 w3 he3 => ?_
  have fin : ∀ (jump : Option Code) (s3 s4 : AS) (U2 : AA), Aa C' s3 s4 → s4.S = AG U2 yb (some (.loop env (rec .busy none))) → Ar s4.S → Holds C' s3 a3 w3 →
    ∃ σ5 ι5 s5, (Instr.endRound l jump).run P w3 = .ok (.bool jump.isNone) (w3.putObj l (.loop (rec (if jump.isNone then .ready else .done) jump))) ∧ s5.S = AG U2 yb (some (.loop env (rec (if jump.isNone then .ready else .done) jump))) ∧ Ar s5.S ∧ AQ C' σ5 ι5 s5 a3 (w3.putObj l (.loop (rec (if jump.isNone then .ready else .done) jump))) := fun jump s3 s4 U2 hg hS hc hH => by
   obtain ⟨σ4, ι4, R4⟩ := hg _ _ hH
   have h4 : s4.S yb = some (.loop env (rec .busy none)) := by rw [hS]; exact AE _ _ _
   obtain ⟨q2, ι5, R5, _⟩ := R4.setLoop (rec (if jump.isNone then .ready else .done) jump) h4 (same R4 h4 rfl) (by rw [hrec])
   refine ⟨σ4, ι5, _, ?_, ?_, ?_, R5⟩
   ·have := run_endRound (P := P) jump q2
    rw [hrec] at this ⊢
    exact this
   ·show AG s4.S yb _ = _
    rw [hS, L7]
   ·exact A9 hc hyb hhigh
  cases e3 with
  | normal =>
   obtain ⟨s3, ⟨s4, U2, g1, g2, g3, g4, g5⟩, hH⟩ := he3
   obtain ⟨σ5, ι5, s5, f1, f2, f3, R5⟩ := fin none s3 s4 U2 g1 g2 g3 hH
   exact ⟨_, _, f1, E0 (C := C') rfl rfl rfl (fun g => Iff.rfl) rfl rfl R5 f3 (.inl ⟨rfl, U2, f2, g4, g5⟩)⟩
  | ret =>
   obtain ⟨s3, ⟨s4, U2, g1, g2, g3, g4, g5⟩, hH⟩ := he3
   obtain ⟨σ5, ι5, s5, f1, f2, f3, R5⟩ := fin (some .ret) s3 s4 U2 g1 g2 g3 hH
   exact ⟨_, _, f1, E0 (C := C') rfl rfl rfl (fun g => Iff.rfl) rfl rfl R5 f3 (.inr ⟨rfl, U2, _, _, f2, g4, .ret, g5⟩)⟩
  | exit i =>
   obtain ⟨s3, ⟨s4, U2, g1, g2, g3, g4, g5⟩, hH⟩ := he3
   obtain ⟨σ5, ι5, s5, f1, f2, f3, R5⟩ := fin (some (.exit i)) s3 s4 U2 g1 g2 g3 hH
   exact ⟨_, _, f1, E0 (C := C') rfl rfl rfl (fun g => Iff.rfl) rfl rfl R5 f3 (.inr ⟨rfl, U2, _, _, f2, g4, .exit i, g5⟩)⟩
  | panic ch => obtain ⟨s3, v, ⟨⟨s4, U2, g1, g2, g3, g4, g5⟩, _⟩, _⟩ := he3; exact g5.elim
  | _ => exact he3.elim
 | panic ch => obtain ⟨s1, v, h1, h2⟩ := he; exact h1.1.elim
 | ret => obtain ⟨s1, h1, h2⟩ := he; exact h1.elim
 | exit i => obtain ⟨s1, h1, h2⟩ := he; exact h1.elim
 | _ => exact he.elim
def Cq (n : Nat) (env : Nat → AV) : List AV := (List.range n).map env
theorem LI {n : Nat} {env : Nat → AV} : (Cq n env).length = n := by simp [Cq]
theorem Sl {n i : Nat} {env : Nat → AV} {a : AV} (h : (Cq n env)[i]? = some a) : i < n ∧ a = env i := by
 unfold Cq at h
 rw [List.getElem?_map, Option.map_eq_some_iff] at h
 obtain ⟨j, h1, h2⟩ := h
 obtain ⟨h3, h4⟩ := List.getElem?_eq_some_iff.1 h1
 simp at h3 h4
 subst h4
 exact ⟨h3, h2.symm⟩
theorem Kl {n : Nat} {c : Code} {g : Opd} {ps : List Nat} (h : BC P n mu c = some (.rangeF g ps x y)) : ∃ g' ps' ca cb, c = .rangeFunc g' ps' ca cb ∧ AM n g' = some g ∧ ps'.toList = ps ∧ BC P n mu ca = some x ∧ BC P n mu cb = some y := by
 cases c <;> simp only [BC] at h
 case rangeFunc g' ps' ca cb =>
  split at h
  ·rename_i e1 e2 e3
   split at h
   ·cases h
    exact ⟨_, _, _, _, rfl, e1, rfl, e2, e3⟩
   ·cases h
  ·cases h
 all_goals (exfalso; revert h; (repeat' split) <;> simp)
theorem Ti {U : AA} {id : Nat} {b c : Option AL} : AG (dnS (AG U (up1 id) b)) id c = AG (dnS U) id c := by
 funext j
 unfold AG
 by_cases e : j = id
 ·rw [if_pos e, if_pos e]
 ·rw [if_neg e, if_neg e]
  show (if j + 1000 = up1 id then b else U (j + 1000)).map (AL.ren dn1) = (U (j + 1000)).map (AL.ren dn1)
  rw [if_neg (show ¬ j + 1000 = up1 id by unfold up1; omega)]
theorem Q6 {U : AA} {i : Nat} {b : AL} (h : Ar (AG U i (some b))) (hU : U i = none) : Ar U := fun j c hc => h j c (by
 rw [AH _ (fun e => by rw [e, hU] at hc; cases hc)]
 exact hc)
def Ei (n : Nat) (env : Nat → AV) : Nat → AV := fun i => if i < n then (env i).ren up1 else .any
theorem TS {n : Nat} {env : Nat → AV} : (fun i => ((AV.rens up1 (Cq n env))[i]?).getD .any) = Ei n env := by
 funext i
 unfold Ei Cq
 rw [AV.rens_eq, List.map_map, List.getElem?_map]
 by_cases h : i < n
 ·rw [if_pos h, List.getElem?_range h]
  rfl
 ·rw [if_neg h, List.getElem?_eq_none (by simp; omega)]
  rfl
theorem IWP.rangeF {g : Opd} {ps : List Nat} (htop : C.Top) (id : Nat) (hid : id < 1000) (hfree : s.S id = none) {f : Nat} {caps : List AC} (hg : s.ev g = .one (.fn f caps)) (hpl : CJ P f = true) {α : Type} {encs : α → List AV} {all : List α} {Need : AA → Prop} (hit : US P f (AV.rens up1 (caps.map .one)) Need encs all)
  (hlen : ∀ v, (encs v).length = ps.length) (Inv : List α → AA → Prop) (Jx : AX → AA → Prop) (h0 : Inv [] (upS s.S)) (hneed : ∀ pre U b, Inv pre U → U (up1 id) = none → Need (AG U (up1 id) (some b)))
  (hbody : ∀ (C' : Ctx) (b0 b1 : AL) (pre : List α) (v : α) (U : AA), C'.n = C.n → (pre ++ [v]) <+: all → Inv pre U → U (up1 id) = none → Ar U → b1.high = true →
   IWP P C' mu x (AX.then (fun s1 => s1.S (up1 id) = some b0 ∧ IWP P C' mu y (Mq C' (up1 id) b1 (Inv (pre ++ [v])) Jx) (s1.set (up1 id) b1)) fun _ _ => False) ⟨L8 (Ei C.n s.env) ps (encs v), AG U (up1 id) (some b0)⟩)
  (hdone : ∀ U, Inv all U → Q .normal ⟨s.env, AG (dnS U) id (some (.dead 1 0))⟩) (hjump : ∀ e U, Jx e U → Q e ⟨s.env, AG (dnS U) id (some (.dead 1 0))⟩) : IWP P C mu (.rangeF g ps x y) Q s := fun c hc a w hH => by
 obtain ⟨g', ps', ca, cb, rfl, hg', rfl, hx, hy⟩ := Kl hc
 obtain ⟨σ, ι, R⟩ := hH
 have rg := R.ev hg'
 rw [hg] at rg
 replace rg := AY rg
 generalize hev : a.eval g' = fv at rg
 cases rg with
 | @fn _ vc _ cc g1 g2 g3 =>
 refine wpIn_rangeFunc fun fn hfn => ?_
 obtain ⟨rec, hrec⟩ : ∃ rec : LoopState → Option Code → Loop, rec = fun st pe => { state := st, pending := pe, fn, tmps := a.tmps, params := ps', assign := ca, body := cb, defers := w.heap.size } := ⟨_, rfl⟩
 obtain ⟨w1, hw1⟩ : ∃ w1, (w.alloc (.deferred (some []))).alloc (.loop (rec .ready none)) = w1 := ⟨_, rfl⟩
 have hsz : (w.alloc (.deferred (some []))).heap.size = w.heap.size + 1 := World.size_alloc _ _
 have R1 : AQ C σ ι s { a with defers := Pg w.heap.size :: a.defers } (w.alloc (.deferred (some []))) := by
  have R' := R.more (w' := w.alloc (.deferred (some []))) (Ext.refl _ _) (R.fit.alloc _) (D2.alloc _ _)
  refine { R' with nod := ?_ }
  obtain ⟨l, h1, h2, h3, _⟩ := R.nod
  refine ⟨w.heap.size :: l, by show _ :: a.defers = _; rw [h1]; rfl, List.nodup_cons.2 ⟨fun hm => ?_, h2⟩, fun D hD => ?_, fun hm => by rw [htop.2] at hm; cases hm⟩
  ·have := (Array.getElem?_eq_some_iff.1 (h3 _ hm).2).1
   omega
  ·rcases List.mem_cons.1 hD with rfl | hD
   ·exact ⟨R.grown.1, World.alloc_heap_new w _⟩
   ·exact ⟨(h3 D hD).1, (Below.heap_alloc _ _ _ (Array.getElem?_eq_some_iff.1 (h3 D hD).2).1).trans (h3 D hD).2⟩
 have hsize := R.size
 obtain ⟨hu2, R2⟩ := R1.fresh (w' := w1) hfree (.loop (Cq C.n s.env) (rec .ready none)) ⟨none, 0, some (w.heap.size + 1)⟩ (Ext.refl _ _) (by rw [← hw1]; exact R1.fit.alloc _) (by rw [← hw1]; exact D2.alloc _ _) (fun g hg => by cases hg; omega) (fun S' ι' hu => .loop (g := w.heap.size + 1) rfl (by rw [← hw1, ← hsz]; exact World.alloc_heap_new _ _) (by rw [LI, hrec]; exact hsize) (fun j b hb => by
   obtain ⟨hj, rfl⟩ := Sl hb
   rw [hrec]
   exact (R.env j hj).mono (fun _ _ h => h) hu) (fun p hp => R1.fit.no (by rw [hsz]; omega)))
 have hl2 : (AG ι id (⟨none, 0, some (w.heap.size + 1)⟩ : Hnd) id).g = some (w.heap.size + 1) := by rw [AE]
 generalize AG ι id (⟨none, 0, some (w.heap.size + 1)⟩ : Hnd) = ι2 at R2 hl2 hu2
 obtain ⟨ι3, hι3, hown, hren, hend⟩ := R2.upped
 have hargs : Ag (AR σ (upS (s.set id (.loop (Cq C.n s.env) (rec .ready none))).S) ι3) (.func (.yield (w.heap.size + 1)) #[] #[] :: vc.toList) (.one (.yld (up1 id)) :: AV.rens up1 (caps.map .one)) := by
  have hS2 : (s.set id (.loop (Cq C.n s.env) (rec .ready none))).S id = some (.loop (Cq C.n s.env) (rec .ready none)) := AE _ _ _
  refine .cons (hren _ _ (.one (.yld hS2 (Nat.le_refl _) rfl fun _ => ⟨_, hl2, rfl⟩))) ?_
  rw [AV.rens_eq]
  refine (Ag.mono (fun v c h => hren v c h) ?_).map_right
  refine (Ag.of_get (R := fun v c => AR σ (s.set id (.loop (Cq C.n s.env) (rec .ready none))).S ι2 v (.one c)) (by simpa using g1) fun j v b hv hb => ?_).map_right
  have e := g2 j b hb
  have e2 : vc.toList[j]? = some (cc j) := by simpa using e
  rw [hv] at e2
  cases e2
  exact .one ((g3 j b hb).mono (fun _ _ h => h) hu2)
 have hcl := H_ (s.set id (.loop (Cq C.n s.env) (rec .ready none))).S
 have hTeq : upS (s.set id (.loop (Cq C.n s.env) (rec .ready none))).S = AG (upS s.S) (up1 id) (some (.loop (AV.rens up1 (Cq C.n s.env)) (rec .ready none))) := UC _ _ _
 have hcall := hit (up1 id) (fun pre T => ∃ U, T = AG U (up1 id) (some (.loop (AV.rens up1 (Cq C.n s.env)) (rec .ready none))) ∧ U (up1 id) = none ∧ Inv pre U)
  (fun T => ∃ U c e, T = AG U (up1 id) (some (.loop (AV.rens up1 (Cq C.n s.env)) (rec .done (some c)))) ∧ U (up1 id) = none ∧ Tq c e ∧ Jx e U)
  _ (BL id) (fun pre T hT => by
   obtain ⟨U, rfl, hU, hI⟩ := hT
   exact hneed pre U _ hI hU) (fun pre v hpre T hT => by
   obtain ⟨U, rfl, hU, hI⟩ := hT
   exact S5 hx hy (by rw [AV.rens_eq, List.length_map, LI]) (BL id) hrec (by rw [hlen]; simp) hU fun hc C' hC' => by
    rw [TS]
    exact hbody C' _ (.loop (AV.rens up1 (Cq C.n s.env)) (rec .busy none)) pre v U hC' hpre hI hU (Q6 hc hU) (AV.rens_high _))
  ⟨_, hTeq, by rw [Bv, hfree]; rfl, h0⟩ hcl σ w1 _ ι3 (C.glob.mono R.ext) R2.fit hown hargs
 refine ⟨w.heap.size + 1, [Pg w.heap.size], w1, { target := .fn (.func f) vc, args := #[.func (.yield (w.heap.size + 1)) #[] #[]] }, w1, f, #[.func (.yield (w.heap.size + 1)) #[] #[]] ++ vc, w1, ?_, ?_, fun _ _ => trivial, ?_, fun h => by simp [fen, Fence.wide] at h, ?_⟩
 ·have hr : (fen C.ro).round = none := htop.1
  rw [hr, ← hw1, hrec]
  exact run_enterLoop_outer _ _ _ _ _
 ·simp only [resolve, hev]
  simp [go_sem]
 ·have := Dh (P := P) (w := w1) (args := #[.func (.yield (w.heap.size + 1)) #[] #[]] ++ vc) hpl
  simp [invoke, go_sem, this]
 ·have he0 : (Value.func (.yield (w.heap.size + 1)) #[] #[] :: vc.toList).toArray = #[.func (.yield (w.heap.size + 1)) #[] #[]] ++ vc := by
   apply Array.ext'
   simp
  rw [he0] at hcall
  refine If (hcall.mono fun e w2 he => ?_)
  obtain ⟨v, r, S', σ', ι4, rfl, hP, hS', hu4, R4⟩ := hend he
  have hl4 : ∀ {b : AL}, dnS S' id = some b → b.len = 1 → (ι4 id).g = some (w.heap.size + 1) := fun hb hb1 => by
   obtain ⟨b', h1, h2, h3⟩ := hu4 id _ (show (s.set id (.loop (Cq C.n s.env) (rec .ready none))).S id = some _ from AE _ _ _)
   rw [hb] at h1
   cases h1
   rw [(h3 hb1).2]
   exact hl2
  have fin : ∀ (U : AA) (env : List AV) (st : LoopState) (pe : Option Code), st ≠ .busy → S' = AG U (up1 id) (some (.loop env (rec st pe))) → ∃ w3, (Instr.endLoop (w.heap.size + 1)).run P w2 = .ok pe w3 ∧ Holds C ⟨s.env, AG (dnS U) id (some (.dead 1 0))⟩ { a with defers := Pg w.heap.size :: a.defers } w3 := fun U env st pe hst hS => by
   have hb : dnS S' id = some (.loop (AV.rens dn1 env) (rec st pe)) := by
    have := FV (BL id) (show S' (up1 id) = some (.loop env (rec st pe)) by rw [hS]; exact AE _ _ _)
    rw [JY] at this
    exact this
   have hg4 := hl4 hb rfl
   cases hbr : R4.blk id _ hb with
   | loop k1 k2 k3 k4 k5 =>
    rw [hg4] at k1
    cases k1
    obtain ⟨ι5, R5, _⟩ := R4.setBlk (b' := .dead 1 0) (o' := .loop { rec st pe with state := .exhausted }) hb hg4 k2 k5 rfl rfl fun S'' ι'' hu => .dead fun g' hg' => by
     rw [hg4] at hg'
     cases hg'
     exact ⟨_, (DI k2).1, rfl⟩
    refine ⟨w2.putObj (w.heap.size + 1) (.loop { rec st pe with state := .exhausted }), ?_, σ', ι5, ?_⟩
    ·have := run_endLoop (P := P) k2 (by rw [hrec]; exact hst)
     rw [hrec] at this ⊢
     exact this
    ·have e5 : (AS.set ⟨(s.set id (.loop (Cq C.n s.env) (rec .ready none))).env, dnS S'⟩ id (.dead 1 0)) = ⟨s.env, AG (dnS U) id (some (.dead 1 0))⟩ := by
      show AS.mk s.env (AG (dnS S') id _) = _
      rw [hS, Ti]
     rw [← e5]
     exact R5
  rcases hP with ⟨U, h1, h2, h3⟩ | ⟨U, c, e, h1, h2, h3, h4⟩
  ·obtain ⟨w3, f1, f2⟩ := fin U _ .ready none (by simp) h1
   exact ⟨none, w3, f1, _, hdone U h3, f2⟩
  ·obtain ⟨w3, f1, f2⟩ := fin U _ .done (some c) (by simp) h1
   refine ⟨some c, w3, f1, ?_⟩
   cases h3 with
   | ret => exact wpIn_ret ⟨_, hjump _ U h4, f2⟩
   | exit i => exact wpIn_exit ⟨_, hjump _ U h4, f2⟩
end

set_option maxRecDepth 100000
def DC : IR :=
 (.seq (.ops [.i 3 (.box 25 (.t 1)), .i 4 (.mov (.c (.one (.full [])))), .i 5 (.mov (.n 0))]) (.seq (.seq (.ops [.m 16 0, .L 17 2 3, .i 18 (.call 27 [.t 16, .t 17]), .m 6 18]) (.seq (.ops [.m 19 6, .i 20 (.bin .neq (.t 19) (.n 0))]) (.cond (.t 20) (.seq (.ops [.m 21 6, .i 4 (.mov (.c (.one (.full [])))), .m 5 21]) .ret) .skip))) (.seq (.ops [.i 22 (.makeMap none), .L 23 2 3, .i 24 (.call 28 [.t 23]), .mk none none (.mapSet none (.t 22) (.t 24) (.c (.one (.st (.bool true))))) .no, .m 25 22, .m 7 25]) (.seq (.seq (.ops [.L 26 2 3, .i 27 (.buildSlice false 25 2 [.t 26]), .m 8 27]) (.block 0 (.loop (.seq (.seq (.ops [.m 28 8, .i 29 (.len false (.t 28)), .i 30 (.bin .gtr (.t 29) (.n 0))]) (.cond (.t 30) .skip (.exit 0))) (.seq (.block 1 (.seq (.ops [.m 34 0, .m 35 8, .i 36 (.indexAddr 2 (.t 35) (.n 0)), .L 37 2 36, .i 38 (.call 29 [.t 34, .t 37]), .m 33 38, .i 39 (.extract 0 (.t 33)), .i 40 (.extract 1 (.t 33)), .m 9 39, .m 10 40]) (.seq (.seq (.ops [.m 41 10, .i 42 (.bin .neq (.t 41) (.n 0))]) (.cond (.t 42) (.seq (.ops [.m 43 10, .i 4 (.mov (.c (.one (.full [])))), .m 5 43]) .ret) .skip)) (.seq (.ops [.m 44 9, .i 45 (.len false (.t 44)), .i 46 (.mov (.n 0))]) (.block 2 (.loop (.seq (.ops [.i 47 (.bin .lss (.t 46) (.t 45))]) (.seq (.cond (.t 47) .skip (.exit 2)) (.seq (.block 3 (.seq (.ops [.i 48 (.indexAddr 2 (.t 44) (.t 46)), .L 49 2 48, .i 12 (.alloc 25 [.st (.str (ByteArray.mk (#[]))), .full []]), .s 2 12 49]) (.seq (.ops [.L 50 2 12, .i 51 (.call 28 [.t 50]), .m 13 51]) (.seq (.ops [.m 52 7, .m 53 13, .i 54 (.lookup none false (.one (.st (.bool false))) (.t 52) (.t 53)), .i 55 (.un .not (.t 54))]) (.cond (.t 55) (.seq (.ops [.m 56 7, .m 57 13, .mk none none (.mapSet none (.t 56) (.t 57) (.c (.one (.st (.bool true))))) .no]) (.seq (.ops [.m 58 8, .L 59 2 12, .i 60 (.buildSlice false 25 2 [.t 59]), .i 61 (.append false 25 2 40 (.t 58) (.t 60)), .m 8 61]) (.seq (.ops [.m 62 7, .i 63 (.lenM (.t 62)), .i 64 (.bin .gtr (.t 63) (.n 200))]) (.cond (.t 64) (.seq (.ops [.i 4 (.mov (.c (.one (.full [])))), .i 5 (.mov (.n 3))]) .ret) .skip)))) .skip))))) (.ops [.i 65 (.bin .add (.t 46) (.n 1)), .m 46 65])))))))))) (.ops [.m 31 8, .i 32 (.restP 2 (.t 31) (.n 1)), .m 8 32])))))) (.seq (.ops [.i 14 (.mov (.c (.one (.full []))))]) (.seq (.seq (.ops [.m 66 7, .i 67 (.rangeM (.t 66))]) (.block 4 (.loop (.seq (.ops [.i 68 (.next (.t 67)), .i 69 (.extract 0 (.t 68))]) (.seq (.cond (.t 69) .skip (.exit 4)) (.block 5 (.seq (.ops [.i 70 (.entry (.t 67)), .i 71 (.extract 0 (.t 70)), .m 15 71]) (.ops [.m 72 14, .m 73 15, .i 74 (.buildFlat [.t 73]), .i 75 (.append true 9 1 16 (.t 72) (.t 74)), .m 14 75])))))))) (.seq (.ops [.m 76 14, .i 77 (.callS 30 [.t 76])]) (.seq (.ops [.m 78 14, .m 4 78, .i 5 (.mov (.n 0))]) .ret))))))))
theorem Eb : OkF Tryz.prog 11 79 [75, 30000032, 77] DC [.t 4, .t 5] := .of Tryz.func11 rfl rfl (by kernel_rfl) rfl
def G4 : IR :=
 (.seq (.ops [.i 3 (.box 25 (.t 1)), .i 4 (.mov (.c (.one (.full [])))), .i 5 (.mov (.n 0))]) (.seq (.ops [.L 14 2 3, .i 15 (.buildSlice false 25 2 [.t 14]), .m 6 15]) (.seq (.ops [.i 16 (.makeMap none), .L 17 2 3, .i 18 (.call 24 [.t 17]), .mk none none (.mapSet none (.t 16) (.t 18) (.c (.one (.st (.bool true))))) .no, .m 19 16, .m 7 19]) (.seq (.ops [.L 20 2 3, .i 21 (.call 24 [.t 20]), .i 22 (.buildFlat [.t 21]), .m 8 22]) (.seq (.seq (.ops [.i 9 (.mov (.n 0))]) (.block 0 (.loop (.seq (.seq (.ops [.m 23 9, .m 24 6, .i 25 (.len false (.t 24)), .i 26 (.bin .lss (.t 23) (.t 25))]) (.cond (.t 26) .skip (.exit 0))) (.seq (.block 1 (.seq (.ops [.m 30 0, .m 31 6, .m 32 9, .i 33 (.indexAddr 2 (.t 31) (.t 32)), .L 34 2 33, .i 35 (.call 25 [.t 30, .t 34]), .m 29 35, .i 36 (.extract 0 (.t 29)), .i 37 (.extract 1 (.t 29)), .m 10 36, .m 11 37]) (.seq (.seq (.ops [.m 38 11, .i 39 (.bin .neq (.t 38) (.n 0))]) (.cond (.t 39) (.seq (.ops [.m 40 11, .i 4 (.mov (.c (.one (.full [])))), .m 5 40]) .ret) .skip)) (.seq (.ops [.i 12 (.mov (.n 0))]) (.block 2 (.loop (.seq (.seq (.ops [.m 41 12, .m 42 10, .i 43 (.len false (.t 42)), .i 44 (.bin .lss (.t 41) (.t 43))]) (.cond (.t 44) .skip (.exit 2))) (.seq (.block 3 (.seq (.ops [.m 47 10, .m 48 12, .i 49 (.indexAddr 2 (.t 47) (.t 48)), .L 50 2 49, .i 51 (.call 24 [.t 50]), .m 13 51]) (.seq (.seq (.ops [.m 52 7, .m 53 13, .i 54 (.lookup none false (.one (.st (.bool false))) (.t 52) (.t 53))]) (.cond (.t 54) (.exit 3) .skip)) (.seq (.ops [.m 55 7, .m 56 13, .mk none none (.mapSet none (.t 55) (.t 56) (.c (.one (.st (.bool true))))) .no]) (.seq (.ops [.m 57 8, .m 58 13, .i 59 (.buildFlat [.t 58]), .i 60 (.append false 9 1 16 (.t 57) (.t 59)), .m 8 60]) (.seq (.ops [.m 61 6, .m 62 10, .m 63 12, .i 64 (.indexAddr 2 (.t 62) (.t 63)), .L 65 2 64, .i 66 (.buildSlice false 25 2 [.t 65]), .i 67 (.append false 25 2 40 (.t 61) (.t 66)), .m 6 67]) (.seq (.ops [.m 68 8, .i 69 (.len false (.t 68)), .i 70 (.bin .gtr (.t 69) (.n 200))]) (.cond (.t 70) (.seq (.ops [.i 4 (.mov (.c (.one (.full [])))), .i 5 (.mov (.n 3))]) .ret) .skip)))))))) (.ops [.m 45 12, .i 46 (.bin .add (.t 45) (.n 1)), .m 12 46]))))))))) (.ops [.m 27 9, .i 28 (.bin .add (.t 27) (.n 1)), .m 9 28])))))) (.seq (.ops [.m 71 8, .i 72 (.call 26 [.t 71]), .m 4 72, .i 5 (.mov (.n 0))]) .ret))))))
theorem M2 : OkF Tryz.prog 10 73 [] G4 [.t 4, .t 5] := .of Tryz.func10 rfl rfl (by kernel_rfl) rfl
def A8 : IR :=
 (.seq (.ops [.i 3 (.box 25 (.t 1)), .i 4 (.mov (.c (.one (.st (.bool false)))))]) (.seq (.seq (.ops [.m 10 0, .i 11 (.call 5 [.t 10]), .m 12 11, .mk (some 13) (some (12, false)) (.load true 2 (.t 3)) .no, .mk (some 14) (some (12, false)) (.call 6 [.t 13]) .no, .i 15 (.pick (.t 12) (.c (.one (.st (.bool true)))) (.t 14))]) (.cond (.t 15) (.seq (.ops [.i 4 (.mov (.c (.one (.st (.bool true)))))]) .ret) .skip)) (.seq (.ops [.m 16 0, .i 17 (.call 7 [.t 16]), .m 5 17]) (.seq (.seq (.ops [.m 18 5, .i 19 (.bin .eql (.t 18) (.n 0))]) (.cond (.t 19) (.ops [.L 20 2 3, .i 21 (.call 8 [.t 20]), .m 5 21]) .skip)) (.seq (.ops [.i 6 (.mov (.c (.one (.full []))))]) (.seq (.seq (.ops [.m 22 5, .i 23 (.bin .eql (.t 22) (.n 0))]) (.cond (.t 23) (.seq (.seq (.ops [.L 24 2 3, .i 25 (.call 9 [.t 24, .n 30]), .i 26 (.bin .gtr (.t 25) (.n 30)), .m 27 26, .mk (some 28) (some (27, false)) (.mov (.t 0)) .no, .mk (some 29) (some (27, false)) (.len false (.t 28)) .no, .mk (some 30) (some (27, false)) (.bin .gtr (.t 29) (.n 6)) .no, .i 31 (.pick (.t 27) (.c (.one (.st (.bool true)))) (.t 30))]) (.cond (.t 31) (.seq (.ops [.i 4 (.mov (.c (.one (.st (.bool true)))))]) .ret) .skip)) (.seq (.seq (.ops [.i 7 (.mov (.n 0))]) (.block 0 (.loop (.seq (.seq (.ops [.m 32 7, .m 33 0, .i 34 (.len false (.t 33)), .i 35 (.bin .lss (.t 32) (.t 34))]) (.cond (.t 35) .skip (.exit 0))) (.seq (.block 1 (.seq (.ops [.m 38 0, .m 39 7, .i 40 (.indexAddr 4 (.t 38) (.t 39)), .f 41 2 40, .L 42 2 41, .i 43 (.call 9 [.t 42, .n 12]), .i 44 (.bin .gtr (.t 43) (.n 12))]) (.cond (.t 44) (.seq (.ops [.i 4 (.mov (.c (.one (.st (.bool true)))))]) .ret) .skip))) (.ops [.m 36 7, .i 37 (.bin .add (.t 36) (.n 1)), .m 7 37])))))) (.ops [.m 46 0, .L 47 2 3, .i 48 (.call 10 [.t 46, .t 47]), .m 45 48, .i 49 (.extract 0 (.t 45)), .i 50 (.extract 1 (.t 45)), .m 6 49, .m 5 50]))) .skip)) (.seq (.ops [.m 52 0, .L 53 2 3, .i 54 (.call 11 [.t 52, .t 53]), .m 51 54, .i 55 (.extract 0 (.t 51)), .i 56 (.extract 1 (.t 51)), .m 8 55, .m 9 56]) (.seq (.ops [.m 57 8, .m 58 9, .m 59 6, .m 60 5, .i 61 (.call 12 [.t 57, .t 58, .t 59, .t 60]), .m 4 61]) .ret))))))))
theorem BG : OkF Tryz.prog 3 62 [] A8 [.t 4] := .of Tryz.func3 rfl rfl (by kernel_rfl) rfl
def FJ : IR :=
 (.seq (.ops [.i 8 (.mov (.c (.one (.st (.bool false)))))]) (.seq (.seq (.ops [.m 9 3, .i 10 (.bin .neq (.t 9) (.n 0))]) (.cond (.t 10) (.seq (.ops [.m 11 1, .m 12 3, .i 13 (.bin .eql (.t 11) (.t 12)), .m 14 13, .mk (some 15) (some (14, true)) (.mov (.t 0)) .no, .mk (some 16) (some (14, true)) (.len false (.t 15)) .no, .mk (some 17) (some (14, true)) (.bin .eql (.t 16) (.n 0)) .no, .i 18 (.pick (.t 14) (.t 17) (.c (.one (.st (.bool false))))), .m 8 18]) .ret) .skip)) (.seq (.ops [.m 19 1, .i 20 (.bin .eql (.t 19) (.n 0)), .m 21 20, .mk (some 22) (some (21, true)) (.mov (.t 0)) .no, .mk (some 23) (some (21, true)) (.mov (.t 2)) .no, .mk (some 24) (some (21, true)) (.call 31 [.t 22, .t 23]) .no, .i 25 (.pick (.t 21) (.t 24) (.c (.one (.st (.bool false))))), .m 8 25]) .ret)))
theorem Ii : OkF Tryz.prog 12 26 [] FJ [.t 8] := .of Tryz.func12 rfl rfl (by kernel_rfl) rfl
def FY : IR :=
 (.seq (.ops [.i 4 (.mov (.c (.one (.st (.bool false)))))]) (.seq (.seq (.ops [.m 6 0, .i 7 (.len false (.t 6)), .m 8 1, .i 9 (.len false (.t 8)), .i 10 (.bin .neq (.t 7) (.t 9))]) (.cond (.t 10) (.seq (.ops [.i 4 (.mov (.c (.one (.st (.bool false)))))]) .ret) .skip)) (.seq (.seq (.ops [.i 5 (.mov (.n 0))]) (.block 0 (.loop (.seq (.seq (.ops [.m 11 5, .m 12 0, .i 13 (.len false (.t 12)), .i 14 (.bin .lss (.t 11) (.t 13))]) (.cond (.t 14) .skip (.exit 0))) (.seq (.block 1 (.seq (.ops [.m 17 0, .m 18 5, .i 19 (.indexAddr 1 (.t 17) (.t 18)), .l 20 19, .m 21 1, .m 22 5, .i 23 (.indexAddr 1 (.t 21) (.t 22)), .l 24 23, .i 25 (.bin .neq (.t 20) (.t 24))]) (.cond (.t 25) (.seq (.ops [.i 4 (.mov (.c (.one (.st (.bool false)))))]) .ret) .skip))) (.ops [.m 15 5, .i 16 (.bin .add (.t 15) (.n 1)), .m 5 16])))))) (.seq (.ops [.i 4 (.mov (.c (.one (.st (.bool true)))))]) .ret))))
theorem KT : OkF Tryz.prog 31 26 [] FY [.t 4] := .of Tryz.func31 rfl rfl (by kernel_rfl) rfl

theorem Be.dropA {σ : Sto} {S S' : AA} {ι ι' : Ax} {w : World} {h : Hnd} {e : TypeId} {wd : Nat} {xs : List (List SV)} (hr : Be σ S ι w h (.arow e wd xs)) (hw : ∀ x ∈ xs, x.length = wd) {o : Nat} (ho : o ≤ xs.length) :
  Be σ S' ι' w ⟨if h.cap = o then h.p else h.p.map (·.add (o * wd)), h.cap - o, if h.cap = o then none else h.g⟩ (.arow e wd (xs.drop o)) := by
 have hs := hr.srep
 obtain ⟨p, cap, he, hc, hp⟩ := IP hs hw (l := o) (hh := xs.length) ho (Nat.le_refl _)
 simp only [Value.slice.injEq] at he
 obtain ⟨rfl, -, rfl⟩ := he
 rw [List.take_length] at hp
 have hwd : ∀ x ∈ xs.drop o, x.length = wd := fun x hx => hw x (List.mem_of_mem_drop hx)
 have hld : (xs.drop o).length = xs.length - o := List.length_drop
 by_cases hco : h.cap = o
 ·exact .afull (by simp [hco]) (by show h.cap - o = _; omega) hwd (by rw [hld]; exact hp)
 ·cases hr with
  | afull h1 h2 h3 h4 => exact .afull (by simp [h1]) (by show h.cap - o = _; omega) hwd (by rw [hld]; exact hp)
  | @arow _ _ _ g vs q h1 h2 h3 h4 h5 h6 h7 h8 h9 hh =>
   have e1 : (h.cap - o) * wd + o * wd = h.cap * wd := by rw [← Nat.add_mul]; congr 1; omega
   have e2 : (xs.length - o) * wd + o * wd = xs.length * wd := by rw [← Nat.add_mul]; congr 1; omega
   refine .arow (q := q + o * wd) (by simp [hco, h1]) (by simp only [hco, if_false]; rw [h2, Option.map_some, BJ]) h3 (by rw [hld]; show xs.length - o ≤ h.cap - o; omega) (by show h.cap - o ≤ _; omega) (by rw [h6]; show _ = q + o * wd + (h.cap - o) * wd; omega) hwd (fun k x j a hx ha => ?_) (fun p hp hne => ?_) (fun q1 q2 q3 => hh q1 q2 fun e => q3 (by rw [e, List.drop_nil]))
   ·rw [List.getElem?_drop] at hx
    obtain ⟨v, v1, v2, v3⟩ := h8 _ x j a hx ha
    have e3 : q + ((o + k) * wd + j) = q + o * wd + (k * wd + j) := by rw [Nat.add_mul]; omega
    rw [e3] at v1 v3
    exact ⟨v, v1, v2, v3⟩
   ·have := h9 p hp hne
    rw [hld]
    omega
theorem AQ.move {C : Ctx} {σ : Sto} {ι : Ax} {s : AS} {a : Act} {w : World} (R : AQ C σ ι s a w) {id nid N wd : Nat} {b b' : AL} {h' : Hnd} (hid : s.S id = some b) (hn : s.S nid = none) (hN : b.len < N) (hg : ∀ g, h'.g = some g → (ι id).g = some g) (hb' : ∀ S' ι', Be σ S' ι' w h' b') :
  Upd s.S ι (AG (AG s.S id (some (.dead N wd))) nid (some b')) (AG (AG ι id ⟨none, 0, none⟩) nid h') ∧ AQ C σ (AG (AG ι id ⟨none, 0, none⟩) nid h') ⟨s.env, AG (AG s.S id (some (.dead N wd))) nid (some b')⟩ a w := by
 have n1 : nid ≠ id := fun e => by subst e; rw [hid] at hn; cases hn
 obtain ⟨S2, hS2⟩ : ∃ S2, AG (AG s.S id (some (.dead N wd))) nid (some b') = S2 := ⟨_, rfl⟩
 obtain ⟨ι2, hι2⟩ : ∃ ι2 : Ax, AG (AG ι id ⟨none, 0, none⟩) nid h' = ι2 := ⟨_, rfl⟩
 rw [hS2, hι2]
 have sn : S2 nid = some b' := by rw [← hS2, AE]
 have si : S2 id = some (.dead N wd) := by rw [← hS2, AH _ n1.symm, AE]
 have so : ∀ i, i ≠ nid → i ≠ id → S2 i = s.S i := fun i h2 h3 => by rw [← hS2, AH _ h2, AH _ h3]
 have ιn : ι2 nid = h' := by rw [← hι2, AE]
 have ιi : ι2 id = ⟨none, 0, none⟩ := by rw [← hι2, AH _ n1.symm, AE]
 have ιo : ∀ i, i ≠ nid → i ≠ id → ι2 i = ι i := fun i h2 h3 => by rw [← hι2, AH _ h2, AH _ h3]
 have hu : Upd s.S ι S2 ι2 := fun i b h => by
  by_cases e2 : i = id
  ·subst e2
   rw [hid] at h
   cases h
   exact ⟨_, si, Nat.le_of_lt hN, fun hl => absurd (show N = _ from hl) (by omega)⟩
  ·have e3 : i ≠ nid := fun e3 => by subst e3; rw [hn] at h; cases h
   exact ⟨b, (so i e3 e2).trans h, Nat.le_refl _, fun _ => ⟨rfl, ιo i e3 e2⟩⟩
 have old : ∀ i b, S2 i = some b → ∀ g, (ι2 i).g = some g → ∃ i' b', s.S i' = some b' ∧ (ι i').g = some g ∧ (i = nid ∧ i' = id ∨ i' = i ∧ i ≠ nid ∧ i ≠ id) := fun i b h g hg1 => by
  by_cases e2 : i = id
  ·subst e2
   rw [ιi] at hg1
   cases hg1
  ·by_cases e3 : i = nid
   ·subst e3
    rw [ιn] at hg1
    exact ⟨id, _, hid, hg g hg1, .inl ⟨rfl, rfl⟩⟩
   ·rw [ιo i e3 e2] at hg1
    exact ⟨i, b, (so i e3 e2).symm.trans h, hg1, .inr ⟨rfl, e3, e2⟩⟩
 refine ⟨hu, R.size, fun i hi => (R.env i hi).mono (fun _ _ h => h) hu, R.nod, R.fit, fun i b h => ?_, fun i i' b b' g h1 h2 g1 g2 => ?_, fun i b g h hg1 => ?_, R.ext, R.old, R.os, R.grown, R.same, R.upd.trans hu⟩
 ·change S2 i = some b at h
  by_cases e2 : i = id
  ·subst e2
   rw [si] at h
   cases h
   rw [ιi]
   exact .dead fun g hg => by cases hg
  ·by_cases e3 : i = nid
   ·subst e3
    rw [sn] at h
    cases h
    rw [ιn]
    exact hb' _ _
   ·rw [ιo i e3 e2]
    exact (R.blk i b ((so i e3 e2).symm.trans h)).mono (fun _ _ h => h) hu (fun _ _ => rfl) (fun _ _ _ _ => rfl)
 ·obtain ⟨j1, c1, k1, k2, k3⟩ := old i b h1 g g1
  obtain ⟨j2, c2, l1, l2, l3⟩ := old i' b' h2 g g2
  have := R.inj _ _ _ _ g k1 l1 k2 l2
  rcases k3 with ⟨a1, a2⟩ | ⟨a1, a2, a3⟩ <;> rcases l3 with ⟨b1, b2⟩ | ⟨b1, b2, b3⟩
  ·rw [a1, b1]
  ·exact absurd (by rw [← b1, ← this, a2] : i' = id) b3
  ·exact absurd (by rw [← a1, this, b2] : i = id) a3
  ·rw [← a1, ← b1, this]
 ·obtain ⟨j1, c1, k1, k2, _⟩ := old i b h g hg1
  exact R.base _ _ g k1 k2
theorem PK {σ : Sto} {S : AA} {ι : Ax} {v : Value} {id o n : Nat} (h : Ao σ S ι v (.rest id o n)) : ∃ b, S id = some b ∧ n ≤ b.len ∧ v.oneCell' = true ∧ (n = b.len → o ≤ n ∧ v = .slice (if (ι id).cap = o then (ι id).p else (ι id).p.map (·.add (o * b.wid))) (n - o) ((ι id).cap - o)) := by
 cases h with
 | rest h1 h2 h3 h4 => exact ⟨_, h1, h2, h3, h4⟩
theorem Aa.front {C : Ctx} {s : AS} (t id nid N : Nat) {o : Nat} {e : TypeId} {wd : Nat} {xs : List (List SV)} (hid : s.S id = some (.arow e wd xs)) (ht : s.env t = .one (.rest id o xs.length)) (hw : ∀ x ∈ xs, x.length = wd) (hn : s.S nid = none) (hN : xs.length < N) (htn : t < C.n) :
  Aa C s ⟨AG s.env t (.one (.row nid (xs.length - o))), AG (AG s.S id (some (.dead N wd))) nid (some (.arow e wd (xs.drop o)))⟩ := fun a w ⟨σ, ι, R⟩ => by
 have hv := R.env t htn
 rw [ht] at hv
 obtain ⟨b0, q1, q2, q3, q4⟩ := PK (AY hv)
 ·rw [hid] at q1
  cases q1
  obtain ⟨q5, q6⟩ := q4 rfl
  have hb := R.blk _ _ hid
  obtain ⟨hu, R'⟩ := R.move (N := N) (wd := wd) hid hn hN (fun g hg => by simp only at hg; split at hg; cases hg; exact hg) (fun S' ι' => hb.dropA (S' := S') (ι' := ι') hw q5)
  refine ⟨σ, _, { R' with env := fun i hi => ?_ }⟩
  show AR σ _ _ _ (AG s.env t _ i)
  by_cases hi' : i = t
  ·subst hi'
   rw [AE]
   refine .one (.row (b := .arow e wd (xs.drop o)) (AE _ _ _) (by show xs.length - o ≤ (xs.drop o).length; rw [List.length_drop]; omega) q3 fun _ => ?_)
   rw [AE]
   exact q6
  ·rw [AH _ hi']
   exact R'.env i hi
theorem Ql {σ : Sto} {S : AA} {ι : Ax} {v : Value} {id n : Nat} (h : Ao σ S ι v (.row id n)) : ∃ b, S id = some b ∧ n ≤ b.len ∧ v.oneCell' = true ∧ (n = b.len → v = .slice (ι id).p n (ι id).cap) := by
 cases h with
 | row h1 h2 h3 h4 => exact ⟨_, h1, h2, h3, h4⟩
theorem Aa.rename {C : Ctx} {s : AS} (t id nid N : Nat) {e : TypeId} {wd : Nat} {xs : List (List SV)} (hid : s.S id = some (.arow e wd xs)) (ht : s.env t = .one (.row id xs.length)) (hn : s.S nid = none) (hN : xs.length < N) (htn : t < C.n) :
  Aa C s ⟨AG s.env t (.one (.row nid xs.length)), AG (AG s.S id (some (.dead N wd))) nid (some (.arow e wd xs))⟩ := fun a w ⟨σ, ι, R⟩ => by
 have hv := R.env t htn
 rw [ht] at hv
 obtain ⟨b0, q1, q2, q3, q4⟩ := Ql (AY hv)
 ·rw [hid] at q1
  cases q1
  have hb := R.blk _ _ hid
  have hbb : ∀ S' ι', Be σ S' ι' w (ι id) (.arow e wd xs) := fun S' ι' => by
   cases hb with
   | afull h1 h2 h3 h4 => exact .afull h1 h2 h3 h4
   | arow h1 h2 h3 h4 h5 h6 h7 h8 h9 hh => exact .arow h1 h2 h3 h4 h5 h6 h7 h8 h9 hh
  obtain ⟨hu, R'⟩ := R.move (N := N) (wd := wd) hid hn hN (fun g hg => hg) hbb
  refine ⟨σ, _, { R' with env := fun i hi => ?_ }⟩
  show AR σ _ _ _ (AG s.env t _ i)
  by_cases hi' : i = t
  ·subst hi'
   rw [AE]
   refine .one (.row (b := .arow e wd xs) (AE _ _ _) (Nat.le_refl _) q3 fun _ => ?_)
   rw [AE]
   exact q4 rfl
  ·rw [AH _ hi']
   exact R'.env i hi

open Go.Proofs Go.Shelf
def Tryz.lays190_ren : Go.Shelf.Ren := ⟨fun | 190 => 30 | 125 => 57 | 258 => 56 | 128 => 91 | 129 => 92 | 302 => 82 | 303 => 83 | 304 => 84 | 305 => 85 | 306 => 86 | 307 => 87 | 308 => 88 | 309 => 89 | 310 => 90 | 333 => 110 | 329 => 111 | 330 => 112 | 334 => 113 | 335 => 114 | 336 => 115 | 344 => 124 | n => n, fun | 31 => 31 | 9 => 9 | 3 => 3 | 46 => 90 | 0 => 0 | 51 => 124 | 53 => 126 | 4 => 4 | 183 => 116 | 182 => 115 | 131 => 121 | 5 => 5 | 218 => 143 | 222 => 147 | 228 => 156 | 229 => 157 | n => n, fun | n => n⟩
theorem Tryz.lays190 : Go.Proofs.Lays.n190 Tryz.prog Tryz.lays190_ren := {
 mixed := by kernel_rfl
 f125 := Tryz.func57.trans (congrArg some (by kernel_rfl))
 f128 := Tryz.func91.trans (congrArg some (by kernel_rfl))
 f129 := Tryz.func92.trans (congrArg some (by kernel_rfl))
 f190 := Tryz.func30.trans (congrArg some (by kernel_rfl))
 f258 := Tryz.func56.trans (congrArg some (by kernel_rfl))
 f302 := Tryz.func82.trans (congrArg some (by kernel_rfl))
 f303 := Tryz.func83.trans (congrArg some (by kernel_rfl))
 f304 := Tryz.func84.trans (congrArg some (by kernel_rfl))
 f305 := Tryz.func85.trans (congrArg some (by kernel_rfl))
 f306 := Tryz.func86.trans (congrArg some (by kernel_rfl))
 f307 := Tryz.func87.trans (congrArg some (by kernel_rfl))
 f308 := Tryz.func88.trans (congrArg some (by kernel_rfl))
 f309 := Tryz.func89.trans (congrArg some (by kernel_rfl))
 f310 := Tryz.func90.trans (congrArg some (by kernel_rfl))
 f329 := Tryz.func111.trans (congrArg some (by kernel_rfl))
 f330 := Tryz.func112.trans (congrArg some (by kernel_rfl))
 f333 := Tryz.func110.trans (congrArg some (by kernel_rfl))
 f334 := Tryz.func113.trans (congrArg some (by kernel_rfl))
 f335 := Tryz.func114.trans (congrArg some (by kernel_rfl))
 f336 := Tryz.func115.trans (congrArg some (by kernel_rfl))
 f344 := Tryz.func124.trans (congrArg some (by kernel_rfl))
 t0 := Tryz.underlying0
 a0 := Tryz.isAgg0
 z0 := Tryz.sizeOf0
 v0 := Tryz.zeroValue0
 t3 := Tryz.underlying3
 a3 := Tryz.isAgg3
 z3 := Tryz.sizeOf3
 v3 := Tryz.zeroValue3
 t4 := Tryz.underlying4
 a4 := Tryz.isAgg4
 z4 := Tryz.sizeOf4
 v4 := Tryz.zeroValue4
 t5 := Tryz.underlying5
 a5 := Tryz.isAgg5
 z5 := Tryz.sizeOf5
 v5 := Tryz.zeroValue5
 t9 := Tryz.underlying9
 a9 := Tryz.isAgg9
 z9 := Tryz.sizeOf9
 v9 := Tryz.zeroValue9
 t31 := Tryz.underlying31
 a31 := Tryz.isAgg31
 z31 := Tryz.sizeOf31
 v31 := Tryz.zeroValue31
 t46 := Tryz.underlying90
 a46 := Tryz.isAgg90
 z46 := Tryz.sizeOf90
 v46 := Tryz.zeroValue90
 t51 := Tryz.underlying124
 a51 := Tryz.isAgg124
 z51 := Tryz.sizeOf124
 v51 := Tryz.zeroValue124
 t53 := Tryz.underlying126
 a53 := Tryz.isAgg126
 z53 := Tryz.sizeOf126
 v53 := Tryz.zeroValue126
 t131 := Tryz.underlying121
 a131 := Tryz.isAgg121
 z131 := Tryz.sizeOf121
 v131 := Tryz.zeroValue121
 t182 := Tryz.underlying115
 a182 := Tryz.isAgg115
 z182 := Tryz.sizeOf115
 v182 := Tryz.zeroValue115
 t183 := Tryz.underlying116
 a183 := Tryz.isAgg116
 z183 := Tryz.sizeOf116
 v183 := Tryz.zeroValue116
 t218 := Tryz.underlying143
 a218 := Tryz.isAgg143
 z218 := Tryz.sizeOf143
 v218 := Tryz.zeroValue143
 t222 := Tryz.underlying147
 a222 := Tryz.isAgg147
 z222 := Tryz.sizeOf147
 v222 := Tryz.zeroValue147
 t228 := Tryz.underlying156
 a228 := Tryz.isAgg156
 z228 := Tryz.sizeOf156
 v228 := Tryz.zeroValue156
 t229 := Tryz.underlying157
 a229 := Tryz.isAgg157
 z229 := Tryz.sizeOf157
 v229 := Tryz.zeroValue157 }

def BD (n : Int) : Bool := decide (97 ≤ n ∧ n ≤ 122) || decide (65 ≤ n ∧ n ≤ 90) || decide (48 ≤ n ∧ n ≤ 57)
def Ap (s : ByteArray) (k : Nat) : Int := ((s.data.toList.getD k 0).toNat : Int)
theorem Ep (s : ByteArray) (k : Nat) : 0 ≤ Ap s k ∧ Ap s k ≤ 255 := by
 unfold Ap
 have := (s.data.toList.getD k 0).toNat_lt
 omega
def A0 (s : ByteArray) : Bool := decide (0 < s.size) && decide (65 ≤ Ap s 0) && decide (Ap s 0 ≤ 90)
def CM (s : ByteArray) (k : Nat) : Bool := (s.data.toList.take k).all fun c => BD c.toNat
def A5 (s : ByteArray) : Bool := decide (1 ≤ s.size) && decide (s.size ≤ 8) && !(decide (48 ≤ Ap s 0) && decide (Ap s 0 ≤ 57)) && CM s s.size
theorem FS (s : ByteArray) (k : Nat) (h : k < s.size) : CM s (k + 1) = (CM s k && BD (Ap s k)) := by
 unfold CM Ap
 have h2 : k < s.data.toList.length := by simpa using h
 rw [List.take_add_one, List.getD_eq_getElem?_getD, List.getElem?_eq_getElem h2]
 simp
theorem HY (s : ByteArray) (k : Nat) (h : k < s.size) (hn : BD (Ap s k) = false) : CM s s.size = false := by
 unfold CM Ap at *
 have h2 : k < s.data.toList.length := by simpa using h
 rw [List.getD_eq_getElem?_getD, List.getElem?_eq_getElem h2] at hn
 rw [List.all_eq_false]
 refine ⟨s.data.toList[k], ?_, by simpa using hn⟩
 rw [List.take_of_length_le (by simp)]
 exact List.getElem_mem h2
mutual
def Tm.size : Tm → Nat
 | .mk _ xs => 1 + Tm.sizes xs
def Tm.sizes : List Tm → Nat
 | [] => 0
 | t :: ts => t.size + Tm.sizes ts
end
theorem Tm.sizes_append (xs ys : List Tm) : Tm.sizes (xs ++ ys) = Tm.sizes xs + Tm.sizes ys := by
 induction xs with
 | nil => simp [Tm.sizes]
 | cons t ts ih => simp only [List.cons_append, Tm.sizes, ih]; omega
theorem Tm.sizes_take {xs : List Tm} {k : Nat} {a : Tm} (h : xs[k]? = some a) : Tm.sizes (xs.take (k+1)) = Tm.sizes (xs.take k) + a.size := by
 rw [Ak h, Tm.sizes_append]; simp [Tm.sizes]
theorem Tm.sizes_take_le (xs : List Tm) (k : Nat)  : Tm.sizes (xs.take k) ≤ Tm.sizes xs := by
 have := Tm.sizes_append (xs.take k) (xs.drop k)
 rw [List.take_append_drop] at this
 omega
theorem Tm.size_eq (t : Tm) : t.size = 1 + Tm.sizes t.args := by cases t; rfl
theorem Tm.size_pos (t : Tm) : 1 ≤ t.size := by rw [Tm.size_eq]; omega
theorem Tm.size_mem {a : Tm} {xs : List Tm} (h : a ∈ xs) : a.size ≤ Tm.sizes xs := by
 induction xs with
 | nil => simp at h
 | cons t ts ih =>
  rcases List.mem_cons.1 h with rfl | h
  ·simp only [Tm.sizes]; omega
  ·have := ih h; simp only [Tm.sizes]; omega
theorem Tm.length_le (xs : List Tm) : xs.length ≤ Tm.sizes xs := by
 induction xs with
 | nil => simp [Tm.sizes]
 | cons t ts ih => have := Tm.size_pos t; simp only [Tm.sizes, List.length_cons]; omega
theorem Tm.lt_of_arg {a t : Tm} (h : a ∈ t.args) : SizeOf.sizeOf a < SizeOf.sizeOf t := by
 cases t
 exact Tm.lt_of_mem h
def CC (s : Nat) (m : Int) : Int := if m < s then -1 else m - s
def Az (s : Nat) (m : Int) : Int := if m < s then m + 1 else s
mutual
def Tm.knots : Tm → List Tm
 | .mk n xs => .mk n xs :: Tm.knotsL xs
def Tm.knotsL : List Tm → List Tm
 | [] => []
 | t :: ts => t.knots ++ Tm.knotsL ts
end
theorem Tm.knots_eq (t : Tm) : t.knots = t :: Tm.knotsL t.args := by cases t; rfl
theorem Tm.knotsL_append (xs ys : List Tm) : Tm.knotsL (xs ++ ys) = Tm.knotsL xs ++ Tm.knotsL ys := by
 induction xs with
 | nil => simp [Tm.knotsL]
 | cons t ts ih => simp [Tm.knotsL, ih]
theorem Tm.knotsL_take {xs : List Tm} {k : Nat} {a : Tm} (h : xs[k]? = some a) : Tm.knotsL (xs.take (k+1)) = Tm.knotsL (xs.take k) ++ a.knots := by
 rw [Ak h, Tm.knotsL_append]; simp [Tm.knotsL]
mutual
theorem Tm.knots_length : ∀ t : Tm, t.knots.length = t.size
 | .mk n xs => by simp only [Tm.knots, Tm.size, List.length_cons, Tm.knotsL_length xs]; omega
theorem Tm.knotsL_length : ∀ xs : List Tm, (Tm.knotsL xs).length = Tm.sizes xs
 | [] => rfl
 | t :: ts => by simp only [Tm.knotsL, Tm.sizes, List.length_append, Tm.knots_length t, Tm.knotsL_length ts]
end
def Ba (t : Tm) : Int := if A5 t.name = true then (if A0 t.name = true ∧ 0 < t.args.length then 2 else 0) else 1
mutual
def Tm.chk : Tm → Int
 | .mk n xs => if Ba (.mk n xs) = 0 then Tm.chkL xs else Ba (.mk n xs)
def Tm.chkL : List Tm → Int
 | [] => 0
 | t :: ts => if t.chk = 0 then Tm.chkL ts else t.chk
end
def BY : List Tm → Int
 | [] => 0
 | t :: ts => if Ba t = 0 then BY ts else Ba t
theorem Tm.chk_eq (t : Tm) : t.chk = if Ba t = 0 then Tm.chkL t.args else Ba t := by cases t; rfl
theorem DS (xs ys : List Tm) : BY (xs ++ ys) = if BY xs = 0 then BY ys else BY xs := by
 induction xs with
 | nil => simp [BY]
 | cons t ts ih =>
  simp only [List.cons_append, BY]
  by_cases h : Ba t = 0
  ·simp only [h, if_true, ih]
  ·simp only [h, if_false]
mutual
theorem Tm.firstErr_knots : ∀ t : Tm, BY t.knots = t.chk
 | .mk n xs => by
  simp only [Tm.knots, BY, Tm.chk]
  split
  ·exact Tm.firstErr_knotsL xs
  ·rfl
theorem Tm.firstErr_knotsL : ∀ xs : List Tm, BY (Tm.knotsL xs) = Tm.chkL xs
 | [] => rfl
 | t :: ts => by
  simp only [Tm.knotsL, DS, Tm.firstErr_knots t, Tm.firstErr_knotsL ts, Tm.chkL]
end
theorem Tm.chkL_append (xs ys : List Tm) : Tm.chkL (xs ++ ys) = if Tm.chkL xs = 0 then Tm.chkL ys else Tm.chkL xs := by
 induction xs with
 | nil => simp [Tm.chkL]
 | cons t ts ih =>
  simp only [List.cons_append, Tm.chkL]
  by_cases h : t.chk = 0
  ·simp only [h, if_true, ih]
  ·simp only [h, if_false]
theorem Tm.chkL_get {xs : List Tm} {k : Nat} {a : Tm} (h : xs[k]? = some a) (h0 : Tm.chkL (xs.take k) = 0) : (a.chk = 0 → Tm.chkL (xs.take (k+1)) = 0) ∧ (a.chk ≠ 0 → Tm.chkL xs = a.chk) := by
 constructor
 ·intro ha
  rw [Ak h, Tm.chkL_append, if_pos h0]
  simp [Tm.chkL, ha]
 ·intro ha
  rw [← List.take_append_drop k xs, Tm.chkL_append, if_pos h0]
  have hd : xs.drop k = a :: xs.drop (k+1) := by
   have hk := Bn h
   rw [List.getElem?_eq_getElem hk] at h
   rw [List.drop_eq_getElem_cons hk]
   simp at h
   rw [h]
  rw [hd]
  simp [Tm.chkL, ha]
theorem Mc {xs : List Tm} {k : Nat} {a : Tm} (h : xs[k]? = some a) (h0 : BY (xs.take k) = 0) : (Ba a = 0 → BY (xs.take (k+1)) = 0) ∧ (Ba a ≠ 0 → BY xs = Ba a) := by
 constructor
 ·intro ha
  rw [Ak h, DS, if_pos h0]
  simp [BY, ha]
 ·intro ha
  rw [← List.take_append_drop k xs, DS, if_pos h0]
  have hd : xs.drop k = a :: xs.drop (k+1) := by
   have hk := Bn h
   rw [List.getElem?_eq_getElem hk] at h
   rw [List.drop_eq_getElem_cons hk]
   simp at h
   rw [h]
  rw [hd]
  simp [BY, ha]
def Tm.may (t : Tm) : Int := if 200 < t.size then 3 else t.chk
def CQ (x : ByteArray) (l : List ByteArray) : Bool := l.any fun y => decide (y = x)
theorem HC {x : ByteArray} {l : List ByteArray} : CQ x l = true ↔ x ∈ l := by simp [CQ]
theorem Mb {x : ByteArray} {l : List ByteArray} : CQ x l = false ↔ x ∉ l := by rw [← Bool.not_eq_true, HC]
def Bu (l : List ByteArray) (n : ByteArray) : List ByteArray := if A0 n && !CQ n l then l ++ [n] else l
def Av (l : List ByteArray) (ks : List Tm) : List ByteArray := ks.foldl (fun l t => Bu l t.name) l
def Tm.varsOf (t : Tm) : List ByteArray := Av [] t.knots
theorem OW (l : List ByteArray) : Av l [] = l := rfl
theorem MJ (l : List ByteArray) (ks : List Tm) (t : Tm) : Av l (ks ++ [t]) = Bu (Av l ks) t.name := by simp [Av]
theorem Ji (l : List ByteArray) (ks ms : List Tm) : Av l (ks ++ ms) = Av (Av l ks) ms := by simp [Av]
theorem KB {l : List ByteArray} {n : ByteArray} (h : A0 n = true) (h' : CQ n l = false) : Bu l n = l ++ [n] := by simp [Bu, h, h']
theorem L9 {l : List ByteArray} {n : ByteArray} (h' : CQ n l = true) : Bu l n = l := by simp [Bu, h']
theorem L1 {l : List ByteArray} {n : ByteArray} (h : A0 n = false) : Bu l n = l := by simp [Bu, h]
theorem GN (l : List ByteArray) (n : ByteArray) : (Bu l n).length ≤ l.length + 1 := by unfold Bu; split <;> simp
theorem Cv : ∀ (ks : List Tm) (l : List ByteArray), (Av l ks).length ≤ l.length + ks.length
 | [], l => by simp [OW]
 | t :: ts, l => by
  have h1 := Cv ts (Bu l t.name)
  have h2 := GN l t.name
  have h3 : Av l (t :: ts) = Av (Bu l t.name) ts := rfl
  rw [h3, List.length_cons]
  omega
mutual
def Tm.places : Tm → List (List Int)
 | .mk _ xs => [] :: Tm.placesFrom 0 xs
def Tm.placesFrom : Nat → List Tm → List (List Int)
 | _, [] => []
 | k, t :: ts => t.places.map (fun p => (k : Int) :: p) ++ Tm.placesFrom (k+1) ts
end
theorem Tm.places_eq (t : Tm) : t.places = [] :: Tm.placesFrom 0 t.args := by cases t; rfl
theorem Tm.placesFrom_snoc (a : Tm) : ∀ (k : Nat) (xs : List Tm), Tm.placesFrom k (xs ++ [a]) = Tm.placesFrom k xs ++ a.places.map (fun p => ((k + xs.length : Nat) : Int) :: p)
 | k, [] => by simp [Tm.placesFrom]
 | k, t :: ts => by
  rw [List.cons_append, Tm.placesFrom, Tm.placesFrom_snoc a (k+1) ts, Tm.placesFrom, List.length_cons, show k + 1 + ts.length = k + (ts.length + 1) by omega, List.append_assoc]
def Tm.placesTo (t : Tm) (k : Nat) : List (List Int) := [] :: Tm.placesFrom 0 (t.args.take k)
theorem Tm.placesTo_succ {t : Tm} {k : Nat} {a : Tm} (h : t.args[k]? = some a) : t.placesTo (k+1) = t.placesTo k ++ a.places.map (fun p => (k : Int) :: p) := by
 have hl := Bn h
 unfold Tm.placesTo
 rw [Ak h, Tm.placesFrom_snoc, List.length_take, Nat.min_eq_left (by omega), Nat.zero_add, List.cons_append]
theorem Tm.placesTo_all {t : Tm} {k : Nat} (h : k = t.args.length) : t.placesTo k = t.places := by
 subst h
 rw [Tm.places_eq, Tm.placesTo, List.take_length]
mutual
theorem Tm.places_length : ∀ t : Tm, t.places.length = t.size
 | .mk n xs => by simp only [Tm.places, Tm.size, List.length_cons, Tm.placesFrom_length 0 xs]; omega
theorem Tm.placesFrom_length : ∀ (k : Nat) (xs : List Tm), (Tm.placesFrom k xs).length = Tm.sizes xs
 | _, [] => rfl
 | k, t :: ts => by simp only [Tm.placesFrom, Tm.sizes, List.length_append, List.length_map, Tm.places_length t, Tm.placesFrom_length (k+1) ts]
end
mutual
theorem Tm.places_deep : ∀ (t : Tm) (p : List Int), p ∈ t.places → p.length ≤ t.size
 | .mk n xs, p, h => by
  simp only [Tm.places, List.mem_cons] at h
  rcases h with rfl | h
  ·simp
  ·have := Tm.placesFrom_deep 0 xs p h
   simp only [Tm.size]
   omega
theorem Tm.placesFrom_deep : ∀ (k : Nat) (xs : List Tm) (p : List Int), p ∈ Tm.placesFrom k xs → p.length ≤ 1 + Tm.sizes xs
 | _, [], p, h => by simp [Tm.placesFrom] at h
 | k, t :: ts, p, h => by
  simp only [Tm.placesFrom, List.mem_append, List.mem_map] at h
  simp only [Tm.sizes]
  rcases h with ⟨q, hq, rfl⟩ | h
  ·have := Tm.places_deep t q hq
   simp only [List.length_cons]
   omega
  ·have := Tm.placesFrom_deep (k+1) ts p h
   omega
end
theorem Tm.placesTo_length (t : Tm) (k : Nat) : (t.placesTo k).length = 1 + Tm.sizes (t.args.take k) := by
 rw [Tm.placesTo, List.length_cons, Tm.placesFrom_length]; omega
theorem NP {s z : Nat} {m : Int} (h : 0 ≤ CC s m) : CC z (CC s m) = CC (s + z) m := by
 unfold CC at *
 split at h
 ·omega
 ·rename_i h1
  rw [if_neg h1]
  split <;> split <;> omega
theorem Ov {s z : Nat} {m : Int} (h : CC s m < 0) (hz : s ≤ z) : CC s m = CC z m := by
 unfold CC at *
 split at h
 ·rw [if_pos (by assumption), if_pos (by omega)]
 ·omega
theorem RL (s : Nat) (m : Int) (h : 0 ≤ m) : -1 ≤ CC s m ∧ CC s m ≤ m := by unfold CC; split <;> omega
theorem JQ {s z : Nat} {m : Int} (h : (s : Int) ≤ m) : (s : Int) + Az z (m - s) = Az (s + z) m := by
 unfold Az
 split <;> split <;> omega
theorem Eo {s z : Nat} {m : Int} (h : m < Az s m) (hz : s ≤ z) : Az z m = m + 1 := by
 unfold Az at *
 split at h <;> split <;> omega
theorem Ha (s : Nat) (m : Int) (h : 0 ≤ m) : 0 ≤ Az s m ∧ Az s m ≤ m + 1 := by unfold Az; split <;> omega
theorem Hb {s : Nat} {m : Int} (h : ¬ m < Az s m) : Az s m = s ∧ (s : Int) ≤ m := by
 unfold Az at *
 split at h
 ·omega
 ·rename_i h2
  rw [if_neg h2]
  omega



theorem Lq : ∀ l : List UInt8, Op.bytesLess l l = false
 | [] => by simp [Op.bytesLess]
 | x :: xs => by simp [Op.bytesLess, Lq xs]
theorem NQ : ∀ (a b c : List UInt8), Op.bytesLess a b = true → Op.bytesLess b c = true → Op.bytesLess a c = true
 | _, [], _, h, _ => by simp [Op.bytesLess] at h
 | _, _ :: _, [], _, k => by simp [Op.bytesLess] at k
 | [], _ :: _, _ :: _, _, _ => by simp [Op.bytesLess]
 | x :: xs, y :: ys, z :: zs, h, k => by
  simp only [Op.bytesLess, Bool.or_eq_true, Bool.and_eq_true, decide_eq_true_eq, beq_iff_eq] at h k ⊢
  rcases h with h | ⟨rfl, h⟩
  ·rcases k with k | ⟨rfl, k⟩
   ·exact .inl (UInt8.lt_trans h k)
   ·exact .inl h
  ·rcases k with k | ⟨rfl, k⟩
   ·exact .inl k
   ·exact .inr ⟨rfl, NQ xs ys zs h k⟩
theorem OX : ∀ (a b : List UInt8), Op.bytesLess a b = true ∨ a = b ∨ Op.bytesLess b a = true
 | [], [] => .inr (.inl rfl)
 | [], _ :: _ => .inl (by simp [Op.bytesLess])
 | _ :: _, [] => .inr (.inr (by simp [Op.bytesLess]))
 | x :: xs, y :: ys => by
  simp only [Op.bytesLess, Bool.or_eq_true, Bool.and_eq_true, decide_eq_true_eq, beq_iff_eq, List.cons.injEq]
  rcases Nat.lt_trichotomy x.toNat y.toNat with h | h | h
  ·exact .inl (.inl h)
  ·have e : x = y := UInt8.toNat_inj.1 h
   subst e
   rcases OX xs ys with h | h | h
   ·exact .inl (.inr ⟨rfl, h⟩)
   ·exact .inr (.inl ⟨rfl, h⟩)
   ·exact .inr (.inr (.inr ⟨rfl, h⟩))
  ·exact .inr (.inr (.inl h))
theorem Sm {a b : ByteArray} (h : a.toList = b.toList) : a = b := by
 rw [ByteArray.toList_eq, ByteArray.toList_eq] at h
 cases a; cases b
 simp only at h
 congr 1
 exact Array.toList_inj.1 h
theorem Cf (a : ByteArray) : sLt a a = false := Lq _
theorem CL {a b c : ByteArray} (h : sLt a b = true) (k : sLt b c = true) : sLt a c = true := NQ _ _ _ h k
theorem Dc (a b : ByteArray) : sLt a b = true ∨ a = b ∨ sLt b a = true := by
 rcases OX a.toList b.toList with h | h | h
 ·exact .inl h
 ·exact .inr (.inl (Sm h))
 ·exact .inr (.inr h)
def Fh (a b : ByteArray) : Int := if sLt a b = true then -1 else if a = b then 0 else 1
abbrev Bd := ByteArray × Tm
def CS (b : Bd) : List SV := [.str b.1, .str b.2.name, .list (b.2.args.map Al)]
abbrev Ft (l : List Bd) : AV := .one (.st (.list (l.map CS)))
abbrev aBd (b : Bd) : AV := .agg [.st (.str b.1), .st (.str b.2.name), .st (.list (b.2.args.map Al))]
instance : T8 CS 3 := ⟨fun _ => rfl⟩
theorem LR {ts : List Bd} : ∀ x ∈ ts.map CS, x.length = 3 := by
 intro x hx
 obtain ⟨a, _, rfl⟩ := List.mem_map.1 hx
 rfl
theorem Bf {α : Type} {xs : List α} {k : Nat} {a : α} (h : xs[k]? = some a) : xs.drop k = a :: xs.drop (k + 1) := by
 have hk := Bn h
 rw [List.getElem?_eq_getElem hk] at h
 rw [List.drop_eq_getElem_cons hk]
 simp at h
 rw [h]
def Bh (l : List Bd) : Prop := l.Pairwise fun a b => sLt a.1 b.1 = true
def lookup (l : List Bd) (n : ByteArray) : Option Tm := (l.find? fun b => decide (b.1 = n)).map (·.2)
theorem FL {l : List Bd} {n : ByteArray} (h : ∀ b ∈ l, b.1 ≠ n) : lookup l n = none := by
 unfold lookup
 rw [List.find?_eq_none.2 (fun b hb => by simpa using h b hb)]
 rfl
theorem IT {l : List Bd} {n : ByteArray} {k : Nat} {b : Bd} (hk : l[k]? = some b) (hb : b.1 = n) (h : ∀ c ∈ l.take k, c.1 ≠ n) : lookup l n = some b.2 := by
 unfold lookup
 rw [← List.take_append_drop k l, List.find?_append, List.find?_eq_none.2 (fun c hc => by simpa using h c hc), Bf hk]
 simp [hb]
theorem J3 {l : List Bd} {n : ByteArray} {x : Tm} (h : lookup l n = some x) : ∃ b ∈ l, b.1 = n ∧ b.2 = x := by
 unfold lookup at h
 rw [Option.map_eq_some_iff] at h
 obtain ⟨b, h1, h2⟩ := h
 exact ⟨b, List.mem_of_find?_eq_some h1, by simpa using List.find?_some h1, h2⟩
theorem IS {l : List Bd} (h : Bh l) {i j : Nat} {a b : Bd} (hi : l[i]? = some a) (hj : l[j]? = some b) (hij : i < j) : sLt a.1 b.1 = true := by
 have h1 := List.pairwise_iff_getElem.1 h
 obtain ⟨hi1, hi2⟩ := List.getElem?_eq_some_iff.1 hi
 obtain ⟨hj1, hj2⟩ := List.getElem?_eq_some_iff.1 hj
 have := h1 i j hi1 hj1 hij
 rw [hi2, hj2] at this
 exact this
mutual
def Tm.on (s : List Bd) : Tm → Tm
 | .mk n xs => match (if xs.isEmpty then lookup s n else none) with
  | some x => x
  | none => .mk n (Tm.onL s xs)
def Tm.onL (s : List Bd) : List Tm → List Tm
 | [] => []
 | t :: ts => t.on s :: Tm.onL s ts
end
theorem Tm.onL_eq (s : List Bd) : ∀ ts : List Tm, Tm.onL s ts = ts.map (Tm.on s)
 | [] => rfl
 | t :: ts => by rw [Tm.onL, Tm.onL_eq s ts]; rfl
theorem Tm.on_leaf {s : List Bd} {t x : Tm} (h : lookup s t.name = some x) (h0 : t.args = []) : t.on s = x := by
 cases t with
 | mk n xs =>
  simp only [Tm.name_mk, Tm.args_mk] at h h0
  subst h0
  simp [Tm.on, h]
theorem Tm.on_knot {s : List Bd} {t : Tm} (h : lookup s t.name = none ∨ t.args ≠ []) : t.on s = .mk t.name (t.args.map (Tm.on s)) := by
 cases t with
 | mk n xs =>
  simp only [Tm.name_mk, Tm.args_mk] at h ⊢
  rw [← Tm.onL_eq]
  rcases h with h | h
  ·simp [Tm.on, h]
  ·cases xs with
   | nil => exact absurd rfl h
   | cons y ys => simp [Tm.on]
theorem Tm.chk_args {t : Tm} (h : t.chk = 0) : (A0 t.name = true → t.args = []) ∧ ∀ a ∈ t.args, a.chk = 0 := by
 have hc := Tm.chk_eq t
 rw [h] at hc
 by_cases h1 : Ba t = 0
 ·rw [if_pos h1] at hc
  have key : ∀ {xs : List Tm}, Tm.chkL xs = 0 → ∀ a ∈ xs, a.chk = 0 := by
   intro xs
   induction xs with
   | nil => simp
   | cons x xs ih =>
    intro hx a ha
    simp only [Tm.chkL] at hx
    split at hx
    ·rename_i h2
     rcases List.mem_cons.1 ha with rfl | ha
     ·exact h2
     ·exact ih hx a ha
    ·rename_i h2
     exact absurd hx h2
  refine ⟨fun hv => ?_, key hc.symm⟩
  unfold Ba at h1
  split at h1
  ·split at h1
   ·cases h1
   ·rename_i h2
    simp only [hv, true_and, Nat.not_lt, Nat.le_zero] at h2
    exact List.eq_nil_of_length_eq_zero h2
  ·cases h1
 ·rw [if_neg h1] at hc
  exact absurd hc.symm h1
theorem Tm.may_chk {t : Tm} (h : t.may = 0) : t.chk = 0 ∧ t.size ≤ 200 := by
 unfold Tm.may at h
 split at h
 ·cases h
 ·exact ⟨h, by omega⟩

def GC (b : Bd) : List Bd → List Bd
 | [] => [b]
 | c :: l => if sLt b.1 c.1 = true then b :: c :: l else c :: GC b l
def BR (l : List Bd) : List Bd := l.foldl (fun acc b => GC b acc) []
def Ck (l : List Bd) : Prop := (l.map (·.1)).Nodup
theorem F5 (b : Bd) : ∀ l : List Bd, (GC b l).Perm (b :: l)
 | [] => List.Perm.refl _
 | c :: l => by
  unfold GC
  split
  ·exact List.Perm.refl _
  ·exact ((F5 b l).cons c).trans (List.Perm.swap b c l)
theorem Hl {b : Bd} : ∀ {l : List Bd}, Bh l → (∀ c ∈ l, c.1 ≠ b.1) → Bh (GC b l)
 | [], _, _ => List.pairwise_cons.2 ⟨by simp, List.Pairwise.nil⟩
 | c :: l, ho, hn => by
  obtain ⟨o1, o2⟩ := List.pairwise_cons.1 ho
  unfold GC
  split
  ·rename_i h
   exact List.pairwise_cons.2 ⟨fun x hx => by
    rcases List.mem_cons.1 hx with rfl | hx
    ·exact h
    ·exact CL h (o1 x hx), ho⟩
  ·rename_i h
   refine List.pairwise_cons.2 ⟨fun x hx => ?_, Hl o2 fun x hx => hn x (by simp [hx])⟩
   rcases List.mem_cons.1 ((F5 b l).mem_iff.1 hx) with rfl | hx
   ·rcases Dc c.1 x.1 with k | k | k
    ·exact k
    ·exact absurd k (hn c (by simp))
    ·exact absurd k h
   ·exact o1 x hx
theorem PQ (l : List Bd) (b : Bd) : BR (l ++ [b]) = GC b (BR l) := by unfold BR; rw [List.foldl_append]; rfl
theorem FX : ∀ (l acc : List Bd), (l.foldl (fun acc b => GC b acc) acc).Perm (l ++ acc)
 | [], acc => List.Perm.refl _
 | b :: l, acc => by
  rw [List.foldl_cons]
  refine (FX l _).trans ?_
  refine ((F5 b acc).append_left l).trans ?_
  exact List.perm_middle
theorem Dt (l : List Bd) : (BR l).Perm l := by
 have := FX l []
 rw [List.append_nil] at this
 exact this
theorem EC : ∀ (l acc : List Bd), Bh acc → Ck (acc ++ l) → Bh (l.foldl (fun acc b => GC b acc) acc)
 | [], acc, ho, _ => ho
 | b :: l, acc, ho, hn => by
  rw [List.foldl_cons]
  have hp : (acc ++ b :: l).Perm (GC b acc ++ l) := (List.perm_middle).trans (by rw [← List.cons_append]; exact ((F5 b acc).symm.append_right l))
  refine EC l _ (Hl ho fun c hc e => ?_) ((hp.map _).nodup_iff.1 hn)
  unfold Ck at hn
  rw [List.map_append, List.nodup_append] at hn
  exact hn.2.2 _ (List.mem_map.2 ⟨c, hc, rfl⟩) _ (by simp) e
theorem CZ {l : List Bd} (hn : Ck l) : Bh (BR l) := EC l [] List.Pairwise.nil (by simpa using hn)
theorem Dv : ∀ {l m : List Bd}, Bh l → Bh m → l.Perm m → l = m
 | [], m, _, _, h => (List.nil_perm.1 h).symm
 | a :: l, [], _, _, h => absurd h.length_eq (by simp)
 | a :: l, c :: m, hl, hm, h => by
  obtain ⟨l1, l2⟩ := List.pairwise_cons.1 hl
  obtain ⟨m1, m2⟩ := List.pairwise_cons.1 hm
  have e : a = c := by
   rcases List.mem_cons.1 (h.mem_iff.1 (List.mem_cons_self)) with e | e
   ·exact e
   ·rcases List.mem_cons.1 (h.mem_iff.2 (List.mem_cons_self)) with e2 | e2
    ·exact e2.symm
    ·have := CL (m1 a e) (l1 c e2)
     rw [Cf] at this
     cases this
  subst e
  rw [Dv l2 m2 (List.Perm.cons_inv h)]
theorem IF {l : List Bd} {b : Bd} : b ∈ BR l ↔ b ∈ l := (Dt l).mem_iff
theorem Bo (l : List Bd) : (BR l).length = l.length := (Dt l).length_eq
theorem Gw {l m : List Bd} (h : l.Perm m) (hn : Ck l) : Ck m := ((h.map _).nodup_iff).1 hn

def bLs (b : ByteArray) : List UInt8 := b.data.toList
def lBs (l : List UInt8) : ByteArray := ⟨l.toArray⟩
theorem QM (b : ByteArray) : lBs (bLs b) = b := by
 obtain ⟨d⟩ := b
 simp [lBs, bLs]
theorem MK (l : List UInt8) : bLs (lBs l) = l := by simp [lBs, bLs]
def srt (l : List ByteArray) : List ByteArray := ((l.map bLs).mergeSort fun x y => decide (x ≤ y)).map lBs
theorem RR (a b : ByteArray) : sLt a b = decide (bLs a < bLs b) := by
 unfold sLt
 rw [Go.Proofs.bytesLess_eq, Lib.toList_data, Lib.toList_data]
 rfl
theorem Up (l : List ByteArray) : (l.map bLs).map lBs = l := by
 rw [List.map_map]
 conv => rhs; rw [← List.map_id l]
 exact List.map_congr_left fun b _ => QM b
theorem Ef (l : List ByteArray) : (srt l).Perm l := by
 have h := (List.mergeSort_perm (l.map bLs) fun x y => decide (x ≤ y)).map lBs
 rw [Up] at h
 exact h
theorem Fy (l : List ByteArray) : (srt l).length = l.length := (Ef l).length_eq
theorem Gf (l : List ByteArray) : (srt l).Pairwise fun a b => sLt b a = false := by
 have h := List.pairwise_mergeSort (le := fun x y : List UInt8 => decide (x ≤ y)) (fun a b c h1 h2 => by
  simp only [decide_eq_true_eq] at *
  exact List.le_trans h1 h2) (fun a b => by
  simp only [Bool.or_eq_true, decide_eq_true_eq]
  exact List.le_total a b) (l.map bLs)
 unfold srt
 rw [List.pairwise_map]
 refine h.imp fun {a b} hab => ?_
 rw [RR, MK, MK, decide_eq_false_iff_not]
 simp only [decide_eq_true_eq] at hab
 exact fun hlt => absurd hlt (List.not_lt.2 hab)
theorem GD : ∀ {l m : List ByteArray}, l.Pairwise (fun a b => sLt b a = false) → m.Pairwise (fun a b => sLt b a = false) → l.Perm m → l = m := fun hl hm hp =>
 hp.eq_of_pairwise (le := fun a b => sLt b a = false) (fun a b _ _ h1 h2 => by
  rcases Dc a b with q | q | q
  ·rw [q] at h2; cases h2
  ·exact q
  ·rw [q] at h1; cases h1) hl hm
theorem Ns {l m : List ByteArray} (h : l.Perm m) : srt l = srt m := GD (Gf l) (Gf m) (((Ef l).trans h).trans (Ef m).symm)

theorem PA {ds : List Nat} (hds : ∀ d ∈ ds, d < 1000) {x : Option AL} (hb : ∀ b, x = some b → b.high = true) : x.map (AL.purge ds) = x := by
 cases h : x with
 | none => rfl
 | some b => rw [Option.map_some, AL.purge_high hds (hb b h)]
theorem QV {S S1 : AA} {a0 : Nat} {b : AL} (hS : Ar S) (ha : 1000 ≤ a0) (h1 : S1 a0 = some b) (h2 : ∀ i, 1000 ≤ i → i ≠ a0 → S1 i = S i) : Bl S1 = AG S a0 (some b) := by
 funext i
 show (if i < 1000 then none else S1 i) = _
 by_cases e : i = a0
 ·subst e
  rw [if_neg (by omega), AE, h1]
 ·rw [AH _ e]
  by_cases hi : i < 1000
  ·rw [if_pos hi, Aj hS hi]
  ·rw [if_neg hi, h2 i (by omega) e]
theorem No {S S1 : AA} {a0 : Nat} {b : AL} (hS : Ar S) (hb : b.high = true) (h1 : S1 a0 = some b) (h2 : ∀ i, 1000 ≤ i → i ≠ a0 → S1 i = S i) : ∀ i c, 1000 ≤ i → S1 i = some c → c.high = true := fun i c hi hc => by
 by_cases e : i = a0
 ·subst e
  rw [h1] at hc
  cases hc
  exact hb
 ·rw [h2 i hi e] at hc
  exact (hS i c hc).2
theorem Cy {C : Ctx} {rs : List RV} {r : AV} {e : AX} {s : AS} {S : AA} {a0 : Nat} {b : AL} (r0 : AV) (hS : Ar S) (ha : 1000 ≤ a0) (hb : b.high = true) (he : match e with | .normal => True | .ret => True | _ => False)
  (h1 : (AB s rs).map AI = some r0) (h2 : outV s.S r0 = some r) (h3 : s.S a0 = some b) (h4 : ∀ i, 1000 ≤ i → i ≠ a0 → s.S i = S i) : Gc C rs r (AG S a0 (some b)) e s :=
 Ju he r0 h1 h2 (No hS hb h3 h4) (QV hS ha h3 h4) (A9 hS ha hb)
theorem J4 {C : Ctx} {rs : List RV} {r : AV} {e : AX} {s : AS} {S : AA} {a0 b0 : Nat} {b c : AL} (r0 : AV) (hS : Ar S) (ha : 1000 ≤ a0) (hb0 : 1000 ≤ b0) (hne : b0 ≠ a0) (hb : b.high = true) (hc : c.high = true) (he : match e with | .normal => True | .ret => True | _ => False)
  (h1 : (AB s rs).map AI = some r0) (h2 : outV s.S r0 = some r) (h3 : s.S a0 = some b) (h3' : s.S b0 = some c) (h4 : ∀ i, 1000 ≤ i → i ≠ a0 → i ≠ b0 → s.S i = S i) : Gc C rs r (AG (AG S a0 (some b)) b0 (some c)) e s :=
 Ju he r0 h1 h2 (fun i x hi hx => by
  by_cases e1 : i = a0
  ·subst e1; rw [h3] at hx; cases hx; exact hb
  ·by_cases e2 : i = b0
   ·subst e2; rw [h3'] at hx; cases hx; exact hc
   ·rw [h4 i hi e1 e2] at hx; exact (hS i x hx).2) (by
  funext i
  show (if i < 1000 then none else s.S i) = _
  by_cases e2 : i = b0
  ·subst e2
   rw [AE, if_neg (by omega), h3']
  ·rw [AH _ e2]
   by_cases e1 : i = a0
   ·subst e1
    rw [AE, if_neg (by omega), h3]
   ·rw [AH _ e1]
    by_cases hi : i < 1000
    ·rw [if_pos hi, Aj hS hi]
    ·rw [if_neg hi, h4 i (by omega) e1 e2]) (A9 (A9 hS ha hb) hb0 hc)
theorem O5 (i a0 : Nat) : BS i a0 i = a0 := by simp [BS]

end Go.Proofs.YtgcddcaachpbnaaGreat
