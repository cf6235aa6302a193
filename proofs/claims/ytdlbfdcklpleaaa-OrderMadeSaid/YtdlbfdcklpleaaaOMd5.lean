/-
  Part 5 of the texts. Conditions: none.
-/
import Derived.Test.YtdlbfdcklpleaaaOMd4
namespace Go.Proofs.Ytdlbfdcklpleaaa
open Go Go.RowKit
set_option linter.unusedVariables false
set_option linter.unusedSimpArgs false
set_option maxHeartbeats 400000
mutual
def AC.clear (ds : List Nat) : AC → Bool
 | .row id _ => !ds.contains id
 | .part id _ _ => !ds.contains id
 | .rest id _ _ => !ds.contains id
 | .ptr id _ _ _ => !ds.contains id
 | .mptr id => !ds.contains id
 | .yld id => !ds.contains id
 | .ubool => true
 | .fn _ caps => AC.clears ds caps
 | .st _ => true
 | .full _ => true
 | .eptr _ => true
 | .any => true
def AC.clears (ds : List Nat) : List AC → Bool
 | [] => true
 | c :: cs => c.clear ds && AC.clears ds cs
end
theorem Gw {ds : List Nat} : ∀ {l : List AC}, AC.clears ds l = true → ∀ a ∈ l, a.clear ds = true
 | [], _, a, ha => by simp at ha
 | x :: xs, hx, a, ha => by
  rw [AC.clears, Bool.and_eq_true] at hx
  rcases List.mem_cons.1 ha with rfl | ha
  ·exact hx.1
  ·exact Gw hx.2 a ha
def AC.purge (ds : List Nat) : AC → AC
 | .row id n => if ds.contains id then .any else .row id n
 | .part id k n => if ds.contains id then .any else .part id k n
 | .rest id k n => if ds.contains id then .any else .rest id k n
 | .ptr id n k off => if ds.contains id then .any else .ptr id n k off
 | .mptr id => if ds.contains id then .any else .mptr id
 | .yld id => if ds.contains id then .any else .yld id
 | .fn f caps => if AC.clears ds caps then .fn f caps else .any
 | c => c
mutual
def AV.purge (ds : List Nat) : AV → AV
 | .one c => .one (c.purge ds)
 | .agg cs => .agg (cs.map (AC.purge ds))
 | .tup vs => .tup (AV.purges ds vs)
 | .any => .any
def AV.purges (ds : List Nat) : List AV → List AV
 | [] => []
 | v :: vs => v.purge ds :: AV.purges ds vs
end
def AJ.purge (ds : List Nat) : AJ → AJ
 | .box e cs => .box e (cs.map (AC.purge ds))
 | .crow e cs => .crow e (cs.map (AC.purge ds))
 | .iter x n seen => .iter (x.purge ds) n seen
 | .loop env r => .loop (AV.purges ds env) r
 | b => b
def Bc (ds : List Nat) (S : AA) : AA := fun id => if ds.contains id then none else (S id).map (AJ.purge ds)
def AS.drop (ds : List Nat) (s : AS) : AS := ⟨fun i => (s.env i).purge ds, Bc ds s.S⟩
theorem CX {ds : List Nat} (hds : ∀ d ∈ ds, d < 1000) {id : Nat} (h : 1000 ≤ id) : ds.contains id = false := by
 cases hc : ds.contains id with
 | false => rfl
 | true =>
  have := hds id (List.contains_iff_mem.1 hc)
  omega
mutual
theorem AC.clear_high {ds : List Nat} (hds : ∀ d ∈ ds, d < 1000) : ∀ {c : AC}, c.high = true → c.clear ds = true
 | .st _, _ => rfl
 | .full _, _ => rfl
 | .row id n, h => by
  rw [AC.high] at h
  rw [AC.clear, CX hds (of_decide_eq_true h)]
  rfl
 | .part id k n, h => by
  rw [AC.high] at h
  rw [AC.clear, CX hds (of_decide_eq_true h)]
  rfl
 | .rest id k n, h => by
  rw [AC.high] at h
  rw [AC.clear, CX hds (of_decide_eq_true h)]
  rfl
 | .ptr id n k off, h => by
  rw [AC.high] at h
  rw [AC.clear, CX hds (of_decide_eq_true h)]
  rfl
 | .mptr id, h => by
  rw [AC.high] at h
  rw [AC.clear, CX hds (of_decide_eq_true h)]
  rfl
 | .yld id, h => by
  rw [AC.high] at h
  rw [AC.clear, CX hds (of_decide_eq_true h)]
  rfl
 | .ubool, _ => rfl
 | .eptr _, _ => rfl
 | .fn f caps, h => by
  rw [AC.high] at h
  rw [AC.clear]
  exact AC.clears_highs hds h
 | .any, _ => rfl
theorem AC.clears_highs {ds : List Nat} (hds : ∀ d ∈ ds, d < 1000) : ∀ {cs : List AC}, AC.highs cs = true → AC.clears ds cs = true
 | [], _ => rfl
 | c :: cs, h => by
  rw [AC.highs, Bool.and_eq_true] at h
  rw [AC.clears, AC.clear_high hds h.1, AC.clears_highs hds h.2]
  rfl
end
theorem AC.purge_high {ds : List Nat} (hds : ∀ d ∈ ds, d < 1000) : ∀ {c : AC}, c.high = true → c.purge ds = c
 | .st _, _ => rfl
 | .full _, _ => rfl
 | .row id n, h => by
  rw [AC.high] at h
  simp only [AC.purge, CX hds (of_decide_eq_true h), Bool.false_eq_true, if_false]
 | .part id k n, h => by
  rw [AC.high] at h
  simp only [AC.purge, CX hds (of_decide_eq_true h), Bool.false_eq_true, if_false]
 | .rest id k n, h => by
  rw [AC.high] at h
  simp only [AC.purge, CX hds (of_decide_eq_true h), Bool.false_eq_true, if_false]
 | .ptr id n k off, h => by
  rw [AC.high] at h
  simp only [AC.purge, CX hds (of_decide_eq_true h), Bool.false_eq_true, if_false]
 | .mptr id, h => by
  rw [AC.high] at h
  simp only [AC.purge, CX hds (of_decide_eq_true h), Bool.false_eq_true, if_false]
 | .yld id, h => by
  rw [AC.high] at h
  simp only [AC.purge, CX hds (of_decide_eq_true h), Bool.false_eq_true, if_false]
 | .ubool, _ => rfl
 | .eptr _, _ => rfl
 | .fn f caps, h => by
  rw [AC.high] at h
  simp only [AC.purge, AC.clears_highs hds h, if_true]
 | .any, _ => rfl
mutual
theorem AV.purge_high {ds : List Nat} (hds : ∀ d ∈ ds, d < 1000) : ∀ {c : AV}, c.high = true → c.purge ds = c
 | .one c, h => by rw [AV.high] at h; rw [AV.purge, AC.purge_high hds h]
 | .agg cs, h => by
  rw [AV.high] at h
  rw [AV.purge]
  congr 1
  exact (List.map_congr_left fun a ha => AC.purge_high hds (Ba h a ha)).trans (List.map_id _)
 | .tup vs, h => by rw [AV.high] at h; rw [AV.purge, AV.purges_high hds h]
 | .any, _ => rfl
theorem AV.purges_high {ds : List Nat} (hds : ∀ d ∈ ds, d < 1000) : ∀ {c : List AV}, AV.highs c = true → AV.purges ds c = c
 | [], _ => rfl
 | c :: cs, h => by
  rw [AV.highs, Bool.and_eq_true] at h
  rw [AV.purges, AV.purge_high hds h.1, AV.purges_high hds h.2]
end
theorem AJ.purge_high {ds : List Nat} (hds : ∀ d ∈ ds, d < 1000) {b : AJ} (h : b.high = true) : b.purge ds = b := by
 cases b with
 | box e cs =>
  rw [AJ.high] at h
  simp only [AJ.purge]
  congr 1
  exact (List.map_congr_left fun a ha => AC.purge_high hds (Ba h a ha)).trans (List.map_id _)
 | crow e cs =>
  rw [AJ.high] at h
  simp only [AJ.purge]
  congr 1
  exact (List.map_congr_left fun a ha => AC.purge_high hds (Ba h a ha)).trans (List.map_id _)
 | arow => rfl
 | mrow => rfl
 | map => rfl
 | memo => rfl
 | iter x =>
  rw [AJ.high] at h
  simp only [AJ.purge, AC.purge_high hds h]
 | loop env r =>
  rw [AJ.high] at h
  simp only [AJ.purge, AV.purges_high hds h]
 | dead => rfl
section
variable {C : Ctx} {σ : Sto} {ι : Ah} {s : AS} {a : Act} {w : World} {ds : List Nat}
theorem A2 (b : AJ) : (b.purge ds).len = b.len := by cases b <;> first | rfl | simp [AJ.purge, AJ.len]
theorem Ee (b : AJ) : (b.purge ds).wid = b.wid := by cases b <;> rfl
theorem Ab.keepClear {ds : List Nat} {S S2 : AA} (hS : ∀ id b, ds.contains id = false → S id = some b → ∃ b', S2 id = some b' ∧ b'.len = b.len ∧ b'.wid = b.wid) {v : Value} {c : AC} (h : Ab σ S ι v c) (hc : c.clear ds = true) : Ab σ S2 ι v c := by
 induction h with
 | st h => exact .st h
 | full h => exact .full h
 | row h1 h2 h3 h4 =>
  rw [AC.clear] at hc
  obtain ⟨b', q1, q2, q3⟩ := hS _ _ (by simpa using hc) h1
  exact .row q1 (by rw [q2]; exact h2) h3 (by rw [q2]; exact h4)
 | part h1 h2 h3 h4 =>
  rw [AC.clear] at hc
  obtain ⟨b', q1, q2, q3⟩ := hS _ _ (by simpa using hc) h1
  exact .part q1 (by rw [q2]; exact h2) h3 (by rw [q2]; exact h4)
 | rest h1 h2 h3 h4 =>
  rw [AC.clear] at hc
  obtain ⟨b', q1, q2, q3⟩ := hS _ _ (by simpa using hc) h1
  exact .rest q1 (by rw [q2]; exact h2) h3 (by rw [q2, q3]; exact h4)
 | ptr h1 h2 h3 h4 =>
  rw [AC.clear] at hc
  obtain ⟨b', q1, q2, q3⟩ := hS _ _ (by simpa using hc) h1
  exact .ptr q1 (by rw [q2]; exact h2) h3 (by rw [q2, q3]; exact h4)
 | mptr h1 h2 h3 h4 =>
  rw [AC.clear] at hc
  obtain ⟨b', q1, q2, q3⟩ := hS _ _ (by simpa using hc) h1
  exact .mptr q1 (by rw [q2]; exact h2) h3 (by rw [q2]; exact h4)
 | yld h1 h2 h3 h4 =>
  rw [AC.clear] at hc
  obtain ⟨b', q1, q2, q3⟩ := hS _ _ (by simpa using hc) h1
  exact .yld q1 (by rw [q2]; exact h2) h3 (by rw [q2]; exact h4)
 | ubool => exact .ubool
 | eptr c h1 h2 hh => exact .eptr c h1 h2 hh
 | fn c h1 h2 h3 ih =>
  rw [AC.clear] at hc
  exact .fn c h1 h2 (fun j a ha => ih j a ha (Gw hc a (List.mem_of_getElem? ha)))
 | any h => exact .any h
theorem Ab.purge (hds : ∀ d ∈ ds, d < 1000) {v : Value} {c : AC} (h : Ab σ s.S ι v c) : Ab σ (s.drop ds).S ι v (c.purge ds) := by
 have h0 := h
 cases h with
 | st h => exact .st h
 | full h => exact .full h
 | @row _ id n b h1 h2 h3 h4 =>
  simp only [AC.purge]
  split
  ·exact .any h3
  ·rename_i hn
   exact .row (b := b.purge ds) (by simp only [AS.drop, Bc, hn]; rw [h1]; rfl) (by rw [A2]; exact h2) h3 (by rw [A2]; exact h4)
 | @part _ id k n b h1 h2 h3 h4 =>
  simp only [AC.purge]
  split
  ·exact .any h3
  ·rename_i hn
   exact .part (b := b.purge ds) (by simp only [AS.drop, Bc, hn]; rw [h1]; rfl) (by rw [A2]; exact h2) h3 (by rw [A2]; exact h4)
 | @rest _ id k n b h1 h2 h3 h4 =>
  simp only [AC.purge]
  split
  ·exact .any h3
  ·rename_i hn
   exact .rest (b := b.purge ds) (by simp only [AS.drop, Bc, hn]; rw [h1]; rfl) (by rw [A2]; exact h2) h3 (by rw [A2, Ee]; exact h4)
 | @ptr _ id n k off b h1 h2 h3 h4 =>
  simp only [AC.purge]
  split
  ·exact .any h3
  ·rename_i hn
   exact .ptr (b := b.purge ds) (by simp only [AS.drop, Bc, hn]; rw [h1]; rfl) (by rw [A2]; exact h2) h3 (by rw [A2, Ee]; exact h4)
 | @mptr _ id b h1 h2 h3 h4 =>
  simp only [AC.purge]
  split
  ·exact .any h3
  ·rename_i hn
   exact .mptr (b := b.purge ds) (by simp only [AS.drop, Bc, hn]; rw [h1]; rfl) (by rw [A2]; exact h2) h3 (by rw [A2]; exact h4)
 | @yld _ id b h1 h2 h3 h4 =>
  simp only [AC.purge]
  split
  ·exact .any h3
  ·rename_i hn
   exact .yld (b := b.purge ds) (by simp only [AS.drop, Bc, hn]; rw [h1]; rfl) (by rw [A2]; exact h2) h3 (by rw [A2]; exact h4)
 | ubool => exact .ubool
 | eptr c h1 h2 hh => exact .eptr c h1 h2 hh
 | @fn f vs caps c h1 h2 h3 =>
  simp only [AC.purge]
  split
  ·rename_i hh
   exact h0.keepClear (ds := ds) (fun id b hid hb => ⟨b.purge ds, by
    show Bc ds s.S id = _
    unfold Bc
    rw [hid, hb]
    rfl, A2 b, Ee b⟩) (by rw [AC.clear]; exact hh)
  ·exact .any rfl
 | any h => exact .any h
mutual
theorem AO.purge (hds : ∀ d ∈ ds, d < 1000) : ∀ {v : Value} {c : AV}, AO σ s.S ι v c → AO σ (s.drop ds).S ι v (c.purge ds)
 | v, .one c, h => by cases h with | one h => exact .one (h.purge hds)
 | v, .agg cs, h => by cases h with | agg h => exact .agg ((h.mono fun _ _ x => x.purge hds).map_right)
 | v, .tup vs, h => by
  cases h with
  | tup c h1 h2 h3 =>
   obtain ⟨k1, k2⟩ := AO.purges hds (c := c) h3
   exact .tup c (by rw [h1, k1]) (fun j b hb => by
    rcases Nat.lt_or_ge j vs.length with hj | hj
    ·exact h2 j _ (List.getElem?_eq_getElem hj)
    ·rw [List.getElem?_eq_none (by omega)] at hb; cases hb) k2
 | v, .any, h => .any
theorem AO.purges (hds : ∀ d ∈ ds, d < 1000) : ∀ {vs : List AV} {c : Nat → Value}, (∀ j b, vs[j]? = some b → AO σ s.S ι (c j) b) → vs.length = (AV.purges ds vs).length ∧ ∀ j b, (AV.purges ds vs)[j]? = some b → AO σ (s.drop ds).S ι (c j) b
 | [], c, h => by simp [AV.purges]
 | x :: xs, c, h => by
  obtain ⟨m1, m2⟩ := AO.purges hds (vs := xs) (c := fun j => c (j + 1)) (fun j b hb => h (j + 1) b (by simpa using hb))
  refine ⟨by simp [AV.purges, ← m1], fun j b hb => ?_⟩
  cases j with
  | zero =>
   simp [AV.purges] at hb
   subst hb
   exact AO.purge hds (h 0 x rfl)
  | succ j => exact m2 j b (by simpa [AV.purges] using hb)
end
theorem BN.purge (hds : ∀ d ∈ ds, d < 1000) {h : Hnd} {b : AJ} (hr : BN σ s.S ι w h b) : BN σ (s.drop ds).S ι w h (b.purge ds) := by
 cases hr with
 | box h1 h2 h3 h4 h5 => exact .box h1 h2 h3 ((h4.mono fun _ _ x => x.purge hds).map_right) h5
 | crow h1 h2 h3 hc hm h4 h5 => exact .crow h1 h2 h3 (by simpa using hc) hm (by rw [List.length_map]; exact (h4.mono fun _ _ x => x.purge hds).map_right) h5
 | afull h1 h2 h3 h4 => exact .afull h1 h2 h3 h4
 | arow h1 h2 h3 h4 h5 h6 h7 h8 h9 hh => exact .arow h1 h2 h3 h4 h5 h6 h7 h8 h9 hh
 | mnil h1 h2 => exact .mnil h1 h2
 | mrow h1 h2 h3 h4 h5 h6 h7 h8 h9 => exact .mrow h1 h2 h3 h4 h5 h6 h7 h8 h9
 | map h1 h2 h3 h4 => exact .map h1 h2 h3 h4
 | memo h1 h2 h3 h4 => exact .memo h1 h2 h3 h4
 | iter h1 h2 h3 h4 => exact .iter h1 h2 (h3.purge hds) h4
 | loop h1 h2 h3 h4 h5 =>
  obtain ⟨k1, k2⟩ := AO.purges hds h4
  exact .loop h1 h2 (by rw [← k1]; exact h3) k2 h5
 | dead h1 => exact .dead h1
theorem Ea {id : Nat} {b : AJ} (h : (s.drop ds).S id = some b) : ∃ b', s.S id = some b' ∧ b = b'.purge ds := by
 simp only [AS.drop, Bc] at h
 split at h
 ·cases h
 ·rw [Option.map_eq_some_iff] at h
  obtain ⟨b', h1, h2⟩ := h
  exact ⟨b', h1, h2.symm⟩
theorem Al.drop (ds : List Nat) (s : AS) (hds : ∀ d ∈ ds, d < 1000) : Al C s (s.drop ds) := fun a w ⟨σ, ι, R⟩ => by
 refine ⟨σ, ι, R.size, fun i hi => (R.env i hi).purge hds, R.nod, R.fit, fun id b h => ?_, fun id id' b b' g h1 h2 g1 g2 => ?_, fun id b g h hg => ?_, R.ext, R.old, R.os, R.grown, R.same, fun id b hb => ?_⟩
 ·obtain ⟨b', h1, rfl⟩ := Ea h
  exact (R.blk id b' h1).purge hds
 ·obtain ⟨c1, k1, _⟩ := Ea h1
  obtain ⟨c2, k2, _⟩ := Ea h2
  exact R.inj _ _ _ _ _ k1 k2 g1 g2
 ·obtain ⟨c1, k1, _⟩ := Ea h
  exact R.base _ _ _ k1 hg
 ·obtain ⟨b', h1, h2, h3⟩ := R.upd id b hb
  have hid := (C.clean id b hb).1
  have hnc : ds.contains id = false := by
   cases hc : ds.contains id with
   | false => rfl
   | true =>
    have := hds id (List.contains_iff_mem.1 hc)
    omega
  refine ⟨b'.purge ds, by simp only [AS.drop, Bc, hnc]; rw [h1]; rfl, by rw [A2]; exact h2, fun hl => ?_⟩
  rw [A2] at hl
  rw [Ee]
  exact h3 hl
theorem Al.share {id : Nat} {e : TypeId} {wd : Nat} {xs : List (List SV)} (hS : s.S id = some (.mrow e wd xs)) : Al C s (s.set id (.arow e wd xs)) := fun a w ⟨σ, ι, R⟩ => by
 have hb := R.blk _ _ hS
 have hι : AP ι id (ι id) = ι := by
  funext k
  unfold AP
  split
  ·rename_i h; rw [h]
  ·rfl
 cases hb with
 | mnil h1 h2 =>
  obtain ⟨hu, R'⟩ := R.turn (w' := w) hS (.arow e wd []) (ι id) (σ' := σ) (fun _ _ h => h) (fun _ _ _ => rfl) R.fit (Nat.le_refl _) (fun _ => ⟨rfl, rfl⟩) ⟨rfl, rfl, rfl⟩ (Nat.le_refl _) (fun _ _ _ => rfl) (fun g h => .inl h) (fun hu => .afull h1 (by simpa using h2) (by simp) (.list (b := 0) (o := 0) (w := 0) (fun _ _ => undef) rfl (by simp) (by rw [h2]; simp [maxLen]) (fun _ => h2) (by simp) (by simp) (fun _ h _ => absurd h (by omega)) (by simp) (by simp)))
  exact ⟨σ, _, R'⟩
 | @mrow _ _ _ g vs h1 h2 h3 h4 h5 h6 h7 h8 h9 =>
  have hl : Ar σ vs.toList wd xs := ⟨h7, fun k x j y hx hy => by simpa using h8 k x j y hx hy⟩
  have hkeep := EV (σ := σ) (w' := w) (g := g) (k := xs.length * wd) (fun p x e hx => by rw [h9 _ e] at hx; cases hx)
  obtain ⟨hu, R'⟩ := R.turn (w' := w) hS (.arow e wd xs) (ι id) (σ' := C3 σ w g (xs.length * wd)) hkeep (fun p hp _ => EQ (fun e => hp (by rw [e]; exact h1))) (DX R.fit) (Nat.le_refl _) (fun _ => ⟨rfl, rfl⟩) ⟨rfl, rfl, rfl⟩ (Nat.le_refl _) (fun _ _ _ => rfl) (fun g h => .inl h)
   (fun hu => by
    have := Fx (S' := (s.set id (.arow e wd xs)).S) (ι' := AP ι id (ι id)) (w' := w) (p := (ι id).p) h2 h3 h4 h5 h6 hl hkeep (fun p hp hne => absurd (h9 p hp) hne)
    rw [← h1] at this
    exact this)
  exact ⟨_, _, R'⟩
theorem Al.own (t id : Nat) (e : TypeId) (wd : Nat) {xs : List (List SV)} (ht : s.env t = .one (.full xs)) (hid : s.S id = none) (hw : ∀ x ∈ xs, x.length = wd) (hn : t < C.n) : Al C s ⟨AP s.env t (.one (.row id xs.length)), AP s.S id (some (.arow e wd xs))⟩ := fun a w ⟨σ, ι, R⟩ => by
 have rt := R.env t hn
 rw [ht] at rt
 generalize hv : a.tmps.getD t undef = v at rt
 cases AN rt with
 | @full p len xs hs =>
  have hl : len = xs.length := by
   obtain ⟨p', cap', e1, _⟩ := Cs hs
   cases e1
   rfl
  subst hl
  obtain ⟨hu, R'⟩ := R.fresh (w' := w) hid (.arow e wd xs) ⟨p, xs.length, none⟩ (Ext.refl _ _) R.fit (Below.refl _ _) (by simp) (fun S' ι' hu => .afull rfl rfl hw hs)
  refine ⟨σ, _, R'.size, fun i hi => ?_, R'.nod, R'.fit, R'.blk, R'.inj, R'.base, R'.ext, R'.old, R'.os, R'.grown, R'.same, R'.upd⟩
  show AO σ (s.set id (.arow e wd xs)).S _ _ (AP s.env t _ i)
  unfold AP
  split
  ·rename_i e1
   subst e1
   rw [hv]
   exact .one (.row (b := .arow e wd xs) (by simp [AS.set, AF]) (Nat.le_refl _) rfl fun _ => by simp [AP])
  ·exact R'.env i hi
theorem Al.keep (t id k n : Nat) {e : TypeId} {wd : Nat} {xs : List (List SV)} (ht : s.env t = .one (.part id k n)) (hS : s.S id = some (.arow e wd xs)) (hl : n = xs.length) (hn : t < C.n) : Al C s ⟨AP s.env t (.one (.st (.list (xs.take k)))), s.S⟩ := fun a w ⟨σ, ι, R⟩ => by
 have rt := R.env t hn
 rw [ht] at rt
 refine ⟨σ, ι, R.size, fun i hi => ?_, R.nod, R.fit, R.blk, R.inj, R.base, R.ext, R.old, R.os, R.grown, R.same, R.upd⟩
 show AO σ s.S ι _ (AP s.env t _ i)
 unfold AP
 split
 ·rename_i e1
  subst e1
  obtain ⟨b, h1, h2, h3⟩ := DO (AN rt)
  rw [hS] at h1
  cases h1
  obtain ⟨h4, h5⟩ := h3 hl
  rw [h5]
  have hb := R.blk _ _ hS
  have hr := hb.srep
  have hmem : ∀ {kk x}, (xs.take k)[kk]? = some x → xs[kk]? = some x := fun hx => by
   rw [List.getElem?_take] at hx
   split at hx
   ·exact hx
   ·cases hx
  cases hr with
  | @list p len cap b o w' _ c q1 q2 q3 q4 q5 q6 qh q7 q8 =>
   exact .one (.st (.list (b := b) (o := o) (w := w') c (by rw [List.length_take]; omega) (by omega) q3 q4 (fun hne => q5 (by omega)) (fun x hx => q6 x (List.mem_of_mem_take hx)) (fun e1 e2 e3 => qh e1 e2 (fun e4 => e3 (by rw [e4]; exact List.take_nil))) (fun kk x j a hx ha => q7 kk x j a (hmem hx) ha) (fun kk x j a hx ha => q8 kk x j a (hmem hx) ha)))
 ·exact R.env i hi
theorem Al.ownC (id j nid : Nat) (e : TypeId) (wd : Nat) {xs : List (List SV)} {ty : TypeId} {cs : List AC} (hb : s.S id = some (.box ty cs)) (hc : cs[j]? = some (.full xs)) (hn : s.S nid = none) (hw : ∀ x ∈ xs, x.length = wd) :
  Al C s ((s.set nid (.arow e wd xs)).set id (.box ty (cs.set j (.row nid xs.length)))) := fun a w ⟨σ, ι, R⟩ => by
 have hbk := R.blk id _ hb
 have hne : id ≠ nid := fun e => by subst e; rw [hb] at hn; cases hn
 cases hbk with
 | @box _ _ g vs h1 h2 h3 h4 h5 =>
  obtain ⟨v, hv, hr⟩ := h4.get hc
  cases hr with
  | @full p len xs hs =>
   have hl : len = xs.length := by
    obtain ⟨p', cap', e1, _⟩ := Cs hs
    cases e1
    rfl
   subst hl
   obtain ⟨hu, R'⟩ := R.fresh (w' := w) hn (.arow e wd xs) ⟨p, xs.length, none⟩ (Ext.refl _ _) R.fit (Below.refl _ _) (by simp) (fun S' ι' hu => .afull rfl rfl hw hs)
   have hb' : (s.set nid (.arow e wd xs)).S id = some (.box ty cs) := by simp [AS.set, AZ _ hne, hb]
   have hι : AP ι nid ⟨p, xs.length, none⟩ id = ι id := AZ _ hne _
   obtain ⟨hu2, R2⟩ := R'.turn (w' := w) hb' (.box ty (cs.set j (.row nid xs.length))) (AP ι nid ⟨p, xs.length, none⟩ id) (σ' := σ) (fun _ _ h => h) (fun _ _ _ => rfl) R.fit (Nat.le_refl _) (fun _ => ⟨by simp [AJ.wid], rfl⟩) ⟨rfl, rfl, rfl⟩ (Nat.le_refl _) (fun _ _ _ => rfl) (fun g h => .inl h) (fun hu2 => by
    refine .box (by rw [hι]; exact h1) (by rw [hι]; exact h2) h3 (AU.of_get (by rw [List.length_set]; exact h4.len) fun k u c hu' hck => ?_) h5
    by_cases hk : k = j
    ·subst hk
     rw [hv] at hu'
     cases hu'
     have hlt : k < cs.length := (List.getElem?_eq_some_iff.1 hc).1
     rw [List.getElem?_set_self hlt] at hck
     cases hck
     exact .row (b := .arow e wd xs) (by simp [AS.set, AP, hne.symm]) (Nat.le_refl _) rfl fun _ => by simp [AP, hne.symm]
    ·rw [List.getElem?_set_ne (fun e => hk e.symm)] at hck
     obtain ⟨u', q1, q2⟩ := h4.get hck
     rw [hu'] at q1
     cases q1
     exact (q2.mono (fun _ _ h => h) hu).mono (fun _ _ h => h) hu2)
   exact ⟨_, _, R2⟩
theorem MF {v : Value} {c : AV} (h : AO σ noS noH v c) : AO σ s.S ι v c := h.mono (fun _ _ h => h) (FX _ _)
def AV.low (v : AV) : AV := if v.high then v else .any
theorem AK.low (R : AK C σ ι s a w) (hb : ∀ i b, 1000 ≤ i → s.S i = some b → b.high = true) : AK C σ ι ⟨fun i => (s.env i).low, Gk s.S⟩ a w := by
 have hS : ∀ i b, 1000 ≤ i → s.S i = some b → Gk s.S i = some b := fun i b hi h => by
  show (if i < 1000 then none else s.S i) = some b
  rw [if_neg (by omega), h]
 have hinv : ∀ i b, Gk s.S i = some b → 1000 ≤ i ∧ s.S i = some b := fun i b h => by
  have h' : (if i < 1000 then none else s.S i) = some b := h
  split at h'
  ·cases h'
  ·exact ⟨by omega, h'⟩
 refine ⟨R.size, fun i hi => ?_, R.nod, R.fit, fun id b h => ?_, fun id id' b b' g h1 h2 g1 g2 => R.inj _ _ _ _ g (hinv _ _ h1).2 (hinv _ _ h2).2 g1 g2, fun id b g h hg => R.base _ _ g (hinv _ _ h).2 hg, R.ext, R.old, R.os, R.grown, R.same, fun id b h => ?_⟩
 ·show AO σ (Gk s.S) ι _ ((s.env i).low)
  unfold AV.low
  split
  ·rename_i hh
   exact (R.env i hi).low hS hh
  ·exact .any
 ·obtain ⟨h1, h2⟩ := hinv _ _ h
  have hh := hb id b h1 h2
  cases R.blk id b h2 with
  | box k1 k2 k3 k4 k5 => exact .box k1 k2 k3 (HO hS k4 hh) k5
  | crow k1 k2 k3 kc km k4 k5 => exact .crow k1 k2 k3 kc km (HO hS k4 hh) k5
  | afull k1 k2 k3 k4 => exact .afull k1 k2 k3 k4
  | arow k1 k2 k3 k4 k5 k6 k7 k8 k9 kh => exact .arow k1 k2 k3 k4 k5 k6 k7 k8 k9 kh
  | mnil k1 k2 => exact .mnil k1 k2
  | mrow k1 k2 k3 k4 k5 k6 k7 k8 k9 => exact .mrow k1 k2 k3 k4 k5 k6 k7 k8 k9
  | map k1 k2 k3 k4 => exact .map k1 k2 k3 k4
  | memo k1 k2 k3 k4 => exact .memo k1 k2 k3 k4
  | iter k1 k2 k3 k4 => exact .iter k1 k2 (k3.low hS hh) k4
  | loop k1 k2 k3 k4 k5 => exact .loop k1 k2 k3 (AO.lows hS k4 hh) k5
  | dead k1 => exact .dead k1
 ·obtain ⟨b', h1, h2⟩ := R.upd id b h
  exact ⟨b', hS _ _ (C.clean id b h).1 h1, h2⟩
theorem Al.low (hb : ∀ i b, 1000 ≤ i → s.S i = some b → b.high = true) : Al C s ⟨fun i => (s.env i).low, Gk s.S⟩ := fun a w ⟨σ, ι, R⟩ => ⟨σ, ι, R.low hb⟩
section
variable {S S2 : AA} {ι2 : Ah} {id a0 : Nat}
end
theorem Ab.stay {S S2 : AA} {ι2 : Ah} (hS : ∀ i b, 1000 ≤ i → S i = some b → S2 i = some b ∧ ι2 i = ι i) {v : Value} {c : AC} (h : Ab σ S ι v c) (hc : c.high = true) : Ab σ S2 ι2 v c := by
 induction h with
 | st h => exact .st h
 | full h => exact .full h
 | row h1 h2 h3 h4 =>
  rw [AC.high] at hc
  obtain ⟨q1, q2⟩ := hS _ _ (of_decide_eq_true hc) h1
  exact .row q1 h2 h3 (fun hn => by rw [q2]; exact h4 hn)
 | part h1 h2 h3 h4 =>
  rw [AC.high] at hc
  obtain ⟨q1, q2⟩ := hS _ _ (of_decide_eq_true hc) h1
  exact .part q1 h2 h3 (fun hn => by rw [q2]; exact h4 hn)
 | rest h1 h2 h3 h4 =>
  rw [AC.high] at hc
  obtain ⟨q1, q2⟩ := hS _ _ (of_decide_eq_true hc) h1
  exact .rest q1 h2 h3 (fun hn => by rw [q2]; exact h4 hn)
 | ptr h1 h2 h3 h4 =>
  rw [AC.high] at hc
  obtain ⟨q1, q2⟩ := hS _ _ (of_decide_eq_true hc) h1
  exact .ptr q1 h2 h3 (fun hn => by rw [q2]; exact h4 hn)
 | mptr h1 h2 h3 h4 =>
  rw [AC.high] at hc
  obtain ⟨q1, q2⟩ := hS _ _ (of_decide_eq_true hc) h1
  exact .mptr q1 h2 h3 (fun hn => by rw [q2]; exact h4 hn)
 | yld h1 h2 h3 h4 =>
  rw [AC.high] at hc
  obtain ⟨q1, q2⟩ := hS _ _ (of_decide_eq_true hc) h1
  exact .yld q1 h2 h3 (fun hn => by rw [q2]; exact h4 hn)
 | ubool => exact .ubool
 | eptr c h1 h2 hh => exact .eptr c h1 h2 hh
 | fn c h1 h2 h3 ih =>
  rw [AC.high] at hc
  exact .fn c h1 h2 (fun j a ha => ih j a ha (Ba hc a (List.mem_of_getElem? ha)))
 | any h => exact .any h
theorem CF (S : AA) (i : Nat) : upS S (up1 i) = (S i).map (AJ.ren up1) := by
 show (if i + 1000 < 1000 then none else (S (i + 1000 - 1000)).map (AJ.ren up1)) = _
 rw [if_neg (by omega), Nat.add_sub_cancel]
theorem PK (S : AA) (i : Nat) (b : AJ) : dnS (AP S (up1 i) (some b)) = AP (dnS S) i (some (b.ren dn1)) := by
 funext k
 show (AP S (up1 i) (some b) (up1 k)).map _ = AP (dnS S) i _ k
 by_cases h : k = i
 ·subst h
  rw [AF, AF]
  rfl
 ·have hne : up1 k ≠ up1 i := fun e => h (by have := congrArg dn1 e; rw [G6, G6] at this; exact this)
  rw [AZ _ hne, AZ _ h]
  rfl
theorem IC {S : AA} (h : Ay S) {i : Nat} (hi : 1000 ≤ i) {b : AJ} (hb : b.high = true) : Ay (AP S i (some b)) := fun k c hk => by
 by_cases e : k = i
 ·subst e
  rw [AF] at hk
  cases hk
  exact ⟨hi, hb⟩
 ·rw [AZ _ e] at hk
  exact h k c hk
end
theorem IWP.loopD {P : Program} {C : Ctx} {mu : List Nat} {Q : AX → AS → Prop} {s : AS} {x : IR} (ds : List Nat) (Inv : Nat → AS → Prop) (m0 : Nat) (h0 : Inv m0 s) (h : ∀ m s, Inv m s → IWP P C mu x (AX.then (fun s' => ∃ m', m' < m ∧ Inv m' (s'.drop ds)) Q) s) (hds : ∀ d ∈ ds, d < 1000 := by decide) : IWP P C mu (.loop x) Q s := by
 refine IWP.loop (fun m s => ∃ s1, Al C s s1 ∧ Inv m s1) m0 ⟨s, Al.refl _ _, h0⟩ fun m s ⟨s1, hg, hi⟩ => ?_
 refine (IWP.ghost hg (h m s1 hi)).mono fun e s2 he => ?_
 cases e with
 | normal =>
  obtain ⟨m', h1, h2⟩ := he
  exact ⟨m', h1, _, Al.drop ds s2 hds, h2⟩
 | _ => exact he
theorem Ab.out {σ : Sto} {S : AA} {ι : Ah} {v : Value} {c : AC} (h : Ab σ S ι v c) (hc : outC noS c = some c) : Ab σ noS noH v c := by
 cases h with
 | st h => exact .st h
 | full h => simp [outC, stC] at hc
 | row h1 h2 h3 h4 => simp [outC, stC, noS] at hc
 | part h1 h2 h3 h4 => simp [outC, stC, noS] at hc
 | rest h1 h2 h3 h4 => simp [outC, stC, noS] at hc
 | ptr h1 h2 h3 h4 => simp [outC, stC] at hc
 | mptr h1 h2 h3 h4 => simp [outC, stC] at hc
 | yld h1 h2 h3 h4 => simp [outC, stC] at hc
 | ubool => exact .ubool
 | eptr c h1 h2 hh => exact .eptr c h1 h2 hh
 | @fn f vs caps c h1 h2 h3 =>
  cases caps with
  | nil => exact .fn c h1 h2 (by simp)
  | cons x xs =>
   have hall : (x :: xs).all AC.stay = true := by
    unfold outC at hc
    by_cases e : (x :: xs).all AC.stay = true
    ·exact e
    ·simp only [e, if_false] at hc
     cases hc
   exact .fn c h1 h2 fun j a ha => (h3 j a ha).staying (List.all_eq_true.1 hall a (List.mem_of_getElem? ha))
 | any h => simp [outC, stC] at hc
theorem HN : ∀ {cs : List AC}, outCs noS cs = some cs → ∀ c ∈ cs, outC noS c = some c
 | [], _, c, hc => by simp at hc
 | x :: xs, h, c, hc => by
  simp only [outCs] at h
  split at h
  ·rename_i y ys h1 h2
   simp only [Option.some.injEq, List.cons.injEq] at h
   obtain ⟨rfl, rfl⟩ := h
   rcases List.mem_cons.1 hc with rfl | hc
   ·exact h1
   ·exact HN h2 c hc
  ·cases h
mutual
theorem AO.out {σ : Sto} {S : AA} {ι : Ah} : ∀ {v : Value} {c : AV}, AO σ S ι v c → outV noS c = some c → AO σ noS noH v c
 | v, .one c, h, hc => by
  rw [outV, Option.map_eq_some_iff] at hc
  obtain ⟨a, h1, h2⟩ := hc
  cases h2
  cases h with | one h => exact .one (h.out h1)
 | v, .agg cs, h, hc => by
  rw [outV, Option.map_eq_some_iff] at hc
  obtain ⟨a, h1, h2⟩ := hc
  cases h2
  cases h with
  | agg h => exact .agg (AU.of_get h.len fun j x c hx hcj => by
    obtain ⟨x', q1, q2⟩ := h.get hcj
    rw [hx] at q1
    cases q1
    exact q2.out (HN h1 c (List.mem_of_getElem? hcj)))
 | v, .tup vs, h, hc => by
  rw [outV, Option.map_eq_some_iff] at hc
  obtain ⟨a, h1, h2⟩ := hc
  cases h2
  cases h with
  | tup c k1 k2 k3 => exact .tup c k1 k2 (AO.outs k3 h1)
 | v, .any, h, _ => .any
theorem AO.outs {σ : Sto} {S : AA} {ι : Ah} : ∀ {vs : List AV} {c : Nat → Value}, (∀ j b, vs[j]? = some b → AO σ S ι (c j) b) → outVs noS vs = some vs → ∀ j b, vs[j]? = some b → AO σ noS noH (c j) b
 | [], c, h, _, j, b, hb => by simp at hb
 | x :: xs, c, h, hc, j, b, hb => by
  rw [outVs] at hc
  split at hc
  ·rename_i y ys h1 h2
   simp only [Option.some.injEq, List.cons.injEq] at hc
   obtain ⟨rfl, rfl⟩ := hc
   cases j with
   | zero =>
    simp at hb
    subst hb
    exact AO.out (h 0 _ rfl) h1
   | succ j => exact AO.outs (c := fun j => c (j + 1)) (fun j b hb => h (j + 1) b (by simpa using hb)) h2 j b (by simpa using hb)
  ·cases hc
end
theorem AQ.toS {P : Program} {f : FuncId} {xs : List AV} {S : AA} {r : AV} (h : AQ P f xs r) (hx : outVs noS xs = some xs) : BE P f xs S r S := by
 intro hclean σ w vs ι hglob hfit hown hvs
 have hvs' : AU (AO σ noS noH) vs xs := AU.of_get hvs.len fun j v x hv hxj => by
  have := AO.outs (c := fun j => (vs[j]?).getD undef) (σ := σ) (S := S) (ι := ι) (vs := xs) (fun j b hb => by
   obtain ⟨v', h1, h2⟩ := hvs.get hb
   rw [h1]
   exact h2) hx j x hxj
  rw [hv] at this
  exact this
 refine (h σ w vs hglob hfit hvs').mono fun e w' he => ?_
 obtain ⟨v, σ', he1, he2, hf, hext, hb⟩ := he
 have hlt : ∀ id b g, S id = some b → (ι id).g = some g → g < w.heap.size := fun id b g h1 h2 => (hown.1 id b h1).gsome h2
 refine ⟨v, σ', ι, he1, hclean, Upd.refl _ _, ⟨fun id b hid => (hown.1 id b hid).mono hext.keep (Upd.refl _ _) (fun g hg => hb.block g (hlt id b g hid hg)) (fun g hg p hp => hext.old p (by have := hlt id b g hid hg; omega)), hown.2⟩,
  MF (s := ⟨fun _ => .any, S⟩) he2, hf, hext.keep, fun p hp _ => hext.old p hp, ⟨hb.os, hb.tape, hb.output⟩, hb.size, fun g hg _ => hb.block g hg, fun id b g h1 h2 => .inr fun hn => hn id b h1 h2⟩
theorem Jh {C : Ctx} {rs : List RV} {r : AV} {S' : AA} {e : AX} {s : AS} (he : match e with | .normal => True | .ret => True | _ => False) (r0 : AV) (h1 : (AB s rs).map AI = some r0) (h2 : outV s.S r0 = some r) (hb : ∀ i b, 1000 ≤ i → s.S i = some b → b.high = true) (h3 : Gk s.S = S') (hc : Ay S') : Mq C rs r S' e s := by
 refine ⟨he, s, ⟨fun i => (s.env i).low, Gk s.S⟩, r0, Al.refl _ _, h1, fun σ ι a w R => ?_, h3, hc⟩
 exact ⟨σ, ι, R.low hb, fun v hv => MF (s := ⟨fun i => (s.env i).low, Gk s.S⟩) (R.outV hv h2)⟩
theorem Ak {C : Ctx} {rs : List RV} {r : AV} {e : AX} {s : AS} {S : AA} (r0 : AV) (hS : Ay S) (he : match e with | .normal => True | .ret => True | _ => False)
  (h1 : (AB s rs).map AI = some r0) (h2 : outV s.S r0 = some r) (h4 : ∀ i, 1000 ≤ i → s.S i = S i) : Mq C rs r S e s :=
 Jh he r0 h1 h2 (fun i b hi hb => (hS i b (by rw [← h4 i hi]; exact hb)).2) (by
  funext i
  unfold Gk
  split
  ·exact (Bq hS (by omega)).symm
  ·exact h4 i (by omega)) hS

open Cod (wid dat)
inductive Tm where
 | mk (name : ByteArray) (args : List Tm)
def Tm.name : Tm → ByteArray | .mk n _ => n
def Tm.args : Tm → List Tm | .mk _ xs => xs
mutual
def Tm.dat : Tm → Dat
 | .mk n xs => .agg [.str n, .row 2 (Tm.dats xs)]
def Tm.dats : List Tm → List Dat
 | [] => []
 | t :: ts => t.dat :: Tm.dats ts
end
theorem Tm.dats_eq : ∀ xs : List Tm, Tm.dats xs = xs.map Tm.dat
 | [] => rfl
 | t :: ts => by rw [Tm.dats, Tm.dats_eq ts]; rfl
theorem Tm.dat_is {σ : Sto} {n : ByteArray} {xs : List Tm} {cs : List Value} (h : (Tm.dat (.mk n xs)).Is σ cs) :
  ∃ p len cap, cs = [.string n, .slice p len cap] ∧ n.size ≤ maxLen ∧ len = xs.length ∧ len ≤ cap ∧ cap ≤ maxLen ∧ (p = none → cap = 0) ∧ ∃ b o, (len ≠ 0 → p = some ⟨b, o, none⟩) ∧ Dat.RowIs σ 2 (xs.map Tm.dat) b o := by
 rw [Tm.dat, Tm.dats_eq] at h
 obtain ⟨x, y, rfl, ⟨rfl, hn⟩, x', y', rfl, ⟨p, len, cap, rfl, hl, r⟩, rfl⟩ := h
 exact ⟨p, len, cap, rfl, hn, by simpa using hl, r⟩
instance : Cod Tm := ⟨2, Tm.dat, fun σ t cs h => by
 cases t
 obtain ⟨p, len, cap, rfl, _⟩ := Tm.dat_is h
 rfl⟩
def TmV (σ : Sto) (v : Value) (t : Tm) : Prop := ∃ p len cap, v = .agg #[.string t.name, .slice p len cap] ∧ t.name.size ≤ maxLen ∧ Slc σ p len cap t.args
theorem TmV.ext {σ σ' : Sto} {N : Nat} {v : Value} {t : Tm} (h : TmV σ v t) (he : Ext N σ σ') : TmV σ' v t := by
 obtain ⟨p, len, cap, h1, h2, h3⟩ := h
 exact ⟨p, len, cap, h1, h2, h3.ext he⟩
theorem Slc.str {σ : Sto} {p : Option Addr} {len cap : Nat} {xs : List ByteArray} (h : Slc σ p len cap xs) (k : Nat) (hk : k < len) :
  ∃ b o a, p = some ⟨b, o, none⟩ ∧ Hid (xs[k]? = some a) ∧ σ ⟨b, o + k, none⟩ = some (.string a) ∧ a.size ≤ maxLen := by
 have hl := h.length
 obtain ⟨b, o, hp, cs, h1, h2, h3⟩ := h.get k (by omega)
 obtain ⟨rfl, h4⟩ := M_.1 h3
 have := h2 0 _ rfl
 exact ⟨b, o, xs[k], hp, Lib.hid (List.getElem?_eq_getElem (by omega)), by simpa [Cod.wid] using this, h4⟩
theorem NC {n : Int} (h : (Lit.int .i64 n).wf = true) : -9223372036854775808 ≤ n ∧ n ≤ 9223372036854775807 := by
 simpa [Lit.wf, IntKind.min, IntKind.max, IntKind.signed, IntKind.bits] using h
theorem Slc.int {σ : Sto} {p : Option Addr} {len cap : Nat} {xs : List Int} (h : Slc σ p len cap xs) (k : Nat) (hk : k < len) :
  ∃ b o a, p = some ⟨b, o, none⟩ ∧ Hid (xs[k]? = some a) ∧ σ ⟨b, o + k, none⟩ = some (.int .i64 a) ∧ -9223372036854775808 ≤ a ∧ a ≤ 9223372036854775807 := by
 have hl := h.length
 obtain ⟨b, o, hp, cs, h1, h2, h3⟩ := h.get k (by omega)
 obtain ⟨rfl, h4⟩ := Mx.1 h3
 have := h2 0 _ rfl
 exact ⟨b, o, xs[k], hp, Lib.hid (List.getElem?_eq_getElem (by omega)), by simpa [Cod.wid] using this, NC h4⟩
theorem Aa {α : Type} {xs : List α} {k : Nat} {a : α} (h : xs[k]? = some a) : xs.take (k + 1) = xs.take k ++ [a] := by
 rw [List.take_add_one, h]; rfl
theorem Cm {α : Type} {xs : List α} {k : Nat} {a : α} (h : xs[k]? = some a) : k < xs.length := by
 rcases Nat.lt_or_ge k xs.length with h' | h'
 ·exact h'
 ·rw [List.getElem?_eq_none h'] at h; cases h
theorem Ae {α : Type} {xs : List α} {k : Nat} {a : α} (h : xs[k]? = some a) : a ∈ xs := List.mem_of_getElem? h
theorem Tm.lt_of_mem {a : Tm} {n : ByteArray} {xs : List Tm} (h : a ∈ xs) : SizeOf.sizeOf a < SizeOf.sizeOf (Tm.mk n xs) := by
 have := List.sizeOf_lt_of_mem h
 simp only [Tm.mk.sizeOf_spec]
 omega

theorem Mo (c P Q : Prop) [Decidable c] : ((c → P) ∧ (¬ c → Q)) = if c then P else Q := by
 by_cases h : c <;> simp [h]
theorem OM {c A B : Prop} [Decidable c] (h : (c → A) ∧ (¬ c → B)) : if c then A else B := by
 by_cases hc : c
 ·rw [if_pos hc]; exact h.1 hc
 ·rw [if_neg hc]; exact h.2 hc
theorem Ns (b : Bool) (P Q : Prop) : ((b = true → P) ∧ (b = false → Q)) = if b = true then P else Q := by
 cases b <;> simp
attribute [congr] Kv.congr Fo.congr
mutual
def BI : Tm → List SV
 | .mk n xs => [.str n, .list (L0 xs)]
def L0 : List Tm → List (List SV)
 | [] => []
 | t :: ts => BI t :: L0 ts
end
theorem Je : ∀ xs : List Tm, L0 xs = xs.map BI
 | [] => rfl
 | t :: ts => by rw [L0, Je ts]; rfl
theorem Ac (t : Tm) : BI t = [.str t.name, .list (t.args.map BI)] := by
 cases t
 rw [BI, Je]
 rfl
theorem Kg (t : Tm) : (BI t).length = 2 := by rw [Ac]; rfl
class Pl {α : Type} (f : α → List SV) (n : outParam Nat) : Prop where
 ok : ∀ a, (f a).length = n
theorem Py {α : Type} {f : α → List SV} {n : Nat} [h : Pl f n] {ts : List α} : ∀ x ∈ ts.map f, x.length = n := fun x hx => by
 obtain ⟨a, _, rfl⟩ := List.mem_map.1 hx
 exact h.ok a
instance : Pl BI 2 := ⟨fun t => by rw [Ac]; rfl⟩
theorem IY {ts : List Tm} : ∀ x ∈ ts.map BI, x.length = 2 := by
 intro x hx
 obtain ⟨a, _, rfl⟩ := List.mem_map.1 hx
 exact Kg a
theorem Tm.args_mk (n : ByteArray) (xs : List Tm) : (Tm.mk n xs).args = xs := rfl
theorem Tm.name_mk (n : ByteArray) (xs : List Tm) : (Tm.mk n xs).name = n := rfl
abbrev AR (n : Int) : AV := .one (.st (.int .i64 n))
abbrev Ag (b : Bool) : AV := .one (.st (.bool b))
abbrev CQ (s : ByteArray) : AV := .one (.st (.str s))
abbrev aTm (t : Tm) : AV := .agg [.st (.str t.name), .st (.list (t.args.map BI))]
abbrev Hi (n : Int) : List SV := [.int .i64 n]
abbrev FV (s : ByteArray) : List SV := [.str s]
abbrev DZ (l : List Int) : AV := .one (.st (.list (l.map Hi)))
abbrev At (l : List ByteArray) : AV := .one (.st (.list (l.map FV)))
abbrev DD (l : List Tm) : AV := .one (.st (.list (l.map BI)))
theorem Aj {α : Type} {xs : List α} {k : Nat} (h : k < xs.length) : ∃ a, xs[k]? = some a := ⟨xs[k], List.getElem?_eq_getElem h⟩
theorem Ci (n : Int) : inR .i64 n ↔ -9223372036854775808 ≤ n ∧ n ≤ 9223372036854775807 := by
 simp [inR, IntKind.min, IntKind.max, IntKind.signed, IntKind.bits]
theorem LZ {l : List Int} (h : (SV.list (l.map Hi)).known) : l.length ≤ maxLen ∧ ∀ n ∈ l, inR .i64 n := by
 obtain ⟨h1, h2⟩ := h
 refine ⟨by simpa using h1, fun n hn => ?_⟩
 have := Ez.1 (EB.1 h2 (Hi n) (List.mem_map.2 ⟨n, hn, rfl⟩)) (.int .i64 n) (by simp)
 exact this
theorem Cl : maxLen = 9223372036854775807 := by simp [maxLen]
theorem Bv {S : AA} {xs : List (List SV)} (h : (AV.one (.st (.list xs))).known S) : xs.length ≤ 9223372036854775807 := by
 simp only [AV.known, AC.known, SV.known] at h
 rw [Cl] at h
 exact h.1
theorem EL {S : AA} {t : Tm} (h : (aTm t).known S) : t.name.size ≤ 9223372036854775807 ∧ t.args.length ≤ 9223372036854775807 := by
 have h1 : t.name.size ≤ maxLen := by
  have := h (.st (.str t.name)) (by simp)
  simpa [AC.known, SV.known] using this
 have h2 : t.args.length ≤ maxLen := by
  have := h (.st (.list (t.args.map BI))) (by simp)
  simp only [AC.known, SV.known, List.length_map] at this
  exact this.1
 rw [Cl] at h1 h2
 exact ⟨h1, h2⟩

def Kd.isCall : Kd → Bool
 | .call _ _ => true
 | .callS _ _ => true
 | .callV _ _ => true
 | .callN _ _ => true
 | .callR _ _ => true
 | .callW _ _ => true
 | .callX _ _ => true
 | .callY _ _ => true
 | .buildFlat _ => false
 | .cutP _ _ _ => false
 | .indexP _ _ _ => false
 | .appP _ _ _ _ _ => false
 | .restP _ _ _ => false
 | .appS _ _ _ => false
 | .loadL _ _ _ => false
 | .indexL _ _ _ => false
 | .buildL _ _ => false
 | .fieldL _ _ => false
 | .lenL _ _ => false
 | .appF _ _ _ _ _ _ => false
 | .clearP _ _ _ _ => false
 | .copyP _ _ => false
 | .mov _ => false
 | .pick _ _ _ => false
 | .alloc _ _ => false
 | .box _ _ => false
 | .build _ _ => false
 | .buildSlice _ _ _ _ => false
 | .load _ _ _ => false
 | .store _ _ _ => false
 | .fieldAddr _ _ => false
 | .field _ _ _ _ => false
 | .indexAddr _ _ _ => false
 | .indexArr _ _ _ _ => false
 | .indexStr _ _ => false
 | .bin _ _ _ => false
 | .eqB _ _ _ => false
 | .eqN _ _ => false
 | .eqE _ _ => false
 | .eqP _ _ => false
 | .bits _ _ _ => false
 | .never => false
 | .pan _ => false
 | .iface _ _ => false
 | .strOf _ => false
 | .un _ _ => false
 | .sliceS _ _ _ => false
 | .sliceL _ _ _ _ => false
 | .sliceM _ _ _ _ => false
 | .extract _ _ => false
 | .len _ _ => false
 | .append _ _ _ _ _ _ => false
 | .conv _ _ => false
 | .nilCheck _ => false
 | .mm _ _ _ => false
 | .makeSlice _ _ _ _ _ _ => false
 | .makeFunc _ _ => false
 | .makeMap _ => false
 | .lookup _ _ _ _ _ => false
 | .mapSet _ _ _ _ => false
 | .mapEntry _ _ _ _ => false
 | .entrySet _ _ _ => false
 | .rangeM _ => false
 | .next _ => false
 | .entry _ => false
 | .lenM _ => false
 | .buildArr _ => false
 | .makeMemo => false
 | .memoGet _ _ _ _ => false
 | .memoSet _ _ _ => false
inductive PR (P : Program) (f : FuncId) (vs : List AV) (d : Option Nat) (l : List Ins) (s : AS) (K : AS → Prop) : Prop
 | mk (r : AV) (h1 : AQ P f vs r) (h2 : Run P l (s.put d r) K)
inductive I9 (P : Program) (f : FuncId) (vs : List AV) (S : AA) (ks : List Nat) (d : Option Nat) (l : List Ins) (env : Nat → AV) (K : AS → Prop) : Prop
 | mk (r : AV) (S' : AA) (h1 : BE P f vs (upS S) r S') (h2 : (∀ k ∈ ks, dnS S' k = S k) ∧ Run P l ((⟨env, dnS S'⟩ : AS).put d (r.ren dn1)) K)
inductive OO (P : Program) (f : FuncId) (vs : List AV) (ks : List Nat) (d : Option Nat) (l : List Ins) (s : AS) (K : AS → Prop) : Prop
 | mk (mu : Bool) (e : TypeId) (w : Nat) (ys : List (List SV)) (h1 : L2 P f vs e w ys mu) (h2 : s.S (d.getD 0) = none ∧ (∀ k ∈ ks, (s.set (d.getD 0) (JV mu e w ys)).S k = s.S k) ∧ Run P l ((s.set (d.getD 0) (JV mu e w ys)).put d (.one (.row (d.getD 0) ys.length))) K)
inductive Pf (P : Program) (f : FuncId) (vs : List AV) (d : Option Nat) (l : List Ins) (s : AS) (K : AS → Prop) : Prop
 | mk (r : AV) (rows : List (Nat × AJ)) (h0 : ∀ q ∈ rows, s.S q.1 = some q.2) (h1 : ∀ T : AA, (∀ q ∈ rows, T q.1 = some q.2) → BE P f vs (upS T) r (upS T)) (h2 : Run P l (s.put d (r.ren dn1)) K)
inductive NT (P : Program) (f : FuncId) (vs : List AV) (ks : List Nat) (d : Option Nat) (l : List Ins) (s : AS) (K : AS → Prop) : Prop
 | mk (r : AV) (rows : List (Nat × AJ × AJ)) (h0 : Ly s.S rows) (h1 : ∀ T : AA, Ly T rows → BE P f vs (upS T) r (upS (Dz T rows))) (h2 : (∀ k ∈ ks, Dz s.S rows k = s.S k) ∧ Run P l ((⟨s.env, Dz s.S rows⟩ : AS).put d (r.ren dn1)) K)
inductive OA (P : Program) (S : AA) (hs : Bool) (G : AA → (AV → AA → Prop) → Prop) (d : Option Nat) (l : List Ins) (env : Nat → AV) (K : AS → Prop) : Prop
 | mk (T : AA) (Post : AV → AA → Prop) (h1 : Ay T) (h2 : ∀ i, 1000 ≤ i → S i = T i) (h3 : hs = true) (h4 : G T Post) (h5 : ∀ r S', Ay S' → Post r S' → Run P l ((⟨env, DH S S'⟩ : AS).put d r) K)
def Kd.goC (P : Program) (d : Option Nat) (s : AS) (t : Tag) (l : List Ins) (K : AS → Prop) : Kd → Prop
 | .call f xs => match t with
  | .no => match outVs s.S (s.evs xs) with
   | some vs => PR P f vs d l s K
   | none => False
  | _ => False
 | .callR f xs => match t with
  | .no => Pf P f (AV.rens up1 (s.evs xs)) d l s K
  | _ => False
 | .callW f xs => match t with
  | .no => NT P f (AV.rens up1 (s.evs xs)) [] d l s K
  | .keeps ks => NT P f (AV.rens up1 (s.evs xs)) ks d l s K
  | .onb _ => False
 | .callX f xs => match t with
  | .no => OA P s.S (AV.highs ((s.evs xs).map (F7 s.S))) (JA P f ((s.evs xs).map (F7 s.S))) d l s.env K
  | _ => False
 | .callY f xs => match t with
  | .no => OA P s.S ((s.ev f).high && AV.highs ((s.evs xs).map (F7 s.S))) (Gf P (s.ev f) ((s.evs xs).map (F7 s.S))) d l s.env K
  | _ => False
 | .callN f xs => match t with
  | .no => match outVs s.S (s.evs xs) with
   | some vs => OO P f vs [] d l s K
   | none => False
  | .keeps ks => match outVs s.S (s.evs xs) with
   | some vs => OO P f vs ks d l s K
   | none => False
  | .onb _ => False
 | .callS f xs => match t with
  | .no => I9 P f (AV.rens up1 (s.evs xs)) s.S [] d l s.env K
  | .keeps ks => I9 P f (AV.rens up1 (s.evs xs)) s.S ks d l s.env K
  | .onb _ => False
 | .callV f xs => match (s.ev f).fnOf with
  | some (g, caps) => Bp P g = true ∧ match t with
   | .no => I9 P g (AV.rens up1 (s.evs xs ++ caps.map .one)) s.S [] d l s.env K
   | .keeps ks => I9 P g (AV.rens up1 (s.evs xs ++ caps.map .one)) s.S ks d l s.env K
   | .onb _ => False
  | _ => False
 | _ => False
def FC (P : Program) : List Ins → AS → (AS → Prop) → Prop
 | [], s, K => K s
 | i :: l, s, K => match i.kd.isCall with
  | false => match i.guard with
   | none => i.kd.goT P (i.dst.getD 0) s i.tag fun v s' => FC P l (s'.put i.dst v) K
   | some (g, want) => match s.env g with
    | .one (.st (.bool b)) => (b = want → i.kd.goT P (i.dst.getD 0) s i.tag fun v s' => FC P l (s'.put i.dst v) K) ∧ (¬ b = want → FC P l (s.put i.dst (.tup [])) K)
    | .tup [] => FC P l (s.put i.dst (.tup [])) K
    | _ => False
  | true => match i.guard with
   | none => i.kd.goC P i.dst s i.tag l K
   | some (g, want) => match s.env g with
    | .one (.st (.bool b)) => (b = want → i.kd.goC P i.dst s i.tag l K) ∧ (¬ b = want → FC P l (s.put i.dst (.tup [])) K)
    | .tup [] => FC P l (s.put i.dst (.tup [])) K
    | _ => False
section
variable {P : Program}
theorem Lr {kd : Kd} {d : Option Nat} {s : AS} {t : Tag} {l : List Ins} {K : AS → Prop} (h : kd.goC P d s t l K) : kd.goT P (d.getD 0) s t fun v s' => Run P l (s'.put d v) K := by
 cases kd <;> simp only [Kd.goC] at h
 case call f xs =>
  cases t <;> simp only at h
  split at h
  ·rename_i vs e
   obtain ⟨r, h1, h2⟩ := h
   simp only [Kd.goT, Kd.go, e]
   exact ⟨r, h1, trivial, h2⟩
  ·exact h.elim
 case callN f xs =>
  cases t <;> simp only at h
  ·split at h
   ·rename_i vs e
    obtain ⟨mu, ty, w, ys, h1, h2, _, h3⟩ := h
    simp only [Kd.goT, Kd.go, e]
    exact ⟨mu, ty, w, ys, h1, h2, trivial, h3⟩
   ·exact h.elim
  ·split at h
   ·rename_i vs e
    obtain ⟨mu, ty, w, ys, h1, h2, h4, h3⟩ := h
    simp only [Kd.goT, Kd.go, e]
    exact ⟨mu, ty, w, ys, h1, h2, h4, h3⟩
   ·exact h.elim
 case callW f xs =>
  cases t <;> simp only at h
  ·obtain ⟨r, rows, h0, h1, _, h2⟩ := h
   simp only [Kd.goT, Kd.go]
   exact ⟨r, rows, h0, h1, trivial, h2⟩
  ·obtain ⟨r, rows, h0, h1, hk, h2⟩ := h
   simp only [Kd.goT, Kd.go]
   exact ⟨r, rows, h0, h1, hk, h2⟩
 case callX f xs =>
  cases t <;> simp only at h
  obtain ⟨T, Post, h1, h2, h3, h4, h5⟩ := h
  exact ⟨T, Post, h1, h2, h3, h4, fun r S' k1 k2 => ⟨trivial, h5 r S' k1 k2⟩⟩
 case callY f xs =>
  cases t <;> simp only at h
  obtain ⟨T, Post, h1, h2, h3, h4, h5⟩ := h
  exact ⟨T, Post, h1, h2, h3, h4, fun r S' k1 k2 => ⟨trivial, h5 r S' k1 k2⟩⟩
 case callR f xs =>
  cases t <;> simp only at h
  obtain ⟨r, rows, h0, h1, h2⟩ := h
  simp only [Kd.goT, Kd.go]
  exact ⟨r, rows, h0, h1, trivial, h2⟩
 case callS f xs =>
  cases t <;> simp only at h
  ·obtain ⟨r, S', h1, h2, h3⟩ := h
   exact ⟨r, S', h1, trivial, h3⟩
  ·obtain ⟨r, S', h1, h2, h3⟩ := h
   exact ⟨r, S', h1, h2, h3⟩
 case callV f xs =>
  split at h
  ·rename_i g caps e
   obtain ⟨hp, h⟩ := h
   cases t <;> simp only at h
   ·obtain ⟨r, S', h1, h2, h3⟩ := h
    simp only [Kd.goT, Kd.go, e]
    exact ⟨hp, r, S', h1, trivial, h3⟩
   ·obtain ⟨r, S', h1, h2, h3⟩ := h
    simp only [Kd.goT, Kd.go, e]
    exact ⟨hp, r, S', h1, h2, h3⟩
  ·exact h.elim
theorem BY : ∀ {l : List Ins} {s : AS} {K : AS → Prop}, FC P l s K → Run P l s K
 | [], s, K, h => h
 | i :: l, s, K, h => by
  unfold FC at h
  unfold Run
  split at h
  ·split at h
   ·rename_i e
    simp only [e]
    exact DN h fun v s' _ h' => BY h'
   ·rename_i g want e
    simp only [e]
    split at h
    ·rename_i b e2
     simp only [e2]
     exact ⟨fun hb => DN (h.1 hb) fun v s' _ h' => BY h', fun hb => BY (h.2 hb)⟩
    ·rename_i e2
     simp only [e2]
     exact BY h
    ·exact h.elim
  ·split at h
   ·rename_i e
    simp only [e]
    exact Lr h
   ·rename_i g want e
    simp only [e]
    split at h
    ·rename_i b e2
     simp only [e2]
     exact ⟨fun hb => Lr (h.1 hb), fun hb => BY (h.2 hb)⟩
    ·rename_i e2
     simp only [e2]
     exact BY h
    ·exact h.elim
theorem F9 {l : List Ins} {s : AS} {K : AS → Prop} {A : Prop} (h : A ∧ FC P l s K) : A ∧ Run P l s K := ⟨h.1, BY h.2⟩
theorem IWP.ops2 {C : Ctx} {mu : List Nat} {Q : AX → AS → Prop} {s : AS} {l : List Ins} (h : ∀ K : AS → Prop, (∀ s, Q .normal s → K s) → FC P l s K) : IWP P C mu (.ops l) Q s := IWP.opsK fun K hK => BY (h K hK)
end
attribute [go_sem] PL Ob Nm IW Ins.i Ins.m Ins.L Ins.l Ins.f Ins.s Opd.n JV Dz FC Kd.isCall Kd.goC Kd.goT Tag.ok Kd.ptrOpd D6 List.forall_mem_cons List.not_mem_nil Kd.go AS.ev AS.evs AS.put AS.set AP AV.cells FP CT D8 stP N2 stC stCs outC outCs outV outVs GC B4 Bh Bs Ov DE M4 Mv optI Kr splice AJ.len AS.start AS.startS noS List.getElem?_cons_zero List.getElem?_cons_succ List.getElem?_nil List.getElem?_map Option.isSome_none Option.isSome_some Option.map_some Option.map_none Option.getD_some Option.getD_none List.length_map List.length_cons List.length_nil List.length_append List.map_cons List.map_nil List.take_succ_cons List.take_zero List.take_nil List.drop_succ_cons List.drop_zero List.drop_nil List.nil_append List.cons_append List.append_nil Nat.zero_add Nat.add_zero Nat.le_refl Nat.zero_le if_true if_false Bool.false_eq_true true_and and_true Option.some.injEq Int.toNat_natCast Int.natCast_nonneg Int.ofNat_eq_natCast ite_self decide_true decide_false not_true_eq_false not_false_eq_true true_implies false_implies implies_true Bool.true_eq_false eq_self Bool.not_true Bool.not_false beq_self_eq_true Tm.args_mk Tm.name_mk AV.rens AV.ren AC.ren AC.rens AJ.ren CF G6 PK La
theorem O5 (T : AA) (i : Nat) (b : AJ) : upS (AP T i (some b)) = AP (upS T) (up1 i) (some (b.ren up1)) := by
 funext k
 show (if k < 1000 then none else (AP T i (some b) (k - 1000)).map (AJ.ren up1)) = _
 by_cases e : k = up1 i
 ·subst e
  rw [AF, if_neg (by have := BL i; omega), show up1 i - 1000 = i from G6 i, AF]
  rfl
 ·rw [AZ _ e]
  by_cases hk : k < 1000
  ·rw [if_pos hk]
   show none = if k < 1000 then none else _
   rw [if_pos hk]
  ·rw [if_neg hk, AZ _ (fun h => e (by rw [← h]; exact (HR (by omega)).symm))]
   show _ = if k < 1000 then none else _
   rw [if_neg hk]
abbrev Wb := @D5
abbrev Wo := @IWP.ops2
abbrev Wp := @IWP.cond
abbrev Wq := @BY
abbrev Wr := @F9
abbrev iC := @OM
abbrev Cg := @PR.mk
abbrev dT := @decide_eq_true_eq
abbrev dF := @decide_eq_false_iff_not
abbrev nL := @Int.ofNat_lt
abbrev eT := @Ac
abbrev iR := @Ci
attribute [go_sem ↓] Mo Ns
theorem Ai {a b : Prop} (k : b) (h : a := by first | omega | exact Py | (simp [Cl] <;> omega)) : a ∧ b := ⟨h, k⟩
theorem Z0 {id id' : Nat} {Q : AX → AS → Prop} {s : AS} (h : Q (.exit id') s) (hne : id' ≠ id := by decide) : AX.inBlock id Q (.exit id') s := JD hne h
theorem fN {α : Type} (p : α → Prop) : ∀ x ∈ ([] : List α), p x := List.forall_mem_nil p
class FF (goal : Prop) (prev : outParam Prop) : Prop where
 imp : prev → goal
theorem W {goal prev : Prop} [s : FF goal prev] (h : prev) : goal := s.imp h
section
variable {P : Program} {C : Ctx} {mu : List Nat} {x y : IR} {Q : AX → AS → Prop} {s : AS} {id : Nat} {K : AS → Prop}
instance : FF (IWP P C mu (.seq x y) Q s) (IWP P C mu x (Jc P C mu y Q) s) := ⟨IWP.seq⟩
instance : FF (Jc P C mu y Q .normal s) (IWP P C mu y Q s) := ⟨D5⟩
instance : FF (IWP P C mu (.block id x) Q s) (IWP P C mu x (AX.inBlock id Q) s) := ⟨IWP.block⟩
instance : FF (IWP P C mu .skip Q s) (Q .normal s) := ⟨IWP.skip⟩
instance : FF (IWP P C mu (.exit id) Q s) (Q (.exit id) s) := ⟨IWP.exit⟩
instance : FF (IWP P C mu .ret Q s) (Q .ret s) := ⟨IWP.ret⟩
instance : FF (Jc P C mu y Q (.exit id) s) (Q (.exit id) s) := ⟨M1⟩
instance : FF (Jc P C mu y Q .ret s) (Q .ret s) := ⟨Oi⟩
instance : FF (AX.inBlock id Q .normal s) (Q .normal s) := ⟨HJ⟩
instance : FF (AX.inBlock id Q (.exit id) s) (Q .normal s) := ⟨JB⟩
instance : FF (AX.inBlock id Q .ret s) (Q .ret s) := ⟨Jg⟩
instance : FF (AX.then K Q (.exit id) s) (Q (.exit id) s) := ⟨Md⟩
instance : FF (AX.then K Q .ret s) (Q .ret s) := ⟨OU⟩
class OD (goal : Prop) (prev : outParam Prop) : Prop where
 imp : prev → goal
class No (goal : Prop) (prev : outParam Prop) : Prop where
 imp : prev → goal
theorem U {goal prev : Prop} [s : OD goal prev] (h : prev) : goal := s.imp h
instance {l : List Ins} : OD (Run P l s K) (FC P l s K) := ⟨BY⟩
instance {l : List Ins} {A : Prop} : OD (A ∧ Run P l s K) (A ∧ FC P l s K) := ⟨F9⟩
instance {l : List Ins} : No (Run P l s K) (FC P l s K) := ⟨BY⟩
instance {l : List Ins} {A : Prop} : No (A ∧ Run P l s K) (A ∧ FC P l s K) := ⟨F9⟩
instance {c0 : Opd} : No (IWP P C mu (.cond c0 x y) Q s) (match s.ev c0 with | .one (.st (.bool b)) => (b = true → IWP P C mu x Q s) ∧ (b = false → IWP P C mu y Q s) | .one .ubool => IWP P C mu x Q s ∧ IWP P C mu y Q s | _ => False) := ⟨IWP.cond⟩
end
theorem IWP.fresh {P : Program} {C : Ctx} {mu : List Nat} {x : IR} {Q : AX → AS → Prop} {s : AS} (h1000 : ∀ i, 1000 ≤ i → s.S i = none) (h : ∀ env' : Nat → AV, (∀ i v, s.env i = .one (.st v) → env' i = .one (.st v)) → IWP P C mu x Q ⟨env', noS⟩) : IWP P C mu x Q s := by
 refine IWP.ghost (Al.low (s := s) fun i b hi hb => by rw [h1000 i hi] at hb; cases hb) ?_
 have e : Gk s.S = noS := by
  funext i
  show (if i < 1000 then none else s.S i) = none
  split
  ·rfl
  ·exact h1000 i (by omega)
 rw [e]
 exact h _ fun i v hv => by rw [hv]; rfl
theorem IWP.mid {P : Program} {C : Ctx} {mu : List Nat} {x y : IR} {Q : AX → AS → Prop} {s : AS} (M : AS → Prop) (h1 : IWP P C mu x (fun e s => e = .normal ∧ M s) s) (h2 : ∀ s, M s → IWP P C mu y Q s) : IWP P C mu (x.seq y) Q s :=
 IWP.seq (h1.mono fun e s ⟨he, hm⟩ => by subst he; exact D5 (h2 s hm))

section
variable {P : Program} {C : Ctx} {a : Act} {w : World} {σ : Sto} {ι : Ah} {s : AS} {Q : Exit → Act → World → Prop} {o : Oper}
end
section
variable {P : Program} {C : Ctx} {mu : List Nat} {Q : AX → AS → Prop} {s : AS}
end

def Pr (P : Program) (f : FuncId) (caps : List AV) (Need : AA → Prop) {α : Type} (encs : α → List AV) (all : List α) : Prop :=
 ∀ (y : Nat) (Inv : List α → AA → Prop) (Jx : AA → Prop) (T : AA), 1000 ≤ y → (∀ pre T, Inv pre T → Need T) →
  (∀ pre v, (pre ++ [v]) <+: all → ∀ T, Inv pre T → Gf P (.one (.yld y)) (encs v) T fun r T' => (r = .one (.st (.bool true)) ∧ Inv (pre ++ [v]) T') ∨ (r = .one (.st (.bool false)) ∧ Jx T')) →
  Inv [] T → JA P f (.one (.yld y) :: caps) T fun _ T' => Inv all T' ∨ Jx T'
def KD (env : Nat → AV) : List Nat → List AV → Nat → AV
 | p :: ps, v :: vs => KD (AP env p v) ps vs
 | _, _ => env
section
variable {σ : Sto} {S : AA} {ι : Ah}
theorem IG {n : Nat} : ∀ {ps : List Nat} {vs : List Value} {xs : List AV} {tmps : Array Value} {env : Nat → AV}, AU (AO σ S ι) vs xs → n ≤ tmps.size → (∀ i, i < n → AO σ S ι (tmps.getD i undef) (env i)) →
  n ≤ ((ps.zip vs).foldl (fun t (p, v) => t.setIfInBounds p v) tmps).size ∧ ∀ i, i < n → AO σ S ι (((ps.zip vs).foldl (fun t (p, v) => t.setIfInBounds p v) tmps).getD i undef) (KD env ps xs i)
 | [], vs, xs, tmps, env, h, hs, he => ⟨hs, he⟩
 | p :: ps, [], [], tmps, env, h, hs, he => ⟨hs, he⟩
 | p :: ps, v :: vs, x :: xs, tmps, env, h, hs, he => by
  cases h with
  | cons h1 h2 =>
   refine IG (ps := ps) h2 (by simpa using hs) fun i hi => ?_
   unfold AP
   by_cases e : i = p
   ·subst e
    rw [if_pos rfl, Array.getD_eq_getD_getElem?, Array.getElem?_setIfInBounds_self_of_lt (by omega)]
    exact h1
   ·rw [if_neg e, Array.getD_eq_getD_getElem?, Array.getElem?_setIfInBounds_ne (fun h => e h.symm), ← Array.getD_eq_getD_getElem?]
    exact he i hi
end
section
variable {P : Program} {C : Ctx} {mu : List Nat} {Q : AX → AS → Prop} {s : AS} {x y : IR} {σ : Sto} {ι : Ah} {a : Act} {w : World}
theorem AK.upped (R : AK C σ ι s a w) : ∃ ι1 : Ah, (∀ i, ι1 (up1 i) = ι i) ∧ D9 σ (upS s.S) ι1 w ∧ (∀ v c, AO σ s.S ι v c → AO σ (upS s.S) ι1 v (c.ren up1)) ∧
  ∀ {Post : AV → AA → Prop} {e : Ending} {w' : World}, OP σ (upS s.S) ι1 w Post e w' → ∃ v r S' σ' ι2, e = .returned v ∧ Post r S' ∧ Ay S' ∧ Upd s.S ι (dnS S') ι2 ∧ AK C σ' ι2 ⟨s.env, dnS S'⟩ a w' := by
 have hup : ∀ i, dn1 (up1 i) = i := G6
 have hS : ∀ i b, s.S i = some b → upS s.S (up1 i) = some (b.ren up1) := fun i b hb => Kc hb
 obtain ⟨ι1, hι1⟩ : ∃ ι1 : Ah, ∀ i, ι1 i = ι (dn1 i) := ⟨fun i => ι (dn1 i), fun _ => rfl⟩
 have hι : ∀ i b, s.S i = some b → ι1 (up1 i) = ι i := fun i b _ => by rw [hι1, hup]
 have hown : D9 σ (upS s.S) ι1 w := by
  refine ⟨fun id b hb => ?_, fun id id' b b' g h1 h2 g1 g2 => ?_⟩
  ·obtain ⟨hle, b', h1, rfl⟩ := C6 hb
   have := BN.ren (S2 := upS s.S) (ι2 := ι1) (ρ := up1) hS hι (R.blk _ _ h1)
   rw [hι1]
   exact this
  ·obtain ⟨l1, c1, k1, _⟩ := C6 h1
   obtain ⟨l2, c2, k2, _⟩ := C6 h2
   rw [hι1] at g1 g2
   have := R.inj _ _ _ _ g k1 k2 g1 g2
   rw [← HR l1, ← HR l2, this]
 refine ⟨ι1, fun i => by rw [hι1, hup], hown, fun v c hv => AO.ren (S2 := upS s.S) (ι2 := ι1) (ρ := up1) hS hι hv, fun {Post e w'} he => ?_⟩
 obtain ⟨v, r, S', σ', ι', rfl, hP, hclean, hupd, hown', hv, hf', hkeep, hold, hos, hsz, hsame, hbase⟩ := he
 have hSd : ∀ i b, S' i = some b → dnS S' (dn1 i) = some (b.ren dn1) := fun i b hb => G0 (hclean i b hb).1 hb
 obtain ⟨ι2, hι2⟩ : ∃ ι2 : Ah, ∀ i, ι2 i = ι' (up1 i) := ⟨fun i => ι' (up1 i), fun _ => rfl⟩
 have hιd : ∀ i b, S' i = some b → ι2 (dn1 i) = ι' i := fun i b hb => by
  rw [hι2, HR (hclean i b hb).1]
 have hu : Upd s.S ι (dnS S') ι2 := fun id b hb => by
  obtain ⟨b', h1, h2, h3⟩ := hupd _ _ (hS id b hb)
  have h4 := hSd _ _ h1
  rw [hup] at h4
  refine ⟨_, h4, by rw [BF] at h2 ⊢; exact h2, fun hl => ?_⟩
  rw [BF] at hl
  obtain ⟨q1, q2⟩ := h3 (by rw [BF]; exact hl)
  refine ⟨by rw [Gd] at q1 ⊢; exact q1, ?_⟩
  rw [hι2, q2, hι1, hup]
 have hnot : ∀ g, g < C.N → ¬ C.G g → B6 (upS s.S) ι1 g := fun g h1 h2 id b hb hg => by
  obtain ⟨_, b', k1, _⟩ := C6 hb
  rw [hι1] at hg
  rcases R.base _ _ g k1 hg with h | h
  ·omega
  ·exact h2 h
 refine ⟨v, r, S', σ', ι2, rfl, hP, hclean, hu, ?_⟩
 refine ⟨R.size, fun i hi => (R.env i hi).mono hkeep hu, R.nod.mono (fun D h => (hsame D (Array.getElem?_eq_some_iff.1 h).1 (Do hown.1 h)).trans h), hf', fun id b hb => ?_, fun id id' b b' g h1 h2 g1 g2 => ?_, fun id b g hb hg => ?_, fun p x hx => hkeep _ _ (R.ext p x hx), fun p h1 h2 => ?_, ⟨hos.1.trans R.os.1, hos.2.1.trans R.os.2.1, hos.2.2.trans R.os.2.2⟩, ⟨Nat.le_trans R.grown.1 hsz, Nat.le_trans R.grown.2 hsz⟩, fun g h1 h2 => ?_, R.upd.trans hu⟩
 ·obtain ⟨b', h1, rfl⟩ := DA hb
  have := BN.ren (S2 := dnS S') (ι2 := ι2) (ρ := dn1) hSd hιd (hown'.1 _ _ h1)
  rw [hι2]
  exact this
 ·obtain ⟨c1, k1, _⟩ := DA h1
  obtain ⟨c2, k2, _⟩ := DA h2
  rw [hι2] at g1 g2
  have := congrArg dn1 (hown'.2 _ _ _ _ g k1 k2 g1 g2)
  rw [hup, hup] at this
  exact this
 ·obtain ⟨b', h1, _⟩ := DA hb
  rw [hι2] at hg
  rcases hbase _ _ g h1 hg with h2 | h2
  ·exact .inl (by have := R.grown.1; omega)
  ·by_cases hN : g < C.N
   ·by_cases hG : C.G g
    ·exact .inr hG
    ·exact absurd (hnot g hN hG) h2
   ·exact .inl (by omega)
 ·exact (hold p (by have := R.grown.1; omega) (hnot _ h1 h2)).trans (R.old p h1 h2)
 ·exact (hsame g (by have := R.grown.1; omega) (hnot g h1 h2)).trans (R.same g h1 h2)
theorem AK.setLoop (R : AK C σ ι s a w) {id l : Nat} {env : List AV} {r : Loop} (r' : Loop) (hS : s.S id = some (.loop env r)) (hl : (ι id).g = some l) (hr : r'.tmps = r.tmps) : w.heap[l]? = some (.loop r) ∧ ∃ ι', AK C σ ι' (s.set id (.loop env r')) a (w.putObj l (.loop r')) ∧ Upd s.S ι (s.set id (.loop env r')).S ι' := by
 have hb := R.blk id _ hS
 cases hb with
 | loop h1 h2 h3 h4 h5 =>
  rw [hl] at h1
  cases h1
  exact ⟨h2, R.setBlk (o' := .loop r') hS hl h2 h5 rfl rfl fun S' ι' hu => .loop hl (B1 h2).1 (by rw [hr]; exact h3) (fun j a ha => by rw [hr]; exact (h4 j a ha).mono (fun _ _ h => h) hu) h5⟩
def Nx (C : Ctx) (y : Nat) (b : AJ) (N : AA → Prop) (Jx : AX → AA → Prop) (e : AX) (s : AS) : Prop := ∃ s2 U, Al C s s2 ∧ s2.S = AP U y (some b) ∧ Ay s2.S ∧ U y = none ∧ match e with
 | .normal => N U
 | .ret => Jx .ret U
 | .exit i => Jx (.exit i) U
 | .pan _ => False
theorem Dk {C : Ctx} {σ0 : Sto} {T : AA} {ι0 : Ah} {w0 : World} (hC : C.N = w0.heap.size) (hw : C.w0 = w0) (hσ : C.σ0 = σ0) (hG : ∀ g, C.G g ↔ ¬ B6 T ι0 g) (hS0 : C.S0 = T) (hι0 : C.ι0 = ι0) (R : AK C σ ι s a w) (hc : Ay s.S) {Post : AV → AA → Prop} {b : Bool} (hP : Post (.one (.st (.bool b))) s.S) : OP σ0 T ι0 w0 Post (.returned (.bool b)) w := by
 have hupd := R.upd
 rw [hS0, hι0] at hupd
 subst hσ hw
 exact ⟨.bool b, _, s.S, σ, ι, rfl, hP, hc, hupd, ⟨R.blk, R.inj⟩, .one (.st .bool), R.fit, R.ext, fun p h1 h2 => R.old p (by rw [hC]; exact h1) (fun h => (hG _).1 h h2), R.os, R.grown.2, fun g h1 h2 => R.same g (by rw [hC]; exact h1) (fun h => (hG _).1 h h2), fun id b g h1 h2 => (R.base id b g h1 h2).imp (fun h => by rw [← hC]; exact h) fun h => (hG _).1 h⟩
theorem NA {S : AA} {i : Nat} {b c : Option AJ} : AP (AP S i b) i c = AP S i c := by
 funext j
 unfold AP
 split <;> rfl
inductive O1 : Code → AX → Prop
 | ret : O1 .ret .ret
 | exit (i : Nat) : O1 (.exit i) (.exit i)
theorem ON {fn : FuncId} {ps : Array Tmp} {ca cb : Code} {D : Nat} {n : Nat} {env : List AV} {tmps : Array Value} (hx : Av P n mu ca = some x) (hy : Av P n mu cb = some y) (hn : env.length = n) {yb : Nat} (hyb : 1000 ≤ yb) {rec : LoopState → Option Code → Loop} (hrec : rec = fun st pe => { state := st, pending := pe, fn, tmps, params := ps, assign := ca, body := cb, defers := D }) {vs : List AV} (hps : vs.length = ps.size)
  {U : AA} (hU : U yb = none) {N : AA → Prop} {Jx : AX → AA → Prop}
  (h : Ay (AP U yb (some (.loop env (rec .ready none)))) → ∀ C' : Ctx, C'.n = n → IWP P C' mu x (AX.then (fun s1 => s1.S yb = some (.loop env (rec .ready none)) ∧ IWP P C' mu y (Nx C' yb (.loop env (rec .busy none)) N Jx) (s1.set yb (.loop env (rec .busy none)))) fun _ _ => False) ⟨KD (fun i => (env[i]?).getD .any) ps.toList vs, AP U yb (some (.loop env (rec .ready none)))⟩) :
  Gf P (.one (.yld yb)) vs (AP U yb (some (.loop env (rec .ready none)))) fun r T' => (r = .one (.st (.bool true)) ∧ ∃ U', T' = AP U' yb (some (.loop env (rec .ready none))) ∧ U' yb = none ∧ N U') ∨
   (r = .one (.st (.bool false)) ∧ ∃ U' c e, T' = AP U' yb (some (.loop env (rec .done (some c)))) ∧ U' yb = none ∧ O1 c e ∧ Jx e U') := by
 intro hclean σ w vy xs ι hglob hfit hown hvy hxs
 obtain ⟨T, hT⟩ : ∃ T, AP U yb (some (.loop env (rec .ready none))) = T := ⟨_, rfl⟩
 have hTy : T yb = some (.loop env (rec .ready none)) := by rw [← hT]; exact AF _ _ _
 rw [hT] at hclean hown hvy hxs h ⊢
 have hhigh := (hclean _ _ hTy).2
 have hb := hown.1 _ _ hTy
 obtain ⟨l, hl, rfl⟩ : ∃ l, (ι yb).g = some l ∧ vy = .func (.yield l) #[] #[] := by
  cases hvy with
  | one hv =>
   cases hv with
   | yld k1 k2 k3 k4 =>
    rw [hTy] at k1
    cases k1
    exact k4 rfl
 have hlen := hxs.len
 cases hb with
 | loop k1 k2 k3 k4 k5 =>
 rw [hl] at k1
 cases k1
 have htm : (rec .ready none).tmps = tmps := by rw [hrec]
 refine ⟨l, rfl, fun ro => ⟨fn, _, ca, cb, by
  have := run_yield (P := P) (args := xs.toArray) k2 (by rw [hrec]; simp; omega)
  rw [hrec] at this
  exact this, ?_⟩⟩
 let C' : Ctx := ⟨n, w.heap.size, fun g => ¬ B6 T ι g, σ, w, T, ι, hclean, hglob, [], some l, false⟩
 have hset := IG (σ := σ) (S := T) (ι := ι) (n := n) (ps := ps.toList) (env := fun i => (env[i]?).getD .any) (tmps := tmps) hxs (by rw [htm] at k3; omega) fun i hi => by
  have hi' : i < env.length := by omega
  have := k4 i _ (List.getElem?_eq_getElem hi')
  rw [htm] at this
  simpa [hi'] using this
 have hfold : (ps.zip xs.toArray).foldl (fun t (p, v) => t.setIfInBounds p v) tmps = (ps.toList.zip xs).foldl (fun t (p, v) => t.setIfInBounds p v) tmps := by
  rw [← Array.foldl_toList, Array.toList_zip]
 have R0 : AK C' σ ι ⟨KD (fun i => (env[i]?).getD .any) ps.toList vs, T⟩ { tmps := (ps.zip xs.toArray).foldl (fun t (p, v) => t.setIfInBounds p v) tmps, defers := [] } w := by
  refine ⟨?_, fun i hi => ?_, F8, hfit, hown.1, hown.2, fun id b g h hg => .inr (fun hno => hno id b h hg), fun _ _ h => h, fun _ _ _ => rfl, ⟨rfl, rfl, rfl⟩, ⟨Nat.le_refl _, Nat.le_refl _⟩, fun _ _ _ => rfl, Upd.refl _ _⟩
  ·dsimp only
   rw [hfold]
   exact hset.1
  ·dsimp only
   rw [hfold]
   exact hset.2 i hi
 refine roundIn_of_wpIn (F := fen ro) (n := 0) trivial (wpIn_mono (h hclean C' rfl ca hx _ w ⟨σ, ι, R0⟩) fun e a1 w1 he => ?_)
 have same : ∀ {σ1 : Sto} {ι1 : Ah} {s1 : AS} {a1 : Act} {w1 : World} {b : AJ}, AK C' σ1 ι1 s1 a1 w1 → s1.S yb = some b → b.len = 1 → (ι1 yb).g = some l := fun R1 hs hl1 => by
  obtain ⟨b', h1, h2, h3⟩ := R1.upd yb _ hTy
  rw [hs] at h1
  cases h1
  rw [(h3 hl1).2]
  exact hl
 cases e with
 | normal =>
  obtain ⟨s1, ⟨h1, h2⟩, σ1, ι1, R1⟩ := he
  obtain ⟨q1, ι2, R2, _⟩ := R1.setLoop (rec .busy none) h1 (same R1 h1 rfl) (by rw [hrec])
  refine ⟨_, by
   have := run_beginRound (P := P) q1 (by rw [hrec])
   rw [hrec] at this
   exact this, ?_⟩
  have e1 : (w1.putObj l (.loop (rec .busy none))) = w1.putObj l (.loop { state := .busy, pending := none, fn, tmps, params := ps, assign := ca, body := cb, defers := D }) := by rw [hrec]
  rw [← e1]
  refine wpIn_mono (h2 cb hy _ _ ⟨σ1, ι2, R2⟩) fun e3 a3 w3 he3 => ?_
  have fin : ∀ (jump : Option Code) (s3 s4 : AS) (U2 : AA), Al C' s3 s4 → s4.S = AP U2 yb (some (.loop env (rec .busy none))) → Ay s4.S → Ax C' s3 a3 w3 →
    ∃ σ5 ι5 s5, (Instr.endRound l jump).run P w3 = .ok (.bool jump.isNone) (w3.putObj l (.loop (rec (if jump.isNone then .ready else .done) jump))) ∧ s5.S = AP U2 yb (some (.loop env (rec (if jump.isNone then .ready else .done) jump))) ∧ Ay s5.S ∧ AK C' σ5 ι5 s5 a3 (w3.putObj l (.loop (rec (if jump.isNone then .ready else .done) jump))) := fun jump s3 s4 U2 hg hS hc hH => by
   obtain ⟨σ4, ι4, R4⟩ := hg _ _ hH
   have h4 : s4.S yb = some (.loop env (rec .busy none)) := by rw [hS]; exact AF _ _ _
   obtain ⟨q2, ι5, R5, _⟩ := R4.setLoop (rec (if jump.isNone then .ready else .done) jump) h4 (same R4 h4 rfl) (by rw [hrec])
   refine ⟨σ4, ι5, _, ?_, ?_, ?_, R5⟩
   ·have := run_endRound (P := P) jump q2
    rw [hrec] at this ⊢
    exact this
   ·show AP s4.S yb _ = _
    rw [hS, NA]
   ·exact IC hc hyb hhigh
  cases e3 with
  | normal =>
   obtain ⟨s3, ⟨s4, U2, g1, g2, g3, g4, g5⟩, hH⟩ := he3
   obtain ⟨σ5, ι5, s5, f1, f2, f3, R5⟩ := fin none s3 s4 U2 g1 g2 g3 hH
   exact ⟨_, _, f1, Dk (C := C') rfl rfl rfl (fun g => Iff.rfl) rfl rfl R5 f3 (.inl ⟨rfl, U2, f2, g4, g5⟩)⟩
  | ret =>
   obtain ⟨s3, ⟨s4, U2, g1, g2, g3, g4, g5⟩, hH⟩ := he3
   obtain ⟨σ5, ι5, s5, f1, f2, f3, R5⟩ := fin (some .ret) s3 s4 U2 g1 g2 g3 hH
   exact ⟨_, _, f1, Dk (C := C') rfl rfl rfl (fun g => Iff.rfl) rfl rfl R5 f3 (.inr ⟨rfl, U2, _, _, f2, g4, .ret, g5⟩)⟩
  | exit i =>
   obtain ⟨s3, ⟨s4, U2, g1, g2, g3, g4, g5⟩, hH⟩ := he3
   obtain ⟨σ5, ι5, s5, f1, f2, f3, R5⟩ := fin (some (.exit i)) s3 s4 U2 g1 g2 g3 hH
   exact ⟨_, _, f1, Dk (C := C') rfl rfl rfl (fun g => Iff.rfl) rfl rfl R5 f3 (.inr ⟨rfl, U2, _, _, f2, g4, .exit i, g5⟩)⟩
  | panic ch => obtain ⟨s3, v, ⟨⟨s4, U2, g1, g2, g3, g4, g5⟩, _⟩, _⟩ := he3; exact g5.elim
  | _ => exact he3.elim
 | panic ch => obtain ⟨s1, v, h1, h2⟩ := he; exact h1.1.elim
 | ret => obtain ⟨s1, h1, h2⟩ := he; exact h1.elim
 | exit i => obtain ⟨s1, h1, h2⟩ := he; exact h1.elim
 | _ => exact he.elim
def B2 (n : Nat) (env : Nat → AV) : List AV := (List.range n).map env
theorem Ir {n : Nat} {env : Nat → AV} : (B2 n env).length = n := by simp [B2]
theorem Nf {n i : Nat} {env : Nat → AV} {a : AV} (h : (B2 n env)[i]? = some a) : i < n ∧ a = env i := by
 unfold B2 at h
 rw [List.getElem?_map, Option.map_eq_some_iff] at h
 obtain ⟨j, h1, h2⟩ := h
 obtain ⟨h3, h4⟩ := List.getElem?_eq_some_iff.1 h1
 simp at h3 h4
 subst h4
 exact ⟨h3, h2.symm⟩
theorem H5 {n : Nat} {c : Code} {g : Opd} {ps : List Nat} (h : Av P n mu c = some (.rangeF g ps x y)) : ∃ g' ps' ca cb, c = .rangeFunc g' ps' ca cb ∧ AG n g' = some g ∧ ps'.toList = ps ∧ Av P n mu ca = some x ∧ Av P n mu cb = some y := by
 cases c <;> simp only [Av] at h
 case rangeFunc g' ps' ca cb =>
  split at h
  ·rename_i e1 e2 e3
   split at h
   ·cases h
    exact ⟨_, _, _, _, rfl, e1, rfl, e2, e3⟩
   ·cases h
  ·cases h
 all_goals (exfalso; revert h; (repeat' split) <;> simp)
theorem PB {U : AA} {id : Nat} {b c : Option AJ} : AP (dnS (AP U (up1 id) b)) id c = AP (dnS U) id c := by
 funext j
 unfold AP
 by_cases e : j = id
 ·rw [if_pos e, if_pos e]
 ·rw [if_neg e, if_neg e]
  show (if j + 1000 = up1 id then b else U (j + 1000)).map (AJ.ren dn1) = (U (j + 1000)).map (AJ.ren dn1)
  rw [if_neg (show ¬ j + 1000 = up1 id by unfold up1; omega)]
theorem Mm {U : AA} {i : Nat} {b : AJ} (h : Ay (AP U i (some b))) (hU : U i = none) : Ay U := fun j c hc => h j c (by
 rw [AZ _ (fun e => by rw [e, hU] at hc; cases hc)]
 exact hc)
def Ng (n : Nat) (env : Nat → AV) : Nat → AV := fun i => if i < n then (env i).ren up1 else .any
theorem OX {n : Nat} {env : Nat → AV} : (fun i => ((AV.rens up1 (B2 n env))[i]?).getD .any) = Ng n env := by
 funext i
 unfold Ng B2
 rw [AV.rens_eq, List.map_map, List.getElem?_map]
 by_cases h : i < n
 ·rw [if_pos h, List.getElem?_range h]
  rfl
 ·rw [if_neg h, List.getElem?_eq_none (by simp; omega)]
  rfl
theorem IWP.rangeF {g : Opd} {ps : List Nat} (htop : C.Top) (id : Nat) (hid : id < 1000) (hfree : s.S id = none) {f : Nat} {caps : List AC} (hg : s.ev g = .one (.fn f caps)) (hpl : Bp P f = true) {α : Type} {encs : α → List AV} {all : List α} {Need : AA → Prop} (hit : Pr P f (AV.rens up1 (caps.map .one)) Need encs all)
  (hlen : ∀ v, (encs v).length = ps.length) (Inv : List α → AA → Prop) (Jx : AX → AA → Prop) (h0 : Inv [] (upS s.S)) (hneed : ∀ pre U b, Inv pre U → U (up1 id) = none → Need (AP U (up1 id) (some b)))
  (hbody : ∀ (C' : Ctx) (b0 b1 : AJ) (pre : List α) (v : α) (U : AA), C'.n = C.n → (pre ++ [v]) <+: all → Inv pre U → U (up1 id) = none → Ay U → b1.high = true →
   IWP P C' mu x (AX.then (fun s1 => s1.S (up1 id) = some b0 ∧ IWP P C' mu y (Nx C' (up1 id) b1 (Inv (pre ++ [v])) Jx) (s1.set (up1 id) b1)) fun _ _ => False) ⟨KD (Ng C.n s.env) ps (encs v), AP U (up1 id) (some b0)⟩)
  (hdone : ∀ U, Inv all U → Q .normal ⟨s.env, AP (dnS U) id (some (.dead 1 0))⟩) (hjump : ∀ e U, Jx e U → Q e ⟨s.env, AP (dnS U) id (some (.dead 1 0))⟩) : IWP P C mu (.rangeF g ps x y) Q s := fun c hc a w hH => by
 obtain ⟨g', ps', ca, cb, rfl, hg', rfl, hx, hy⟩ := H5 hc
 obtain ⟨σ, ι, R⟩ := hH
 have rg := R.ev hg'
 rw [hg] at rg
 replace rg := AN rg
 generalize hev : a.eval g' = fv at rg
 cases rg with
 | @fn _ vc _ cc g1 g2 g3 =>
 refine wpIn_rangeFunc fun fn hfn => ?_
 obtain ⟨rec, hrec⟩ : ∃ rec : LoopState → Option Code → Loop, rec = fun st pe => { state := st, pending := pe, fn, tmps := a.tmps, params := ps', assign := ca, body := cb, defers := w.heap.size } := ⟨_, rfl⟩
 obtain ⟨w1, hw1⟩ : ∃ w1, (w.alloc (.deferred (some []))).alloc (.loop (rec .ready none)) = w1 := ⟨_, rfl⟩
 have hsz : (w.alloc (.deferred (some []))).heap.size = w.heap.size + 1 := World.size_alloc _ _
 have R1 : AK C σ ι s { a with defers := K8 w.heap.size :: a.defers } (w.alloc (.deferred (some []))) := by
  have R' := R.more (w' := w.alloc (.deferred (some []))) (Ext.refl _ _) (R.fit.alloc _) (Cq.alloc _ _)
  refine { R' with nod := ?_ }
  obtain ⟨l, h1, h2, h3, _⟩ := R.nod
  refine ⟨w.heap.size :: l, by show _ :: a.defers = _; rw [h1]; rfl, List.nodup_cons.2 ⟨fun hm => ?_, h2⟩, fun D hD => ?_, fun hm => by rw [htop.2] at hm; cases hm⟩
  ·have := (Array.getElem?_eq_some_iff.1 (h3 _ hm).2).1
   omega
  ·rcases List.mem_cons.1 hD with rfl | hD
   ·exact ⟨R.grown.1, World.alloc_heap_new w _⟩
   ·exact ⟨(h3 D hD).1, (Below.heap_alloc _ _ _ (Array.getElem?_eq_some_iff.1 (h3 D hD).2).1).trans (h3 D hD).2⟩
 have hsize := R.size
 obtain ⟨hu2, R2⟩ := R1.fresh (w' := w1) hfree (.loop (B2 C.n s.env) (rec .ready none)) ⟨none, 0, some (w.heap.size + 1)⟩ (Ext.refl _ _) (by rw [← hw1]; exact R1.fit.alloc _) (by rw [← hw1]; exact Cq.alloc _ _) (fun g hg => by cases hg; omega) (fun S' ι' hu => .loop (g := w.heap.size + 1) rfl (by rw [← hw1, ← hsz]; exact World.alloc_heap_new _ _) (by rw [Ir, hrec]; exact hsize) (fun j b hb => by
   obtain ⟨hj, rfl⟩ := Nf hb
   rw [hrec]
   exact (R.env j hj).mono (fun _ _ h => h) hu) (fun p hp => R1.fit.no (by rw [hsz]; omega)))
 have hl2 : (AP ι id (⟨none, 0, some (w.heap.size + 1)⟩ : Hnd) id).g = some (w.heap.size + 1) := by rw [AF]
 generalize AP ι id (⟨none, 0, some (w.heap.size + 1)⟩ : Hnd) = ι2 at R2 hl2 hu2
 obtain ⟨ι3, hι3, hown, hren, hend⟩ := R2.upped
 have hargs : AU (AO σ (upS (s.set id (.loop (B2 C.n s.env) (rec .ready none))).S) ι3) (.func (.yield (w.heap.size + 1)) #[] #[] :: vc.toList) (.one (.yld (up1 id)) :: AV.rens up1 (caps.map .one)) := by
  have hS2 : (s.set id (.loop (B2 C.n s.env) (rec .ready none))).S id = some (.loop (B2 C.n s.env) (rec .ready none)) := AF _ _ _
  refine .cons (hren _ _ (.one (.yld hS2 (Nat.le_refl _) rfl fun _ => ⟨_, hl2, rfl⟩))) ?_
  rw [AV.rens_eq]
  refine (AU.mono (fun v c h => hren v c h) ?_).map_right
  refine (AU.of_get (R := fun v c => AO σ (s.set id (.loop (B2 C.n s.env) (rec .ready none))).S ι2 v (.one c)) (by simpa using g1) fun j v b hv hb => ?_).map_right
  have e := g2 j b hb
  have e2 : vc.toList[j]? = some (cc j) := by simpa using e
  rw [hv] at e2
  cases e2
  exact .one ((g3 j b hb).mono (fun _ _ h => h) hu2)
 have hcl := IZ (s.set id (.loop (B2 C.n s.env) (rec .ready none))).S
 have hTeq : upS (s.set id (.loop (B2 C.n s.env) (rec .ready none))).S = AP (upS s.S) (up1 id) (some (.loop (AV.rens up1 (B2 C.n s.env)) (rec .ready none))) := O5 _ _ _
 have hcall := hit (up1 id) (fun pre T => ∃ U, T = AP U (up1 id) (some (.loop (AV.rens up1 (B2 C.n s.env)) (rec .ready none))) ∧ U (up1 id) = none ∧ Inv pre U)
  (fun T => ∃ U c e, T = AP U (up1 id) (some (.loop (AV.rens up1 (B2 C.n s.env)) (rec .done (some c)))) ∧ U (up1 id) = none ∧ O1 c e ∧ Jx e U)
  _ (BL id) (fun pre T hT => by
   obtain ⟨U, rfl, hU, hI⟩ := hT
   exact hneed pre U _ hI hU) (fun pre v hpre T hT => by
   obtain ⟨U, rfl, hU, hI⟩ := hT
   exact ON hx hy (by rw [AV.rens_eq, List.length_map, Ir]) (BL id) hrec (by rw [hlen]; simp) hU fun hc C' hC' => by
    rw [OX]
    exact hbody C' _ (.loop (AV.rens up1 (B2 C.n s.env)) (rec .busy none)) pre v U hC' hpre hI hU (Mm hc hU) (AV.rens_high _))
  ⟨_, hTeq, by rw [CF, hfree]; rfl, h0⟩ hcl σ w1 _ ι3 (C.glob.mono R.ext) R2.fit hown hargs
 refine ⟨w.heap.size + 1, [K8 w.heap.size], w1, { target := .fn (.func f) vc, args := #[.func (.yield (w.heap.size + 1)) #[] #[]] }, w1, f, #[.func (.yield (w.heap.size + 1)) #[] #[]] ++ vc, w1, ?_, ?_, fun _ _ => trivial, ?_, fun h => by simp [fen, Fence.wide] at h, ?_⟩
 ·have hr : (fen C.ro).round = none := htop.1
  rw [hr, ← hw1, hrec]
  exact run_enterLoop_outer _ _ _ _ _
 ·simp only [resolve, hev]
  simp [go_sem]
 ·have := Co (P := P) (w := w1) (args := #[.func (.yield (w.heap.size + 1)) #[] #[]] ++ vc) hpl
  simp [invoke, go_sem, this]
 ·have he0 : (Value.func (.yield (w.heap.size + 1)) #[] #[] :: vc.toList).toArray = #[.func (.yield (w.heap.size + 1)) #[] #[]] ++ vc := by
   apply Array.ext'
   simp
  rw [he0] at hcall
  refine GO (hcall.mono fun e w2 he => ?_)
  obtain ⟨v, r, S', σ', ι4, rfl, hP, hS', hu4, R4⟩ := hend he
  have hl4 : ∀ {b : AJ}, dnS S' id = some b → b.len = 1 → (ι4 id).g = some (w.heap.size + 1) := fun hb hb1 => by
   obtain ⟨b', h1, h2, h3⟩ := hu4 id _ (show (s.set id (.loop (B2 C.n s.env) (rec .ready none))).S id = some _ from AF _ _ _)
   rw [hb] at h1
   cases h1
   rw [(h3 hb1).2]
   exact hl2
  have fin : ∀ (U : AA) (env : List AV) (st : LoopState) (pe : Option Code), st ≠ .busy → S' = AP U (up1 id) (some (.loop env (rec st pe))) → ∃ w3, (Instr.endLoop (w.heap.size + 1)).run P w2 = .ok pe w3 ∧ Ax C ⟨s.env, AP (dnS U) id (some (.dead 1 0))⟩ { a with defers := K8 w.heap.size :: a.defers } w3 := fun U env st pe hst hS => by
   have hb : dnS S' id = some (.loop (AV.rens dn1 env) (rec st pe)) := by
    have := G0 (BL id) (show S' (up1 id) = some (.loop env (rec st pe)) by rw [hS]; exact AF _ _ _)
    rw [G6] at this
    exact this
   have hg4 := hl4 hb rfl
   cases hbr : R4.blk id _ hb with
   | loop k1 k2 k3 k4 k5 =>
    rw [hg4] at k1
    cases k1
    obtain ⟨ι5, R5, _⟩ := R4.setBlk (b' := .dead 1 0) (o' := .loop { rec st pe with state := .exhausted }) hb hg4 k2 k5 rfl rfl fun S'' ι'' hu => .dead fun g' hg' => by
     rw [hg4] at hg'
     cases hg'
     exact ⟨_, (B1 k2).1, rfl⟩
    refine ⟨w2.putObj (w.heap.size + 1) (.loop { rec st pe with state := .exhausted }), ?_, σ', ι5, ?_⟩
    ·have := run_endLoop (P := P) k2 (by rw [hrec]; exact hst)
     rw [hrec] at this ⊢
     exact this
    ·have e5 : (AS.set ⟨(s.set id (.loop (B2 C.n s.env) (rec .ready none))).env, dnS S'⟩ id (.dead 1 0)) = ⟨s.env, AP (dnS U) id (some (.dead 1 0))⟩ := by
      show AS.mk s.env (AP (dnS S') id _) = _
      rw [hS, PB]
     rw [← e5]
     exact R5
  rcases hP with ⟨U, h1, h2, h3⟩ | ⟨U, c, e, h1, h2, h3, h4⟩
  ·obtain ⟨w3, f1, f2⟩ := fin U _ .ready none (by simp) h1
   exact ⟨none, w3, f1, _, hdone U h3, f2⟩
  ·obtain ⟨w3, f1, f2⟩ := fin U _ .done (some c) (by simp) h1
   refine ⟨some c, w3, f1, ?_⟩
   cases h3 with
   | ret => exact wpIn_ret ⟨_, hjump _ U h4, f2⟩
   | exit i => exact wpIn_exit ⟨_, hjump _ U h4, f2⟩
end

set_option maxRecDepth 100000
def ID : IR :=
 (.seq (.ops [.i 4 (.mov (.n 0))]) (.seq (.seq (.ops [.i 5 (.mov (.n 0))]) (.block 0 (.loop (.seq (.seq (.ops [.m 6 5, .m 7 0, .i 8 (.len false (.t 7)), .i 9 (.bin .lss (.t 6) (.t 8))]) (.cond (.t 9) .skip (.exit 0))) (.seq (.block 1 (.seq (.ops [.m 12 0, .m 13 5, .i 14 (.indexAddr 1 (.t 12) (.t 13)), .l 15 14, .m 16 1, .i 17 (.bin .eql (.t 15) (.t 16))]) (.cond (.t 17) (.seq (.ops [.m 18 5, .m 4 18]) .ret) .skip))) (.ops [.m 10 5, .i 11 (.bin .add (.t 10) (.n 1)), .m 5 11])))))) (.seq (.ops [.i 4 (.mov (.c (.one (.st (.int .i64 (-1))))))]) .ret)))
theorem NJ : OkF Try.prog 43 19 [] ID [.t 4] := .of Try.func43 rfl rfl (by kernel_rfl) rfl
def Cf : IR :=
 (.seq (.ops [.i 4 (.box 25 (.t 1)), .i 5 (.box 25 (.t 2)), .i 6 (.mov (.c (.one (.st (.bool false)))))]) (.seq (.ops [.m 9 0, .f 10 0 4, .l 11 10, .i 12 (.call 43 [.t 9, .t 11]), .m 7 12]) (.seq (.ops [.m 13 0, .f 14 0 5, .l 15 14, .i 16 (.call 43 [.t 13, .t 15]), .m 8 16]) (.seq (.seq (.ops [.m 17 7, .m 18 8, .i 19 (.bin .neq (.t 17) (.t 18))]) (.cond (.t 19) (.seq (.ops [.m 20 7, .m 21 8, .i 22 (.bin .gtr (.t 20) (.t 21)), .m 6 22]) .ret) .skip)) (.seq (.seq (.ops [.f 23 0 4, .l 24 23, .f 25 0 5, .l 26 25, .i 27 (.bin .neq (.t 24) (.t 26))]) (.cond (.t 27) (.seq (.ops [.f 28 0 4, .l 29 28, .f 30 0 5, .l 31 30, .i 32 (.bin .gtr (.t 29) (.t 31)), .m 6 32]) .ret) .skip)) (.seq (.ops [.f 33 1 4, .l 34 33, .i 35 (.len false (.t 34)), .f 36 1 5, .l 37 36, .i 38 (.len false (.t 37)), .i 39 (.bin .gtr (.t 35) (.t 38)), .m 6 39]) .ret))))))
theorem Dc : OkF Try.prog 34 40 [] Cf [.t 6] := .of Try.func34 rfl rfl (by kernel_rfl) rfl
def GL : IR :=
 (.seq (.ops [.i 2 (.mov (.n 0))]) (.seq (.seq (.ops [.m 4 0, .i 5 (.len false (.t 4)), .i 6 (.bin .gtr (.t 5) (.n 40))]) (.cond (.t 6) (.seq (.ops [.i 2 (.mov (.n 3))]) .ret) .skip)) (.seq (.seq (.ops [.i 3 (.mov (.n 0))]) (.block 0 (.loop (.seq (.seq (.ops [.m 7 3, .m 8 0, .i 9 (.len false (.t 8)), .i 10 (.bin .lss (.t 7) (.t 9))]) (.cond (.t 10) .skip (.exit 0))) (.seq (.block 1 (.seq (.seq (.ops [.m 13 0, .m 14 3, .i 15 (.indexAddr 1 (.t 13) (.t 14)), .l 16 15, .i 17 (.call 25 [.t 16]), .i 18 (.un .not (.t 17)), .m 19 18, .mk (some 20) (some (19, false)) (.mov (.t 0)) .no, .mk (some 21) (some (19, false)) (.mov (.t 3)) .no, .mk (some 22) (some (19, false)) (.indexAddr 1 (.t 20) (.t 21)) .no, .mk (some 23) (some (19, false)) (.load false 1 (.t 22)) .no, .mk (some 24) (some (19, false)) (.call 26 [.t 23]) .no, .i 25 (.pick (.t 19) (.c (.one (.st (.bool true)))) (.t 24))]) (.cond (.t 25) (.seq (.ops [.i 2 (.mov (.n 1))]) .ret) .skip)) (.seq (.ops [.m 26 0, .m 27 3, .i 28 (.indexAddr 1 (.t 26) (.t 27)), .l 29 28, .m 30 0, .m 31 3, .i 32 (.sliceL 1 (.t 30) none (some (.t 31))), .i 33 (.call 27 [.t 29, .t 32])]) (.cond (.t 33) (.seq (.ops [.i 2 (.mov (.n 4))]) .ret) .skip)))) (.ops [.m 11 3, .i 12 (.bin .add (.t 11) (.n 1)), .m 3 12])))))) (.seq (.ops [.i 2 (.mov (.n 0))]) .ret))))
theorem KX : OkF Try.prog 15 34 [] GL [.t 2] := .of Try.func15 rfl rfl (by kernel_rfl) rfl
def G7 : IR :=
 (.seq (.ops [.i 2 (.box 25 (.t 0)), .i 4 (.mov (.n 0))]) (.seq (.ops [.L 8 2 2, .i 9 (.call 29 [.t 8]), .m 5 9]) (.seq (.ops [.i 6 (.mov (.n 0))]) (.seq (.seq (.ops [.i 7 (.mov (.n 0))]) (.block 0 (.loop (.seq (.seq (.ops [.m 10 7, .m 11 5, .i 12 (.len false (.t 11)), .i 13 (.bin .lss (.t 10) (.t 12))]) (.cond (.t 13) .skip (.exit 0))) (.seq (.block 1 (.seq (.ops [.m 16 5, .m 17 7, .i 18 (.indexAddr 2 (.t 16) (.t 17)), .f 19 0 18, .l 20 19, .m 21 1, .i 22 (.bin .eql (.t 20) (.t 21))]) (.cond (.t 22) (.ops [.m 23 6, .i 24 (.bin .add (.t 23) (.n 1)), .m 6 24]) .skip))) (.ops [.m 14 7, .i 15 (.bin .add (.t 14) (.n 1)), .m 7 15])))))) (.seq (.ops [.m 25 6, .m 4 25]) .ret)))))
theorem LV : OkF Try.prog 33 26 [] G7 [.t 4] := .of Try.func33 rfl rfl (by kernel_rfl) rfl
def H7 : IR :=
 (.seq (.ops [.i 1 (.box 25 (.t 0)), .i 2 (.mov (.c (.one (.full []))))]) (.seq (.ops [.L 6 2 1, .i 7 (.call 29 [.t 6]), .m 3 7]) (.seq (.ops [.i 4 (.mov (.c (.one (.full []))))]) (.seq (.seq (.ops [.i 5 (.mov (.n 0))]) (.block 0 (.loop (.seq (.seq (.ops [.m 8 5, .m 9 3, .i 10 (.len false (.t 9)), .i 11 (.bin .lss (.t 8) (.t 10))]) (.cond (.t 11) .skip (.exit 0))) (.seq (.block 1 (.ops [.m 14 4, .m 15 5, .m 16 3, .m 17 5, .i 18 (.indexAddr 2 (.t 16) (.t 17)), .L 19 2 18, .i 20 (.call 29 [.t 19]), .i 21 (.len false (.t 20)), .i 22 (.bin .add (.t 15) (.t 21)), .i 23 (.buildFlat [.t 22]), .i 24 (.append false 3 1 8 (.t 14) (.t 23)), .m 4 24])) (.ops [.m 12 5, .i 13 (.bin .add (.t 12) (.n 1)), .m 5 13])))))) (.seq (.ops [.m 25 4, .m 2 25]) .ret)))))
theorem ND : OkF Try.prog 30 26 [] H7 [.t 2] := .of Try.func30 rfl rfl (by kernel_rfl) rfl
def Et : IR :=
 (.seq (.ops [.i 16 (.mov (.c (.one (.st (.bool false)))))]) (.seq (.ops [.m 23 1, .m 24 6, .i 25 (.indexAddr 2 (.t 23) (.t 24)), .L 26 2 25, .i 17 (.alloc 25 [.st (.str (ByteArray.mk (#[]))), .full []]), .s 2 17 26]) (.seq (.ops [.m 27 2, .m 28 7, .i 29 (.indexAddr 2 (.t 27) (.t 28)), .L 30 2 29, .i 18 (.alloc 25 [.st (.str (ByteArray.mk (#[]))), .full []]), .s 2 18 30]) (.seq (.seq (.ops [.f 31 0 17, .l 32 31, .i 33 (.call 26 [.t 32])]) (.cond (.t 33) (.seq (.ops [.i 16 (.mov (.c (.one (.st (.bool false)))))]) .ret) .skip)) (.seq (.seq (.ops [.m 34 6, .i 35 (.bin .add (.t 34) (.n 1)), .m 19 35]) (.block 0 (.loop (.seq (.seq (.ops [.m 36 19, .m 37 3, .m 38 6, .i 39 (.indexAddr 1 (.t 37) (.t 38)), .l 40 39, .i 41 (.bin .lss (.t 36) (.t 40))]) (.cond (.t 41) .skip (.exit 0))) (.seq (.block 1 (.seq (.ops [.m 46 1, .m 47 19, .i 48 (.indexAddr 2 (.t 46) (.t 47)), .L 49 2 48, .L 50 2 18, .i 51 (.call 35 [.t 49, .t 50]), .m 52 51, .mk (some 53) (some (52, false)) (.mov (.t 5)) .no, .mk (some 54) (some (52, false)) (.mov (.t 19)) .no, .mk (some 55) (some (52, false)) (.indexAddr 1 (.t 53) (.t 54)) .no, .mk (some 56) (some (52, false)) (.load false 1 (.t 55)) .no, .mk (some 57) (some (52, false)) (.mov (.t 7)) .no, .mk (some 58) (some (52, false)) (.indexAddr 1 (.t 56) (.t 57)) .no, .mk (some 59) (some (52, false)) (.load false 1 (.t 58)) .no, .i 60 (.pick (.t 52) (.c (.one (.st (.bool true)))) (.t 59))]) (.cond (.t 60) (.seq (.ops [.i 16 (.mov (.c (.one (.st (.bool true)))))]) .ret) .skip))) (.ops [.m 42 3, .m 43 19, .i 44 (.indexAddr 1 (.t 42) (.t 43)), .l 45 44, .m 19 45])))))) (.seq (.seq (.ops [.f 61 0 18, .l 62 61, .i 63 (.call 26 [.t 62]), .m 64 63, .mk (some 65) (some (64, false)) (.mov (.t 0)) .no, .mk (some 66) (some (64, false)) (.load true 2 (.t 18)) .no, .mk (some 67) (some (64, false)) (.load true 2 (.t 17)) .no, .mk (some 68) (some (64, false)) (.call 34 [.t 65, .t 66, .t 67]) .no, .i 69 (.pick (.t 64) (.c (.one (.st (.bool true)))) (.t 68))]) (.cond (.t 69) (.seq (.ops [.i 16 (.mov (.c (.one (.st (.bool false)))))]) .ret) .skip)) (.seq (.seq (.ops [.m 70 7, .i 71 (.bin .add (.t 70) (.n 1)), .m 20 71]) (.block 2 (.loop (.seq (.seq (.ops [.m 72 20, .m 73 4, .m 74 7, .i 75 (.indexAddr 1 (.t 73) (.t 74)), .l 76 75, .i 77 (.bin .lss (.t 72) (.t 76))]) (.cond (.t 77) .skip (.exit 2))) (.seq (.block 3 (.seq (.ops [.m 82 5, .m 83 6, .i 84 (.indexAddr 1 (.t 82) (.t 83)), .l 85 84, .m 86 20, .i 87 (.indexAddr 1 (.t 85) (.t 86)), .l 88 87, .i 89 (.un .not (.t 88))]) (.cond (.t 89) (.seq (.ops [.i 16 (.mov (.c (.one (.st (.bool false)))))]) .ret) .skip))) (.ops [.m 78 4, .m 79 20, .i 80 (.indexAddr 1 (.t 78) (.t 79)), .l 81 80, .m 20 81])))))) (.seq (.seq (.ops [.m 90 0, .L 91 2 17, .L 92 2 18, .i 93 (.call 34 [.t 90, .t 91, .t 92])]) (.cond (.t 93) (.seq (.ops [.i 16 (.mov (.c (.one (.st (.bool true)))))]) .ret) .skip)) (.seq (.ops [.m 94 7, .i 95 (.bin .add (.t 94) (.n 1)), .m 21 95]) (.seq (.seq (.ops [.m 96 6, .i 97 (.bin .add (.t 96) (.n 1)), .m 22 97]) (.block 4 (.loop (.seq (.seq (.ops [.m 98 22, .m 99 3, .m 100 6, .i 101 (.indexAddr 1 (.t 99) (.t 100)), .l 102 101, .i 103 (.bin .lss (.t 98) (.t 102))]) (.cond (.t 103) .skip (.exit 4))) (.seq (.block 5 (.seq (.seq (.ops [.m 108 1, .m 109 22, .i 110 (.indexAddr 2 (.t 108) (.t 109)), .L 111 2 110, .m 112 2, .m 113 21, .i 114 (.indexAddr 2 (.t 112) (.t 113)), .L 115 2 114, .i 116 (.call 35 [.t 111, .t 115]), .i 117 (.un .not (.t 116))]) (.cond (.t 117) (.seq (.ops [.m 118 5, .m 119 22, .i 120 (.indexAddr 1 (.t 118) (.t 119)), .l 121 120, .m 122 21, .i 123 (.indexAddr 1 (.t 121) (.t 122)), .l 124 123, .m 16 124]) .ret) .skip)) (.ops [.m 125 4, .m 126 21, .i 127 (.indexAddr 1 (.t 125) (.t 126)), .l 128 127, .m 21 128]))) (.ops [.m 104 3, .m 105 22, .i 106 (.indexAddr 1 (.t 104) (.t 105)), .l 107 106, .m 22 107])))))) (.seq (.ops [.i 16 (.mov (.c (.one (.st (.bool false)))))]) .ret)))))))))))
theorem H4 : OkF Try.prog 31 129 [] Et [.t 16] := .of Try.func31 rfl rfl (by kernel_rfl) rfl
def GD : IR :=
 (.seq (.ops [.i 4 (.box 25 (.t 1)), .i 5 (.box 25 (.t 2)), .i 6 (.mov (.c (.one (.st (.bool false)))))]) (.seq (.ops [.L 14 2 4, .i 15 (.call 29 [.t 14]), .m 7 15]) (.seq (.ops [.L 16 2 5, .i 17 (.call 29 [.t 16]), .m 8 17]) (.seq (.ops [.L 18 2 4, .i 19 (.call 30 [.t 18]), .m 9 19]) (.seq (.ops [.L 20 2 5, .i 21 (.call 30 [.t 20]), .m 10 21]) (.seq (.ops [.m 22 7, .i 23 (.len false (.t 22)), .i 24 (.makeSlice 59 1 24 [.list []] (.t 23) (.t 23)), .m 11 24]) (.seq (.seq (.ops [.m 25 7, .i 26 (.len false (.t 25)), .i 27 (.bin .sub (.t 26) (.n 1)), .m 12 27]) (.block 0 (.loop (.seq (.seq (.ops [.m 28 12, .i 29 (.bin .geq (.t 28) (.n 0))]) (.cond (.t 29) .skip (.exit 0))) (.seq (.block 1 (.seq (.ops [.m 32 11, .m 33 12, .m 34 8, .i 35 (.len false (.t 34)), .i 36 (.makeSlice 4 1 1 [.bool false] (.t 35) (.t 35)), .i 37 (.indexAddr 1 (.t 32) (.t 33)), .s 1 37 36]) (.seq (.ops [.m 38 8, .i 39 (.len false (.t 38)), .i 40 (.bin .sub (.t 39) (.n 1)), .m 13 40]) (.block 2 (.loop (.seq (.seq (.ops [.m 41 13, .i 42 (.bin .geq (.t 41) (.n 0))]) (.cond (.t 42) .skip (.exit 2))) (.seq (.block 3 (.ops [.m 45 11, .m 46 12, .i 47 (.indexAddr 1 (.t 45) (.t 46)), .l 48 47, .m 49 13, .m 50 0, .m 51 7, .m 52 8, .m 53 9, .m 54 10, .m 55 11, .m 56 12, .m 57 13, .i 58 (.callR 31 [.t 50, .t 51, .t 52, .t 53, .t 54, .t 55, .t 56, .t 57]), .i 59 (.indexAddr 1 (.t 48) (.t 49)), .s 1 59 58])) (.ops [.m 43 13, .i 44 (.bin .sub (.t 43) (.n 1)), .m 13 44])))))))) (.ops [.m 30 12, .i 31 (.bin .sub (.t 30) (.n 1)), .m 12 31])))))) (.seq (.ops [.m 60 11, .i 61 (.indexAddr 1 (.t 60) (.n 0)), .l 62 61, .i 63 (.indexAddr 1 (.t 62) (.n 0)), .l 64 63, .m 6 64]) .ret))))))))
theorem J0 : OkF Try.prog 18 65 [40000058] GD [.t 6] := .of Try.func18 rfl rfl (by kernel_rfl) rfl
def En : IR :=
 (.seq (.ops [.i 4 (.box 25 (.t 1)), .i 5 (.box 25 (.t 2)), .i 6 (.mov (.c (.one (.st (.bool false)))))]) (.seq (.ops [.L 12 2 5, .i 13 (.call 32 [.t 12]), .m 7 13]) (.seq (.seq (.ops [.i 8 (.mov (.n 0))]) (.block 0 (.loop (.seq (.seq (.ops [.m 14 8, .m 15 7, .i 16 (.len false (.t 15)), .i 17 (.bin .lss (.t 14) (.t 16))]) (.cond (.t 17) .skip (.exit 0))) (.seq (.block 1 (.seq (.ops [.L 20 2 5, .m 21 7, .m 22 8, .i 23 (.indexAddr 1 (.t 21) (.t 22)), .l 24 23, .i 25 (.call 33 [.t 20, .t 24]), .L 26 2 4, .m 27 7, .m 28 8, .i 29 (.indexAddr 1 (.t 27) (.t 28)), .l 30 29, .i 31 (.call 33 [.t 26, .t 30]), .i 32 (.bin .gtr (.t 25) (.t 31))]) (.cond (.t 32) (.seq (.ops [.i 6 (.mov (.c (.one (.st (.bool false)))))]) .ret) .skip))) (.ops [.m 18 8, .i 19 (.bin .add (.t 18) (.n 1)), .m 8 19])))))) (.seq (.ops [.L 33 2 4, .i 34 (.call 29 [.t 33]), .i 35 (.len false (.t 34)), .m 9 35]) (.seq (.ops [.L 36 2 5, .i 37 (.call 29 [.t 36]), .i 38 (.len false (.t 37)), .m 10 38]) (.seq (.seq (.ops [.m 39 9, .m 40 10, .i 41 (.bin .neq (.t 39) (.t 40))]) (.cond (.t 41) (.seq (.ops [.m 42 9, .m 43 10, .i 44 (.bin .gtr (.t 42) (.t 43)), .m 6 44]) .ret) .skip)) (.seq (.seq (.ops [.f 45 0 4, .l 46 45, .i 47 (.call 26 [.t 46]), .m 48 47, .mk (some 49) (some (48, false)) (.fieldAddr 0 (.t 5)) .no, .mk (some 50) (some (48, false)) (.load false 1 (.t 49)) .no, .mk (some 51) (some (48, false)) (.call 26 [.t 50]) .no, .i 52 (.pick (.t 48) (.c (.one (.st (.bool true)))) (.t 51))]) (.cond (.t 52) (.seq (.ops [.i 6 (.mov (.c (.one (.st (.bool false)))))]) .ret) .skip)) (.seq (.seq (.ops [.m 53 0, .L 54 2 4, .L 55 2 5, .i 56 (.call 34 [.t 53, .t 54, .t 55]), .m 57 56, .mk (some 58) (some (57, false)) (.mov (.t 0)) .no, .mk (some 59) (some (57, false)) (.load true 2 (.t 5)) .no, .mk (some 60) (some (57, false)) (.load true 2 (.t 4)) .no, .mk (some 61) (some (57, false)) (.call 34 [.t 58, .t 59, .t 60]) .no, .i 62 (.pick (.t 57) (.c (.one (.st (.bool true)))) (.t 61))]) (.cond (.t 62) (.seq (.ops [.m 63 0, .L 64 2 4, .L 65 2 5, .i 66 (.call 34 [.t 63, .t 64, .t 65]), .m 6 66]) .ret) .skip)) (.seq (.seq (.ops [.i 11 (.mov (.n 0))]) (.block 2 (.loop (.seq (.seq (.ops [.m 67 11, .f 68 1 4, .l 69 68, .i 70 (.len false (.t 69)), .i 71 (.bin .lss (.t 67) (.t 70))]) (.cond (.t 71) .skip (.exit 2))) (.seq (.block 3 (.seq (.ops [.f 74 1 4, .l 75 74, .m 76 11, .i 77 (.indexAddr 2 (.t 75) (.t 76)), .L 78 2 77, .f 79 1 5, .l 80 79, .m 81 11, .i 82 (.indexAddr 2 (.t 80) (.t 81)), .L 83 2 82, .i 84 (.call 35 [.t 78, .t 83]), .i 85 (.un .not (.t 84))]) (.cond (.t 85) (.seq (.ops [.m 86 0, .f 87 1 4, .l 88 87, .m 89 11, .i 90 (.indexAddr 2 (.t 88) (.t 89)), .L 91 2 90, .f 92 1 5, .l 93 92, .m 94 11, .i 95 (.indexAddr 2 (.t 93) (.t 94)), .L 96 2 95, .i 97 (.call 19 [.t 86, .t 91, .t 96]), .m 6 97]) .ret) .skip))) (.ops [.m 72 11, .i 73 (.bin .add (.t 72) (.n 1)), .m 11 73])))))) (.seq (.ops [.i 6 (.mov (.c (.one (.st (.bool false)))))]) .ret))))))))))
theorem H3 : OkF Try.prog 19 98 [] En [.t 6] := .of Try.func19 rfl rfl (by kernel_rfl) rfl
def Au : IR :=
 (.seq (.ops [.i 4 (.box 25 (.t 1)), .i 5 (.box 25 (.t 2)), .i 6 (.mov (.c (.one (.st (.bool false)))))]) (.seq (.seq (.ops [.m 15 0, .i 16 (.len false (.t 15)), .i 17 (.bin .gtr (.t 16) (.n 100)), .m 18 17, .mk (some 19) (some (18, false)) (.load true 2 (.t 4)) .no, .mk (some 20) (some (18, false)) (.call 14 [.t 19]) .no, .i 21 (.pick (.t 18) (.c (.one (.st (.bool true)))) (.t 20)), .m 22 21, .mk (some 23) (some (22, false)) (.load true 2 (.t 5)) .no, .mk (some 24) (some (22, false)) (.call 14 [.t 23]) .no, .i 25 (.pick (.t 22) (.c (.one (.st (.bool true)))) (.t 24))]) (.cond (.t 25) (.seq (.ops [.i 6 (.mov (.c (.one (.st (.bool true)))))]) .ret) .skip)) (.seq (.ops [.m 26 0, .i 27 (.call 15 [.t 26]), .m 7 27]) (.seq (.ops [.m 28 7, .m 8 28]) (.seq (.seq (.ops [.m 29 7, .i 30 (.bin .eql (.t 29) (.n 0))]) (.cond (.t 30) (.ops [.L 31 2 4, .L 32 2 5, .i 33 (.call 16 [.t 31, .t 32]), .m 7 33]) .skip)) (.seq (.ops [.i 9 (.mov (.c (.one (.st (.bool false)))))]) (.seq (.ops [.i 10 (.mov (.c (.one (.st (.bool false)))))]) (.seq (.seq (.ops [.m 34 7, .i 35 (.bin .eql (.t 34) (.n 0))]) (.cond (.t 35) (.seq (.seq (.ops [.L 36 2 4, .i 37 (.call 17 [.t 36, .n 60]), .i 38 (.bin .gtr (.t 37) (.n 60)), .m 39 38, .mk (some 40) (some (39, false)) (.load true 2 (.t 5)) .no, .mk (some 41) (some (39, false)) (.call 17 [.t 40, .n 60]) .no, .mk (some 42) (some (39, false)) (.bin .gtr (.t 41) (.n 60)) .no, .i 43 (.pick (.t 39) (.c (.one (.st (.bool true)))) (.t 42))]) (.cond (.t 43) (.seq (.ops [.i 6 (.mov (.c (.one (.st (.bool true)))))]) .ret) .skip)) (.seq (.ops [.m 44 0, .L 45 2 4, .L 46 2 5, .i 47 (.call 18 [.t 44, .t 45, .t 46]), .m 9 47]) (.ops [.m 48 0, .L 49 2 4, .L 50 2 5, .i 51 (.call 19 [.t 48, .t 49, .t 50]), .m 10 51]))) .skip)) (.seq (.ops [.m 53 0, .L 54 2 4, .L 55 2 5, .i 56 (.call 20 [.t 53, .t 54, .t 55]), .m 52 56, .i 57 (.extract 0 (.t 52)), .i 58 (.extract 1 (.t 52)), .m 11 57, .m 12 58]) (.seq (.ops [.m 60 0, .L 61 2 4, .L 62 2 5, .i 63 (.call 21 [.t 60, .t 61, .t 62]), .m 59 63, .i 64 (.extract 0 (.t 59)), .i 65 (.extract 1 (.t 59)), .m 13 64, .m 14 65]) (.seq (.ops [.m 66 0, .i 67 (.call 22 [.t 66]), .m 68 8, .i 69 (.bin .eql (.t 67) (.t 68)), .m 70 69, .mk (some 71) (some (70, true)) (.mov (.t 11)) .no, .mk (some 72) (some (70, true)) (.mov (.t 9)) .no, .mk (some 73) (some (70, true)) (.eqB false (.t 71) (.t 72)) .no, .i 74 (.pick (.t 70) (.t 73) (.c (.one (.st (.bool false))))), .m 75 74, .mk (some 76) (some (75, true)) (.mov (.t 12)) .no, .mk (some 77) (some (75, true)) (.mov (.t 7)) .no, .mk (some 78) (some (75, true)) (.bin .eql (.t 76) (.t 77)) .no, .i 79 (.pick (.t 75) (.t 78) (.c (.one (.st (.bool false))))), .m 80 79, .mk (some 81) (some (80, true)) (.mov (.t 13)) .no, .mk (some 82) (some (80, true)) (.mov (.t 10)) .no, .mk (some 83) (some (80, true)) (.eqB false (.t 81) (.t 82)) .no, .i 84 (.pick (.t 80) (.t 83) (.c (.one (.st (.bool false))))), .m 85 84, .mk (some 86) (some (85, true)) (.mov (.t 14)) .no, .mk (some 87) (some (85, true)) (.mov (.t 7)) .no, .mk (some 88) (some (85, true)) (.bin .eql (.t 86) (.t 87)) .no, .i 89 (.pick (.t 85) (.t 88) (.c (.one (.st (.bool false))))), .m 6 89]) .ret)))))))))))
theorem A7 : OkF Try.prog 9 90 [] Au [.t 6] := .of Try.func9 rfl rfl (by kernel_rfl) rfl
def Bw : IR :=
 (.seq (.ops [.i 8 (.mov (.c (.one (.st (.bool false)))))]) (.seq (.seq (.ops [.m 14 0, .i 15 (.len false (.t 14)), .i 16 (.bin .gtr (.t 15) (.n 256))]) (.cond (.t 16) (.seq (.ops [.i 8 (.mov (.c (.one (.st (.bool true)))))]) .ret) .skip)) (.seq (.ops [.m 17 0, .m 18 2, .i 19 (.call 5 [.t 18, .n 14]), .i 20 (.call 4 [.t 17, .n 0, .t 19, .n 3]), .i 9 (.alloc 25 [.st (.str (ByteArray.mk (#[]))), .full []]), .s 2 9 20]) (.seq (.ops [.m 21 0, .m 22 3, .i 23 (.call 5 [.t 22, .n 14]), .i 24 (.call 4 [.t 21, .n 40, .t 23, .n 3]), .i 10 (.alloc 25 [.st (.str (ByteArray.mk (#[]))), .full []]), .s 2 10 24]) (.seq (.ops [.m 25 1, .i 26 (.call 6 [.t 25]), .m 11 26]) (.seq (.ops [.m 28 0, .i 29 (.call 8 [.t 28, .n 80, .n 4, .n 2]), .L 30 2 9, .i 31 (.call 7 [.t 29, .t 30]), .m 27 31, .i 32 (.extract 0 (.t 27)), .i 33 (.extract 1 (.t 27)), .i 12 (.alloc 25 [.st (.str (ByteArray.mk (#[]))), .full []]), .s 2 12 32, .m 13 33]) (.seq (.ops [.m 34 11, .L 35 2 9, .L 36 2 10, .i 37 (.call 9 [.t 34, .t 35, .t 36]), .m 38 37, .mk (some 39) (some (38, true)) (.mov (.t 11)) .no, .mk (some 40) (some (38, true)) (.load true 2 (.t 10)) .no, .mk (some 41) (some (38, true)) (.load true 2 (.t 9)) .no, .mk (some 42) (some (38, true)) (.call 9 [.t 39, .t 40, .t 41]) .no, .i 43 (.pick (.t 38) (.t 42) (.c (.one (.st (.bool false))))), .m 44 43, .mk (some 45) (some (44, true)) (.mov (.t 13)) .no, .mk (some 46) (some (44, true)) (.un .not (.t 45)) .no, .mk (some 47) (some (44, true)) (.mov (.t 46)) .no, .mk (some 48) (some (47, false)) (.mov (.t 11)) .no, .mk (some 49) (some (47, false)) (.load true 2 (.t 9)) .no, .mk (some 50) (some (47, false)) (.load true 2 (.t 12)) .no, .mk (some 51) (some (47, false)) (.call 9 [.t 48, .t 49, .t 50]) .no, .mk (some 52) (some (44, true)) (.pick (.t 47) (.c (.one (.st (.bool true)))) (.t 51)) .no, .i 53 (.pick (.t 44) (.t 52) (.c (.one (.st (.bool false))))), .m 8 53]) .ret)))))))
theorem Cu : OkF Try.prog 3 54 [] Bw [.t 8] := .of Try.func3 rfl rfl (by kernel_rfl) rfl

def BA (n : Int) : Bool := decide (97 ≤ n ∧ n ≤ 122) || decide (65 ≤ n ∧ n ≤ 90) || decide (48 ≤ n ∧ n ≤ 57)
def An (s : ByteArray) (k : Nat) : Int := ((s.data.toList.getD k 0).toNat : Int)
theorem FR (s : ByteArray) (k : Nat) : 0 ≤ An s k ∧ An s k ≤ 255 := by
 unfold An
 have := (s.data.toList.getD k 0).toNat_lt
 omega
def AW (s : ByteArray) : Bool := decide (0 < s.size) && decide (65 ≤ An s 0) && decide (An s 0 ≤ 90)
def BZ (s : ByteArray) (k : Nat) : Bool := (s.data.toList.take k).all fun c => BA c.toNat
def A0 (s : ByteArray) : Bool := decide (1 ≤ s.size) && decide (s.size ≤ 8) && !(decide (48 ≤ An s 0) && decide (An s 0 ≤ 57)) && BZ s s.size
theorem EO (s : ByteArray) (k : Nat) (h : k < s.size) : BZ s (k + 1) = (BZ s k && BA (An s k)) := by
 unfold BZ An
 have h2 : k < s.data.toList.length := by simpa using h
 rw [List.take_add_one, List.getD_eq_getElem?_getD, List.getElem?_eq_getElem h2]
 simp
theorem Fj (s : ByteArray) (k : Nat) (h : k < s.size) (hn : BA (An s k) = false) : BZ s s.size = false := by
 unfold BZ An at *
 have h2 : k < s.data.toList.length := by simpa using h
 rw [List.getD_eq_getElem?_getD, List.getElem?_eq_getElem h2] at hn
 rw [List.all_eq_false]
 refine ⟨s.data.toList[k], ?_, by simpa using hn⟩
 rw [List.take_of_length_le (by simp)]
 exact List.getElem_mem h2
mutual
def Tm.size : Tm → Nat
 | .mk _ xs => 1 + Tm.sizes xs
def Tm.sizes : List Tm → Nat
 | [] => 0
 | t :: ts => t.size + Tm.sizes ts
end
theorem Tm.sizes_append (xs ys : List Tm) : Tm.sizes (xs ++ ys) = Tm.sizes xs + Tm.sizes ys := by
 induction xs with
 | nil => simp [Tm.sizes]
 | cons t ts ih => simp only [List.cons_append, Tm.sizes, ih]; omega
theorem Tm.sizes_take {xs : List Tm} {k : Nat} {a : Tm} (h : xs[k]? = some a) : Tm.sizes (xs.take (k+1)) = Tm.sizes (xs.take k) + a.size := by
 rw [Aa h, Tm.sizes_append]; simp [Tm.sizes]
theorem Tm.sizes_take_le (xs : List Tm) (k : Nat)  : Tm.sizes (xs.take k) ≤ Tm.sizes xs := by
 have := Tm.sizes_append (xs.take k) (xs.drop k)
 rw [List.take_append_drop] at this
 omega
theorem Tm.size_eq (t : Tm) : t.size = 1 + Tm.sizes t.args := by cases t; rfl
theorem Tm.size_pos (t : Tm) : 1 ≤ t.size := by rw [Tm.size_eq]; omega
theorem Tm.size_mem {a : Tm} {xs : List Tm} (h : a ∈ xs) : a.size ≤ Tm.sizes xs := by
 induction xs with
 | nil => simp at h
 | cons t ts ih =>
  rcases List.mem_cons.1 h with rfl | h
  ·simp only [Tm.sizes]; omega
  ·have := ih h; simp only [Tm.sizes]; omega
theorem Tm.length_le (xs : List Tm) : xs.length ≤ Tm.sizes xs := by
 induction xs with
 | nil => simp [Tm.sizes]
 | cons t ts ih => have := Tm.size_pos t; simp only [Tm.sizes, List.length_cons]; omega
theorem Tm.lt_of_arg {a t : Tm} (h : a ∈ t.args) : SizeOf.sizeOf a < SizeOf.sizeOf t := by
 cases t
 exact Tm.lt_of_mem h
def BV (s : Nat) (m : Int) : Int := if m < s then -1 else m - s
def Az (s : Nat) (m : Int) : Int := if m < s then m + 1 else s
mutual
def Tm.knots : Tm → List Tm
 | .mk n xs => .mk n xs :: Tm.knotsL xs
def Tm.knotsL : List Tm → List Tm
 | [] => []
 | t :: ts => t.knots ++ Tm.knotsL ts
end
theorem Tm.knots_eq (t : Tm) : t.knots = t :: Tm.knotsL t.args := by cases t; rfl
theorem Tm.knotsL_append (xs ys : List Tm) : Tm.knotsL (xs ++ ys) = Tm.knotsL xs ++ Tm.knotsL ys := by
 induction xs with
 | nil => simp [Tm.knotsL]
 | cons t ts ih => simp [Tm.knotsL, ih]
theorem Tm.knotsL_take {xs : List Tm} {k : Nat} {a : Tm} (h : xs[k]? = some a) : Tm.knotsL (xs.take (k+1)) = Tm.knotsL (xs.take k) ++ a.knots := by
 rw [Aa h, Tm.knotsL_append]; simp [Tm.knotsL]
mutual
theorem Tm.knots_length : ∀ t : Tm, t.knots.length = t.size
 | .mk n xs => by simp only [Tm.knots, Tm.size, List.length_cons, Tm.knotsL_length xs]; omega
theorem Tm.knotsL_length : ∀ xs : List Tm, (Tm.knotsL xs).length = Tm.sizes xs
 | [] => rfl
 | t :: ts => by simp only [Tm.knotsL, Tm.sizes, List.length_append, Tm.knots_length t, Tm.knotsL_length ts]
end
def Br (t : Tm) : Int := if A0 t.name = true then (if AW t.name = true ∧ 0 < t.args.length then 2 else 0) else 1
mutual
def Tm.chk : Tm → Int
 | .mk n xs => if Br (.mk n xs) = 0 then Tm.chkL xs else Br (.mk n xs)
def Tm.chkL : List Tm → Int
 | [] => 0
 | t :: ts => if t.chk = 0 then Tm.chkL ts else t.chk
end
def A9 : List Tm → Int
 | [] => 0
 | t :: ts => if Br t = 0 then A9 ts else Br t
theorem Tm.chk_eq (t : Tm) : t.chk = if Br t = 0 then Tm.chkL t.args else Br t := by cases t; rfl
theorem CV (xs ys : List Tm) : A9 (xs ++ ys) = if A9 xs = 0 then A9 ys else A9 xs := by
 induction xs with
 | nil => simp [A9]
 | cons t ts ih =>
  simp only [List.cons_append, A9]
  by_cases h : Br t = 0
  ·simp only [h, if_true, ih]
  ·simp only [h, if_false]
mutual
theorem Tm.firstErr_knots : ∀ t : Tm, A9 t.knots = t.chk
 | .mk n xs => by
  simp only [Tm.knots, A9, Tm.chk]
  split
  ·exact Tm.firstErr_knotsL xs
  ·rfl
theorem Tm.firstErr_knotsL : ∀ xs : List Tm, A9 (Tm.knotsL xs) = Tm.chkL xs
 | [] => rfl
 | t :: ts => by
  simp only [Tm.knotsL, CV, Tm.firstErr_knots t, Tm.firstErr_knotsL ts, Tm.chkL]
end
theorem Tm.chkL_append (xs ys : List Tm) : Tm.chkL (xs ++ ys) = if Tm.chkL xs = 0 then Tm.chkL ys else Tm.chkL xs := by
 induction xs with
 | nil => simp [Tm.chkL]
 | cons t ts ih =>
  simp only [List.cons_append, Tm.chkL]
  by_cases h : t.chk = 0
  ·simp only [h, if_true, ih]
  ·simp only [h, if_false]
theorem Tm.chkL_get {xs : List Tm} {k : Nat} {a : Tm} (h : xs[k]? = some a) (h0 : Tm.chkL (xs.take k) = 0) : (a.chk = 0 → Tm.chkL (xs.take (k+1)) = 0) ∧ (a.chk ≠ 0 → Tm.chkL xs = a.chk) := by
 constructor
 ·intro ha
  rw [Aa h, Tm.chkL_append, if_pos h0]
  simp [Tm.chkL, ha]
 ·intro ha
  rw [← List.take_append_drop k xs, Tm.chkL_append, if_pos h0]
  have hd : xs.drop k = a :: xs.drop (k+1) := by
   have hk := Cm h
   rw [List.getElem?_eq_getElem hk] at h
   rw [List.drop_eq_getElem_cons hk]
   simp at h
   rw [h]
  rw [hd]
  simp [Tm.chkL, ha]
theorem JQ {xs : List Tm} {k : Nat} {a : Tm} (h : xs[k]? = some a) (h0 : A9 (xs.take k) = 0) : (Br a = 0 → A9 (xs.take (k+1)) = 0) ∧ (Br a ≠ 0 → A9 xs = Br a) := by
 constructor
 ·intro ha
  rw [Aa h, CV, if_pos h0]
  simp [A9, ha]
 ·intro ha
  rw [← List.take_append_drop k xs, CV, if_pos h0]
  have hd : xs.drop k = a :: xs.drop (k+1) := by
   have hk := Cm h
   rw [List.getElem?_eq_getElem hk] at h
   rw [List.drop_eq_getElem_cons hk]
   simp at h
   rw [h]
  rw [hd]
  simp [A9, ha]
def Tm.may (t : Tm) : Int := if 200 < t.size then 3 else t.chk
def D3 (x : ByteArray) (l : List ByteArray) : Bool := l.any fun y => decide (y = x)
theorem FU {x : ByteArray} {l : List ByteArray} : D3 x l = true ↔ x ∈ l := by simp [D3]
theorem JX {x : ByteArray} {l : List ByteArray} : D3 x l = false ↔ x ∉ l := by rw [← Bool.not_eq_true, FU]
def Bg (l : List ByteArray) (n : ByteArray) : List ByteArray := if AW n && !D3 n l then l ++ [n] else l
def BK (l : List ByteArray) (ks : List Tm) : List ByteArray := ks.foldl (fun l t => Bg l t.name) l
def Tm.varsOf (t : Tm) : List ByteArray := BK [] t.knots
theorem Ju (l : List ByteArray) : BK l [] = l := rfl
theorem Ja (l : List ByteArray) (ks : List Tm) (t : Tm) : BK l (ks ++ [t]) = Bg (BK l ks) t.name := by simp [BK]
theorem Lb {l : List ByteArray} {n : ByteArray} (h : AW n = true) (h' : D3 n l = false) : Bg l n = l ++ [n] := by simp [Bg, h, h']
theorem Ml {l : List ByteArray} {n : ByteArray} (h' : D3 n l = true) : Bg l n = l := by simp [Bg, h']
theorem MZ {l : List ByteArray} {n : ByteArray} (h : AW n = false) : Bg l n = l := by simp [Bg, h]
theorem Hw (l : List ByteArray) (n : ByteArray) : (Bg l n).length ≤ l.length + 1 := by unfold Bg; split <;> simp
theorem Cz : ∀ (ks : List Tm) (l : List ByteArray), (BK l ks).length ≤ l.length + ks.length
 | [], l => by simp [Ju]
 | t :: ts, l => by
  have h1 := Cz ts (Bg l t.name)
  have h2 := Hw l t.name
  have h3 : BK l (t :: ts) = BK (Bg l t.name) ts := rfl
  rw [h3, List.length_cons]
  omega
mutual
def Tm.places : Tm → List (List Int)
 | .mk _ xs => [] :: Tm.placesFrom 0 xs
def Tm.placesFrom : Nat → List Tm → List (List Int)
 | _, [] => []
 | k, t :: ts => t.places.map (fun p => (k : Int) :: p) ++ Tm.placesFrom (k+1) ts
end
theorem Ko {s z : Nat} {m : Int} (h : 0 ≤ BV s m) : BV z (BV s m) = BV (s + z) m := by
 unfold BV at *
 split at h
 ·omega
 ·rename_i h1
  rw [if_neg h1]
  split <;> split <;> omega
theorem LM {s z : Nat} {m : Int} (h : BV s m < 0) (hz : s ≤ z) : BV s m = BV z m := by
 unfold BV at *
 split at h
 ·rw [if_pos (by assumption), if_pos (by omega)]
 ·omega
theorem MY (s : Nat) (m : Int) (h : 0 ≤ m) : -1 ≤ BV s m ∧ BV s m ≤ m := by unfold BV; split <;> omega
theorem G2 {s z : Nat} {m : Int} (h : (s : Int) ≤ m) : (s : Int) + Az z (m - s) = Az (s + z) m := by
 unfold Az
 split <;> split <;> omega
theorem Dh {s z : Nat} {m : Int} (h : m < Az s m) (hz : s ≤ z) : Az z m = m + 1 := by
 unfold Az at *
 split at h <;> split <;> omega
theorem FO (s : Nat) (m : Int) (h : 0 ≤ m) : 0 ≤ Az s m ∧ Az s m ≤ m + 1 := by unfold Az; split <;> omega
theorem FZ {s : Nat} {m : Int} (h : ¬ m < Az s m) : Az s m = s ∧ (s : Int) ≤ m := by
 unfold Az at *
 split at h
 ·omega
 ·rename_i h2
  rw [if_neg h2]
  omega



theorem IN : ∀ l : List UInt8, Op.bytesLess l l = false
 | [] => by simp [Op.bytesLess]
 | x :: xs => by simp [Op.bytesLess, IN xs]
theorem Jt : ∀ (a b c : List UInt8), Op.bytesLess a b = true → Op.bytesLess b c = true → Op.bytesLess a c = true
 | _, [], _, h, _ => by simp [Op.bytesLess] at h
 | _, _ :: _, [], _, k => by simp [Op.bytesLess] at k
 | [], _ :: _, _ :: _, _, _ => by simp [Op.bytesLess]
 | x :: xs, y :: ys, z :: zs, h, k => by
  simp only [Op.bytesLess, Bool.or_eq_true, Bool.and_eq_true, decide_eq_true_eq, beq_iff_eq] at h k ⊢
  rcases h with h | ⟨rfl, h⟩
  ·rcases k with k | ⟨rfl, k⟩
   ·exact .inl (UInt8.lt_trans h k)
   ·exact .inl h
  ·rcases k with k | ⟨rfl, k⟩
   ·exact .inl k
   ·exact .inr ⟨rfl, Jt xs ys zs h k⟩
theorem J6 : ∀ (a b : List UInt8), Op.bytesLess a b = true ∨ a = b ∨ Op.bytesLess b a = true
 | [], [] => .inr (.inl rfl)
 | [], _ :: _ => .inl (by simp [Op.bytesLess])
 | _ :: _, [] => .inr (.inr (by simp [Op.bytesLess]))
 | x :: xs, y :: ys => by
  simp only [Op.bytesLess, Bool.or_eq_true, Bool.and_eq_true, decide_eq_true_eq, beq_iff_eq, List.cons.injEq]
  rcases Nat.lt_trichotomy x.toNat y.toNat with h | h | h
  ·exact .inl (.inl h)
  ·have e : x = y := UInt8.toNat_inj.1 h
   subst e
   rcases J6 xs ys with h | h | h
   ·exact .inl (.inr ⟨rfl, h⟩)
   ·exact .inr (.inl ⟨rfl, h⟩)
   ·exact .inr (.inr (.inr ⟨rfl, h⟩))
  ·exact .inr (.inr (.inl h))
theorem N_ {a b : ByteArray} (h : a.toList = b.toList) : a = b := by
 rw [ByteArray.toList_eq, ByteArray.toList_eq] at h
 cases a; cases b
 simp only at h
 congr 1
 exact Array.toList_inj.1 h
theorem BR (a : ByteArray) : sLt a a = false := IN _
theorem MX {a b c : ByteArray} (h : sLt a b = true) (k : sLt b c = true) : sLt a c = true := Jt _ _ _ h k
theorem EZ (a b : ByteArray) : sLt a b = true ∨ a = b ∨ sLt b a = true := by
 rcases J6 a.toList b.toList with h | h | h
 ·exact .inl h
 ·exact .inr (.inl (N_ h))
 ·exact .inr (.inr h)
theorem Db {a b : ByteArray} (h : sLt a b = true) : sLt b a = false := by
 cases k : sLt b a with
 | false => rfl
 | true => have := MX h k; rw [BR] at this; cases this
def Fz (a b : ByteArray) : Int := if sLt a b = true then -1 else if a = b then 0 else 1
abbrev Bd := ByteArray × Tm
def Nz (b : Bd) : List SV := [.str b.1, .str b.2.name, .list (b.2.args.map BI)]
abbrev I1 (l : List Bd) : AV := .one (.st (.list (l.map Nz)))
instance : Pl Nz 3 := ⟨fun _ => rfl⟩
theorem BT {α : Type} {xs : List α} {k : Nat} {a : α} (h : xs[k]? = some a) : xs.drop k = a :: xs.drop (k + 1) := by
 have hk := Cm h
 rw [List.getElem?_eq_getElem hk] at h
 rw [List.drop_eq_getElem_cons hk]
 simp at h
 rw [h]
def PF (l : List Bd) : Prop := l.Pairwise fun a b => sLt a.1 b.1 = true
def lookup (l : List Bd) (n : ByteArray) : Option Tm := (l.find? fun b => decide (b.1 = n)).map (·.2)
theorem J_ {l : List Bd} {n : ByteArray} (h : ∀ b ∈ l, b.1 ≠ n) : lookup l n = none := by
 unfold lookup
 rw [List.find?_eq_none.2 (fun b hb => by simpa using h b hb)]
 rfl
theorem KU {l : List Bd} {n : ByteArray} {k : Nat} {b : Bd} (hk : l[k]? = some b) (hb : b.1 = n) (h : ∀ c ∈ l.take k, c.1 ≠ n) : lookup l n = some b.2 := by
 unfold lookup
 rw [← List.take_append_drop k l, List.find?_append, List.find?_eq_none.2 (fun c hc => by simpa using h c hc), BT hk]
 simp [hb]
mutual
def Tm.on (s : List Bd) : Tm → Tm
 | .mk n xs => match (if xs.isEmpty then lookup s n else none) with
  | some x => x
  | none => .mk n (Tm.onL s xs)
def Tm.onL (s : List Bd) : List Tm → List Tm
 | [] => []
 | t :: ts => t.on s :: Tm.onL s ts
end
theorem Tm.onL_eq (s : List Bd) : ∀ ts : List Tm, Tm.onL s ts = ts.map (Tm.on s)
 | [] => rfl
 | t :: ts => by rw [Tm.onL, Tm.onL_eq s ts]; rfl
theorem Tm.on_leaf {s : List Bd} {t x : Tm} (h : lookup s t.name = some x) (h0 : t.args = []) : t.on s = x := by
 cases t with
 | mk n xs =>
  simp only [Tm.name_mk, Tm.args_mk] at h h0
  subst h0
  simp [Tm.on, h]
theorem Tm.on_knot {s : List Bd} {t : Tm} (h : lookup s t.name = none ∨ t.args ≠ []) : t.on s = .mk t.name (t.args.map (Tm.on s)) := by
 cases t with
 | mk n xs =>
  simp only [Tm.name_mk, Tm.args_mk] at h ⊢
  rw [← Tm.onL_eq]
  rcases h with h | h
  ·simp [Tm.on, h]
  ·cases xs with
   | nil => exact absurd rfl h
   | cons y ys => simp [Tm.on]
theorem Tm.may_chk {t : Tm} (h : t.may = 0) : t.chk = 0 ∧ t.size ≤ 200 := by
 unfold Tm.may at h
 split at h
 ·cases h
 ·exact ⟨h, by omega⟩



structure OkB (s : List Bd) : Prop where
 ord : PF s
 var : ∀ b ∈ s, AW b.1 = true
 nam : ∀ b ∈ s, A0 b.1 = true
 chk : ∀ b ∈ s, b.2.chk = 0

def ER : IR :=
 (.seq (.ops [.i 2 (.mov (.c (.one (.st (.bool false)))))]) (.seq (.ops [.m 3 0, .i 4 (.bin .geq (.t 3) (.c (.one (.st (.int .u8 97))))), .m 5 4, .mk (some 6) (some (5, true)) (.mov (.t 0)) .no, .mk (some 7) (some (5, true)) (.bin .leq (.t 6) (.c (.one (.st (.int .u8 122))))) .no, .i 8 (.pick (.t 5) (.t 7) (.c (.one (.st (.bool false))))), .m 9 8, .mk (some 10) (some (9, false)) (.mov (.t 0)) .no, .mk (some 11) (some (9, false)) (.bin .geq (.t 10) (.c (.one (.st (.int .u8 65))))) .no, .mk (some 12) (some (9, false)) (.mov (.t 11)) .no, .mk (some 13) (some (12, true)) (.mov (.t 0)) .no, .mk (some 14) (some (12, true)) (.bin .leq (.t 13) (.c (.one (.st (.int .u8 90))))) .no, .mk (some 15) (some (9, false)) (.pick (.t 12) (.t 14) (.c (.one (.st (.bool false))))) .no, .i 16 (.pick (.t 9) (.c (.one (.st (.bool true)))) (.t 15)), .m 17 16, .mk (some 18) (some (17, false)) (.mov (.t 0)) .no, .mk (some 19) (some (17, false)) (.bin .geq (.t 18) (.c (.one (.st (.int .u8 48))))) .no, .mk (some 20) (some (17, false)) (.mov (.t 19)) .no, .mk (some 21) (some (20, true)) (.mov (.t 0)) .no, .mk (some 22) (some (20, true)) (.bin .leq (.t 21) (.c (.one (.st (.int .u8 57))))) .no, .mk (some 23) (some (17, false)) (.pick (.t 20) (.t 22) (.c (.one (.st (.bool false))))) .no, .i 24 (.pick (.t 17) (.c (.one (.st (.bool true)))) (.t 23)), .m 2 24]) .ret))
theorem Gv : OkF Try.prog 50 25 [] ER [.t 2] := .of Try.func50 rfl rfl (by kernel_rfl) rfl
def Ex : IR :=
 (.seq (.ops [.i 2 (.mov (.c (.one (.st (.bool false)))))]) (.seq (.ops [.m 3 0, .i 4 (.bin .geq (.t 3) (.c (.one (.st (.int .u8 97))))), .m 5 4, .mk (some 6) (some (5, true)) (.mov (.t 0)) .no, .mk (some 7) (some (5, true)) (.bin .leq (.t 6) (.c (.one (.st (.int .u8 122))))) .no, .i 8 (.pick (.t 5) (.t 7) (.c (.one (.st (.bool false))))), .m 9 8, .mk (some 10) (some (9, false)) (.mov (.t 0)) .no, .mk (some 11) (some (9, false)) (.bin .geq (.t 10) (.c (.one (.st (.int .u8 65))))) .no, .mk (some 12) (some (9, false)) (.mov (.t 11)) .no, .mk (some 13) (some (12, true)) (.mov (.t 0)) .no, .mk (some 14) (some (12, true)) (.bin .leq (.t 13) (.c (.one (.st (.int .u8 90))))) .no, .mk (some 15) (some (9, false)) (.pick (.t 12) (.t 14) (.c (.one (.st (.bool false))))) .no, .i 16 (.pick (.t 9) (.c (.one (.st (.bool true)))) (.t 15)), .m 17 16, .mk (some 18) (some (17, false)) (.mov (.t 0)) .no, .mk (some 19) (some (17, false)) (.bin .geq (.t 18) (.c (.one (.st (.int .u8 48))))) .no, .mk (some 20) (some (17, false)) (.mov (.t 19)) .no, .mk (some 21) (some (20, true)) (.mov (.t 0)) .no, .mk (some 22) (some (20, true)) (.bin .leq (.t 21) (.c (.one (.st (.int .u8 57))))) .no, .mk (some 23) (some (17, false)) (.pick (.t 20) (.t 22) (.c (.one (.st (.bool false))))) .no, .i 24 (.pick (.t 17) (.c (.one (.st (.bool true)))) (.t 23)), .m 2 24]) .ret))
theorem Hs : OkF Try.prog 42 25 [] Ex [.t 2] := .of Try.func42 rfl rfl (by kernel_rfl) rfl
def Bz : IR :=
 (.seq (.ops [.i 2 (.mov (.c (.one (.st (.bool false)))))]) (.seq (.seq (.ops [.m 4 0, .i 5 (.len true (.t 4)), .i 6 (.bin .lss (.t 5) (.n 1)), .m 7 6, .mk (some 8) (some (7, false)) (.mov (.t 0)) .no, .mk (some 9) (some (7, false)) (.len true (.t 8)) .no, .mk (some 10) (some (7, false)) (.bin .gtr (.t 9) (.n 8)) .no, .i 11 (.pick (.t 7) (.c (.one (.st (.bool true)))) (.t 10)), .m 12 11, .mk (some 13) (some (12, false)) (.mov (.t 0)) .no, .mk (some 14) (some (12, false)) (.indexStr (.t 13) (.n 0)) .no, .mk (some 15) (some (12, false)) (.bin .geq (.t 14) (.c (.one (.st (.int .u8 48))))) .no, .mk (some 16) (some (12, false)) (.mov (.t 15)) .no, .mk (some 17) (some (16, true)) (.mov (.t 0)) .no, .mk (some 18) (some (16, true)) (.indexStr (.t 17) (.n 0)) .no, .mk (some 19) (some (16, true)) (.bin .leq (.t 18) (.c (.one (.st (.int .u8 57))))) .no, .mk (some 20) (some (12, false)) (.pick (.t 16) (.t 19) (.c (.one (.st (.bool false))))) .no, .i 21 (.pick (.t 12) (.c (.one (.st (.bool true)))) (.t 20))]) (.cond (.t 21) (.seq (.ops [.i 2 (.mov (.c (.one (.st (.bool false)))))]) .ret) .skip)) (.seq (.seq (.ops [.m 22 0, .i 23 (.len true (.t 22)), .i 24 (.mov (.n 0))]) (.block 0 (.loop (.seq (.ops [.i 25 (.bin .lss (.t 24) (.t 23))]) (.seq (.cond (.t 25) .skip (.exit 0)) (.seq (.block 1 (.seq (.ops [.m 26 24, .m 3 26]) (.seq (.ops [.m 27 0, .m 28 3, .i 29 (.indexStr (.t 27) (.t 28)), .i 30 (.call 50 [.t 29]), .i 31 (.un .not (.t 30))]) (.cond (.t 31) (.seq (.ops [.i 2 (.mov (.c (.one (.st (.bool false)))))]) .ret) .skip)))) (.ops [.i 32 (.bin .add (.t 24) (.n 1)), .m 24 32]))))))) (.seq (.ops [.i 2 (.mov (.c (.one (.st (.bool true)))))]) .ret))))
theorem Cd : OkF Try.prog 39 33 [] Bz [.t 2] := .of Try.func39 rfl rfl (by kernel_rfl) rfl
def CP : IR :=
 (.seq (.ops [.i 2 (.mov (.c (.one (.st (.bool false)))))]) (.seq (.seq (.ops [.m 4 0, .i 5 (.bin .eql (.t 4) (.c (.one (.st (.str (ByteArray.mk (#[]))))))), .m 6 5, .mk (some 7) (some (6, false)) (.mov (.t 0)) .no, .mk (some 8) (some (6, false)) (.len true (.t 7)) .no, .mk (some 9) (some (6, false)) (.bin .gtr (.t 8) (.n 8)) .no, .i 10 (.pick (.t 6) (.c (.one (.st (.bool true)))) (.t 9)), .m 11 10, .mk (some 12) (some (11, false)) (.mov (.t 0)) .no, .mk (some 13) (some (11, false)) (.indexStr (.t 12) (.n 0)) .no, .mk (some 14) (some (11, false)) (.bin .geq (.t 13) (.c (.one (.st (.int .u8 48))))) .no, .mk (some 15) (some (11, false)) (.mov (.t 14)) .no, .mk (some 16) (some (15, true)) (.mov (.t 0)) .no, .mk (some 17) (some (15, true)) (.indexStr (.t 16) (.n 0)) .no, .mk (some 18) (some (15, true)) (.bin .leq (.t 17) (.c (.one (.st (.int .u8 57))))) .no, .mk (some 19) (some (11, false)) (.pick (.t 15) (.t 18) (.c (.one (.st (.bool false))))) .no, .i 20 (.pick (.t 11) (.c (.one (.st (.bool true)))) (.t 19))]) (.cond (.t 20) (.seq (.ops [.i 2 (.mov (.c (.one (.st (.bool false)))))]) .ret) .skip)) (.seq (.seq (.ops [.i 3 (.mov (.n 0))]) (.block 0 (.loop (.seq (.seq (.ops [.m 21 3, .m 22 0, .i 23 (.len true (.t 22)), .i 24 (.bin .lss (.t 21) (.t 23))]) (.cond (.t 24) .skip (.exit 0))) (.seq (.block 1 (.seq (.ops [.m 27 0, .m 28 3, .i 29 (.indexStr (.t 27) (.t 28)), .i 30 (.call 42 [.t 29]), .i 31 (.un .not (.t 30))]) (.cond (.t 31) (.seq (.ops [.i 2 (.mov (.c (.one (.st (.bool false)))))]) .ret) .skip))) (.ops [.m 25 3, .i 26 (.bin .add (.t 25) (.n 1)), .m 3 26])))))) (.seq (.ops [.i 2 (.mov (.c (.one (.st (.bool true)))))]) .ret))))
theorem C5 : OkF Try.prog 25 32 [] CP [.t 2] := .of Try.func25 rfl rfl (by kernel_rfl) rfl
def CG : IR :=
 (.seq (.ops [.i 2 (.mov (.c (.one (.st (.bool false)))))]) (.seq (.ops [.m 3 0, .i 4 (.bin .neq (.t 3) (.c (.one (.st (.str (ByteArray.mk (#[]))))))), .m 5 4, .mk (some 6) (some (5, true)) (.mov (.t 0)) .no, .mk (some 7) (some (5, true)) (.indexStr (.t 6) (.n 0)) .no, .mk (some 8) (some (5, true)) (.bin .geq (.t 7) (.c (.one (.st (.int .u8 65))))) .no, .i 9 (.pick (.t 5) (.t 8) (.c (.one (.st (.bool false))))), .m 10 9, .mk (some 11) (some (10, true)) (.mov (.t 0)) .no, .mk (some 12) (some (10, true)) (.indexStr (.t 11) (.n 0)) .no, .mk (some 13) (some (10, true)) (.bin .leq (.t 12) (.c (.one (.st (.int .u8 90))))) .no, .i 14 (.pick (.t 10) (.t 13) (.c (.one (.st (.bool false))))), .m 2 14]) .ret))
theorem DR : OkF Try.prog 40 15 [] CG [.t 2] := .of Try.func40 rfl rfl (by kernel_rfl) rfl
def FA : IR :=
 (.seq (.ops [.i 2 (.mov (.c (.one (.st (.bool false)))))]) (.seq (.ops [.m 3 0, .i 4 (.bin .neq (.t 3) (.c (.one (.st (.str (ByteArray.mk (#[]))))))), .m 5 4, .mk (some 6) (some (5, true)) (.mov (.t 0)) .no, .mk (some 7) (some (5, true)) (.indexStr (.t 6) (.n 0)) .no, .mk (some 8) (some (5, true)) (.bin .geq (.t 7) (.c (.one (.st (.int .u8 65))))) .no, .i 9 (.pick (.t 5) (.t 8) (.c (.one (.st (.bool false))))), .m 10 9, .mk (some 11) (some (10, true)) (.mov (.t 0)) .no, .mk (some 12) (some (10, true)) (.indexStr (.t 11) (.n 0)) .no, .mk (some 13) (some (10, true)) (.bin .leq (.t 12) (.c (.one (.st (.int .u8 90))))) .no, .i 14 (.pick (.t 10) (.t 13) (.c (.one (.st (.bool false))))), .m 2 14]) .ret))
theorem HM : OkF Try.prog 26 15 [] FA [.t 2] := .of Try.func26 rfl rfl (by kernel_rfl) rfl
def EF : IR :=
 (.seq (.ops [.i 2 (.box 25 (.t 0)), .i 4 (.mov (.n 0))]) (.seq (.ops [.m 7 1, .i 8 (.bin .sub (.t 7) (.n 1)), .m 1 8]) (.seq (.seq (.ops [.f 9 1 2, .l 10 9, .i 11 (.len false (.t 10)), .i 12 (.mov (.n 0))]) (.block 0 (.loop (.seq (.ops [.i 13 (.bin .lss (.t 12) (.t 11))]) (.seq (.cond (.t 13) .skip (.exit 0)) (.seq (.block 1 (.seq (.ops [.i 14 (.indexAddr 2 (.t 10) (.t 12)), .L 15 2 14, .i 6 (.alloc 25 [.st (.str (ByteArray.mk (#[]))), .full []]), .s 2 6 15]) (.seq (.seq (.ops [.m 16 1, .i 17 (.bin .lss (.t 16) (.n 0))]) (.cond (.t 17) (.exit 0) .skip)) (.ops [.L 18 2 6, .m 19 1, .i 20 (.call 58 [.t 18, .t 19]), .m 1 20])))) (.ops [.i 21 (.bin .add (.t 12) (.n 1)), .m 12 21]))))))) (.seq (.ops [.m 22 1, .m 4 22]) .ret))))
theorem G8 : OkF Try.prog 58 23 [] EF [.t 4] := .of Try.func58 rfl rfl (by kernel_rfl) rfl
def Ih : IR :=
 (.seq (.ops [.i 2 (.box 25 (.t 0)), .i 4 (.mov (.n 0))]) (.seq (.ops [.i 5 (.mov (.n 1))]) (.seq (.seq (.ops [.i 6 (.mov (.n 0))]) (.block 0 (.loop (.seq (.seq (.ops [.m 7 6, .f 8 1 2, .l 9 8, .i 10 (.len false (.t 9)), .i 11 (.bin .lss (.t 7) (.t 10)), .m 12 11, .mk (some 13) (some (12, true)) (.mov (.t 5)) .no, .mk (some 14) (some (12, true)) (.mov (.t 1)) .no, .mk (some 15) (some (12, true)) (.bin .leq (.t 13) (.t 14)) .no, .i 16 (.pick (.t 12) (.t 15) (.c (.one (.st (.bool false)))))]) (.cond (.t 16) .skip (.exit 0))) (.seq (.block 1 (.ops [.m 19 5, .f 20 1 2, .l 21 20, .m 22 6, .i 23 (.indexAddr 2 (.t 21) (.t 22)), .L 24 2 23, .m 25 1, .m 26 5, .i 27 (.bin .sub (.t 25) (.t 26)), .i 28 (.call 17 [.t 24, .t 27]), .i 29 (.bin .add (.t 19) (.t 28)), .m 5 29])) (.ops [.m 17 6, .i 18 (.bin .add (.t 17) (.n 1)), .m 6 18])))))) (.seq (.seq (.ops [.m 30 5, .m 31 1, .i 32 (.bin .gtr (.t 30) (.t 31))]) (.cond (.t 32) (.seq (.ops [.m 33 1, .i 34 (.bin .add (.t 33) (.n 1)), .m 4 34]) .ret) .skip)) (.seq (.ops [.m 35 5, .m 4 35]) .ret)))))
theorem Mz : OkF Try.prog 17 36 [] Ih [.t 4] := .of Try.func17 rfl rfl (by kernel_rfl) rfl
def Eo : IR :=
 (.seq (.ops [.i 1 (.box 25 (.t 0)), .i 2 (.mov (.n 0))]) (.seq (.seq (.ops [.f 6 0 1, .l 7 6, .i 8 (.call 39 [.t 7]), .i 9 (.un .not (.t 8))]) (.cond (.t 9) (.seq (.ops [.i 2 (.mov (.n 1))]) .ret) .skip)) (.seq (.seq (.ops [.f 10 0 1, .l 11 10, .i 12 (.call 40 [.t 11]), .m 13 12, .mk (some 14) (some (13, true)) (.fieldAddr 1 (.t 1)) .no, .mk (some 15) (some (13, true)) (.load false 1 (.t 14)) .no, .mk (some 16) (some (13, true)) (.len false (.t 15)) .no, .mk (some 17) (some (13, true)) (.bin .gtr (.t 16) (.n 0)) .no, .i 18 (.pick (.t 13) (.t 17) (.c (.one (.st (.bool false)))))]) (.cond (.t 18) (.seq (.ops [.i 2 (.mov (.n 2))]) .ret) .skip)) (.seq (.seq (.ops [.f 19 1 1, .l 20 19, .i 21 (.len false (.t 20)), .i 22 (.mov (.n 0))]) (.block 0 (.loop (.seq (.ops [.i 23 (.bin .lss (.t 22) (.t 21))]) (.seq (.cond (.t 23) .skip (.exit 0)) (.seq (.block 1 (.seq (.ops [.i 24 (.indexAddr 2 (.t 20) (.t 22)), .L 25 2 24, .i 4 (.alloc 25 [.st (.str (ByteArray.mk (#[]))), .full []]), .s 2 4 25]) (.seq (.ops [.L 26 2 4, .i 27 (.call 59 [.t 26]), .m 5 27]) (.seq (.ops [.m 28 5, .i 29 (.bin .neq (.t 28) (.n 0))]) (.cond (.t 29) (.seq (.ops [.m 30 5, .m 2 30]) .ret) .skip))))) (.ops [.i 31 (.bin .add (.t 22) (.n 1)), .m 22 31]))))))) (.seq (.ops [.i 2 (.mov (.n 0))]) .ret)))))
theorem Hp : OkF Try.prog 59 32 [] Eo [.t 2] := .of Try.func59 rfl rfl (by kernel_rfl) rfl
def Em : IR :=
 (.seq (.ops [.i 1 (.box 25 (.t 0)), .i 2 (.mov (.n 0))]) (.seq (.seq (.ops [.L 3 2 1, .i 4 (.call 58 [.t 3, .n 200]), .i 5 (.bin .lss (.t 4) (.n 0))]) (.cond (.t 5) (.seq (.ops [.i 2 (.mov (.n 3))]) .ret) .skip)) (.seq (.ops [.L 6 2 1, .i 7 (.call 59 [.t 6]), .m 2 7]) .ret)))
theorem H1 : OkF Try.prog 52 8 [] Em [.t 2] := .of Try.func52 rfl rfl (by kernel_rfl) rfl
def Gm : IR :=
 (.seq (.ops [.i 1 (.box 25 (.t 0)), .i 2 (.mov (.c (.one (.full []))))]) (.seq (.ops [.L 5 2 1, .i 6 (.buildSlice false 25 2 [.t 5]), .m 3 6]) (.seq (.seq (.ops [.i 4 (.mov (.n 0))]) (.block 0 (.loop (.seq (.seq (.ops [.m 7 4, .f 8 1 1, .l 9 8, .i 10 (.len false (.t 9)), .i 11 (.bin .lss (.t 7) (.t 10))]) (.cond (.t 11) .skip (.exit 0))) (.seq (.block 1 (.ops [.m 14 3, .f 15 1 1, .l 16 15, .m 17 4, .i 18 (.indexAddr 2 (.t 16) (.t 17)), .L 19 2 18, .i 20 (.call 29 [.t 19]), .i 21 (.append false 25 2 40 (.t 14) (.t 20)), .m 3 21])) (.ops [.m 12 4, .i 13 (.bin .add (.t 12) (.n 1)), .m 4 13])))))) (.seq (.ops [.m 22 3, .m 2 22]) .ret))))
theorem LY : OkF Try.prog 29 23 [] Gm [.t 2] := .of Try.func29 rfl rfl (by kernel_rfl) rfl
def FW : IR :=
 (.seq (.ops [.i 1 (.box 25 (.t 0)), .i 2 (.mov (.n 0))]) (.seq (.seq (.ops [.L 5 2 1, .i 6 (.call 17 [.t 5, .n 200]), .i 7 (.bin .gtr (.t 6) (.n 200))]) (.cond (.t 7) (.seq (.ops [.i 2 (.mov (.n 3))]) .ret) .skip)) (.seq (.ops [.L 8 2 1, .i 9 (.call 29 [.t 8]), .m 3 9]) (.seq (.seq (.ops [.i 4 (.mov (.n 0))]) (.block 0 (.loop (.seq (.seq (.ops [.m 10 4, .m 11 3, .i 12 (.len false (.t 11)), .i 13 (.bin .lss (.t 10) (.t 12))]) (.cond (.t 13) .skip (.exit 0))) (.seq (.block 1 (.seq (.seq (.ops [.m 16 3, .m 17 4, .i 18 (.indexAddr 2 (.t 16) (.t 17)), .f 19 0 18, .l 20 19, .i 21 (.call 25 [.t 20]), .i 22 (.un .not (.t 21))]) (.cond (.t 22) (.seq (.ops [.i 2 (.mov (.n 1))]) .ret) .skip)) (.seq (.ops [.m 23 3, .m 24 4, .i 25 (.indexAddr 2 (.t 23) (.t 24)), .f 26 0 25, .l 27 26, .i 28 (.call 26 [.t 27]), .m 29 28, .mk (some 30) (some (29, true)) (.mov (.t 3)) .no, .mk (some 31) (some (29, true)) (.mov (.t 4)) .no, .mk (some 32) (some (29, true)) (.indexAddr 2 (.t 30) (.t 31)) .no, .mk (some 33) (some (29, true)) (.fieldAddr 1 (.t 32)) .no, .mk (some 34) (some (29, true)) (.load false 1 (.t 33)) .no, .mk (some 35) (some (29, true)) (.len false (.t 34)) .no, .mk (some 36) (some (29, true)) (.bin .gtr (.t 35) (.n 0)) .no, .i 37 (.pick (.t 29) (.t 36) (.c (.one (.st (.bool false)))))]) (.cond (.t 37) (.seq (.ops [.i 2 (.mov (.n 2))]) .ret) .skip)))) (.ops [.m 14 4, .i 15 (.bin .add (.t 14) (.n 1)), .m 4 15])))))) (.seq (.ops [.i 2 (.mov (.n 0))]) .ret)))))
theorem I7 : OkF Try.prog 28 38 [] FW [.t 2] := .of Try.func28 rfl rfl (by kernel_rfl) rfl
def GK : IR :=
 (.seq (.ops [.i 2 (.box 25 (.t 0)), .i 3 (.box 25 (.t 1)), .i 4 (.mov (.n 0))]) (.seq (.ops [.L 6 2 2, .i 7 (.call 28 [.t 6]), .m 5 7]) (.seq (.seq (.ops [.m 8 5, .i 9 (.bin .eql (.t 8) (.n 0))]) (.cond (.t 9) (.ops [.L 10 2 3, .i 11 (.call 28 [.t 10]), .m 5 11]) .skip)) (.seq (.ops [.m 12 5, .m 4 12]) .ret))))
theorem KT : OkF Try.prog 16 13 [] GK [.t 4] := .of Try.func16 rfl rfl (by kernel_rfl) rfl
def Ic : IR :=
 (.seq (.ops [.i 2 (.box 25 (.t 0)), .i 3 (.box 25 (.t 1)), .i 4 (.mov (.c (.one (.st (.bool false)))))]) (.seq (.seq (.ops [.f 6 0 2, .l 7 6, .f 8 0 3, .l 9 8, .i 10 (.bin .neq (.t 7) (.t 9)), .m 11 10, .mk (some 12) (some (11, false)) (.fieldAddr 1 (.t 2)) .no, .mk (some 13) (some (11, false)) (.load false 1 (.t 12)) .no, .mk (some 14) (some (11, false)) (.len false (.t 13)) .no, .mk (some 15) (some (11, false)) (.fieldAddr 1 (.t 3)) .no, .mk (some 16) (some (11, false)) (.load false 1 (.t 15)) .no, .mk (some 17) (some (11, false)) (.len false (.t 16)) .no, .mk (some 18) (some (11, false)) (.bin .neq (.t 14) (.t 17)) .no, .i 19 (.pick (.t 11) (.c (.one (.st (.bool true)))) (.t 18))]) (.cond (.t 19) (.seq (.ops [.i 4 (.mov (.c (.one (.st (.bool false)))))]) .ret) .skip)) (.seq (.seq (.ops [.i 5 (.mov (.n 0))]) (.block 0 (.loop (.seq (.seq (.ops [.m 20 5, .f 21 1 2, .l 22 21, .i 23 (.len false (.t 22)), .i 24 (.bin .lss (.t 20) (.t 23))]) (.cond (.t 24) .skip (.exit 0))) (.seq (.block 1 (.seq (.ops [.f 27 1 2, .l 28 27, .m 29 5, .i 30 (.indexAddr 2 (.t 28) (.t 29)), .L 31 2 30, .f 32 1 3, .l 33 32, .m 34 5, .i 35 (.indexAddr 2 (.t 33) (.t 34)), .L 36 2 35, .i 37 (.call 35 [.t 31, .t 36]), .i 38 (.un .not (.t 37))]) (.cond (.t 38) (.seq (.ops [.i 4 (.mov (.c (.one (.st (.bool false)))))]) .ret) .skip))) (.ops [.m 25 5, .i 26 (.bin .add (.t 25) (.n 1)), .m 5 26])))))) (.seq (.ops [.i 4 (.mov (.c (.one (.st (.bool true)))))]) .ret))))
theorem NN : OkF Try.prog 35 39 [] Ic [.t 4] := .of Try.func35 rfl rfl (by kernel_rfl) rfl
def L6 : IR :=
 (.seq (.ops [.i 4 (.mov (.c (.one (.st (.bool false)))))]) (.seq (.seq (.ops [.i 5 (.mov (.n 0))]) (.block 0 (.loop (.seq (.seq (.ops [.m 6 5, .m 7 1, .i 8 (.len false (.t 7)), .i 9 (.bin .lss (.t 6) (.t 8))]) (.cond (.t 9) .skip (.exit 0))) (.seq (.block 1 (.seq (.ops [.m 12 1, .m 13 5, .i 14 (.indexAddr 1 (.t 12) (.t 13)), .l 15 14, .m 16 0, .i 17 (.bin .eql (.t 15) (.t 16))]) (.cond (.t 17) (.seq (.ops [.i 4 (.mov (.c (.one (.st (.bool true)))))]) .ret) .skip))) (.ops [.m 10 5, .i 11 (.bin .add (.t 10) (.n 1)), .m 5 11])))))) (.seq (.ops [.i 4 (.mov (.c (.one (.st (.bool false)))))]) .ret)))
theorem O9 : OkF Try.prog 27 18 [] L6 [.t 4] := .of Try.func27 rfl rfl (by kernel_rfl) rfl
def GR : IR :=
 (.seq (.ops [.i 1 (.box 25 (.t 0)), .i 2 (.mov (.c (.one (.full []))))]) (.seq (.ops [.L 6 2 1, .i 7 (.call 29 [.t 6]), .m 3 7]) (.seq (.ops [.i 4 (.mov (.c (.one (.full []))))]) (.seq (.seq (.ops [.i 5 (.mov (.n 0))]) (.block 0 (.loop (.seq (.seq (.ops [.m 8 5, .m 9 3, .i 10 (.len false (.t 9)), .i 11 (.bin .lss (.t 8) (.t 10))]) (.cond (.t 11) .skip (.exit 0))) (.seq (.block 1 (.seq (.ops [.m 14 3, .m 15 5, .i 16 (.indexAddr 2 (.t 14) (.t 15)), .f 17 0 16, .l 18 17, .i 19 (.call 26 [.t 18]), .m 20 19, .mk (some 21) (some (20, true)) (.mov (.t 3)) .no, .mk (some 22) (some (20, true)) (.mov (.t 5)) .no, .mk (some 23) (some (20, true)) (.indexAddr 2 (.t 21) (.t 22)) .no, .mk (some 24) (some (20, true)) (.fieldAddr 0 (.t 23)) .no, .mk (some 25) (some (20, true)) (.load false 1 (.t 24)) .no, .mk (some 26) (some (20, true)) (.mov (.t 4)) .no, .mk (some 27) (some (20, true)) (.call 27 [.t 25, .t 26]) .no, .mk (some 28) (some (20, true)) (.un .not (.t 27)) .no, .i 29 (.pick (.t 20) (.t 28) (.c (.one (.st (.bool false)))))]) (.cond (.t 29) (.ops [.m 30 4, .m 31 3, .m 32 5, .i 33 (.indexAddr 2 (.t 31) (.t 32)), .f 34 0 33, .l 35 34, .i 36 (.buildFlat [.t 35]), .i 37 (.append false 9 1 16 (.t 30) (.t 36)), .m 4 37]) .skip))) (.ops [.m 12 5, .i 13 (.bin .add (.t 12) (.n 1)), .m 5 13])))))) (.seq (.ops [.m 38 4, .m 2 38]) .ret)))))
theorem Jw : OkF Try.prog 32 39 [] GR [.t 2] := .of Try.func32 rfl rfl (by kernel_rfl) rfl
def Il : IR :=
 (.seq (.ops [.i 1 (.box 25 (.t 0)), .i 2 (.mov (.c (.one (.st (.bool false)))))]) (.seq (.ops [.L 3 2 1, .i 4 (.call 17 [.t 3, .n 3000]), .i 5 (.bin .gtr (.t 4) (.n 3000)), .m 2 5]) .ret))
theorem M3 : OkF Try.prog 14 6 [] Il [.t 2] := .of Try.func14 rfl rfl (by kernel_rfl) rfl
def A6 : IR :=
 (.seq (.ops [.i 4 (.mov (.n 0))]) (.seq (.seq (.ops [.m 6 0, .i 7 (.len false (.t 6)), .i 8 (.mov (.n 0))]) (.block 0 (.loop (.seq (.ops [.i 9 (.bin .lss (.t 8) (.t 7))]) (.seq (.cond (.t 9) .skip (.exit 0)) (.seq (.block 1 (.seq (.ops [.m 10 8, .m 5 10]) (.seq (.ops [.m 11 1, .m 12 0, .m 13 5, .i 14 (.indexAddr 1 (.t 12) (.t 13)), .l 15 14, .i 16 (.bin .eql (.t 11) (.t 15))]) (.cond (.t 16) (.seq (.ops [.m 17 5, .m 4 17]) .ret) .skip)))) (.ops [.i 18 (.bin .add (.t 8) (.n 1)), .m 8 18]))))))) (.seq (.ops [.i 4 (.mov (.c (.one (.st (.int .i64 (-1))))))]) .ret)))
theorem BQ : OkF Try.prog 51 19 [] A6 [.t 4] := .of Try.func51 rfl rfl (by kernel_rfl) rfl
def BJ : IR :=
 (.seq (.ops [.i 4 (.mov (.c (.one (.st (.bool false)))))]) (.seq (.ops [.m 5 0, .m 6 1, .i 7 (.call 51 [.t 5, .t 6]), .i 8 (.bin .geq (.t 7) (.n 0)), .m 4 8]) .ret))
theorem B0 : OkF Try.prog 41 9 [] BJ [.t 4] := .of Try.func41 rfl rfl (by kernel_rfl) rfl

end Go.Proofs.Ytdlbfdcklpleaaa
