/-
  Part 6 of the texts. Conditions: none.
-/
import Derived.Test.YtkegjgodjigjfaaWit5
namespace Go.Proofs.Ytkegjgodjigjfaa
open Go Go.RowKit
set_option linter.unusedVariables false
set_option linter.unusedSimpArgs false
set_option maxHeartbeats 400000
mutual
def AC.clear (ds : List Nat) : AC → Bool
 | .row id _ => !ds.contains id
 | .part id _ _ => !ds.contains id
 | .rest id _ _ => !ds.contains id
 | .ptr id _ _ _ => !ds.contains id
 | .mptr id => !ds.contains id
 | .yld id => !ds.contains id
 | .ubool => true
 | .fn _ caps => AC.clears ds caps
 | .st _ => true
 | .full _ => true
 | .eptr _ => true
 | .any => true
def AC.clears (ds : List Nat) : List AC → Bool
 | [] => true
 | c :: cs => c.clear ds && AC.clears ds cs
end
theorem G9 {ds : List Nat} : ∀ {l : List AC}, AC.clears ds l = true → ∀ a ∈ l, a.clear ds = true
 | [], _, a, ha => by simp at ha
 | x :: xs, hx, a, ha => by
  rw [AC.clears, Bool.and_eq_true] at hx
  rcases List.mem_cons.1 ha with rfl | ha
  ·exact hx.1
  ·exact G9 hx.2 a ha
def AC.purge (ds : List Nat) : AC → AC
 | .row id n => if ds.contains id then .any else .row id n
 | .part id k n => if ds.contains id then .any else .part id k n
 | .rest id k n => if ds.contains id then .any else .rest id k n
 | .ptr id n k off => if ds.contains id then .any else .ptr id n k off
 | .mptr id => if ds.contains id then .any else .mptr id
 | .yld id => if ds.contains id then .any else .yld id
 | .fn f caps => if AC.clears ds caps then .fn f caps else .any
 | c => c
mutual
def AV.purge (ds : List Nat) : AV → AV
 | .one c => .one (c.purge ds)
 | .agg cs => .agg (cs.map (AC.purge ds))
 | .tup vs => .tup (AV.purges ds vs)
 | .any => .any
def AV.purges (ds : List Nat) : List AV → List AV
 | [] => []
 | v :: vs => v.purge ds :: AV.purges ds vs
end
def AJ.purge (ds : List Nat) : AJ → AJ
 | .box e cs => .box e (cs.map (AC.purge ds))
 | .crow e cs => .crow e (cs.map (AC.purge ds))
 | .iter x n seen => .iter (x.purge ds) n seen
 | .loop env r => .loop (AV.purges ds env) r
 | b => b
def As (ds : List Nat) (S : AA) : AA := fun id => if ds.contains id then none else (S id).map (AJ.purge ds)
def AS.drop (ds : List Nat) (s : AS) : AS := ⟨fun i => (s.env i).purge ds, As ds s.S⟩
theorem CQ {ds : List Nat} (hds : ∀ d ∈ ds, d < 1000) {id : Nat} (h : 1000 ≤ id) : ds.contains id = false := by
 cases hc : ds.contains id with
 | false => rfl
 | true =>
  have := hds id (List.contains_iff_mem.1 hc)
  omega
mutual
theorem AC.clear_high {ds : List Nat} (hds : ∀ d ∈ ds, d < 1000) : ∀ {c : AC}, c.high = true → c.clear ds = true
 | .st _, _ => rfl
 | .full _, _ => rfl
 | .row id n, h => by
  rw [AC.high] at h
  rw [AC.clear, CQ hds (of_decide_eq_true h)]
  rfl
 | .part id k n, h => by
  rw [AC.high] at h
  rw [AC.clear, CQ hds (of_decide_eq_true h)]
  rfl
 | .rest id k n, h => by
  rw [AC.high] at h
  rw [AC.clear, CQ hds (of_decide_eq_true h)]
  rfl
 | .ptr id n k off, h => by
  rw [AC.high] at h
  rw [AC.clear, CQ hds (of_decide_eq_true h)]
  rfl
 | .mptr id, h => by
  rw [AC.high] at h
  rw [AC.clear, CQ hds (of_decide_eq_true h)]
  rfl
 | .yld id, h => by
  rw [AC.high] at h
  rw [AC.clear, CQ hds (of_decide_eq_true h)]
  rfl
 | .ubool, _ => rfl
 | .eptr _, _ => rfl
 | .fn f caps, h => by
  rw [AC.high] at h
  rw [AC.clear]
  exact AC.clears_highs hds h
 | .any, _ => rfl
theorem AC.clears_highs {ds : List Nat} (hds : ∀ d ∈ ds, d < 1000) : ∀ {cs : List AC}, AC.highs cs = true → AC.clears ds cs = true
 | [], _ => rfl
 | c :: cs, h => by
  rw [AC.highs, Bool.and_eq_true] at h
  rw [AC.clears, AC.clear_high hds h.1, AC.clears_highs hds h.2]
  rfl
end
theorem AC.purge_high {ds : List Nat} (hds : ∀ d ∈ ds, d < 1000) : ∀ {c : AC}, c.high = true → c.purge ds = c
 | .st _, _ => rfl
 | .full _, _ => rfl
 | .row id n, h => by
  rw [AC.high] at h
  simp only [AC.purge, CQ hds (of_decide_eq_true h), Bool.false_eq_true, if_false]
 | .part id k n, h => by
  rw [AC.high] at h
  simp only [AC.purge, CQ hds (of_decide_eq_true h), Bool.false_eq_true, if_false]
 | .rest id k n, h => by
  rw [AC.high] at h
  simp only [AC.purge, CQ hds (of_decide_eq_true h), Bool.false_eq_true, if_false]
 | .ptr id n k off, h => by
  rw [AC.high] at h
  simp only [AC.purge, CQ hds (of_decide_eq_true h), Bool.false_eq_true, if_false]
 | .mptr id, h => by
  rw [AC.high] at h
  simp only [AC.purge, CQ hds (of_decide_eq_true h), Bool.false_eq_true, if_false]
 | .yld id, h => by
  rw [AC.high] at h
  simp only [AC.purge, CQ hds (of_decide_eq_true h), Bool.false_eq_true, if_false]
 | .ubool, _ => rfl
 | .eptr _, _ => rfl
 | .fn f caps, h => by
  rw [AC.high] at h
  simp only [AC.purge, AC.clears_highs hds h, if_true]
 | .any, _ => rfl
mutual
theorem AV.purge_high {ds : List Nat} (hds : ∀ d ∈ ds, d < 1000) : ∀ {c : AV}, c.high = true → c.purge ds = c
 | .one c, h => by rw [AV.high] at h; rw [AV.purge, AC.purge_high hds h]
 | .agg cs, h => by
  rw [AV.high] at h
  rw [AV.purge]
  congr 1
  exact (List.map_congr_left fun a ha => AC.purge_high hds (BV h a ha)).trans (List.map_id _)
 | .tup vs, h => by rw [AV.high] at h; rw [AV.purge, AV.purges_high hds h]
 | .any, _ => rfl
theorem AV.purges_high {ds : List Nat} (hds : ∀ d ∈ ds, d < 1000) : ∀ {c : List AV}, AV.highs c = true → AV.purges ds c = c
 | [], _ => rfl
 | c :: cs, h => by
  rw [AV.highs, Bool.and_eq_true] at h
  rw [AV.purges, AV.purge_high hds h.1, AV.purges_high hds h.2]
end
theorem AJ.purge_high {ds : List Nat} (hds : ∀ d ∈ ds, d < 1000) {b : AJ} (h : b.high = true) : b.purge ds = b := by
 cases b with
 | box e cs =>
  rw [AJ.high] at h
  simp only [AJ.purge]
  congr 1
  exact (List.map_congr_left fun a ha => AC.purge_high hds (BV h a ha)).trans (List.map_id _)
 | crow e cs =>
  rw [AJ.high] at h
  simp only [AJ.purge]
  congr 1
  exact (List.map_congr_left fun a ha => AC.purge_high hds (BV h a ha)).trans (List.map_id _)
 | arow => rfl
 | mrow => rfl
 | map => rfl
 | memo => rfl
 | iter x =>
  rw [AJ.high] at h
  simp only [AJ.purge, AC.purge_high hds h]
 | loop env r =>
  rw [AJ.high] at h
  simp only [AJ.purge, AV.purges_high hds h]
 | dead => rfl
theorem KC {ds : List Nat} (hds : ∀ d ∈ ds, d < 1000) {S : AA} (h : Ad S) : As ds S = S := by
 funext id
 unfold As
 cases hb : S id with
 | none => split <;> rfl
 | some b =>
  obtain ⟨h1, h2⟩ := h id b hb
  rw [CQ hds h1, if_neg (by simp), Option.map_some, AJ.purge_high hds h2]
theorem K5 {ds : List Nat} {S : AA} {i : Nat} {b : Option AJ} (h : ds.contains i = true) : As ds (AB S i b) = As ds S := by
 funext k
 unfold As
 by_cases e : k = i
 ·subst e
  rw [if_pos h, if_pos h]
 ·rw [AE _ e]
theorem GJ {ds : List Nat} {S : AA} {i : Nat} {b : AJ} (h : ds.contains i = false) : As ds (AB S i (some b)) = AB (As ds S) i (some (b.purge ds)) := by
 funext k
 unfold As
 by_cases e : k = i
 ·subst e
  rw [AD, AD, if_neg (by rw [h]; simp)]
  rfl
 ·rw [AE _ e, AE _ e]
section
variable {C : Ctx} {σ : Sto} {ι : Ah} {s : AS} {a : Act} {w : World} {ds : List Nat}
theorem A4 (b : AJ) : (b.purge ds).len = b.len := by cases b <;> first | rfl | simp [AJ.purge, AJ.len]
theorem Ek (b : AJ) : (b.purge ds).wid = b.wid := by cases b <;> rfl
theorem AY.keepClear {ds : List Nat} {S S2 : AA} (hS : ∀ id b, ds.contains id = false → S id = some b → ∃ b', S2 id = some b' ∧ b'.len = b.len ∧ b'.wid = b.wid) {v : Value} {c : AC} (h : AY σ S ι v c) (hc : c.clear ds = true) : AY σ S2 ι v c := by
 induction h with
 | st h => exact .st h
 | full h => exact .full h
 | row h1 h2 h3 h4 =>
  rw [AC.clear] at hc
  obtain ⟨b', q1, q2, q3⟩ := hS _ _ (by simpa using hc) h1
  exact .row q1 (by rw [q2]; exact h2) h3 (by rw [q2]; exact h4)
 | part h1 h2 h3 h4 =>
  rw [AC.clear] at hc
  obtain ⟨b', q1, q2, q3⟩ := hS _ _ (by simpa using hc) h1
  exact .part q1 (by rw [q2]; exact h2) h3 (by rw [q2]; exact h4)
 | rest h1 h2 h3 h4 =>
  rw [AC.clear] at hc
  obtain ⟨b', q1, q2, q3⟩ := hS _ _ (by simpa using hc) h1
  exact .rest q1 (by rw [q2]; exact h2) h3 (by rw [q2, q3]; exact h4)
 | ptr h1 h2 h3 h4 =>
  rw [AC.clear] at hc
  obtain ⟨b', q1, q2, q3⟩ := hS _ _ (by simpa using hc) h1
  exact .ptr q1 (by rw [q2]; exact h2) h3 (by rw [q2, q3]; exact h4)
 | mptr h1 h2 h3 h4 =>
  rw [AC.clear] at hc
  obtain ⟨b', q1, q2, q3⟩ := hS _ _ (by simpa using hc) h1
  exact .mptr q1 (by rw [q2]; exact h2) h3 (by rw [q2]; exact h4)
 | yld h1 h2 h3 h4 =>
  rw [AC.clear] at hc
  obtain ⟨b', q1, q2, q3⟩ := hS _ _ (by simpa using hc) h1
  exact .yld q1 (by rw [q2]; exact h2) h3 (by rw [q2]; exact h4)
 | ubool => exact .ubool
 | eptr c h1 h2 hh => exact .eptr c h1 h2 hh
 | fn c h1 h2 h3 ih =>
  rw [AC.clear] at hc
  exact .fn c h1 h2 (fun j a ha => ih j a ha (G9 hc a (List.mem_of_getElem? ha)))
 | any h => exact .any h
theorem AY.purge (hds : ∀ d ∈ ds, d < 1000) {v : Value} {c : AC} (h : AY σ s.S ι v c) : AY σ (s.drop ds).S ι v (c.purge ds) := by
 have h0 := h
 cases h with
 | st h => exact .st h
 | full h => exact .full h
 | @row _ id n b h1 h2 h3 h4 =>
  simp only [AC.purge]
  split
  ·exact .any h3
  ·rename_i hn
   exact .row (b := b.purge ds) (by simp only [AS.drop, As, hn]; rw [h1]; rfl) (by rw [A4]; exact h2) h3 (by rw [A4]; exact h4)
 | @part _ id k n b h1 h2 h3 h4 =>
  simp only [AC.purge]
  split
  ·exact .any h3
  ·rename_i hn
   exact .part (b := b.purge ds) (by simp only [AS.drop, As, hn]; rw [h1]; rfl) (by rw [A4]; exact h2) h3 (by rw [A4]; exact h4)
 | @rest _ id k n b h1 h2 h3 h4 =>
  simp only [AC.purge]
  split
  ·exact .any h3
  ·rename_i hn
   exact .rest (b := b.purge ds) (by simp only [AS.drop, As, hn]; rw [h1]; rfl) (by rw [A4]; exact h2) h3 (by rw [A4, Ek]; exact h4)
 | @ptr _ id n k off b h1 h2 h3 h4 =>
  simp only [AC.purge]
  split
  ·exact .any h3
  ·rename_i hn
   exact .ptr (b := b.purge ds) (by simp only [AS.drop, As, hn]; rw [h1]; rfl) (by rw [A4]; exact h2) h3 (by rw [A4, Ek]; exact h4)
 | @mptr _ id b h1 h2 h3 h4 =>
  simp only [AC.purge]
  split
  ·exact .any h3
  ·rename_i hn
   exact .mptr (b := b.purge ds) (by simp only [AS.drop, As, hn]; rw [h1]; rfl) (by rw [A4]; exact h2) h3 (by rw [A4]; exact h4)
 | @yld _ id b h1 h2 h3 h4 =>
  simp only [AC.purge]
  split
  ·exact .any h3
  ·rename_i hn
   exact .yld (b := b.purge ds) (by simp only [AS.drop, As, hn]; rw [h1]; rfl) (by rw [A4]; exact h2) h3 (by rw [A4]; exact h4)
 | ubool => exact .ubool
 | eptr c h1 h2 hh => exact .eptr c h1 h2 hh
 | @fn f vs caps c h1 h2 h3 =>
  simp only [AC.purge]
  split
  ·rename_i hh
   exact h0.keepClear (ds := ds) (fun id b hid hb => ⟨b.purge ds, by
    show As ds s.S id = _
    unfold As
    rw [hid, hb]
    rfl, A4 b, Ek b⟩) (by rw [AC.clear]; exact hh)
  ·exact .any rfl
 | any h => exact .any h
mutual
theorem AO.purge (hds : ∀ d ∈ ds, d < 1000) : ∀ {v : Value} {c : AV}, AO σ s.S ι v c → AO σ (s.drop ds).S ι v (c.purge ds)
 | v, .one c, h => by cases h with | one h => exact .one (h.purge hds)
 | v, .agg cs, h => by cases h with | agg h => exact .agg ((h.mono fun _ _ x => x.purge hds).map_right)
 | v, .tup vs, h => by
  cases h with
  | tup c h1 h2 h3 =>
   obtain ⟨k1, k2⟩ := AO.purges hds (c := c) h3
   exact .tup c (by rw [h1, k1]) (fun j b hb => by
    rcases Nat.lt_or_ge j vs.length with hj | hj
    ·exact h2 j _ (List.getElem?_eq_getElem hj)
    ·rw [List.getElem?_eq_none (by omega)] at hb; cases hb) k2
 | v, .any, h => .any
theorem AO.purges (hds : ∀ d ∈ ds, d < 1000) : ∀ {vs : List AV} {c : Nat → Value}, (∀ j b, vs[j]? = some b → AO σ s.S ι (c j) b) → vs.length = (AV.purges ds vs).length ∧ ∀ j b, (AV.purges ds vs)[j]? = some b → AO σ (s.drop ds).S ι (c j) b
 | [], c, h => by simp [AV.purges]
 | x :: xs, c, h => by
  obtain ⟨m1, m2⟩ := AO.purges hds (vs := xs) (c := fun j => c (j + 1)) (fun j b hb => h (j + 1) b (by simpa using hb))
  refine ⟨by simp [AV.purges, ← m1], fun j b hb => ?_⟩
  cases j with
  | zero =>
   simp [AV.purges] at hb
   subst hb
   exact AO.purge hds (h 0 x rfl)
  | succ j => exact m2 j b (by simpa [AV.purges] using hb)
end
theorem BR.purge (hds : ∀ d ∈ ds, d < 1000) {h : Hnd} {b : AJ} (hr : BR σ s.S ι w h b) : BR σ (s.drop ds).S ι w h (b.purge ds) := by
 cases hr with
 | box h1 h2 h3 h4 h5 => exact .box h1 h2 h3 ((h4.mono fun _ _ x => x.purge hds).map_right) h5
 | crow h1 h2 h3 hc hm h4 h5 => exact .crow h1 h2 h3 (by simpa using hc) hm (by rw [List.length_map]; exact (h4.mono fun _ _ x => x.purge hds).map_right) h5
 | afull h1 h2 h3 h4 => exact .afull h1 h2 h3 h4
 | arow h1 h2 h3 h4 h5 h6 h7 h8 h9 hh => exact .arow h1 h2 h3 h4 h5 h6 h7 h8 h9 hh
 | mnil h1 h2 => exact .mnil h1 h2
 | mrow h1 h2 h3 h4 h5 h6 h7 h8 h9 => exact .mrow h1 h2 h3 h4 h5 h6 h7 h8 h9
 | map h1 h2 h3 h4 => exact .map h1 h2 h3 h4
 | memo h1 h2 h3 h4 => exact .memo h1 h2 h3 h4
 | iter h1 h2 h3 h4 => exact .iter h1 h2 (h3.purge hds) h4
 | loop h1 h2 h3 h4 h5 =>
  obtain ⟨k1, k2⟩ := AO.purges hds h4
  exact .loop h1 h2 (by rw [← k1]; exact h3) k2 h5
 | dead h1 => exact .dead h1
theorem EY {id : Nat} {b : AJ} (h : (s.drop ds).S id = some b) : ∃ b', s.S id = some b' ∧ b = b'.purge ds := by
 simp only [AS.drop, As] at h
 split at h
 ·cases h
 ·rw [Option.map_eq_some_iff] at h
  obtain ⟨b', h1, h2⟩ := h
  exact ⟨b', h1, h2.symm⟩
theorem Aa.drop (ds : List Nat) (s : AS) (hds : ∀ d ∈ ds, d < 1000) : Aa C s (s.drop ds) := fun a w ⟨σ, ι, R⟩ => by
 refine ⟨σ, ι, R.size, fun i hi => (R.env i hi).purge hds, R.nod, R.fit, fun id b h => ?_, fun id id' b b' g h1 h2 g1 g2 => ?_, fun id b g h hg => ?_, R.ext, R.old, R.os, R.grown, R.same, fun id b hb => ?_⟩
 ·obtain ⟨b', h1, rfl⟩ := EY h
  exact (R.blk id b' h1).purge hds
 ·obtain ⟨c1, k1, _⟩ := EY h1
  obtain ⟨c2, k2, _⟩ := EY h2
  exact R.inj _ _ _ _ _ k1 k2 g1 g2
 ·obtain ⟨c1, k1, _⟩ := EY h
  exact R.base _ _ _ k1 hg
 ·obtain ⟨b', h1, h2, h3⟩ := R.upd id b hb
  have hid := (C.clean id b hb).1
  have hnc : ds.contains id = false := by
   cases hc : ds.contains id with
   | false => rfl
   | true =>
    have := hds id (List.contains_iff_mem.1 hc)
    omega
  refine ⟨b'.purge ds, by simp only [AS.drop, As, hnc]; rw [h1]; rfl, by rw [A4]; exact h2, fun hl => ?_⟩
  rw [A4] at hl
  rw [Ek]
  exact h3 hl
theorem Aa.share {id : Nat} {e : TypeId} {wd : Nat} {xs : List (List SV)} (hS : s.S id = some (.mrow e wd xs)) : Aa C s (s.set id (.arow e wd xs)) := fun a w ⟨σ, ι, R⟩ => by
 have hb := R.blk _ _ hS
 have hι : AB ι id (ι id) = ι := by
  funext k
  unfold AB
  split
  ·rename_i h; rw [h]
  ·rfl
 cases hb with
 | mnil h1 h2 =>
  obtain ⟨hu, R'⟩ := R.turn (w' := w) hS (.arow e wd []) (ι id) (σ' := σ) (fun _ _ h => h) (fun _ _ _ => rfl) R.fit (Nat.le_refl _) (fun _ => ⟨rfl, rfl⟩) ⟨rfl, rfl, rfl⟩ (Nat.le_refl _) (fun _ _ _ => rfl) (fun g h => .inl h) (fun hu => .afull h1 (by simpa using h2) (by simp) (.list (b := 0) (o := 0) (w := 0) (fun _ _ => undef) rfl (by simp) (by rw [h2]; simp [maxLen]) (fun _ => h2) (by simp) (by simp) (fun _ h _ => absurd h (by omega)) (by simp) (by simp)))
  exact ⟨σ, _, R'⟩
 | @mrow _ _ _ g vs h1 h2 h3 h4 h5 h6 h7 h8 h9 =>
  have hl : At σ vs.toList wd xs := ⟨h7, fun k x j y hx hy => by simpa using h8 k x j y hx hy⟩
  have hkeep := Eo (σ := σ) (w' := w) (g := g) (k := xs.length * wd) (fun p x e hx => by rw [h9 _ e] at hx; cases hx)
  obtain ⟨hu, R'⟩ := R.turn (w' := w) hS (.arow e wd xs) (ι id) (σ' := DA σ w g (xs.length * wd)) hkeep (fun p hp _ => EV (fun e => hp (by rw [e]; exact h1))) (DR R.fit) (Nat.le_refl _) (fun _ => ⟨rfl, rfl⟩) ⟨rfl, rfl, rfl⟩ (Nat.le_refl _) (fun _ _ _ => rfl) (fun g h => .inl h)
   (fun hu => by
    have := GG (S' := (s.set id (.arow e wd xs)).S) (ι' := AB ι id (ι id)) (w' := w) (p := (ι id).p) h2 h3 h4 h5 h6 hl hkeep (fun p hp hne => absurd (h9 p hp) hne)
    rw [← h1] at this
    exact this)
  exact ⟨_, _, R'⟩
theorem Aa.own (t id : Nat) (e : TypeId) (wd : Nat) {xs : List (List SV)} (ht : s.env t = .one (.full xs)) (hid : s.S id = none) (hw : ∀ x ∈ xs, x.length = wd) (hn : t < C.n) : Aa C s ⟨AB s.env t (.one (.row id xs.length)), AB s.S id (some (.arow e wd xs))⟩ := fun a w ⟨σ, ι, R⟩ => by
 have rt := R.env t hn
 rw [ht] at rt
 generalize hv : a.tmps.getD t undef = v at rt
 cases AP rt with
 | @full p len xs hs =>
  have hl : len = xs.length := by
   obtain ⟨p', cap', e1, _⟩ := B7 hs
   cases e1
   rfl
  subst hl
  obtain ⟨hu, R'⟩ := R.fresh (w' := w) hid (.arow e wd xs) ⟨p, xs.length, none⟩ (Ext.refl _ _) R.fit (Below.refl _ _) (by simp) (fun S' ι' hu => .afull rfl rfl hw hs)
  refine ⟨σ, _, R'.size, fun i hi => ?_, R'.nod, R'.fit, R'.blk, R'.inj, R'.base, R'.ext, R'.old, R'.os, R'.grown, R'.same, R'.upd⟩
  show AO σ (s.set id (.arow e wd xs)).S _ _ (AB s.env t _ i)
  unfold AB
  split
  ·rename_i e1
   subst e1
   rw [hv]
   exact .one (.row (b := .arow e wd xs) (by simp [AS.set, AD]) (Nat.le_refl _) rfl fun _ => by simp [AB])
  ·exact R'.env i hi
theorem Aa.ownM (t id : Nat) (e : TypeId) (wd : Nat) (ht : s.env t = .one (.full [])) (hid : s.S id = none) (hn : t < C.n) : Aa C s ⟨AB s.env t (.one (.row id 0)), AB s.S id (some (.mrow e wd []))⟩ := fun a w ⟨σ, ι, R⟩ => by
 have rt := R.env t hn
 rw [ht] at rt
 generalize hv : a.tmps.getD t undef = v at rt
 cases AP rt with
 | @full p len xs hs =>
  have hl : len = 0 := by
   obtain ⟨p', cap', e1, _⟩ := B7 hs
   cases e1
   rfl
  subst hl
  obtain ⟨hu, R'⟩ := R.fresh (w' := w) hid (.mrow e wd []) ⟨p, 0, none⟩ (Ext.refl _ _) R.fit (Below.refl _ _) (by simp) (fun S' ι' hu => .mnil rfl rfl)
  refine ⟨σ, _, R'.size, fun i hi => ?_, R'.nod, R'.fit, R'.blk, R'.inj, R'.base, R'.ext, R'.old, R'.os, R'.grown, R'.same, R'.upd⟩
  show AO σ (s.set id (.mrow e wd [])).S _ _ (AB s.env t _ i)
  unfold AB
  split
  ·rename_i e1
   subst e1
   rw [hv]
   exact .one (.row (b := .mrow e wd []) (by simp [AS.set, AD]) (Nat.le_refl _) rfl fun _ => by simp [AB])
  ·exact R'.env i hi
theorem Aa.keep (t id k n : Nat) {e : TypeId} {wd : Nat} {xs : List (List SV)} (ht : s.env t = .one (.part id k n)) (hS : s.S id = some (.arow e wd xs)) (hl : n = xs.length) (hn : t < C.n) : Aa C s ⟨AB s.env t (.one (.st (.list (xs.take k)))), s.S⟩ := fun a w ⟨σ, ι, R⟩ => by
 have rt := R.env t hn
 rw [ht] at rt
 refine ⟨σ, ι, R.size, fun i hi => ?_, R.nod, R.fit, R.blk, R.inj, R.base, R.ext, R.old, R.os, R.grown, R.same, R.upd⟩
 show AO σ s.S ι _ (AB s.env t _ i)
 unfold AB
 split
 ·rename_i e1
  subst e1
  obtain ⟨b, h1, h2, h3⟩ := Dc (AP rt)
  rw [hS] at h1
  cases h1
  obtain ⟨h4, h5⟩ := h3 hl
  rw [h5]
  have hb := R.blk _ _ hS
  have hr := hb.srep
  have hmem : ∀ {kk x}, (xs.take k)[kk]? = some x → xs[kk]? = some x := fun hx => by
   rw [List.getElem?_take] at hx
   split at hx
   ·exact hx
   ·cases hx
  cases hr with
  | @list p len cap b o w' _ c q1 q2 q3 q4 q5 q6 qh q7 q8 =>
   exact .one (.st (.list (b := b) (o := o) (w := w') c (by rw [List.length_take]; omega) (by omega) q3 q4 (fun hne => q5 (by omega)) (fun x hx => q6 x (List.mem_of_mem_take hx)) (fun e1 e2 e3 => qh e1 e2 (fun e4 => e3 (by rw [e4]; exact List.take_nil))) (fun kk x j a hx ha => q7 kk x j a (hmem hx) ha) (fun kk x j a hx ha => q8 kk x j a (hmem hx) ha)))
 ·exact R.env i hi
theorem Aa.ownC (id j nid : Nat) (e : TypeId) (wd : Nat) {xs : List (List SV)} {ty : TypeId} {cs : List AC} (hb : s.S id = some (.box ty cs)) (hc : cs[j]? = some (.full xs)) (hn : s.S nid = none) (hw : ∀ x ∈ xs, x.length = wd) :
  Aa C s ((s.set nid (.arow e wd xs)).set id (.box ty (cs.set j (.row nid xs.length)))) := fun a w ⟨σ, ι, R⟩ => by
 have hbk := R.blk id _ hb
 have hne : id ≠ nid := fun e => by subst e; rw [hb] at hn; cases hn
 cases hbk with
 | @box _ _ g vs h1 h2 h3 h4 h5 =>
  obtain ⟨v, hv, hr⟩ := h4.get hc
  cases hr with
  | @full p len xs hs =>
   have hl : len = xs.length := by
    obtain ⟨p', cap', e1, _⟩ := B7 hs
    cases e1
    rfl
   subst hl
   obtain ⟨hu, R'⟩ := R.fresh (w' := w) hn (.arow e wd xs) ⟨p, xs.length, none⟩ (Ext.refl _ _) R.fit (Below.refl _ _) (by simp) (fun S' ι' hu => .afull rfl rfl hw hs)
   have hb' : (s.set nid (.arow e wd xs)).S id = some (.box ty cs) := by simp [AS.set, AE _ hne, hb]
   have hι : AB ι nid ⟨p, xs.length, none⟩ id = ι id := AE _ hne _
   obtain ⟨hu2, R2⟩ := R'.turn (w' := w) hb' (.box ty (cs.set j (.row nid xs.length))) (AB ι nid ⟨p, xs.length, none⟩ id) (σ' := σ) (fun _ _ h => h) (fun _ _ _ => rfl) R.fit (Nat.le_refl _) (fun _ => ⟨by simp [AJ.wid], rfl⟩) ⟨rfl, rfl, rfl⟩ (Nat.le_refl _) (fun _ _ _ => rfl) (fun g h => .inl h) (fun hu2 => by
    refine .box (by rw [hι]; exact h1) (by rw [hι]; exact h2) h3 (AU.of_get (by rw [List.length_set]; exact h4.len) fun k u c hu' hck => ?_) h5
    by_cases hk : k = j
    ·subst hk
     rw [hv] at hu'
     cases hu'
     have hlt : k < cs.length := (List.getElem?_eq_some_iff.1 hc).1
     rw [List.getElem?_set_self hlt] at hck
     cases hck
     exact .row (b := .arow e wd xs) (by simp [AS.set, AB, hne.symm]) (Nat.le_refl _) rfl fun _ => by simp [AB, hne.symm]
    ·rw [List.getElem?_set_ne (fun e => hk e.symm)] at hck
     obtain ⟨u', q1, q2⟩ := h4.get hck
     rw [hu'] at q1
     cases q1
     exact (q2.mono (fun _ _ h => h) hu).mono (fun _ _ h => h) hu2)
   exact ⟨_, _, R2⟩
theorem P8 {v : Value} {c : AV} (h : AO σ noS noH v c) : AO σ s.S ι v c := h.mono (fun _ _ h => h) (FP _ _)
def AV.low (v : AV) : AV := if v.high then v else .any
theorem AM.low (R : AM C σ ι s a w) (hb : ∀ i b, 1000 ≤ i → s.S i = some b → b.high = true) : AM C σ ι ⟨fun i => (s.env i).low, Bv s.S⟩ a w := by
 have hS : ∀ i b, 1000 ≤ i → s.S i = some b → Bv s.S i = some b := fun i b hi h => by
  show (if i < 1000 then none else s.S i) = some b
  rw [if_neg (by omega), h]
 have hinv : ∀ i b, Bv s.S i = some b → 1000 ≤ i ∧ s.S i = some b := fun i b h => by
  have h' : (if i < 1000 then none else s.S i) = some b := h
  split at h'
  ·cases h'
  ·exact ⟨by omega, h'⟩
 refine ⟨R.size, fun i hi => ?_, R.nod, R.fit, fun id b h => ?_, fun id id' b b' g h1 h2 g1 g2 => R.inj _ _ _ _ g (hinv _ _ h1).2 (hinv _ _ h2).2 g1 g2, fun id b g h hg => R.base _ _ g (hinv _ _ h).2 hg, R.ext, R.old, R.os, R.grown, R.same, fun id b h => ?_⟩
 ·show AO σ (Bv s.S) ι _ ((s.env i).low)
  unfold AV.low
  split
  ·rename_i hh
   exact (R.env i hi).low hS hh
  ·exact .any
 ·obtain ⟨h1, h2⟩ := hinv _ _ h
  have hh := hb id b h1 h2
  cases R.blk id b h2 with
  | box k1 k2 k3 k4 k5 => exact .box k1 k2 k3 (Hp hS k4 hh) k5
  | crow k1 k2 k3 kc km k4 k5 => exact .crow k1 k2 k3 kc km (Hp hS k4 hh) k5
  | afull k1 k2 k3 k4 => exact .afull k1 k2 k3 k4
  | arow k1 k2 k3 k4 k5 k6 k7 k8 k9 kh => exact .arow k1 k2 k3 k4 k5 k6 k7 k8 k9 kh
  | mnil k1 k2 => exact .mnil k1 k2
  | mrow k1 k2 k3 k4 k5 k6 k7 k8 k9 => exact .mrow k1 k2 k3 k4 k5 k6 k7 k8 k9
  | map k1 k2 k3 k4 => exact .map k1 k2 k3 k4
  | memo k1 k2 k3 k4 => exact .memo k1 k2 k3 k4
  | iter k1 k2 k3 k4 => exact .iter k1 k2 (k3.low hS hh) k4
  | loop k1 k2 k3 k4 k5 => exact .loop k1 k2 k3 (AO.lows hS k4 hh) k5
  | dead k1 => exact .dead k1
 ·obtain ⟨b', h1, h2⟩ := R.upd id b h
  exact ⟨b', hS _ _ (C.clean id b h).1 h1, h2⟩
theorem Aa.low (hb : ∀ i b, 1000 ≤ i → s.S i = some b → b.high = true) : Aa C s ⟨fun i => (s.env i).low, Bv s.S⟩ := fun a w ⟨σ, ι, R⟩ => ⟨σ, ι, R.low hb⟩
def BH (id a : Nat) (i : Nat) : Nat := if i = id then a else i
def AV.hand (id a : Nat) (v : AV) : AV := if (v.ren (BH id a)).high then v.ren (BH id a) else .any
section
variable {S S2 : AA} {ι2 : Ah} {id a0 : Nat}
theorem AY.hand (hS : ∀ i b, 1000 ≤ BH id a0 i → S i = some b → S2 (BH id a0 i) = some b ∧ ι2 (BH id a0 i) = ι i) {v : Value} {c : AC} (h : AY σ S ι v c) (hc : (c.ren (BH id a0)).high = true) : AY σ S2 ι2 v (c.ren (BH id a0)) := by
 induction h with
 | st h => exact .st h
 | full h => exact .full h
 | row h1 h2 h3 h4 =>
  rw [AC.ren, AC.high] at hc
  obtain ⟨q1, q2⟩ := hS _ _ (of_decide_eq_true hc) h1
  rw [AC.ren]
  exact .row q1 h2 h3 (fun hn => by rw [q2]; exact h4 hn)
 | part h1 h2 h3 h4 =>
  rw [AC.ren, AC.high] at hc
  obtain ⟨q1, q2⟩ := hS _ _ (of_decide_eq_true hc) h1
  rw [AC.ren]
  exact .part q1 h2 h3 (fun hn => by rw [q2]; exact h4 hn)
 | rest h1 h2 h3 h4 =>
  rw [AC.ren, AC.high] at hc
  obtain ⟨q1, q2⟩ := hS _ _ (of_decide_eq_true hc) h1
  rw [AC.ren]
  exact .rest q1 h2 h3 (fun hn => by rw [q2]; exact h4 hn)
 | ptr h1 h2 h3 h4 =>
  rw [AC.ren, AC.high] at hc
  obtain ⟨q1, q2⟩ := hS _ _ (of_decide_eq_true hc) h1
  rw [AC.ren]
  exact .ptr q1 h2 h3 (fun hn => by rw [q2]; exact h4 hn)
 | mptr h1 h2 h3 h4 =>
  rw [AC.ren, AC.high] at hc
  obtain ⟨q1, q2⟩ := hS _ _ (of_decide_eq_true hc) h1
  rw [AC.ren]
  exact .mptr q1 h2 h3 (fun hn => by rw [q2]; exact h4 hn)
 | yld h1 h2 h3 h4 =>
  rw [AC.ren, AC.high] at hc
  obtain ⟨q1, q2⟩ := hS _ _ (of_decide_eq_true hc) h1
  rw [AC.ren]
  exact .yld q1 h2 h3 (fun hn => by rw [q2]; exact h4 hn)
 | ubool => exact .ubool
 | eptr c h1 h2 hh => exact .eptr c h1 h2 hh
 | @fn f vs caps c h1 h2 h3 ih =>
  rw [AC.ren, AC.high] at hc
  rw [AC.ren]
  have key : ∀ (j : Nat) (b : AC), (AC.rens (BH id a0) caps)[j]? = some b → ∃ a, caps[j]? = some a ∧ b = a.ren (BH id a0) := fun j b hb => by
   rw [AC.rens_eq, List.getElem?_map, Option.map_eq_some_iff] at hb
   obtain ⟨a, ha, rfl⟩ := hb
   exact ⟨a, ha, rfl⟩
  refine .fn c (by rw [AC.rens_eq]; simpa using h1) (fun j b hb => ?_) (fun j b hb => ?_)
  ·obtain ⟨a, ha, rfl⟩ := key j b hb
   exact h2 j a ha
  ·have hm := BV hc b (List.mem_of_getElem? hb)
   obtain ⟨a, ha, rfl⟩ := key j b hb
   exact ih j a ha hm
 | any h => exact .any h
mutual
theorem AO.hand (hS : ∀ i b, 1000 ≤ BH id a0 i → S i = some b → S2 (BH id a0 i) = some b ∧ ι2 (BH id a0 i) = ι i) : ∀ {v : Value} {c : AV}, AO σ S ι v c → (c.ren (BH id a0)).high = true → AO σ S2 ι2 v (c.ren (BH id a0))
 | v, .one c, h, hc => by
  rw [AV.ren] at hc ⊢
  rw [AV.high] at hc
  cases h with | one h => exact .one (h.hand hS hc)
 | v, .agg cs, h, hc => by
  rw [AV.ren] at hc ⊢
  rw [AV.high] at hc
  cases h with
  | agg h =>
   refine .agg (AU.of_get (by rw [AC.rens_eq]; simpa using h.len) fun j x c hx hcj => ?_)
   have hm := BV hc c (List.mem_of_getElem? hcj)
   rw [AC.rens_eq, List.getElem?_map, Option.map_eq_some_iff] at hcj
   obtain ⟨c', hc', rfl⟩ := hcj
   obtain ⟨x', h1, h2⟩ := h.get hc'
   rw [hx] at h1
   cases h1
   exact h2.hand hS hm
 | v, .tup vs, h, hc => by
  rw [AV.ren] at hc ⊢
  rw [AV.high] at hc
  cases h with
  | tup c h1 h2 h3 =>
   obtain ⟨k1, k2⟩ := AO.hands hS h3 hc
   exact .tup c (by rw [h1, k1]) (fun j b hb => by
    rcases Nat.lt_or_ge j vs.length with hj | hj
    ·exact h2 j _ (List.getElem?_eq_getElem hj)
    ·rw [List.getElem?_eq_none (by omega)] at hb; cases hb) k2
 | v, .any, h, _ => .any
theorem AO.hands (hS : ∀ i b, 1000 ≤ BH id a0 i → S i = some b → S2 (BH id a0 i) = some b ∧ ι2 (BH id a0 i) = ι i) : ∀ {vs : List AV} {c : Nat → Value}, (∀ j b, vs[j]? = some b → AO σ S ι (c j) b) → AV.highs (AV.rens (BH id a0) vs) = true → vs.length = (AV.rens (BH id a0) vs).length ∧ ∀ j b, (AV.rens (BH id a0) vs)[j]? = some b → AO σ S2 ι2 (c j) b
 | [], c, h, _ => by simp [AV.rens]
 | x :: xs, c, h, hc => by
  rw [AV.rens, AV.highs, Bool.and_eq_true] at hc
  obtain ⟨m1, m2⟩ := AO.hands hS (vs := xs) (c := fun j => c (j + 1)) (fun j b hb => h (j + 1) b (by simpa using hb)) hc.2
  refine ⟨by simp [AV.rens, ← m1], fun j b hb => ?_⟩
  cases j with
  | zero =>
   simp [AV.rens] at hb
   subst hb
   exact AO.hand hS (h 0 x rfl) hc.1
  | succ j => exact m2 j b (by simpa [AV.rens] using hb)
end
end
theorem AY.stay {S S2 : AA} {ι2 : Ah} (hS : ∀ i b, 1000 ≤ i → S i = some b → S2 i = some b ∧ ι2 i = ι i) {v : Value} {c : AC} (h : AY σ S ι v c) (hc : c.high = true) : AY σ S2 ι2 v c := by
 induction h with
 | st h => exact .st h
 | full h => exact .full h
 | row h1 h2 h3 h4 =>
  rw [AC.high] at hc
  obtain ⟨q1, q2⟩ := hS _ _ (of_decide_eq_true hc) h1
  exact .row q1 h2 h3 (fun hn => by rw [q2]; exact h4 hn)
 | part h1 h2 h3 h4 =>
  rw [AC.high] at hc
  obtain ⟨q1, q2⟩ := hS _ _ (of_decide_eq_true hc) h1
  exact .part q1 h2 h3 (fun hn => by rw [q2]; exact h4 hn)
 | rest h1 h2 h3 h4 =>
  rw [AC.high] at hc
  obtain ⟨q1, q2⟩ := hS _ _ (of_decide_eq_true hc) h1
  exact .rest q1 h2 h3 (fun hn => by rw [q2]; exact h4 hn)
 | ptr h1 h2 h3 h4 =>
  rw [AC.high] at hc
  obtain ⟨q1, q2⟩ := hS _ _ (of_decide_eq_true hc) h1
  exact .ptr q1 h2 h3 (fun hn => by rw [q2]; exact h4 hn)
 | mptr h1 h2 h3 h4 =>
  rw [AC.high] at hc
  obtain ⟨q1, q2⟩ := hS _ _ (of_decide_eq_true hc) h1
  exact .mptr q1 h2 h3 (fun hn => by rw [q2]; exact h4 hn)
 | yld h1 h2 h3 h4 =>
  rw [AC.high] at hc
  obtain ⟨q1, q2⟩ := hS _ _ (of_decide_eq_true hc) h1
  exact .yld q1 h2 h3 (fun hn => by rw [q2]; exact h4 hn)
 | ubool => exact .ubool
 | eptr c h1 h2 hh => exact .eptr c h1 h2 hh
 | fn c h1 h2 h3 ih =>
  rw [AC.high] at hc
  exact .fn c h1 h2 (fun j a ha => ih j a ha (BV hc a (List.mem_of_getElem? ha)))
 | any h => exact .any h
theorem AM.hand (R : AM C σ ι s a w) (id a0 : Nat) {b0 : AJ} (hid : id < 1000) (ha : 1000 ≤ a0) (hSa : s.S a0 = none) (hb0 : s.S id = some b0) (hbh : b0.high = true) (hb : ∀ i b, 1000 ≤ i → s.S i = some b → b.high = true) :
  AM C σ (AB ι a0 (ι id)) ⟨fun i => (s.env i).hand id a0, AB (Bv s.S) a0 (some b0)⟩ a w ∧ ∀ i b, 1000 ≤ BH id a0 i → s.S i = some b → AB (Bv s.S) a0 (some b0) (BH id a0 i) = some b ∧ AB ι a0 (ι id) (BH id a0 i) = ι i := by
 have hlow : ∀ i, 1000 ≤ i → Bv s.S i = s.S i := fun i hi => by
  show (if i < 1000 then none else s.S i) = _
  rw [if_neg (by omega)]
 have hS : ∀ i b, 1000 ≤ BH id a0 i → s.S i = some b → AB (Bv s.S) a0 (some b0) (BH id a0 i) = some b ∧ AB ι a0 (ι id) (BH id a0 i) = ι i := fun i b hi h => by
  unfold BH at hi ⊢
  by_cases e : i = id
  ·subst e
   rw [if_pos rfl, AD, AD, ← hb0, h]
   exact ⟨rfl, rfl⟩
  ·rw [if_neg e] at hi ⊢
   have hne : i ≠ a0 := fun e => by subst e; rw [hSa] at h; cases h
   rw [AE _ hne, AE _ hne, hlow i hi]
   exact ⟨h, rfl⟩
 have hS' : ∀ i b, 1000 ≤ i → s.S i = some b → AB (Bv s.S) a0 (some b0) i = some b ∧ AB ι a0 (ι id) i = ι i := fun i b hi h => by
  have hne : i ≠ a0 := fun e => by subst e; rw [hSa] at h; cases h
  rw [AE _ hne, AE _ hne, hlow i hi]
  exact ⟨h, rfl⟩
 have hinv : ∀ i b, AB (Bv s.S) a0 (some b0) i = some b → (i = a0 ∧ b = b0) ∨ (i ≠ a0 ∧ 1000 ≤ i ∧ s.S i = some b) := fun i b h => by
  by_cases e : i = a0
  ·subst e
   rw [AD] at h
   cases h
   exact .inl ⟨rfl, rfl⟩
  ·rw [AE _ e] at h
   have h' : (if i < 1000 then none else s.S i) = some b := h
   split at h'
   ·cases h'
   ·exact .inr ⟨e, by omega, h'⟩
 refine ⟨⟨R.size, fun i hi => ?_, R.nod, R.fit, fun i b h => ?_, fun i j b c g h1 h2 g1 g2 => ?_, fun i b g h hg => ?_, R.ext, R.old, R.os, R.grown, R.same, fun i b h => ?_⟩, hS⟩
 ·show AO σ (AB (Bv s.S) a0 (some b0)) _ _ ((s.env i).hand id a0)
  unfold AV.hand
  split
  ·rename_i hh
   exact (R.env i hi).hand hS hh
  ·exact .any
 ·rcases hinv i b h with ⟨rfl, rfl⟩ | ⟨hne, h1, h2⟩
  ·rw [AD]
   exact (R.blk id _ hb0).samecells (fun v c hv hc => hv.stay hS' hc) hbh
  ·rw [AE _ hne]
   exact (R.blk i b h2).samecells (fun v c hv hc => hv.stay hS' hc) (hb i b h1 h2)
 ·rcases hinv i b h1 with ⟨rfl, rfl⟩ | ⟨hne, k1, k2⟩ <;> rcases hinv j c h2 with ⟨rfl, rfl⟩ | ⟨hne', k1', k2'⟩
  ·rfl
  ·rw [AD] at g1
   rw [AE _ hne'] at g2
   have := R.inj _ _ _ _ g hb0 k2' g1 g2
   omega
  ·rw [AD] at g2
   rw [AE _ hne] at g1
   have := R.inj _ _ _ _ g k2 hb0 g1 g2
   omega
  ·rw [AE _ hne] at g1
   rw [AE _ hne'] at g2
   exact R.inj _ _ _ _ g k2 k2' g1 g2
 ·rcases hinv i b h with ⟨rfl, rfl⟩ | ⟨hne, k1, k2⟩
  ·rw [AD] at hg
   exact R.base _ _ g hb0 hg
  ·rw [AE _ hne] at hg
   exact R.base _ _ g k2 hg
 ·obtain ⟨b', h1, h2, h3⟩ := R.upd i b h
  obtain ⟨q1, q2⟩ := hS' i b' (C.clean i b h).1 h1
  exact ⟨b', q1, h2, fun hl => ⟨(h3 hl).1, by rw [q2]; exact (h3 hl).2⟩⟩
theorem Aa.hand (id a0 : Nat) {b0 : AJ} (hid : id < 1000) (ha : 1000 ≤ a0) (hSa : s.S a0 = none) (hb0 : s.S id = some b0) (hbh : b0.high = true) (hb : ∀ i b, 1000 ≤ i → s.S i = some b → b.high = true) : Aa C s ⟨fun i => (s.env i).hand id a0, AB (Bv s.S) a0 (some b0)⟩ := fun a w ⟨σ, ι, R⟩ =>
 ⟨σ, _, (R.hand id a0 hid ha hSa hb0 hbh hb).1⟩
theorem M5 {C : Ctx} {rs : List RV} {S' : AA} {e : AX} {s : AS} (he : match e with | .normal => True | .ret => True | _ => False) (id a0 : Nat) (r0 : AV) {b0 : AJ} (hid : id < 1000) (ha : 1000 ≤ a0) (hSa : s.S a0 = none) (hb0 : s.S id = some b0) (hbh : b0.high = true) (hb : ∀ i b, 1000 ≤ i → s.S i = some b → b.high = true)
  (h1 : (AK s rs).map AZ = some r0) (hh : (r0.ren (BH id a0)).high = true) (h3 : AB (Bv s.S) a0 (some b0) = S') (hc : Ad S') : Gl C rs (r0.ren (BH id a0)) S' e s :=
 ⟨he, s, ⟨fun i => (s.env i).hand id a0, AB (Bv s.S) a0 (some b0)⟩, r0, Aa.refl _ _, h1, fun σ ι a w R => ⟨σ, _, (R.hand id a0 hid ha hSa hb0 hbh hb).1, fun v hv => hv.hand (R.hand id a0 hid ha hSa hb0 hbh hb).2 hh⟩, h3, hc⟩
theorem CR (S : AA) (i : Nat) : upS S (up1 i) = (S i).map (AJ.ren up1) := by
 show (if i + 1000 < 1000 then none else (S (i + 1000 - 1000)).map (AJ.ren up1)) = _
 rw [if_neg (by omega), Nat.add_sub_cancel]
theorem Fx (S : AA) (i : Nat) (b : AJ) : dnS (AB S (up1 i) (some b)) = AB (dnS S) i (some (b.ren dn1)) := by
 funext k
 show (AB S (up1 i) (some b) (up1 k)).map _ = AB (dnS S) i _ k
 by_cases h : k = i
 ·subst h
  rw [AD, AD]
  rfl
 ·have hne : up1 k ≠ up1 i := fun e => h (by have := congrArg dn1 e; rw [Ge, Ge] at this; exact this)
  rw [AE _ hne, AE _ h]
  rfl
theorem HN (S : AA) {i : Nat} (h : i < 1000) (b : Option AJ) : Bv (AB S i b) = Bv S := by
 funext k
 show (if k < 1000 then none else AB S i b k) = (if k < 1000 then none else S k)
 split
 ·rfl
 ·exact AE _ (by omega) _
theorem Nj (S : AA) {i : Nat} (h : 1000 ≤ i) (b : Option AJ) : Bv (AB S i b) = AB (Bv S) i b := by
 funext k
 show (if k < 1000 then none else AB S i b k) = AB (Bv S) i b k
 by_cases e : k = i
 ·subst e
  rw [if_neg (by omega), AD, AD]
 ·rw [AE _ e, AE _ e]
  rfl
theorem A2 {S : AA} (h : Ad S) {i : Nat} (hi : 1000 ≤ i) {b : AJ} (hb : b.high = true) : Ad (AB S i (some b)) := fun k c hk => by
 by_cases e : k = i
 ·subst e
  rw [AD] at hk
  cases hk
  exact ⟨hi, hb⟩
 ·rw [AE _ e] at hk
  exact h k c hk
theorem Ow {S : AA} {i : Nat} {b : AJ} (h : ∀ k c, 1000 ≤ k → S k = some c → c.high = true) (hb : b.high = true) : ∀ k c, 1000 ≤ k → AB S i (some b) k = some c → c.high = true := fun k c hk hc => by
 by_cases e : k = i
 ·subst e
  rw [AD] at hc
  cases hc
  exact hb
 ·rw [AE _ e] at hc
  exact h k c hk hc
theorem GC {S : AA} {i : Nat} (hi : i < 1000) {b : Option AJ} (h : ∀ k c, 1000 ≤ k → S k = some c → c.high = true) : ∀ k c, 1000 ≤ k → AB S i b k = some c → c.high = true := fun k c hk hc => by
 rw [AE _ (by omega)] at hc
 exact h k c hk hc
end
theorem IWP.loopD {P : Program} {C : Ctx} {mu : List Nat} {Q : AX → AS → Prop} {s : AS} {x : IR} (ds : List Nat) (Inv : Nat → AS → Prop) (m0 : Nat) (h0 : Inv m0 s) (h : ∀ m s, Inv m s → IWP P C mu x (AX.then (fun s' => ∃ m', m' < m ∧ Inv m' (s'.drop ds)) Q) s) (hds : ∀ d ∈ ds, d < 1000 := by decide) : IWP P C mu (.loop x) Q s := by
 refine IWP.loop (fun m s => ∃ s1, Aa C s s1 ∧ Inv m s1) m0 ⟨s, Aa.refl _ _, h0⟩ fun m s ⟨s1, hg, hi⟩ => ?_
 refine (IWP.ghost hg (h m s1 hi)).mono fun e s2 he => ?_
 cases e with
 | normal =>
  obtain ⟨m', h1, h2⟩ := he
  exact ⟨m', h1, _, Aa.drop ds s2 hds, h2⟩
 | _ => exact he
theorem AY.out {σ : Sto} {S : AA} {ι : Ah} {v : Value} {c : AC} (h : AY σ S ι v c) (hc : outC noS c = some c) : AY σ noS noH v c := by
 cases h with
 | st h => exact .st h
 | full h => simp [outC, stC] at hc
 | row h1 h2 h3 h4 => simp [outC, stC, noS] at hc
 | part h1 h2 h3 h4 => simp [outC, stC, noS] at hc
 | rest h1 h2 h3 h4 => simp [outC, stC, noS] at hc
 | ptr h1 h2 h3 h4 => simp [outC, stC] at hc
 | mptr h1 h2 h3 h4 => simp [outC, stC] at hc
 | yld h1 h2 h3 h4 => simp [outC, stC] at hc
 | ubool => exact .ubool
 | eptr c h1 h2 hh => exact .eptr c h1 h2 hh
 | @fn f vs caps c h1 h2 h3 =>
  cases caps with
  | nil => exact .fn c h1 h2 (by simp)
  | cons x xs =>
   have hall : (x :: xs).all AC.stay = true := by
    unfold outC at hc
    by_cases e : (x :: xs).all AC.stay = true
    ·exact e
    ·simp only [e, if_false] at hc
     cases hc
   exact .fn c h1 h2 fun j a ha => (h3 j a ha).staying (List.all_eq_true.1 hall a (List.mem_of_getElem? ha))
 | any h => simp [outC, stC] at hc
theorem Ha : ∀ {cs : List AC}, outCs noS cs = some cs → ∀ c ∈ cs, outC noS c = some c
 | [], _, c, hc => by simp at hc
 | x :: xs, h, c, hc => by
  simp only [outCs] at h
  split at h
  ·rename_i y ys h1 h2
   simp only [Option.some.injEq, List.cons.injEq] at h
   obtain ⟨rfl, rfl⟩ := h
   rcases List.mem_cons.1 hc with rfl | hc
   ·exact h1
   ·exact Ha h2 c hc
  ·cases h
mutual
theorem AO.out {σ : Sto} {S : AA} {ι : Ah} : ∀ {v : Value} {c : AV}, AO σ S ι v c → outV noS c = some c → AO σ noS noH v c
 | v, .one c, h, hc => by
  rw [outV, Option.map_eq_some_iff] at hc
  obtain ⟨a, h1, h2⟩ := hc
  cases h2
  cases h with | one h => exact .one (h.out h1)
 | v, .agg cs, h, hc => by
  rw [outV, Option.map_eq_some_iff] at hc
  obtain ⟨a, h1, h2⟩ := hc
  cases h2
  cases h with
  | agg h => exact .agg (AU.of_get h.len fun j x c hx hcj => by
    obtain ⟨x', q1, q2⟩ := h.get hcj
    rw [hx] at q1
    cases q1
    exact q2.out (Ha h1 c (List.mem_of_getElem? hcj)))
 | v, .tup vs, h, hc => by
  rw [outV, Option.map_eq_some_iff] at hc
  obtain ⟨a, h1, h2⟩ := hc
  cases h2
  cases h with
  | tup c k1 k2 k3 => exact .tup c k1 k2 (AO.outs k3 h1)
 | v, .any, h, _ => .any
theorem AO.outs {σ : Sto} {S : AA} {ι : Ah} : ∀ {vs : List AV} {c : Nat → Value}, (∀ j b, vs[j]? = some b → AO σ S ι (c j) b) → outVs noS vs = some vs → ∀ j b, vs[j]? = some b → AO σ noS noH (c j) b
 | [], c, h, _, j, b, hb => by simp at hb
 | x :: xs, c, h, hc, j, b, hb => by
  rw [outVs] at hc
  split at hc
  ·rename_i y ys h1 h2
   simp only [Option.some.injEq, List.cons.injEq] at hc
   obtain ⟨rfl, rfl⟩ := hc
   cases j with
   | zero =>
    simp at hb
    subst hb
    exact AO.out (h 0 _ rfl) h1
   | succ j => exact AO.outs (c := fun j => c (j + 1)) (fun j b hb => h (j + 1) b (by simpa using hb)) h2 j b (by simpa using hb)
  ·cases hc
end
theorem Og {C : Ctx} {rs : List RV} {r : AV} {S' : AA} {e : AX} {s : AS} (he : match e with | .normal => True | .ret => True | _ => False) (r0 : AV) (h1 : (AK s rs).map AZ = some r0) (h2 : outV s.S r0 = some r) (hb : ∀ i b, 1000 ≤ i → s.S i = some b → b.high = true) (h3 : Bv s.S = S') (hc : Ad S') : Gl C rs r S' e s := by
 refine ⟨he, s, ⟨fun i => (s.env i).low, Bv s.S⟩, r0, Aa.refl _ _, h1, fun σ ι a w R => ?_, h3, hc⟩
 exact ⟨σ, ι, R.low hb, fun v hv => P8 (s := ⟨fun i => (s.env i).low, Bv s.S⟩) (R.outV hv h2)⟩
theorem CS {C : Ctx} {rs : List RV} {r : AV} {e : AX} {s : AS} {S : AA} (r0 : AV) (hS : Ad S) (he : match e with | .normal => True | .ret => True | _ => False)
  (h1 : (AK s rs).map AZ = some r0) (h2 : outV s.S r0 = some r) (h4 : ∀ i, 1000 ≤ i → s.S i = S i) : Gl C rs r S e s :=
 Og he r0 h1 h2 (fun i b hi hb => (hS i b (by rw [← h4 i hi]; exact hb)).2) (by
  funext i
  unfold Bv
  split
  ·exact (B5 hS (by omega)).symm
  ·exact h4 i (by omega)) hS
theorem Lj {C : Ctx} {rs : List RV} {r : AV} {S' : AA} {e : AX} {s s1 : AS} (hg : Aa C s s1) (h : Gl C rs r S' e s1) : Gl C rs r S' e s := by
 obtain ⟨he, s2, s3, r0, h1, h2⟩ := h
 exact ⟨he, s2, s3, r0, hg.trans h1, h2⟩
theorem QW {C : Ctx} {rs : List RV} {e : AX} {s : AS} {ty : TypeId} {w n : Nat} {ys : List (List SV)} {mu : Bool} (he : match e with | .normal => True | .ret => True | _ => False) (id : Nat) (hid : id < 1000) (hb0 : s.S id = some (Gn mu ty w ys)) (hlow : ∀ i, 1000 ≤ i → s.S i = none)
  (h1 : (AK s rs).map AZ = some (.one (.row id n))) : Gl C rs (.one (.row 1000 n)) (fun i => if i = 1000 then some (Gn mu ty w ys) else noS i) e s := by
 have e1 : (AV.one (.row id n)).ren (BH id 1000) = .one (.row 1000 n) := by simp [AV.ren, AC.ren, BH]
 rw [← e1]
 refine M5 he id 1000 _ hid (by decide) (hlow 1000 (by decide)) hb0 (by cases mu <;> rfl) (fun i b hi hb => by rw [hlow i hi] at hb; cases hb) h1 (by rw [e1]; rfl) ?_ ?_
 ·funext i
  unfold AB Bv noS
  by_cases h2 : i = 1000
  ·rw [if_pos h2, if_pos h2]
  ·rw [if_neg h2, if_neg h2]
   split
   ·rfl
   ·exact hlow i (by omega)
 ·intro i b hb
  have hb : (if i = 1000 then some (Gn mu ty w ys) else noS i) = some b := hb
  split at hb
  ·rename_i h2
   cases hb
   exact ⟨by omega, by cases mu <;> rfl⟩
  ·cases hb

theorem Ni (c P Q : Prop) [Decidable c] : ((c → P) ∧ (¬ c → Q)) = if c then P else Q := by
 by_cases h : c <;> simp [h]
theorem Pb {c A B : Prop} [Decidable c] (h : (c → A) ∧ (¬ c → B)) : if c then A else B := by
 by_cases hc : c
 ·rw [if_pos hc]; exact h.1 hc
 ·rw [if_neg hc]; exact h.2 hc
theorem OU (b : Bool) (P Q : Prop) : ((b = true → P) ∧ (b = false → Q)) = if b = true then P else Q := by
 cases b <;> simp
attribute [congr] LF.congr F0.congr
mutual
def EM : Tm → List SV
 | .mk n xs => [.str n, .list (Mn xs)]
def Mn : List Tm → List (List SV)
 | [] => []
 | t :: ts => EM t :: Mn ts
end
theorem LG : ∀ xs : List Tm, Mn xs = xs.map EM
 | [] => rfl
 | t :: ts => by rw [Mn, LG ts]; rfl
theorem Eb (t : Tm) : EM t = [.str t.name, .list (t.args.map EM)] := by
 cases t
 rw [EM, LG]
 rfl
class Lg {α : Type} (f : α → List SV) (n : outParam Nat) : Prop where
 ok : ∀ a, (f a).length = n
theorem Qa {α : Type} {f : α → List SV} {n : Nat} [h : Lg f n] {ts : List α} : ∀ x ∈ ts.map f, x.length = n := fun x hx => by
 obtain ⟨a, _, rfl⟩ := List.mem_map.1 hx
 exact h.ok a
instance : Lg EM 2 := ⟨fun t => by rw [Eb]; rfl⟩
theorem Tm.args_mk (n : ByteArray) (xs : List Tm) : (Tm.mk n xs).args = xs := rfl
theorem Tm.name_mk (n : ByteArray) (xs : List Tm) : (Tm.mk n xs).name = n := rfl
abbrev AR (n : Int) : AV := .one (.st (.int .i64 n))
abbrev BJ (b : Bool) : AV := .one (.st (.bool b))
abbrev HE (s : ByteArray) : AV := .one (.st (.str s))
abbrev aTm (t : Tm) : AV := .agg [.st (.str t.name), .st (.list (t.args.map EM))]
abbrev BE (n : Int) : List SV := [.int .i64 n]
abbrev ES (s : ByteArray) : List SV := [.str s]
abbrev C3 (l : List Int) : AV := .one (.st (.list (l.map BE)))
abbrev Ku (l : List ByteArray) : AV := .one (.st (.list (l.map ES)))
abbrev Qk (l : List Tm) : AV := .one (.st (.list (l.map EM)))
theorem Ap {α : Type} {xs : List α} {k : Nat} (h : k < xs.length) : ∃ a, xs[k]? = some a := ⟨xs[k], List.getElem?_eq_getElem h⟩
theorem Cd (n : Int) : inR .i64 n ↔ -9223372036854775808 ≤ n ∧ n ≤ 9223372036854775807 := by
 simp [inR, IntKind.min, IntKind.max, IntKind.signed, IntKind.bits]
theorem LO {l : List Int} (h : (SV.list (l.map BE)).known) : l.length ≤ maxLen ∧ ∀ n ∈ l, inR .i64 n := by
 obtain ⟨h1, h2⟩ := h
 refine ⟨by simpa using h1, fun n hn => ?_⟩
 have := Dk.1 (DD.1 h2 (BE n) (List.mem_map.2 ⟨n, hn, rfl⟩)) (.int .i64 n) (by simp)
 exact this
theorem Cz : maxLen = 9223372036854775807 := by simp [maxLen]
theorem IU {S : AA} {xs : List (List SV)} (h : (AV.one (.st (.list xs))).known S) : xs.length ≤ 9223372036854775807 := by
 simp only [AV.known, AC.known, SV.known] at h
 rw [Cz] at h
 exact h.1
theorem Kn {S : AA} {t : Tm} (h : (aTm t).known S) : t.name.size ≤ 9223372036854775807 ∧ t.args.length ≤ 9223372036854775807 := by
 have h1 : t.name.size ≤ maxLen := by
  have := h (.st (.str t.name)) (by simp)
  simpa [AC.known, SV.known] using this
 have h2 : t.args.length ≤ maxLen := by
  have := h (.st (.list (t.args.map EM))) (by simp)
  simp only [AC.known, SV.known, List.length_map] at this
  exact this.1
 rw [Cz] at h1 h2
 exact ⟨h1, h2⟩

def Kd.isCall : Kd → Bool
 | .call _ _ => true
 | .callS _ _ => true
 | .callV _ _ => true
 | .callN _ _ => true
 | .callR _ _ => true
 | .callW _ _ => true
 | .callX _ _ => true
 | .callY _ _ => true
 | .buildFlat _ => false
 | .cutP _ _ _ => false
 | .indexP _ _ _ => false
 | .appP _ _ _ _ _ => false
 | .restP _ _ _ => false
 | .appS _ _ _ => false
 | .loadL _ _ _ => false
 | .indexL _ _ _ => false
 | .buildL _ _ => false
 | .fieldL _ _ => false
 | .lenL _ _ => false
 | .appF _ _ _ _ _ _ => false
 | .clearP _ _ _ _ => false
 | .copyP _ _ => false
 | .mov _ => false
 | .pick _ _ _ => false
 | .alloc _ _ => false
 | .box _ _ => false
 | .build _ _ => false
 | .buildSlice _ _ _ _ => false
 | .load _ _ _ => false
 | .store _ _ _ => false
 | .fieldAddr _ _ => false
 | .field _ _ _ _ => false
 | .indexAddr _ _ _ => false
 | .indexArr _ _ _ _ => false
 | .indexStr _ _ => false
 | .bin _ _ _ => false
 | .eqB _ _ _ => false
 | .eqN _ _ => false
 | .eqE _ _ => false
 | .eqP _ _ => false
 | .bits _ _ _ => false
 | .never => false
 | .pan _ => false
 | .iface _ _ => false
 | .strOf _ _ => false
 | .un _ _ => false
 | .sliceS _ _ _ => false
 | .sliceL _ _ _ _ => false
 | .sliceM _ _ _ _ => false
 | .extract _ _ => false
 | .len _ _ => false
 | .append _ _ _ _ _ _ => false
 | .conv _ _ => false
 | .nilCheck _ => false
 | .mm _ _ _ => false
 | .makeSlice _ _ _ _ _ _ => false
 | .makeFunc _ _ => false
 | .makeMap _ => false
 | .lookup _ _ _ _ _ => false
 | .mapSet _ _ _ _ => false
 | .mapEntry _ _ _ _ => false
 | .entrySet _ _ _ => false
 | .rangeM _ => false
 | .next _ => false
 | .entry _ => false
 | .lenM _ => false
 | .buildArr _ => false
 | .makeMemo => false
 | .memoGet _ _ _ _ => false
 | .memoSet _ _ _ => false
inductive ON (P : Program) (f : FuncId) (vs : List AV) (d : Option Nat) (l : List Ins) (s : AS) (K : AS → Prop) : Prop
 | mk (r : AV) (h1 : Ac P f vs r) (h2 : Run P l (s.put d r) K)
inductive Je (P : Program) (f : FuncId) (vs : List AV) (S : AA) (ks : List Nat) (d : Option Nat) (l : List Ins) (env : Nat → AV) (K : AS → Prop) : Prop
 | mk (r : AV) (S' : AA) (h1 : BM P f vs (upS S) r S') (h2 : (∀ k ∈ ks, dnS S' k = S k) ∧ Run P l ((⟨env, dnS S'⟩ : AS).put d (r.ren dn1)) K)
inductive N1 (P : Program) (f : FuncId) (vs : List AV) (ks : List Nat) (d : Option Nat) (l : List Ins) (s : AS) (K : AS → Prop) : Prop
 | mk (mu : Bool) (e : TypeId) (w : Nat) (ys : List (List SV)) (h1 : Gt P f vs e w ys mu) (h2 : s.S (d.getD 0) = none ∧ (∀ k ∈ ks, (s.set (d.getD 0) (Gn mu e w ys)).S k = s.S k) ∧ Run P l ((s.set (d.getD 0) (Gn mu e w ys)).put d (.one (.row (d.getD 0) ys.length))) K)
inductive QX (P : Program) (f : FuncId) (vs : List AV) (d : Option Nat) (l : List Ins) (s : AS) (K : AS → Prop) : Prop
 | mk (r : AV) (rows : List (Nat × AJ)) (h0 : ∀ q ∈ rows, s.S q.1 = some q.2) (h1 : ∀ T : AA, (∀ q ∈ rows, T q.1 = some q.2) → BM P f vs (upS T) r (upS T)) (h2 : Run P l (s.put d (r.ren dn1)) K)
inductive Pf (P : Program) (f : FuncId) (vs : List AV) (ks : List Nat) (d : Option Nat) (l : List Ins) (s : AS) (K : AS → Prop) : Prop
 | mk (r : AV) (rows : List (Nat × AJ × AJ)) (h0 : Md s.S rows) (h1 : ∀ T : AA, Md T rows → BM P f vs (upS T) r (upS (Dy T rows))) (h2 : (∀ k ∈ ks, Dy s.S rows k = s.S k) ∧ Run P l ((⟨s.env, Dy s.S rows⟩ : AS).put d (r.ren dn1)) K)
inductive JS (P : Program) (S : AA) (hs : Bool) (G : AA → (AV → AA → Prop) → Prop) (d : Option Nat) (l : List Ins) (env : Nat → AV) (K : AS → Prop) : Prop
 | mk (T : AA) (Post : AV → AA → Prop) (h1 : Ad T) (h2 : ∀ i, 1000 ≤ i → S i = T i) (h3 : hs = true) (h4 : G T Post) (h5 : ∀ r S', Ad S' → Post r S' → Run P l ((⟨env, CO S S'⟩ : AS).put d r) K)
def Kd.goC (P : Program) (d : Option Nat) (s : AS) (t : Tag) (l : List Ins) (K : AS → Prop) : Kd → Prop
 | .call f xs => match t with
  | .no => match outVs s.S (s.evs xs) with
   | some vs => ON P f vs d l s K
   | none => False
  | _ => False
 | .callR f xs => match t with
  | .no => QX P f (AV.rens up1 (s.evs xs)) d l s K
  | _ => False
 | .callW f xs => match t with
  | .no => Pf P f (AV.rens up1 (s.evs xs)) [] d l s K
  | .keeps ks => Pf P f (AV.rens up1 (s.evs xs)) ks d l s K
  | .onb _ => False
 | .callX f xs => match t with
  | .no => JS P s.S (AV.highs ((s.evs xs).map (FK s.S))) (Ei P f ((s.evs xs).map (FK s.S))) d l s.env K
  | _ => False
 | .callY f xs => match t with
  | .no => JS P s.S ((s.ev f).high && AV.highs ((s.evs xs).map (FK s.S))) (Cv P (s.ev f) ((s.evs xs).map (FK s.S))) d l s.env K
  | _ => False
 | .callN f xs => match t with
  | .no => match outVs s.S (s.evs xs) with
   | some vs => N1 P f vs [] d l s K
   | none => False
  | .keeps ks => match outVs s.S (s.evs xs) with
   | some vs => N1 P f vs ks d l s K
   | none => False
  | .onb _ => False
 | .callS f xs => match t with
  | .no => Je P f (AV.rens up1 (s.evs xs)) s.S [] d l s.env K
  | .keeps ks => Je P f (AV.rens up1 (s.evs xs)) s.S ks d l s.env K
  | .onb _ => False
 | .callV f xs => match (s.ev f).fnOf with
  | some (g, caps) => B4 P g = true ∧ match t with
   | .no => Je P g (AV.rens up1 (s.evs xs ++ caps.map .one)) s.S [] d l s.env K
   | .keeps ks => Je P g (AV.rens up1 (s.evs xs ++ caps.map .one)) s.S ks d l s.env K
   | .onb _ => False
  | _ => False
 | _ => False
def FI (P : Program) : List Ins → AS → (AS → Prop) → Prop
 | [], s, K => K s
 | i :: l, s, K => match i.kd.isCall with
  | false => match i.guard with
   | none => i.kd.goT P (i.dst.getD 0) s i.tag fun v s' => FI P l (s'.put i.dst v) K
   | some (g, want) => match s.env g with
    | .one (.st (.bool b)) => (b = want → i.kd.goT P (i.dst.getD 0) s i.tag fun v s' => FI P l (s'.put i.dst v) K) ∧ (¬ b = want → FI P l (s.put i.dst (.tup [])) K)
    | .tup [] => FI P l (s.put i.dst (.tup [])) K
    | _ => False
  | true => match i.guard with
   | none => i.kd.goC P i.dst s i.tag l K
   | some (g, want) => match s.env g with
    | .one (.st (.bool b)) => (b = want → i.kd.goC P i.dst s i.tag l K) ∧ (¬ b = want → FI P l (s.put i.dst (.tup [])) K)
    | .tup [] => FI P l (s.put i.dst (.tup [])) K
    | _ => False
section
variable {P : Program}
theorem Mc {kd : Kd} {d : Option Nat} {s : AS} {t : Tag} {l : List Ins} {K : AS → Prop} (h : kd.goC P d s t l K) : kd.goT P (d.getD 0) s t fun v s' => Run P l (s'.put d v) K := by
 cases kd <;> simp only [Kd.goC] at h
 case call f xs =>
  cases t <;> simp only at h
  split at h
  ·rename_i vs e
   obtain ⟨r, h1, h2⟩ := h
   simp only [Kd.goT, Kd.go, e]
   exact ⟨r, h1, trivial, h2⟩
  ·exact h.elim
 case callN f xs =>
  cases t <;> simp only at h
  ·split at h
   ·rename_i vs e
    obtain ⟨mu, ty, w, ys, h1, h2, _, h3⟩ := h
    simp only [Kd.goT, Kd.go, e]
    exact ⟨mu, ty, w, ys, h1, h2, trivial, h3⟩
   ·exact h.elim
  ·split at h
   ·rename_i vs e
    obtain ⟨mu, ty, w, ys, h1, h2, h4, h3⟩ := h
    simp only [Kd.goT, Kd.go, e]
    exact ⟨mu, ty, w, ys, h1, h2, h4, h3⟩
   ·exact h.elim
 case callW f xs =>
  cases t <;> simp only at h
  ·obtain ⟨r, rows, h0, h1, _, h2⟩ := h
   simp only [Kd.goT, Kd.go]
   exact ⟨r, rows, h0, h1, trivial, h2⟩
  ·obtain ⟨r, rows, h0, h1, hk, h2⟩ := h
   simp only [Kd.goT, Kd.go]
   exact ⟨r, rows, h0, h1, hk, h2⟩
 case callX f xs =>
  cases t <;> simp only at h
  obtain ⟨T, Post, h1, h2, h3, h4, h5⟩ := h
  exact ⟨T, Post, h1, h2, h3, h4, fun r S' k1 k2 => ⟨trivial, h5 r S' k1 k2⟩⟩
 case callY f xs =>
  cases t <;> simp only at h
  obtain ⟨T, Post, h1, h2, h3, h4, h5⟩ := h
  exact ⟨T, Post, h1, h2, h3, h4, fun r S' k1 k2 => ⟨trivial, h5 r S' k1 k2⟩⟩
 case callR f xs =>
  cases t <;> simp only at h
  obtain ⟨r, rows, h0, h1, h2⟩ := h
  simp only [Kd.goT, Kd.go]
  exact ⟨r, rows, h0, h1, trivial, h2⟩
 case callS f xs =>
  cases t <;> simp only at h
  ·obtain ⟨r, S', h1, h2, h3⟩ := h
   exact ⟨r, S', h1, trivial, h3⟩
  ·obtain ⟨r, S', h1, h2, h3⟩ := h
   exact ⟨r, S', h1, h2, h3⟩
 case callV f xs =>
  split at h
  ·rename_i g caps e
   obtain ⟨hp, h⟩ := h
   cases t <;> simp only at h
   ·obtain ⟨r, S', h1, h2, h3⟩ := h
    simp only [Kd.goT, Kd.go, e]
    exact ⟨hp, r, S', h1, trivial, h3⟩
   ·obtain ⟨r, S', h1, h2, h3⟩ := h
    simp only [Kd.goT, Kd.go, e]
    exact ⟨hp, r, S', h1, h2, h3⟩
  ·exact h.elim
theorem Bn : ∀ {l : List Ins} {s : AS} {K : AS → Prop}, FI P l s K → Run P l s K
 | [], s, K, h => h
 | i :: l, s, K, h => by
  unfold FI at h
  unfold Run
  split at h
  ·split at h
   ·rename_i e
    simp only [e]
    exact Da h fun v s' _ h' => Bn h'
   ·rename_i g want e
    simp only [e]
    split at h
    ·rename_i b e2
     simp only [e2]
     exact ⟨fun hb => Da (h.1 hb) fun v s' _ h' => Bn h', fun hb => Bn (h.2 hb)⟩
    ·rename_i e2
     simp only [e2]
     exact Bn h
    ·exact h.elim
  ·split at h
   ·rename_i e
    simp only [e]
    exact Mc h
   ·rename_i g want e
    simp only [e]
    split at h
    ·rename_i b e2
     simp only [e2]
     exact ⟨fun hb => Mc (h.1 hb), fun hb => Bn (h.2 hb)⟩
    ·rename_i e2
     simp only [e2]
     exact Bn h
    ·exact h.elim
theorem F_ {l : List Ins} {s : AS} {K : AS → Prop} {A : Prop} (h : A ∧ FI P l s K) : A ∧ Run P l s K := ⟨h.1, Bn h.2⟩
theorem IWP.ops2 {C : Ctx} {mu : List Nat} {Q : AX → AS → Prop} {s : AS} {l : List Ins} (h : ∀ K : AS → Prop, (∀ s, Q .normal s → K s) → FI P l s K) : IWP P C mu (.ops l) Q s := IWP.opsK fun K hK => Bn (h K hK)
end
attribute [go_sem] P3 OT O0 It Ins.i Ins.m Ins.L Ins.l Ins.f Ins.s Opd.n Gn Dy FI Kd.isCall Kd.goC Kd.goT Tag.ok Kd.ptrOpd EG List.forall_mem_cons List.not_mem_nil Kd.go AS.ev AS.evs AS.put AS.set AB AV.cells Fd Cf EU stP N2 stC stCs outC outCs outV outVs Fu CE Bm B6 Oe DK NX Nd optI Kb splice AJ.len AS.start AS.startS noS List.getElem?_cons_zero List.getElem?_cons_succ List.getElem?_nil List.getElem?_map Option.isSome_none Option.isSome_some Option.map_some Option.map_none Option.getD_some Option.getD_none List.length_map List.length_cons List.length_nil List.length_append List.map_cons List.map_nil List.take_succ_cons List.take_zero List.take_nil List.drop_succ_cons List.drop_zero List.drop_nil List.nil_append List.cons_append List.append_nil Nat.zero_add Nat.add_zero Nat.le_refl Nat.zero_le if_true if_false Bool.false_eq_true true_and and_true Option.some.injEq Int.toNat_natCast Int.natCast_nonneg Int.ofNat_eq_natCast ite_self decide_true decide_false not_true_eq_false not_false_eq_true true_implies false_implies implies_true Bool.true_eq_false eq_self Bool.not_true Bool.not_false beq_self_eq_true Tm.args_mk Tm.name_mk AV.rens AV.ren AC.ren AC.rens AJ.ren CR Ge Fx Jn
theorem Ml (T : AA) (i : Nat) (b : AJ) : upS (AB T i (some b)) = AB (upS T) (up1 i) (some (b.ren up1)) := by
 funext k
 show (if k < 1000 then none else (AB T i (some b) (k - 1000)).map (AJ.ren up1)) = _
 by_cases e : k = up1 i
 ·subst e
  rw [AD, if_neg (by have := BY i; omega), show up1 i - 1000 = i from Ge i, AD]
  rfl
 ·rw [AE _ e]
  by_cases hk : k < 1000
  ·rw [if_pos hk]
   show none = if k < 1000 then none else _
   rw [if_pos hk]
  ·rw [if_neg hk, AE _ (fun h => e (by rw [← h]; exact (HI (by omega)).symm))]
   show _ = if k < 1000 then none else _
   rw [if_neg hk]
abbrev Wa := @IWP.seq
abbrev Wb := @D_
abbrev Wc := @IWP.block
abbrev Wd := @IWP.skip
abbrev We := @IWP.exit
abbrev Wg := @IT
abbrev Wh := @J8
abbrev Wi := @EI
abbrev Wj := @Fq
abbrev Wk := @Fz
abbrev Wl := @GV
abbrev Wm := @IS
abbrev Wn := @KL
abbrev Wo := @IWP.ops2
abbrev Wp := @IWP.cond
abbrev Wq := @Bn
abbrev Wr := @F_
abbrev iC := @Pb
abbrev Cg := @ON.mk
abbrev dT := @decide_eq_true_eq
abbrev dF := @decide_eq_false_iff_not
abbrev nL := @Int.ofNat_lt
abbrev eT := @Eb
abbrev iR := @Cd
attribute [go_sem ↓] Ni OU
theorem Ai {a b : Prop} (k : b) (h : a := by first | omega | exact Qa | (simp [Cz] <;> omega)) : a ∧ b := ⟨h, k⟩
theorem Z0 {id id' : Nat} {Q : AX → AS → Prop} {s : AS} (h : Q (.exit id') s) (hne : id' ≠ id := by decide) : AX.inBlock id Q (.exit id') s := Fz hne h
theorem fN {α : Type} (p : α → Prop) : ∀ x ∈ ([] : List α), p x := List.forall_mem_nil p
class Fm (goal : Prop) (prev : outParam Prop) : Prop where
 imp : prev → goal
theorem W {goal prev : Prop} [s : Fm goal prev] (h : prev) : goal := s.imp h
section
variable {P : Program} {C : Ctx} {mu : List Nat} {x y : IR} {Q : AX → AS → Prop} {s : AS} {id : Nat} {K : AS → Prop}
instance : Fm (IWP P C mu (.seq x y) Q s) (IWP P C mu x (KB P C mu y Q) s) := ⟨IWP.seq⟩
instance : Fm (KB P C mu y Q .normal s) (IWP P C mu y Q s) := ⟨D_⟩
instance : Fm (IWP P C mu (.block id x) Q s) (IWP P C mu x (AX.inBlock id Q) s) := ⟨IWP.block⟩
instance : Fm (IWP P C mu .skip Q s) (Q .normal s) := ⟨IWP.skip⟩
instance : Fm (IWP P C mu (.exit id) Q s) (Q (.exit id) s) := ⟨IWP.exit⟩
instance : Fm (IWP P C mu .ret Q s) (Q .ret s) := ⟨IWP.ret⟩
instance : Fm (KB P C mu y Q (.exit id) s) (Q (.exit id) s) := ⟨IT⟩
instance : Fm (KB P C mu y Q .ret s) (Q .ret s) := ⟨J8⟩
instance : Fm (AX.inBlock id Q .normal s) (Q .normal s) := ⟨EI⟩
instance : Fm (AX.inBlock id Q (.exit id) s) (Q .normal s) := ⟨Fq⟩
instance : Fm (AX.inBlock id Q .ret s) (Q .ret s) := ⟨GV⟩
instance : Fm (AX.then K Q (.exit id) s) (Q (.exit id) s) := ⟨IS⟩
instance : Fm (AX.then K Q .ret s) (Q .ret s) := ⟨KL⟩
class Pd (goal : Prop) (prev : outParam Prop) : Prop where
 imp : prev → goal
class MW (goal : Prop) (prev : outParam Prop) : Prop where
 imp : prev → goal
theorem U {goal prev : Prop} [s : Pd goal prev] (h : prev) : goal := s.imp h
theorem V {goal prev : Prop} [s : MW goal prev] (h : prev) : goal := s.imp h
instance {l : List Ins} : Pd (Run P l s K) (FI P l s K) := ⟨Bn⟩
instance {l : List Ins} {A : Prop} : Pd (A ∧ Run P l s K) (A ∧ FI P l s K) := ⟨F_⟩
instance {l : List Ins} : MW (Run P l s K) (FI P l s K) := ⟨Bn⟩
instance {l : List Ins} {A : Prop} : MW (A ∧ Run P l s K) (A ∧ FI P l s K) := ⟨F_⟩
instance {c0 : Opd} : MW (IWP P C mu (.cond c0 x y) Q s) (match s.ev c0 with | .one (.st (.bool b)) => (b = true → IWP P C mu x Q s) ∧ (b = false → IWP P C mu y Q s) | .one .ubool => IWP P C mu x Q s ∧ IWP P C mu y Q s | _ => False) := ⟨IWP.cond⟩
end
theorem IWP.fresh {P : Program} {C : Ctx} {mu : List Nat} {x : IR} {Q : AX → AS → Prop} {s : AS} (h1000 : ∀ i, 1000 ≤ i → s.S i = none) (h : ∀ env' : Nat → AV, (∀ i v, s.env i = .one (.st v) → env' i = .one (.st v)) → IWP P C mu x Q ⟨env', noS⟩) : IWP P C mu x Q s := by
 refine IWP.ghost (Aa.low (s := s) fun i b hi hb => by rw [h1000 i hi] at hb; cases hb) ?_
 have e : Bv s.S = noS := by
  funext i
  show (if i < 1000 then none else s.S i) = none
  split
  ·rfl
  ·exact h1000 i (by omega)
 rw [e]
 exact h _ fun i v hv => by rw [hv]; rfl
theorem IWP.mid {P : Program} {C : Ctx} {mu : List Nat} {x y : IR} {Q : AX → AS → Prop} {s : AS} (M : AS → Prop) (h1 : IWP P C mu x (fun e s => e = .normal ∧ M s) s) (h2 : ∀ s, M s → IWP P C mu y Q s) : IWP P C mu (x.seq y) Q s :=
 IWP.seq (h1.mono fun e s ⟨he, hm⟩ => by subst he; exact D_ (h2 s hm))



structure Mv where
 name : ByteArray
 frm : List Int
 to_ : Int
structure Au where
 states : Int
 moves : List Mv
 last : List Int
def inS (S : Int) (s : Int) : Bool := decide (0 ≤ s) && decide (s < S)
def Mv.err (S : Int) (m : Mv) : Int := if BB m.name = true ∧ BG m.name = false then (if 4 < m.frm.length then 3 else if m.frm.all (inS S) = true ∧ inS S m.to_ = true then 0 else 10) else 1
def BI (S : Int) : List Mv → Int
 | [] => 0
 | m :: ms => if m.err S = 0 then BI S ms else m.err S
def Au.may (a : Au) (S M : Int) : Int := if a.states < 0 ∨ S < a.states ∨ M < a.moves.length then 3 else if BI a.states a.moves = 0 then (if a.last.all (inS a.states) = true then 0 else 10) else BI a.states a.moves
theorem Ez (S : Int) (xs ys : List Mv) : BI S (xs ++ ys) = if BI S xs = 0 then BI S ys else BI S xs := by
 induction xs with
 | nil => simp [BI]
 | cons x xs ih =>
  simp only [List.cons_append, BI, ih]
  by_cases h : x.err S = 0
  ·simp [h]
  ·simp [h]
theorem EE {S : Int} {xs : List Mv} {k : Nat} {m : Mv} (hm : xs[k]? = some m) (h : BI S (xs.take k) = 0) : BI S (xs.take (k + 1)) = m.err S := by
 rw [Aj hm, Ez, if_pos h]
 simp only [BI]
 split
 ·rename_i h1
  rw [h1]
 ·rfl
theorem NA {S : Int} {xs : List Mv} {k : Nat} (h : ¬ BI S (xs.take k) = 0) : BI S xs = BI S (xs.take k) := by
 have := Ez S (xs.take k) (xs.drop k)
 rw [List.take_append_drop, if_neg h] at this
 exact this
theorem I7 {S : Int} : ∀ {xs : List Mv}, BI S xs = 0 ↔ ∀ m ∈ xs, m.err S = 0
 | [] => by simp [BI]
 | x :: xs => by
  rw [BI]
  by_cases h : x.err S = 0
  ·rw [if_pos h, I7]
   simp [h]
  ·rw [if_neg h]
   simp [h]
theorem Mv.err_ok {S : Int} {m : Mv} : m.err S = 0 ↔ (BB m.name = true ∧ BG m.name = false) ∧ m.frm.length ≤ 4 ∧ m.frm.all (inS S) = true ∧ inS S m.to_ = true := by
 unfold Mv.err
 by_cases h1 : BB m.name = true ∧ BG m.name = false
 ·rw [if_pos h1]
  by_cases h2 : 4 < m.frm.length
  ·rw [if_pos h2]
   constructor
   ·intro h; cases h
   ·intro h; omega
  ·rw [if_neg h2]
   by_cases h3 : m.frm.all (inS S) = true ∧ inS S m.to_ = true
   ·rw [if_pos h3]
    exact ⟨fun _ => ⟨h1, by omega, h3⟩, fun _ => rfl⟩
   ·rw [if_neg h3]
    constructor
    ·intro h; cases h
    ·intro h; exact absurd h.2.2 h3
 ·rw [if_neg h1]
  constructor
  ·intro h; cases h
  ·intro h; exact absurd h.1 h1
theorem Au.may_ok {a : Au} {S M : Int} : a.may S M = 0 ↔ (0 ≤ a.states ∧ a.states ≤ S ∧ a.moves.length ≤ M) ∧ (∀ m ∈ a.moves, m.err a.states = 0) ∧ a.last.all (inS a.states) = true := by
 unfold Au.may
 by_cases h1 : a.states < 0 ∨ S < a.states ∨ M < a.moves.length
 ·rw [if_pos h1]
  constructor
  ·intro h; cases h
  ·intro h; omega
 ·rw [if_neg h1, ← I7]
  by_cases h2 : BI a.states a.moves = 0
  ·rw [if_pos h2]
   by_cases h3 : a.last.all (inS a.states) = true
   ·rw [if_pos h3]
    exact ⟨fun _ => ⟨by omega, h2, h3⟩, fun _ => rfl⟩
   ·rw [if_neg h3]
    constructor
    ·intro h; cases h
    ·intro h; exact absurd h.2.2 h3
  ·rw [if_neg h2]
   constructor
   ·intro h; exact absurd h h2
   ·intro h; exact absurd h.2.1 h2
theorem BN {S s : Int} : inS S s = true ↔ 0 ≤ s ∧ s < S := by simp [inS]
def Az : List (List Bool) → List Int → Bool
 | b :: bs, s :: ss => b.getD s.toNat false && Az bs ss
 | [], [] => true
 | _, _ => false
def Mv.fits (m : Mv) (n : ByteArray) (below : List (List Bool)) : Bool := decide (m.name = n) && Az below m.frm
def Cn (n : ByteArray) (below : List (List Bool)) (out : List Bool) (m : Mv) : List Bool := if m.fits n below = true then out.set m.to_.toNat true else out
def Au.ending (a : Au) (n : ByteArray) (below : List (List Bool)) : List Bool := a.moves.foldl (Cn n below) (List.replicate a.states.toNat false)
mutual
def Au.ends (a : Au) : Tm → List Bool
 | .mk n xs => a.ending n (a.endsL xs)
def Au.endsL (a : Au) : List Tm → List (List Bool)
 | [] => []
 | t :: ts => a.ends t :: a.endsL ts
end
theorem Au.ends_eq (a : Au) (t : Tm) : a.ends t = a.ending t.name (a.endsL t.args) := by cases t; rfl
theorem Au.endsL_eq (a : Au) : ∀ ts : List Tm, a.endsL ts = ts.map a.ends
 | [] => rfl
 | t :: ts => by rw [Au.endsL, Au.endsL_eq a ts]; rfl
def Au.acc (a : Au) (t : Tm) : Bool := a.last.any fun s => (a.ends t).getD s.toNat false
theorem Fc (n : ByteArray) (below : List (List Bool)) (out : List Bool) (m : Mv) : (Cn n below out m).length = out.length := by
 unfold Cn
 split <;> simp
theorem ED (n : ByteArray) (below : List (List Bool)) : ∀ (ms : List Mv) (out : List Bool), (ms.foldl (Cn n below) out).length = out.length
 | [], _ => rfl
 | m :: ms, out => by rw [List.foldl_cons, ED n below ms, Fc]
theorem Au.ending_length (a : Au) (n : ByteArray) (below : List (List Bool)) : (a.ending n below).length = a.states.toNat := by
 unfold Au.ending
 rw [ED]
 simp
theorem Au.ends_length (a : Au) (t : Tm) : (a.ends t).length = a.states.toNat := by rw [Au.ends_eq, Au.ending_length]
theorem Kq (n : ByteArray) (below : List (List Bool)) (i : Nat) : ∀ (ms : List Mv) (out : List Bool), i < out.length → (ms.foldl (Cn n below) out).getD i false = (out.getD i false || ms.any fun m => m.fits n below && decide (m.to_.toNat = i))
 | [], out, h => by simp
 | m :: ms, out, h => by
  rw [List.foldl_cons, Kq n below i ms _ (by rw [Fc]; exact h), List.any_cons, ← Bool.or_assoc]
  congr 1
  unfold Cn
  by_cases hf : m.fits n below = true
  ·rw [if_pos hf, hf, Bool.true_and]
   by_cases he : m.to_.toNat = i
   ·subst he
    simp [List.getD_eq_getElem?_getD, h]
   ·simp [List.getD_eq_getElem?_getD, List.getElem?_set_ne he, he]
  ·rw [if_neg hf]
   have : m.fits n below = false := by simpa using hf
   rw [this]
   simp
theorem Au.ends_get (a : Au) (t : Tm) (i : Nat) (h : i < a.states.toNat) : (a.ends t).getD i false = a.moves.any fun m => m.fits t.name (a.endsL t.args) && decide (m.to_.toNat = i) := by
 rw [Au.ends_eq]
 unfold Au.ending
 rw [Kq _ _ _ _ _ (by simpa using h)]
 simp [List.getD_eq_getElem?_getD, h]
def CC (B : Int) (m n : Mv) : List Int := List.zipWith (fun i j => i * B + j) m.frm n.frm
def EO (B : Int) (m n : Mv) : Mv := ⟨m.name, CC B m n, m.to_ * B + n.to_⟩
def FX (m n : Mv) : Bool := decide (m.name = n.name) && decide (m.frm.length = n.frm.length)
def Ar (B : Int) (m : Mv) (ns : List Mv) : List Mv := (ns.filter (FX m)).map (EO B m)
def A5 (B : Int) (ms ns : List Mv) : List Mv := ms.flatMap fun m => Ar B m ns
def Af (B : Int) (ss ts : List Int) : List Int := ss.flatMap fun s => ts.map fun t => s * B + t
def Au.both (a b : Au) : Au := ⟨a.states * b.states, A5 b.states a.moves b.moves, Af b.states a.last b.last⟩
def Bo (A : Int) (m : Mv) : Mv := ⟨m.name, m.frm.map (· + A), m.to_ + A⟩
def Au.either (a b : Au) : Au := ⟨a.states + b.states, a.moves ++ b.moves.map (Bo a.states), a.last ++ b.last.map (· + a.states)⟩
structure Au.Good (a : Au) : Prop where
 states : 0 ≤ a.states
 to_ : ∀ m ∈ a.moves, 0 ≤ m.to_ ∧ m.to_ < a.states
 frm : ∀ m ∈ a.moves, ∀ s ∈ m.frm, 0 ≤ s ∧ s < a.states
 last : ∀ s ∈ a.last, 0 ≤ s ∧ s < a.states
theorem Au.may_good {a : Au} {S M : Int} (h : a.may S M = 0) : a.Good := by
 obtain ⟨h1, h2, h3⟩ := Au.may_ok.1 h
 refine ⟨h1.1, fun m hm => ?_, fun m hm s hs => ?_, fun s hs => ?_⟩
 ·exact BN.1 (Mv.err_ok.1 (h2 m hm)).2.2.2
 ·exact BN.1 (List.all_eq_true.1 (Mv.err_ok.1 (h2 m hm)).2.2.1 s hs)
 ·exact BN.1 (List.all_eq_true.1 h3 s hs)
theorem DN {s u : Int} {B : Int} (hs : 0 ≤ s) (hu : 0 ≤ u) (hB : 0 ≤ B) : (s * B + u).toNat = s.toNat * B.toNat + u.toNat := by
 obtain ⟨a, rfl⟩ := Int.eq_ofNat_of_zero_le hs
 obtain ⟨b, rfl⟩ := Int.eq_ofNat_of_zero_le hu
 obtain ⟨c, rfl⟩ := Int.eq_ofNat_of_zero_le hB
 simp only [Int.toNat_natCast]
 rw [← Int.natCast_mul, ← Int.natCast_add, Int.toNat_natCast]
theorem O_ {a b c d B : Nat} (hb : b < B) (hd : d < B) : a * B + b = c * B + d ↔ a = c ∧ b = d := by
 constructor
 ·intro h
  have h1 : (a * B + b) / B = a := by
   rw [Nat.mul_comm, Nat.mul_add_div (by omega), Nat.div_eq_of_lt hb, Nat.add_zero]
  have h2 : (c * B + d) / B = c := by
   rw [Nat.mul_comm, Nat.mul_add_div (by omega), Nat.div_eq_of_lt hd, Nat.add_zero]
  have h3 : a = c := by rw [← h1, h, h2]
  subst h3
  exact ⟨rfl, by omega⟩
 ·rintro ⟨rfl, rfl⟩
  rfl
theorem Pv {a b A B : Nat} (ha : a < A) (hb : b < B) : a * B + b < A * B := by
 have : (a + 1) * B ≤ A * B := Nat.mul_le_mul_right B ha
 rw [Nat.add_mul] at this
 omega
theorem Cr : ∀ {bs : List (List Bool)} {ss : List Int}, Az bs ss = true → ss.length = bs.length
 | [], [], _ => rfl
 | [], _ :: _, h => by simp [Az] at h
 | _ :: _, [], h => by simp [Az] at h
 | b :: bs, s :: ss, h => by
  simp only [Az, Bool.and_eq_true] at h
  simp [Cr h.2]
theorem G4 {A B : Int} (hB : 0 ≤ B) {e ea eb : Tm → List Bool} : ∀ {ts : List Tm} {ss us : List Int}, ss.length = us.length → (∀ s ∈ ss, 0 ≤ s ∧ s < A) → (∀ u ∈ us, 0 ≤ u ∧ u < B) →
  (∀ t ∈ ts, ∀ i j : Nat, i < A.toNat → j < B.toNat → (e t).getD (i * B.toNat + j) false = ((ea t).getD i false && (eb t).getD j false)) →
  Az (ts.map e) (List.zipWith (fun i j => i * B + j) ss us) = (Az (ts.map ea) ss && Az (ts.map eb) us)
 | [], [], [], _, _, _, _ => by simp [Az]
 | [], s :: ss, u :: us, _, _, _, _ => by simp [Az]
 | t :: ts, [], [], _, _, _, _ => by simp [Az]
 | t :: ts, s :: ss, u :: us, hl, hs, hu, h => by
  have h1 := hs s (by simp)
  have h2 := hu u (by simp)
  simp only [List.map_cons, List.zipWith_cons_cons, Az]
  rw [DN h1.1 h2.1 hB, h t (by simp) _ _ (by omega) (by omega), G4 hB (by simpa using hl) (fun x hx => hs x (by simp [hx])) (fun x hx => hu x (by simp [hx])) (fun x hx => h x (by simp [hx]))]
  generalize (ea t).getD s.toNat false = p
  generalize (eb t).getD u.toNat false = q
  generalize Az (ts.map ea) ss = r
  generalize Az (ts.map eb) us = w
  cases p <;> cases q <;> cases r <;> cases w <;> rfl
 | _, [], _ :: _, hl, _, _, _ => by simp at hl
 | _, _ :: _, [], hl, _, _, _ => by simp at hl
theorem EJ {B : Int} {ms ns : List Mv} {x : Mv} : x ∈ A5 B ms ns ↔ ∃ m ∈ ms, ∃ n ∈ ns, FX m n = true ∧ x = EO B m n := by
 unfold A5 Ar
 simp only [List.mem_flatMap, List.mem_map, List.mem_filter]
 constructor
 ·rintro ⟨m, hm, n, ⟨hn, h⟩, rfl⟩
  exact ⟨m, hm, n, hn, h, rfl⟩
 ·rintro ⟨m, hm, n, hn, h, rfl⟩
  exact ⟨m, hm, n, ⟨hn, h⟩, rfl⟩
theorem Ka {a b : Au} (ha : a.Good) (hb : b.Good) : (a.both b).states.toNat = a.states.toNat * b.states.toNat := by
 have := DN (u := 0) ha.states (by omega) hb.states
 simpa [Au.both] using this
theorem IJ {a b : Au} (ha : a.Good) (hb : b.Good) : ∀ (N : Nat) (t : Tm), SizeOf.sizeOf t < N → ∀ i j : Nat, i < a.states.toNat → j < b.states.toNat →
  ((a.both b).ends t).getD (i * b.states.toNat + j) false = ((a.ends t).getD i false && (b.ends t).getD j false) := by
 intro N
 induction N with
 | zero => intro t h; omega
 | succ N ih =>
  intro t hN i j hi hj
  rw [Au.ends_get _ _ _ (by rw [Ka ha hb]; exact Pv hi hj), Au.ends_get _ _ _ hi, Au.ends_get _ _ _ hj]
  have key : ∀ m ∈ a.moves, ∀ n ∈ b.moves, m.frm.length = n.frm.length → Az ((a.both b).endsL t.args) (CC b.states m n) = (Az (a.endsL t.args) m.frm && Az (b.endsL t.args) n.frm) := fun m hm n hn hl => by
   rw [Au.endsL_eq, Au.endsL_eq, Au.endsL_eq]
   exact G4 hb.states hl (ha.frm m hm) (hb.frm n hn) (fun x hx i j hi hj => ih x (by have := Tm.lt_of_arg hx; omega) i j hi hj)
  rw [Bool.eq_iff_iff, Bool.and_eq_true, List.any_eq_true, List.any_eq_true, List.any_eq_true]
  constructor
  ·rintro ⟨x, hx, h⟩
   obtain ⟨m, hm, n, hn, hmn, rfl⟩ := EJ.1 hx
   simp only [FX, Bool.and_eq_true, decide_eq_true_eq] at hmn
   simp only [Mv.fits, Bool.and_eq_true, decide_eq_true_eq] at h
   obtain ⟨⟨h1, h2⟩, h3⟩ := h
   have h2' := (key m hm n hn hmn.2).symm.trans h2
   rw [Bool.and_eq_true] at h2'
   have q1 := ha.to_ m hm
   have q2 := hb.to_ n hn
   simp only [EO] at h1 h3
   rw [DN q1.1 q2.1 hb.states, O_ (by omega) hj] at h3
   refine ⟨⟨m, hm, ?_⟩, ⟨n, hn, ?_⟩⟩
   ·simp [Mv.fits, h1, h2'.1, h3.1]
   ·simp [Mv.fits, ← hmn.1, h1, h2'.2, h3.2]
  ·rintro ⟨⟨m, hm, h⟩, ⟨n, hn, g⟩⟩
   simp only [Mv.fits, Bool.and_eq_true, decide_eq_true_eq] at h g
   have hl : m.frm.length = n.frm.length := by
    rw [Cr h.1.2, Cr g.1.2, Au.endsL_eq, Au.endsL_eq, List.length_map, List.length_map]
   have q1 := ha.to_ m hm
   have q2 := hb.to_ n hn
   refine ⟨EO b.states m n, EJ.2 ⟨m, hm, n, hn, by simp [FX, h.1.1, g.1.1, hl], rfl⟩, ?_⟩
   have h2 := key m hm n hn hl
   rw [h.1.2, g.1.2] at h2
   simp only [Mv.fits, Bool.and_eq_true, decide_eq_true_eq]
   refine ⟨⟨h.1.1, h2⟩, ?_⟩
   simp only [EO]
   rw [DN q1.1 q2.1 hb.states, h.2, g.2]
theorem N6 {a b : Au} (ha : a.Good) (hb : b.Good) (t : Tm) : (a.both b).acc t = (a.acc t && b.acc t) := by
 unfold Au.acc
 have e : (a.both b).last = Af b.states a.last b.last := rfl
 rw [e, Bool.eq_iff_iff, Bool.and_eq_true, List.any_eq_true, List.any_eq_true, List.any_eq_true]
 unfold Af
 constructor
 ·rintro ⟨x, hx, h⟩
  obtain ⟨s, hs, hx⟩ := List.mem_flatMap.1 hx
  obtain ⟨u, hu, rfl⟩ := List.mem_map.1 hx
  have q1 := ha.last s hs
  have q2 := hb.last u hu
  rw [DN q1.1 q2.1 hb.states, IJ ha hb _ t (Nat.lt_succ_self _) _ _ (by omega) (by omega), Bool.and_eq_true] at h
  exact ⟨⟨s, hs, h.1⟩, ⟨u, hu, h.2⟩⟩
 ·rintro ⟨⟨s, hs, h⟩, ⟨u, hu, g⟩⟩
  have q1 := ha.last s hs
  have q2 := hb.last u hu
  refine ⟨s * b.states + u, List.mem_flatMap.2 ⟨s, hs, List.mem_map.2 ⟨u, hu, rfl⟩⟩, ?_⟩
  rw [DN q1.1 q2.1 hb.states, IJ ha hb _ t (Nat.lt_succ_self _) _ _ (by omega) (by omega), Bool.and_eq_true]
  exact ⟨h, g⟩
theorem E_ {e ea : Tm → List Bool} : ∀ {ts : List Tm} {ss us : List Int}, ss.length = us.length → (∀ t ∈ ts, ∀ k, (h1 : k < ss.length) → (h2 : k < us.length) → (e t).getD (ss[k]).toNat false = (ea t).getD (us[k]).toNat false) →
  Az (ts.map e) ss = Az (ts.map ea) us
 | [], [], [], _, _ => rfl
 | [], _ :: _, _ :: _, _, _ => rfl
 | _ :: _, [], [], _, _ => rfl
 | t :: ts, s :: ss, u :: us, hl, h => by
  simp only [List.map_cons, Az]
  have h0 := h t (by simp) 0 (by simp) (by simp)
  simp only [List.getElem_cons_zero] at h0
  rw [h0, E_ (by simpa using hl) (fun x hx k h1 h2 => by
   have := h x (by simp [hx]) (k + 1) (by simpa using h1) (by simpa using h2)
   simpa using this)]
 | _, [], _ :: _, hl, _ => by simp at hl
 | _, _ :: _, [], hl, _ => by simp at hl
theorem E1 {a b : Au} (ha : a.Good) (hb : b.Good) : (a.either b).states.toNat = a.states.toNat + b.states.toNat := by
 have h1 := ha.states
 have h2 := hb.states
 simp only [Au.either]
 omega
theorem KR {a b : Au} (ha : a.Good) (hb : b.Good) : ∀ (N : Nat) (t : Tm), SizeOf.sizeOf t < N →
  (∀ i : Nat, i < a.states.toNat → ((a.either b).ends t).getD i false = (a.ends t).getD i false) ∧ (∀ j : Nat, j < b.states.toNat → ((a.either b).ends t).getD (j + a.states.toNat) false = (b.ends t).getD j false) := by
 intro N
 induction N with
 | zero => intro t h; omega
 | succ N ih =>
  intro t hN
  have hA := ha.states
  have hB := hb.states
  have k1 : ∀ m ∈ a.moves, Az ((a.either b).endsL t.args) m.frm = Az (a.endsL t.args) m.frm := fun m hm => by
   rw [Au.endsL_eq, Au.endsL_eq]
   refine E_ rfl (fun x hx k h1 h2 => ?_)
   have := ha.frm m hm _ (List.getElem_mem h1)
   exact (ih x (by have := Tm.lt_of_arg hx; omega)).1 _ (by omega)
  have k2 : ∀ m ∈ b.moves, Az ((a.either b).endsL t.args) (m.frm.map (· + a.states)) = Az (b.endsL t.args) m.frm := fun m hm => by
   rw [Au.endsL_eq, Au.endsL_eq]
   refine E_ (by simp) (fun x hx k h1 h2 => ?_)
   have q := hb.frm m hm _ (List.getElem_mem h2)
   have := (ih x (by have := Tm.lt_of_arg hx; omega)).2 (m.frm[k]).toNat (by omega)
   rw [List.getElem_map, ← this]
   congr 1
   omega
  have e : (a.either b).moves = a.moves ++ b.moves.map (Bo a.states) := rfl
  constructor
  ·intro i hi
   rw [Au.ends_get _ _ _ (by rw [E1 ha hb]; omega), Au.ends_get _ _ _ hi, e, List.any_append]
   have h0 : (b.moves.map (Bo a.states)).any (fun m => m.fits t.name ((a.either b).endsL t.args) && decide (m.to_.toNat = i)) = false := by
    rw [List.any_eq_false]
    intro x hx
    obtain ⟨m, hm, rfl⟩ := List.mem_map.1 hx
    have := hb.to_ m hm
    intro h
    rw [Bool.and_eq_true] at h
    have h3 := of_decide_eq_true h.2
    simp only [Bo] at h3
    omega
   rw [h0, Bool.or_false, Bool.eq_iff_iff, List.any_eq_true, List.any_eq_true]
   constructor <;> rintro ⟨m, hm, h⟩ <;> refine ⟨m, hm, ?_⟩
   ·simpa [Mv.fits, k1 m hm] using h
   ·simpa [Mv.fits, k1 m hm] using h
  ·intro j hj
   rw [Au.ends_get _ _ _ (by rw [E1 ha hb]; omega), Au.ends_get _ _ _ hj, e, List.any_append]
   have h0 : a.moves.any (fun m => m.fits t.name ((a.either b).endsL t.args) && decide (m.to_.toNat = j + a.states.toNat)) = false := by
    rw [List.any_eq_false]
    intro m hm
    have := ha.to_ m hm
    simp only [Bool.and_eq_true, decide_eq_true_eq, not_and]
    intro _
    omega
   rw [h0, Bool.false_or, Bool.eq_iff_iff, List.any_eq_true, List.any_eq_true]
   have q : ∀ m ∈ b.moves, ((m.to_ + a.states).toNat = j + a.states.toNat ↔ m.to_.toNat = j) := fun m hm => by
    have := hb.to_ m hm
    omega
   constructor
   ·rintro ⟨x, hx, h⟩
    obtain ⟨m, hm, rfl⟩ := List.mem_map.1 hx
    simp only [Bo, Mv.fits, Bool.and_eq_true, decide_eq_true_eq, k2 m hm, q m hm] at h
    refine ⟨m, hm, ?_⟩
    simp only [Mv.fits, Bool.and_eq_true, decide_eq_true_eq]
    exact ⟨⟨of_decide_eq_true h.1.1, h.1.2⟩, h.2⟩
   ·rintro ⟨m, hm, h⟩
    refine ⟨Bo a.states m, List.mem_map.2 ⟨m, hm, rfl⟩, ?_⟩
    simp only [Mv.fits, Bool.and_eq_true, decide_eq_true_eq] at h
    simp only [Bo, Mv.fits, Bool.and_eq_true, decide_eq_true_eq, k2 m hm, q m hm]
    exact ⟨⟨decide_eq_true h.1.1, h.1.2⟩, h.2⟩
theorem L5 {a b : Au} (ha : a.Good) (hb : b.Good) (t : Tm) : (a.either b).acc t = (a.acc t || b.acc t) := by
 obtain ⟨h1, h2⟩ := KR ha hb _ t (Nat.lt_succ_self _)
 have hA := ha.states
 unfold Au.acc
 have e : (a.either b).last = a.last ++ b.last.map (· + a.states) := rfl
 rw [e, List.any_append]
 congr 1
 ·rw [Bool.eq_iff_iff, List.any_eq_true, List.any_eq_true]
  constructor <;> rintro ⟨s, hs, h⟩ <;> refine ⟨s, hs, ?_⟩
  ·have := ha.last s hs
   rwa [h1 _ (by omega)] at h
  ·have := ha.last s hs
   rwa [h1 _ (by omega)]
 ·rw [Bool.eq_iff_iff, List.any_eq_true, List.any_eq_true]
  have q : ∀ s ∈ b.last, (s + a.states).toNat = s.toNat + a.states.toNat ∧ s.toNat < b.states.toNat := fun s hs => by
   have := hb.last s hs
   omega
  constructor
  ·rintro ⟨x, hx, h⟩
   obtain ⟨s, hs, rfl⟩ := List.mem_map.1 hx
   obtain ⟨q1, q2⟩ := q s hs
   rw [q1, h2 _ q2] at h
   exact ⟨s, hs, h⟩
  ·rintro ⟨s, hs, h⟩
   obtain ⟨q1, q2⟩ := q s hs
   exact ⟨_, List.mem_map.2 ⟨s, hs, rfl⟩, by rw [q1, h2 _ q2]; exact h⟩
theorem E9 {i j A B : Int} (hi : 0 ≤ i ∧ i < A) (hj : 0 ≤ j ∧ j < B) : 0 ≤ i * B + j ∧ i * B + j < A * B := by
 have h1 : 0 ≤ i * B := Int.mul_nonneg hi.1 (by omega)
 have h2 : (i + 1) * B ≤ A * B := Int.mul_le_mul_of_nonneg_right (by omega) (by omega)
 rw [Int.add_mul] at h2
 omega
theorem IF {m n : Mv} {A B : Int} (hm : ∀ s ∈ m.frm, 0 ≤ s ∧ s < A) (hn : ∀ s ∈ n.frm, 0 ≤ s ∧ s < B) : ∀ s ∈ CC B m n, 0 ≤ s ∧ s < A * B := by
 intro s hs
 unfold CC at hs
 rw [List.mem_iff_getElem] at hs
 obtain ⟨k, hk, rfl⟩ := hs
 rw [List.getElem_zipWith]
 exact E9 (hm _ (List.getElem_mem _)) (hn _ (List.getElem_mem _))
theorem E5 (B : Int) (m : Mv) (ns : List Mv) : (Ar B m ns).length ≤ ns.length := by
 unfold Ar
 rw [List.length_map]
 exact List.length_filter_le _ _
theorem C8 (B : Int) : ∀ ms ns : List Mv, (A5 B ms ns).length ≤ ms.length * ns.length
 | [], ns => by simp [A5]
 | m :: ms, ns => by
  have h1 := C8 B ms ns
  have h2 := E5 B m ns
  unfold A5 at h1 ⊢
  rw [List.flatMap_cons, List.length_append, List.length_cons, Nat.add_mul]
  omega
theorem Cj (B : Int) : ∀ ss ts : List Int, (Af B ss ts).length = ss.length * ts.length
 | [], ts => by simp [Af]
 | s :: ss, ts => by
  have h1 := Cj B ss ts
  unfold Af at h1 ⊢
  rw [List.flatMap_cons, List.length_append, List.length_map, h1, List.length_cons, Nat.add_mul]
  omega
theorem OI {a b : Au} (ha : a.may 8 40 = 0) (hb : b.may 8 40 = 0) : (a.both b).may 64 1600 = 0 := by
 have ga := Au.may_good ha
 have gb := Au.may_good hb
 obtain ⟨a1, a2, a3⟩ := Au.may_ok.1 ha
 obtain ⟨b1, b2, b3⟩ := Au.may_ok.1 hb
 refine Au.may_ok.2 ⟨⟨Int.mul_nonneg ga.states gb.states, ?_, ?_⟩, fun x hx => ?_, ?_⟩
 ·have h1 : a.states * b.states ≤ 8 * b.states := Int.mul_le_mul_of_nonneg_right a1.2.1 gb.states
  show a.states * b.states ≤ 64
  omega
 ·have h1 := C8 b.states a.moves b.moves
  have h2 : a.moves.length * b.moves.length ≤ 40 * b.moves.length := Nat.mul_le_mul_right _ (by omega)
  show ((A5 b.states a.moves b.moves).length : Int) ≤ 1600
  omega
 ·obtain ⟨m, hm, n, hn, hmn, rfl⟩ := EJ.1 hx
  have q1 := Mv.err_ok.1 (a2 m hm)
  refine Mv.err_ok.2 ⟨q1.1, ?_, ?_, ?_⟩
  ·simp only [EO, CC, List.length_zipWith]
   omega
  ·exact List.all_eq_true.2 fun s hs => BN.2 (IF (ga.frm m hm) (gb.frm n hn) s hs)
  ·exact BN.2 (E9 (ga.to_ m hm) (gb.to_ n hn))
 ·refine List.all_eq_true.2 fun x hx => BN.2 ?_
  obtain ⟨s, hs, hx⟩ := List.mem_flatMap.1 hx
  obtain ⟨u, hu, rfl⟩ := List.mem_map.1 hx
  exact E9 (ga.last s hs) (gb.last u hu)
theorem Lv {a b : Au} (ha : a.may 8 40 = 0) (hb : b.may 8 40 = 0) : (a.either b).may 64 1600 = 0 := by
 have ga := Au.may_good ha
 have gb := Au.may_good hb
 obtain ⟨a1, a2, a3⟩ := Au.may_ok.1 ha
 obtain ⟨b1, b2, b3⟩ := Au.may_ok.1 hb
 have e : (a.either b).states = a.states + b.states := rfl
 refine Au.may_ok.2 ⟨⟨by rw [e]; omega, by rw [e]; omega, ?_⟩, fun x hx => ?_, ?_⟩
 ·simp only [Au.either, List.length_append, List.length_map]
  omega
 ·rw [e]
  rcases List.mem_append.1 hx with hx | hx
  ·have q := Mv.err_ok.1 (a2 x hx)
   refine Mv.err_ok.2 ⟨q.1, q.2.1, List.all_eq_true.2 fun s hs => BN.2 ?_, BN.2 ?_⟩
   ·have := ga.frm x hx s hs
    omega
   ·have := ga.to_ x hx
    omega
  ·obtain ⟨m, hm, rfl⟩ := List.mem_map.1 hx
   have q := Mv.err_ok.1 (b2 m hm)
   refine Mv.err_ok.2 ⟨q.1, by simpa [Bo] using q.2.1, List.all_eq_true.2 fun s hs => BN.2 ?_, BN.2 ?_⟩
   ·obtain ⟨u, hu, rfl⟩ := List.mem_map.1 hs
    have := gb.frm m hm u hu
    omega
   ·have := gb.to_ m hm
    simp only [Bo]
    omega
 ·rw [e]
  refine List.all_eq_true.2 fun x hx => BN.2 ?_
  rcases List.mem_append.1 hx with hx | hx
  ·have := ga.last x hx
   omega
  ·obtain ⟨u, hu, rfl⟩ := List.mem_map.1 hx
   have := gb.last u hu
   omega

set_option maxRecDepth 100000
def BX : IR :=
 (.seq (.ops [.i 2 (.mov (.c (.one (.full []))))]) (.seq (.seq (.ops [.m 3 0, .i 4 (.eqN false (.t 3))]) (.cond (.t 4) (.seq (.ops [.i 2 (.mov (.c (.one (.full []))))]) .ret) .skip)) (.seq (.ops [.i 5 (.buildFlat []), .m 6 0, .i 7 (.append false 3 1 8 (.t 5) (.t 6)), .m 2 7]) .ret)))
theorem B9 : OkF Try.prog 49 8 [] BX [.t 2] := .of Try.func49 rfl rfl (by kernel_rfl) rfl
def BU : IR :=
 (.seq (.ops [.i 4 (.mov (.c (.one (.st (.bool false)))))]) (.seq (.ops [.m 5 0, .m 6 1, .i 7 (.callS 87 [.t 5, .t 6]), .i 8 (.bin .geq (.t 7) (.n 0)), .m 4 8]) .ret))
theorem Cc : OkF Try.prog 71 9 [7] BU [.t 4] := .of Try.func71 rfl rfl (by kernel_rfl) rfl
def Bl : IR :=
 (.seq (.ops [.i 4 (.mov (.n 0))]) (.seq (.seq (.ops [.m 6 0, .i 7 (.len false (.t 6)), .i 8 (.mov (.n 0))]) (.block 0 (.loop (.seq (.ops [.i 9 (.bin .lss (.t 8) (.t 7))]) (.seq (.cond (.t 9) .skip (.exit 0)) (.seq (.block 1 (.seq (.ops [.m 10 8, .m 5 10]) (.seq (.ops [.m 11 1, .m 12 0, .m 13 5, .i 14 (.indexAddr 1 (.t 12) (.t 13)), .l 15 14, .i 16 (.callV (.t 11) [.t 15])]) (.cond (.t 16) (.seq (.ops [.m 17 5, .m 4 17]) .ret) .skip)))) (.ops [.i 18 (.bin .add (.t 8) (.n 1)), .m 8 18]))))))) (.seq (.ops [.i 4 (.mov (.c (.one (.st (.int .i64 (-1))))))]) .ret)))
theorem Cq : OkF Try.prog 87 19 [] Bl [.t 4] := .of Try.func87 rfl rfl (by kernel_rfl) rfl
def DB : IR :=
 (.seq (.ops [.i 3 (.mov (.c (.one (.st (.bool false)))))]) (.seq (.ops [.m 4 0, .i 5 (.bin .lss (.t 4) (.n 0)), .m 6 5, .mk (some 7) (some (6, false)) (.mov (.t 0)) .no, .mk (some 8) (some (6, false)) (.fieldAddr 0 (.t 1)) .no, .mk (some 9) (some (6, false)) (.load false 1 (.t 8)) .no, .mk (some 10) (some (6, false)) (.bin .geq (.t 7) (.t 9)) .no, .i 11 (.pick (.t 6) (.c (.one (.st (.bool true)))) (.t 10)), .m 3 11]) .ret))
theorem FO : OkF Try.prog 72 12 [] DB [.t 3] := .of Try.func72 rfl rfl (by kernel_rfl) rfl
def Bf : IR :=
 (.seq (.ops [.i 3 (.box 25 (.t 0)), .i 6 (.mov (.n 0))]) (.seq (.seq (.ops [.f 11 0 3, .l 12 11, .i 13 (.bin .lss (.t 12) (.n 0)), .m 14 13, .mk (some 15) (some (14, false)) (.fieldAddr 0 (.t 3)) .no, .mk (some 16) (some (14, false)) (.load false 1 (.t 15)) .no, .mk (some 17) (some (14, false)) (.mov (.t 1)) .no, .mk (some 18) (some (14, false)) (.bin .gtr (.t 16) (.t 17)) .no, .i 19 (.pick (.t 14) (.c (.one (.st (.bool true)))) (.t 18)), .m 20 19, .mk (some 21) (some (20, false)) (.fieldAddr 1 (.t 3)) .no, .mk (some 22) (some (20, false)) (.load false 1 (.t 21)) .no, .mk (some 23) (some (20, false)) (.len false (.t 22)) .no, .mk (some 24) (some (20, false)) (.mov (.t 2)) .no, .mk (some 25) (some (20, false)) (.bin .gtr (.t 23) (.t 24)) .no, .i 26 (.pick (.t 20) (.c (.one (.st (.bool true)))) (.t 25))]) (.cond (.t 26) (.seq (.ops [.i 6 (.mov (.n 3))]) .ret) .skip)) (.seq (.seq (.ops [.f 27 1 3, .l 28 27, .i 29 (.len false (.t 28)), .i 30 (.mov (.n 0))]) (.block 0 (.loop (.seq (.ops [.i 31 (.bin .lss (.t 30) (.t 29))]) (.seq (.cond (.t 31) .skip (.exit 0)) (.seq (.block 1 (.seq (.ops [.i 32 (.indexAddr 3 (.t 28) (.t 30)), .L 33 3 32, .i 8 (.alloc 46 [.st (.str (ByteArray.mk (#[]))), .full [], .st (.int .i64 0)]), .s 3 8 33]) (.seq (.seq (.ops [.f 34 0 8, .l 35 34, .i 36 (.call 69 [.t 35]), .i 37 (.un .not (.t 36)), .m 38 37, .mk (some 39) (some (38, false)) (.fieldAddr 0 (.t 8)) .no, .mk (some 40) (some (38, false)) (.load false 1 (.t 39)) .no, .mk (some 41) (some (38, false)) (.call 70 [.t 40]) .no, .i 42 (.pick (.t 38) (.c (.one (.st (.bool true)))) (.t 41))]) (.cond (.t 42) (.seq (.ops [.i 6 (.mov (.n 1))]) .ret) .skip)) (.seq (.seq (.ops [.f 43 1 8, .l 44 43, .i 45 (.len false (.t 44)), .i 46 (.bin .gtr (.t 45) (.n 4))]) (.cond (.t 46) (.seq (.ops [.i 6 (.mov (.n 3))]) .ret) .skip)) (.seq (.ops [.f 47 1 8, .l 48 47, .mk (some 49) none (.callN 49 [.t 48]) (.keeps [8, 8]), .mk (some 50) none (.fieldAddr 2 (.t 8)) (.onb 8), .mk (some 51) none (.load false 1 (.t 50)) (.onb 8), .i 52 (.buildFlat [.t 51]), .i 53 (.append false 3 1 8 (.t 49) (.t 52)), .i 54 (.len false (.t 53)), .i 55 (.mov (.n 0))]) (.block 2 (.loop (.seq (.ops [.i 56 (.bin .lss (.t 55) (.t 54))]) (.seq (.cond (.t 56) .skip (.exit 2)) (.seq (.block 3 (.seq (.ops [.i 57 (.indexAddr 1 (.t 53) (.t 55)), .l 58 57, .m 10 58]) (.seq (.ops [.m 59 10, .i 60 (.bin .lss (.t 59) (.n 0)), .m 61 60, .mk (some 62) (some (61, false)) (.mov (.t 10)) .no, .mk (some 63) (some (61, false)) (.fieldAddr 0 (.t 3)) .no, .mk (some 64) (some (61, false)) (.load false 1 (.t 63)) .no, .mk (some 65) (some (61, false)) (.bin .geq (.t 62) (.t 64)) .no, .i 66 (.pick (.t 61) (.c (.one (.st (.bool true)))) (.t 65))]) (.cond (.t 66) (.seq (.ops [.i 6 (.mov (.n 10))]) .ret) .skip)))) (.ops [.i 67 (.bin .add (.t 55) (.n 1)), .m 55 67]))))))))))) (.ops [.i 68 (.bin .add (.t 30) (.n 1)), .m 30 68]))))))) (.seq (.seq (.ops [.f 69 2 3, .l 70 69, .i 71 (.makeFunc 72 [.t 3]), .i 72 (.callS 71 [.t 70, .t 71])]) (.cond (.t 72) (.seq (.ops [.i 6 (.mov (.n 10))]) .ret) .skip)) (.seq (.ops [.i 6 (.mov (.n 0))]) .ret)))))
theorem B3 : OkF Try.prog 56 73 [20000049, 72] Bf [.t 6] := .of Try.func56 rfl rfl (by kernel_rfl) rfl
def E6 : IR :=
 (.seq (.ops [.i 1 (.box 25 (.t 0)), .i 2 (.mov (.n 0))]) (.seq (.ops [.L 3 3 1, .i 4 (.call 56 [.t 3, .n 8, .n 40]), .m 2 4]) .ret))
theorem H_ : OkF Try.prog 34 5 [] E6 [.t 2] := .of Try.func34 rfl rfl (by kernel_rfl) rfl
def Di : IR :=
 (.seq (.ops [.i 2 (.box 25 (.t 0)), .i 3 (.box 25 (.t 1)), .i 4 (.mov (.n 0))]) (.seq (.seq (.ops [.L 6 3 2, .i 7 (.call 34 [.t 6]), .m 5 7]) (.seq (.ops [.m 8 5, .i 9 (.bin .neq (.t 8) (.n 0))]) (.cond (.t 9) (.seq (.ops [.m 10 5, .m 4 10]) .ret) .skip))) (.seq (.ops [.L 11 3 3, .i 12 (.call 34 [.t 11]), .m 4 12]) .ret)))
theorem Fh : OkF Try.prog 29 13 [] Di [.t 4] := .of Try.func29 rfl rfl (by kernel_rfl) rfl
def FZ : IR :=
 (.seq (.ops [.i 2 (.box 25 (.t 0)), .i 3 (.box 25 (.t 1)), .i 4 (.alloc 25 [.st (.int .i64 0), .full [], .full []]), .i 5 (.mov (.n 0))]) (.seq (.seq (.ops [.L 18 3 2, .L 19 3 3, .i 20 (.call 29 [.t 18, .t 19]), .m 6 20]) (.seq (.ops [.m 21 6, .i 22 (.bin .neq (.t 21) (.n 0))]) (.cond (.t 22) (.seq (.ops [.i 23 (.build [.st (.int .i64 0), .full [], .full []] []), .m 24 6, .s 3 4 23, .m 5 24]) .ret) .skip))) (.seq (.ops [.f 25 0 2, .l 26 25, .f 27 0 3, .l 28 27, .i 29 (.bin .mul (.t 26) (.t 28)), .i 30 (.build [.st (.int .i64 0), .full [], .full []] [(0, 1, .t 29)]), .i 7 (.alloc 25 [.st (.int .i64 0), .full [], .full []]), .s 3 7 30]) (.seq (.seq (.ops [.f 31 1 2, .l 32 31, .i 33 (.len false (.t 32)), .i 34 (.mov (.n 0))]) (.block 0 (.loop (.seq (.ops [.i 35 (.bin .lss (.t 34) (.t 33))]) (.seq (.cond (.t 35) .skip (.exit 0)) (.seq (.block 1 (.seq (.ops [.i 36 (.indexAddr 3 (.t 32) (.t 34)), .L 37 3 36, .i 9 (.alloc 46 [.st (.str (ByteArray.mk (#[]))), .full [], .st (.int .i64 0)]), .s 3 9 37]) (.seq (.ops [.f 38 1 3, .l 39 38, .i 40 (.len false (.t 39)), .i 41 (.mov (.n 0))]) (.block 2 (.loop (.seq (.ops [.i 42 (.bin .lss (.t 41) (.t 40))]) (.seq (.cond (.t 42) .skip (.exit 2)) (.seq (.block 3 (.seq (.ops [.i 43 (.indexAddr 3 (.t 39) (.t 41)), .L 44 3 43, .i 11 (.alloc 46 [.st (.str (ByteArray.mk (#[]))), .full [], .st (.int .i64 0)]), .s 3 11 44]) (.seq (.seq (.ops [.f 45 0 9, .l 46 45, .f 47 0 11, .l 48 47, .i 49 (.bin .neq (.t 46) (.t 48)), .m 50 49, .mk (some 51) (some (50, false)) (.fieldAddr 1 (.t 9)) .no, .mk (some 52) (some (50, false)) (.load false 1 (.t 51)) .no, .mk (some 53) (some (50, false)) (.len false (.t 52)) .no, .mk (some 54) (some (50, false)) (.fieldAddr 1 (.t 11)) .no, .mk (some 55) (some (50, false)) (.load false 1 (.t 54)) .no, .mk (some 56) (some (50, false)) (.len false (.t 55)) .no, .mk (some 57) (some (50, false)) (.bin .neq (.t 53) (.t 56)) .no, .i 58 (.pick (.t 50) (.c (.one (.st (.bool true)))) (.t 57))]) (.cond (.t 58) (.exit 3) .skip)) (.seq (.ops [.f 59 0 9, .l 60 59, .f 61 2 9, .l 62 61, .f 63 0 3, .l 64 63, .i 65 (.bin .mul (.t 62) (.t 64)), .f 66 2 11, .l 67 66, .i 68 (.bin .add (.t 65) (.t 67)), .i 69 (.build [.st (.str (ByteArray.mk (#[]))), .full [], .st (.int .i64 0)] [(0, 1, .t 60), (2, 1, .t 68)]), .i 12 (.alloc 46 [.st (.str (ByteArray.mk (#[]))), .full [], .st (.int .i64 0)]), .s 3 12 69]) (.seq (.seq (.ops [.f 70 1 9, .l 71 70, .i 72 (.len false (.t 71)), .i 73 (.mov (.n 0))]) (.block 4 (.loop (.seq (.ops [.i 74 (.bin .lss (.t 73) (.t 72))]) (.seq (.cond (.t 74) .skip (.exit 4)) (.seq (.block 5 (.seq (.ops [.m 75 73, .m 13 75]) (.ops [.f 76 1 12, .l 77 76, .f 78 1 9, .l 79 78, .m 80 13, .i 81 (.indexAddr 1 (.t 79) (.t 80)), .l 82 81, .f 83 0 3, .l 84 83, .i 85 (.bin .mul (.t 82) (.t 84)), .f 86 1 11, .l 87 86, .m 88 13, .i 89 (.indexAddr 1 (.t 87) (.t 88)), .l 90 89, .i 91 (.bin .add (.t 85) (.t 90)), .i 92 (.buildFlat [.t 91]), .i 93 (.append false 3 1 8 (.t 77) (.t 92)), .f 94 1 12, .s 1 94 93]))) (.ops [.i 95 (.bin .add (.t 73) (.n 1)), .m 73 95]))))))) (.ops [.f 96 1 7, .l 97 96, .L 98 3 12, .i 99 (.buildSlice false 46 3 [.t 98]), .i 100 (.append false 46 3 48 (.t 97) (.t 99)), .f 101 1 7, .s 1 101 100])))))) (.ops [.i 102 (.bin .add (.t 41) (.n 1)), .m 41 102]))))))))) (.ops [.i 103 (.bin .add (.t 34) (.n 1)), .m 34 103]))))))) (.seq (.seq (.ops [.f 104 2 2, .l 105 104, .i 106 (.len false (.t 105)), .i 107 (.mov (.n 0))]) (.block 6 (.loop (.seq (.ops [.i 108 (.bin .lss (.t 107) (.t 106))]) (.seq (.cond (.t 108) .skip (.exit 6)) (.seq (.block 7 (.seq (.ops [.i 109 (.indexAddr 1 (.t 105) (.t 107)), .l 110 109, .m 15 110]) (.seq (.ops [.f 111 2 3, .l 112 111, .i 113 (.len false (.t 112)), .i 114 (.mov (.n 0))]) (.block 8 (.loop (.seq (.ops [.i 115 (.bin .lss (.t 114) (.t 113))]) (.seq (.cond (.t 115) .skip (.exit 8)) (.seq (.block 9 (.seq (.ops [.i 116 (.indexAddr 1 (.t 112) (.t 114)), .l 117 116, .m 17 117]) (.ops [.f 118 2 7, .l 119 118, .m 120 15, .f 121 0 3, .l 122 121, .i 123 (.bin .mul (.t 120) (.t 122)), .m 124 17, .i 125 (.bin .add (.t 123) (.t 124)), .i 126 (.buildFlat [.t 125]), .i 127 (.append false 3 1 8 (.t 119) (.t 126)), .f 128 2 7, .s 1 128 127]))) (.ops [.i 129 (.bin .add (.t 114) (.n 1)), .m 114 129]))))))))) (.ops [.i 130 (.bin .add (.t 107) (.n 1)), .m 107 130]))))))) (.seq (.ops [.L 131 3 7, .s 3 4 131, .i 5 (.mov (.n 0))]) .ret))))))
theorem JC : OkF Try.prog 20 132 [] FZ [.cell 4 true 3, .t 5] := .of Try.func20 rfl rfl (by kernel_rfl) rfl
def EA : IR :=
 (.seq (.ops [.i 2 (.box 25 (.t 0)), .i 3 (.box 25 (.t 1)), .i 4 (.alloc 25 [.st (.int .i64 0), .full [], .full []]), .i 5 (.mov (.n 0))]) (.seq (.seq (.ops [.L 17 3 2, .L 18 3 3, .i 19 (.call 29 [.t 17, .t 18]), .m 6 19]) (.seq (.ops [.m 20 6, .i 21 (.bin .neq (.t 20) (.n 0))]) (.cond (.t 21) (.seq (.ops [.i 22 (.build [.st (.int .i64 0), .full [], .full []] []), .m 23 6, .s 3 4 22, .m 5 23]) .ret) .skip))) (.seq (.ops [.f 24 0 2, .l 25 24, .f 26 0 3, .l 27 26, .i 28 (.bin .add (.t 25) (.t 27)), .f 29 2 2, .l 30 29, .i 31 (.callN 49 [.t 30]), .i 32 (.build [.st (.int .i64 0), .full [], .full []] [(0, 1, .t 28), (2, 1, .t 31)]), .i 7 (.alloc 25 [.st (.int .i64 0), .full [], .full []]), .s 3 7 32]) (.seq (.seq (.ops [.f 33 1 2, .l 34 33, .i 35 (.len false (.t 34)), .i 36 (.mov (.n 0))]) (.block 0 (.loop (.seq (.ops [.i 37 (.bin .lss (.t 36) (.t 35))]) (.seq (.cond (.t 37) .skip (.exit 0)) (.seq (.block 1 (.seq (.ops [.i 38 (.indexAddr 3 (.t 34) (.t 36)), .L 39 3 38, .i 9 (.alloc 46 [.st (.str (ByteArray.mk (#[]))), .full [], .st (.int .i64 0)]), .s 3 9 39]) (.ops [.f 40 1 7, .l 41 40, .f 42 0 9, .l 43 42, .f 44 1 9, .l 45 44, .i 46 (.call 49 [.t 45]), .f 47 2 9, .l 48 47, .i 49 (.build [.st (.str (ByteArray.mk (#[]))), .full [], .st (.int .i64 0)] [(0, 1, .t 43), (1, 1, .t 46), (2, 1, .t 48)]), .i 50 (.buildSlice false 46 3 [.t 49]), .i 51 (.append false 46 3 48 (.t 41) (.t 50)), .f 52 1 7, .s 1 52 51]))) (.ops [.i 53 (.bin .add (.t 36) (.n 1)), .m 36 53]))))))) (.seq (.seq (.ops [.f 54 1 3, .l 55 54, .i 56 (.len false (.t 55)), .i 57 (.mov (.n 0))]) (.block 2 (.loop (.seq (.ops [.i 58 (.bin .lss (.t 57) (.t 56))]) (.seq (.cond (.t 58) .skip (.exit 2)) (.seq (.block 3 (.seq (.ops [.i 59 (.indexAddr 3 (.t 55) (.t 57)), .L 60 3 59, .i 11 (.alloc 46 [.st (.str (ByteArray.mk (#[]))), .full [], .st (.int .i64 0)]), .s 3 11 60]) (.seq (.ops [.f 61 0 11, .l 62 61, .f 63 2 11, .l 64 63, .f 65 0 2, .l 66 65, .i 67 (.bin .add (.t 64) (.t 66)), .i 68 (.build [.st (.str (ByteArray.mk (#[]))), .full [], .st (.int .i64 0)] [(0, 1, .t 62), (2, 1, .t 67)]), .i 12 (.alloc 46 [.st (.str (ByteArray.mk (#[]))), .full [], .st (.int .i64 0)]), .s 3 12 68]) (.seq (.seq (.ops [.f 69 1 11, .l 70 69, .i 71 (.len false (.t 70)), .i 72 (.mov (.n 0))]) (.block 4 (.loop (.seq (.ops [.i 73 (.bin .lss (.t 72) (.t 71))]) (.seq (.cond (.t 73) .skip (.exit 4)) (.seq (.block 5 (.seq (.ops [.i 74 (.indexAddr 1 (.t 70) (.t 72)), .l 75 74, .m 14 75]) (.ops [.f 76 1 12, .l 77 76, .m 78 14, .f 79 0 2, .l 80 79, .i 81 (.bin .add (.t 78) (.t 80)), .i 82 (.buildFlat [.t 81]), .i 83 (.append false 3 1 8 (.t 77) (.t 82)), .f 84 1 12, .s 1 84 83]))) (.ops [.i 85 (.bin .add (.t 72) (.n 1)), .m 72 85]))))))) (.ops [.f 86 1 7, .l 87 86, .L 88 3 12, .i 89 (.buildSlice false 46 3 [.t 88]), .i 90 (.append false 46 3 48 (.t 87) (.t 89)), .f 91 1 7, .s 1 91 90]))))) (.ops [.i 92 (.bin .add (.t 57) (.n 1)), .m 57 92]))))))) (.seq (.seq (.ops [.f 93 2 3, .l 94 93, .i 95 (.len false (.t 94)), .i 96 (.mov (.n 0))]) (.block 6 (.loop (.seq (.ops [.i 97 (.bin .lss (.t 96) (.t 95))]) (.seq (.cond (.t 97) .skip (.exit 6)) (.seq (.block 7 (.seq (.ops [.i 98 (.indexAddr 1 (.t 94) (.t 96)), .l 99 98, .m 16 99]) (.ops [.f 100 2 7, .l 101 100, .m 102 16, .f 103 0 2, .l 104 103, .i 105 (.bin .add (.t 102) (.t 104)), .i 106 (.buildFlat [.t 105]), .i 107 (.append false 3 1 8 (.t 101) (.t 106)), .f 108 2 7, .s 1 108 107]))) (.ops [.i 109 (.bin .add (.t 96) (.n 1)), .m 96 109]))))))) (.seq (.ops [.L 110 3 7, .s 3 4 110, .i 5 (.mov (.n 0))]) .ret)))))))
theorem HP : OkF Try.prog 21 111 [20000031] EA [.cell 4 true 3, .t 5] := .of Try.func21 rfl rfl (by kernel_rfl) rfl

def D7 : IR :=
 (.seq (.ops [.i 2 (.mov (.c (.one (.st (.bool false)))))]) (.seq (.ops [.m 3 0, .i 4 (.bin .geq (.t 3) (.c (.one (.st (.int .u8 97))))), .m 5 4, .mk (some 6) (some (5, true)) (.mov (.t 0)) .no, .mk (some 7) (some (5, true)) (.bin .leq (.t 6) (.c (.one (.st (.int .u8 122))))) .no, .i 8 (.pick (.t 5) (.t 7) (.c (.one (.st (.bool false))))), .m 9 8, .mk (some 10) (some (9, false)) (.mov (.t 0)) .no, .mk (some 11) (some (9, false)) (.bin .geq (.t 10) (.c (.one (.st (.int .u8 65))))) .no, .mk (some 12) (some (9, false)) (.mov (.t 11)) .no, .mk (some 13) (some (12, true)) (.mov (.t 0)) .no, .mk (some 14) (some (12, true)) (.bin .leq (.t 13) (.c (.one (.st (.int .u8 90))))) .no, .mk (some 15) (some (9, false)) (.pick (.t 12) (.t 14) (.c (.one (.st (.bool false))))) .no, .i 16 (.pick (.t 9) (.c (.one (.st (.bool true)))) (.t 15)), .m 17 16, .mk (some 18) (some (17, false)) (.mov (.t 0)) .no, .mk (some 19) (some (17, false)) (.bin .geq (.t 18) (.c (.one (.st (.int .u8 48))))) .no, .mk (some 20) (some (17, false)) (.mov (.t 19)) .no, .mk (some 21) (some (20, true)) (.mov (.t 0)) .no, .mk (some 22) (some (20, true)) (.bin .leq (.t 21) (.c (.one (.st (.int .u8 57))))) .no, .mk (some 23) (some (17, false)) (.pick (.t 20) (.t 22) (.c (.one (.st (.bool false))))) .no, .i 24 (.pick (.t 17) (.c (.one (.st (.bool true)))) (.t 23)), .m 2 24]) .ret))
theorem Hs : OkF Try.prog 86 25 [] D7 [.t 2] := .of Try.func86 rfl rfl (by kernel_rfl) rfl
def CG : IR :=
 (.seq (.ops [.i 2 (.mov (.c (.one (.st (.bool false)))))]) (.seq (.seq (.ops [.m 4 0, .i 5 (.len true (.t 4)), .i 6 (.bin .lss (.t 5) (.n 1)), .m 7 6, .mk (some 8) (some (7, false)) (.mov (.t 0)) .no, .mk (some 9) (some (7, false)) (.len true (.t 8)) .no, .mk (some 10) (some (7, false)) (.bin .gtr (.t 9) (.n 8)) .no, .i 11 (.pick (.t 7) (.c (.one (.st (.bool true)))) (.t 10)), .m 12 11, .mk (some 13) (some (12, false)) (.mov (.t 0)) .no, .mk (some 14) (some (12, false)) (.indexStr (.t 13) (.n 0)) .no, .mk (some 15) (some (12, false)) (.bin .geq (.t 14) (.c (.one (.st (.int .u8 48))))) .no, .mk (some 16) (some (12, false)) (.mov (.t 15)) .no, .mk (some 17) (some (16, true)) (.mov (.t 0)) .no, .mk (some 18) (some (16, true)) (.indexStr (.t 17) (.n 0)) .no, .mk (some 19) (some (16, true)) (.bin .leq (.t 18) (.c (.one (.st (.int .u8 57))))) .no, .mk (some 20) (some (12, false)) (.pick (.t 16) (.t 19) (.c (.one (.st (.bool false))))) .no, .i 21 (.pick (.t 12) (.c (.one (.st (.bool true)))) (.t 20))]) (.cond (.t 21) (.seq (.ops [.i 2 (.mov (.c (.one (.st (.bool false)))))]) .ret) .skip)) (.seq (.seq (.ops [.m 22 0, .i 23 (.len true (.t 22)), .i 24 (.mov (.n 0))]) (.block 0 (.loop (.seq (.ops [.i 25 (.bin .lss (.t 24) (.t 23))]) (.seq (.cond (.t 25) .skip (.exit 0)) (.seq (.block 1 (.seq (.ops [.m 26 24, .m 3 26]) (.seq (.ops [.m 27 0, .m 28 3, .i 29 (.indexStr (.t 27) (.t 28)), .i 30 (.call 86 [.t 29]), .i 31 (.un .not (.t 30))]) (.cond (.t 31) (.seq (.ops [.i 2 (.mov (.c (.one (.st (.bool false)))))]) .ret) .skip)))) (.ops [.i 32 (.bin .add (.t 24) (.n 1)), .m 24 32]))))))) (.seq (.ops [.i 2 (.mov (.c (.one (.st (.bool true)))))]) .ret))))
theorem Ct : OkF Try.prog 69 33 [] CG [.t 2] := .of Try.func69 rfl rfl (by kernel_rfl) rfl
def CZ : IR :=
 (.seq (.ops [.i 2 (.mov (.c (.one (.st (.bool false)))))]) (.seq (.ops [.m 3 0, .i 4 (.bin .neq (.t 3) (.c (.one (.st (.str (ByteArray.mk (#[]))))))), .m 5 4, .mk (some 6) (some (5, true)) (.mov (.t 0)) .no, .mk (some 7) (some (5, true)) (.indexStr (.t 6) (.n 0)) .no, .mk (some 8) (some (5, true)) (.bin .geq (.t 7) (.c (.one (.st (.int .u8 65))))) .no, .i 9 (.pick (.t 5) (.t 8) (.c (.one (.st (.bool false))))), .m 10 9, .mk (some 11) (some (10, true)) (.mov (.t 0)) .no, .mk (some 12) (some (10, true)) (.indexStr (.t 11) (.n 0)) .no, .mk (some 13) (some (10, true)) (.bin .leq (.t 12) (.c (.one (.st (.int .u8 90))))) .no, .i 14 (.pick (.t 10) (.t 13) (.c (.one (.st (.bool false))))), .m 2 14]) .ret))
theorem DQ : OkF Try.prog 70 15 [] CZ [.t 2] := .of Try.func70 rfl rfl (by kernel_rfl) rfl
def ET : IR :=
 (.seq (.ops [.i 2 (.box 39 (.t 0)), .i 4 (.mov (.n 0))]) (.seq (.ops [.m 7 1, .i 8 (.bin .sub (.t 7) (.n 1)), .m 1 8]) (.seq (.seq (.ops [.f 9 1 2, .l 10 9, .i 11 (.len false (.t 10)), .i 12 (.mov (.n 0))]) (.block 0 (.loop (.seq (.ops [.i 13 (.bin .lss (.t 12) (.t 11))]) (.seq (.cond (.t 13) .skip (.exit 0)) (.seq (.block 1 (.seq (.ops [.i 14 (.indexAddr 2 (.t 10) (.t 12)), .L 15 2 14, .i 6 (.alloc 39 [.st (.str (ByteArray.mk (#[]))), .full []]), .s 2 6 15]) (.seq (.seq (.ops [.m 16 1, .i 17 (.bin .lss (.t 16) (.n 0))]) (.cond (.t 17) (.exit 0) .skip)) (.ops [.L 18 2 6, .m 19 1, .i 20 (.call 64 [.t 18, .t 19]), .m 1 20])))) (.ops [.i 21 (.bin .add (.t 12) (.n 1)), .m 12 21]))))))) (.seq (.ops [.m 22 1, .m 4 22]) .ret))))
theorem G0 : OkF Try.prog 64 23 [] ET [.t 4] := .of Try.func64 rfl rfl (by kernel_rfl) rfl
def Et : IR :=
 (.seq (.ops [.i 1 (.box 39 (.t 0)), .i 2 (.mov (.n 0))]) (.seq (.seq (.ops [.f 6 0 1, .l 7 6, .i 8 (.call 69 [.t 7]), .i 9 (.un .not (.t 8))]) (.cond (.t 9) (.seq (.ops [.i 2 (.mov (.n 1))]) .ret) .skip)) (.seq (.seq (.ops [.f 10 0 1, .l 11 10, .i 12 (.call 70 [.t 11]), .m 13 12, .mk (some 14) (some (13, true)) (.fieldAddr 1 (.t 1)) .no, .mk (some 15) (some (13, true)) (.load false 1 (.t 14)) .no, .mk (some 16) (some (13, true)) (.len false (.t 15)) .no, .mk (some 17) (some (13, true)) (.bin .gtr (.t 16) (.n 0)) .no, .i 18 (.pick (.t 13) (.t 17) (.c (.one (.st (.bool false)))))]) (.cond (.t 18) (.seq (.ops [.i 2 (.mov (.n 2))]) .ret) .skip)) (.seq (.seq (.ops [.f 19 1 1, .l 20 19, .i 21 (.len false (.t 20)), .i 22 (.mov (.n 0))]) (.block 0 (.loop (.seq (.ops [.i 23 (.bin .lss (.t 22) (.t 21))]) (.seq (.cond (.t 23) .skip (.exit 0)) (.seq (.block 1 (.seq (.ops [.i 24 (.indexAddr 2 (.t 20) (.t 22)), .L 25 2 24, .i 4 (.alloc 39 [.st (.str (ByteArray.mk (#[]))), .full []]), .s 2 4 25]) (.seq (.ops [.L 26 2 4, .i 27 (.call 65 [.t 26]), .m 5 27]) (.seq (.ops [.m 28 5, .i 29 (.bin .neq (.t 28) (.n 0))]) (.cond (.t 29) (.seq (.ops [.m 30 5, .m 2 30]) .ret) .skip))))) (.ops [.i 31 (.bin .add (.t 22) (.n 1)), .m 22 31]))))))) (.seq (.ops [.i 2 (.mov (.n 0))]) .ret)))))
theorem H9 : OkF Try.prog 65 32 [] Et [.t 2] := .of Try.func65 rfl rfl (by kernel_rfl) rfl
def E2 : IR :=
 (.seq (.ops [.i 1 (.box 39 (.t 0)), .i 2 (.mov (.n 0))]) (.seq (.seq (.ops [.L 3 2 1, .i 4 (.call 64 [.t 3, .n 200]), .i 5 (.bin .lss (.t 4) (.n 0))]) (.cond (.t 5) (.seq (.ops [.i 2 (.mov (.n 3))]) .ret) .skip)) (.seq (.ops [.L 6 2 1, .i 7 (.call 65 [.t 6]), .m 2 7]) .ret)))
theorem IB : OkF Try.prog 46 8 [] E2 [.t 2] := .of Try.func46 rfl rfl (by kernel_rfl) rfl
def A8 : IR :=
 (.seq (.ops [.i 4 (.mov (.n 0))]) (.seq (.seq (.ops [.m 6 0, .i 7 (.len false (.t 6)), .i 8 (.mov (.n 0))]) (.block 0 (.loop (.seq (.ops [.i 9 (.bin .lss (.t 8) (.t 7))]) (.seq (.cond (.t 9) .skip (.exit 0)) (.seq (.block 1 (.seq (.ops [.m 10 8, .m 5 10]) (.seq (.ops [.m 11 1, .m 12 0, .m 13 5, .i 14 (.indexAddr 1 (.t 12) (.t 13)), .l 15 14, .i 16 (.bin .eql (.t 11) (.t 15))]) (.cond (.t 16) (.seq (.ops [.m 17 5, .m 4 17]) .ret) .skip)))) (.ops [.i 18 (.bin .add (.t 8) (.n 1)), .m 8 18]))))))) (.seq (.ops [.i 4 (.mov (.c (.one (.st (.int .i64 (-1))))))]) .ret)))
theorem Bb : OkF Try.prog 90 19 [] A8 [.t 4] := .of Try.func90 rfl rfl (by kernel_rfl) rfl
def BS : IR :=
 (.seq (.ops [.i 4 (.mov (.c (.one (.st (.bool false)))))]) (.seq (.ops [.m 5 0, .m 6 1, .i 7 (.call 90 [.t 5, .t 6]), .i 8 (.bin .geq (.t 7) (.n 0)), .m 4 8]) .ret))
theorem CB : OkF Try.prog 75 9 [] BS [.t 4] := .of Try.func75 rfl rfl (by kernel_rfl) rfl
def Dj : IR :=
 (.seq (.ops [.i 2 (.box 39 (.t 0)), .i 4 (.mov (.c (.one (.full []))))]) (.seq (.seq (.ops [.f 7 0 2, .l 8 7, .i 9 (.call 70 [.t 8]), .m 10 9, .mk (some 11) (some (10, true)) (.mov (.t 1)) .no, .mk (some 12) (some (10, true)) (.fieldAddr 0 (.t 2)) .no, .mk (some 13) (some (10, true)) (.load false 1 (.t 12)) .no, .mk (some 14) (some (10, true)) (.call 75 [.t 11, .t 13]) .no, .mk (some 15) (some (10, true)) (.un .not (.t 14)) .no, .i 16 (.pick (.t 10) (.t 15) (.c (.one (.st (.bool false)))))]) (.cond (.t 16) (.ops [.m 17 1, .f 18 0 2, .l 19 18, .i 20 (.buildFlat [.t 19]), .i 21 (.append false 9 1 16 (.t 17) (.t 20)), .m 1 21]) .skip)) (.seq (.seq (.ops [.f 22 1 2, .l 23 22, .i 24 (.len false (.t 23)), .i 25 (.mov (.n 0))]) (.block 0 (.loop (.seq (.ops [.i 26 (.bin .lss (.t 25) (.t 24))]) (.seq (.cond (.t 26) .skip (.exit 0)) (.seq (.block 1 (.seq (.ops [.i 27 (.indexAddr 2 (.t 23) (.t 25)), .L 28 2 27, .i 6 (.alloc 39 [.st (.str (ByteArray.mk (#[]))), .full []]), .s 2 6 28]) (.ops [.L 29 2 6, .m 30 1, .i 31 (.callS 66 [.t 29, .t 30]), .m 1 31]))) (.ops [.i 32 (.bin .add (.t 25) (.n 1)), .m 25 32]))))))) (.seq (.ops [.m 33 1, .m 4 33]) .ret))))
theorem Ft : OkF Try.prog 66 34 [31] Dj [.t 4] := .of Try.func66 rfl rfl (by kernel_rfl) rfl
def Ff : IR :=
 (.seq (.ops [.i 1 (.box 39 (.t 0)), .i 2 (.mov (.c (.one (.full []))))]) (.seq (.ops [.L 3 2 1, .i 4 (.callS 66 [.t 3, .c (.one (.full []))]), .m 2 4]) .ret))
theorem JI : OkF Try.prog 47 5 [4] Ff [.t 2] := .of Try.func47 rfl rfl (by kernel_rfl) rfl

theorem FT (s : ByteArray) (k : Nat) : I3 s k = A7 s k := rfl
theorem Px {s : ByteArray} (h : ¬ s.size = 0) : ¬ s = ⟨#[]⟩ := fun e => h (by rw [e]; rfl)
theorem PF {s : ByteArray} (h : s.size = 0) : s = ⟨#[]⟩ := by
 have := ByteArray.size_eq_zero_iff.1 h
 exact this
theorem Pe (n : Int) (h0 : 0 ≤ n) : Ac Try.prog 86 [.one (.st (.int .u8 n))] (BJ (CJ n)) := by
 refine Hs.ac fun C hC => ?_
 unfold D7
 have hc : (97 ≤ n ∧ n ≤ 122) ∨ (122 < n) ∨ (n < 97 ∧ 65 ≤ n ∧ n ≤ 90) ∨ (n < 97 ∧ 90 < n) ∨ (n < 65 ∧ 48 ≤ n ∧ n ≤ 57) ∨ (n < 65 ∧ 57 < n) ∨ (n < 48) := by omega
 rcases hc with h | h | h | h | h | h | h
 ·have h1 : 97 ≤ n := h.1
  have h2 : n ≤ 122 := h.2
  repeat' with_reducible first | refine W ?_ | refine Z0 ?_ | ((first | refine Wo fun K hK => ?_ | refine Wq ?_ | refine Wr ?_); (try simp only [go_sem, fN, seval, eT, iR, h1, h2]); (repeat refine Ai ?_); (try (refine hK _ ?_; clear hK K)))
  simp only [go_sem, fN, seval, Ae, AS.result, AK, AL, AZ, CJ, h1, h2]
  try simp
 ·have h1 : 97 ≤ n := by omega
  have h2 : ¬ n ≤ 122 := by omega
  have h3 : 65 ≤ n := by omega
  have h4 : ¬ n ≤ 90 := by omega
  have h5 : 48 ≤ n := by omega
  have h6 : ¬ n ≤ 57 := by omega
  repeat' with_reducible first | refine W ?_ | refine Z0 ?_ | ((first | refine Wo fun K hK => ?_ | refine Wq ?_ | refine Wr ?_); (try simp only [go_sem, fN, seval, eT, iR, h1, h2, h3, h4, h5, h6]); (repeat refine Ai ?_); (try (refine hK _ ?_; clear hK K)))
  simp only [go_sem, fN, seval, Ae, AS.result, AK, AL, AZ, CJ, h1, h2, h3, h4, h5, h6]
  try simp
 ·have h1 : ¬ 97 ≤ n := by omega
  have h3 : 65 ≤ n := by omega
  have h4 : n ≤ 90 := by omega
  repeat' with_reducible first | refine W ?_ | refine Z0 ?_ | ((first | refine Wo fun K hK => ?_ | refine Wq ?_ | refine Wr ?_); (try simp only [go_sem, fN, seval, eT, iR, h1, h3, h4]); (repeat refine Ai ?_); (try (refine hK _ ?_; clear hK K)))
  simp only [go_sem, fN, seval, Ae, AS.result, AK, AL, AZ, CJ, h1, h3, h4]
  try simp
 ·have h1 : ¬ 97 ≤ n := by omega
  have h3 : 65 ≤ n := by omega
  have h4 : ¬ n ≤ 90 := by omega
  have h5 : 48 ≤ n := by omega
  have h6 : ¬ n ≤ 57 := by omega
  repeat' with_reducible first | refine W ?_ | refine Z0 ?_ | ((first | refine Wo fun K hK => ?_ | refine Wq ?_ | refine Wr ?_); (try simp only [go_sem, fN, seval, eT, iR, h1, h3, h4, h5, h6]); (repeat refine Ai ?_); (try (refine hK _ ?_; clear hK K)))
  simp only [go_sem, fN, seval, Ae, AS.result, AK, AL, AZ, CJ, h1, h3, h4, h5, h6]
  try simp
 ·have h1 : ¬ 97 ≤ n := by omega
  have h3 : ¬ 65 ≤ n := by omega
  have h5 : 48 ≤ n := by omega
  have h6 : n ≤ 57 := by omega
  repeat' with_reducible first | refine W ?_ | refine Z0 ?_ | ((first | refine Wo fun K hK => ?_ | refine Wq ?_ | refine Wr ?_); (try simp only [go_sem, fN, seval, eT, iR, h1, h3, h5, h6]); (repeat refine Ai ?_); (try (refine hK _ ?_; clear hK K)))
  simp only [go_sem, fN, seval, Ae, AS.result, AK, AL, AZ, CJ, h1, h3, h5, h6]
  try simp
 ·have h1 : ¬ 97 ≤ n := by omega
  have h3 : ¬ 65 ≤ n := by omega
  have h5 : 48 ≤ n := by omega
  have h6 : ¬ n ≤ 57 := by omega
  repeat' with_reducible first | refine W ?_ | refine Z0 ?_ | ((first | refine Wo fun K hK => ?_ | refine Wq ?_ | refine Wr ?_); (try simp only [go_sem, fN, seval, eT, iR, h1, h3, h5, h6]); (repeat refine Ai ?_); (try (refine hK _ ?_; clear hK K)))
  simp only [go_sem, fN, seval, Ae, AS.result, AK, AL, AZ, CJ, h1, h3, h5, h6]
  try simp
 ·have h1 : ¬ 97 ≤ n := by omega
  have h3 : ¬ 65 ≤ n := by omega
  have h5 : ¬ 48 ≤ n := by omega
  repeat' with_reducible first | refine W ?_ | refine Z0 ?_ | ((first | refine Wo fun K hK => ?_ | refine Wq ?_ | refine Wr ?_); (try simp only [go_sem, fN, seval, eT, iR, h1, h3, h5]); (repeat refine Ai ?_); (try (refine hK _ ?_; clear hK K)))
  simp only [go_sem, fN, seval, Ae, AS.result, AK, AL, AZ, CJ, h1, h3, h5]
  try simp
theorem C6 (s : ByteArray) : Ac Try.prog 70 [HE s] (BJ (BG s)) := by
 by_cases h0 : s.size = 0
 ·have := PF h0
  subst this
  refine DQ.ac fun C hC => ?_
  unfold CZ
  repeat' with_reducible first | refine W ?_ | refine Z0 ?_ | ((first | refine Wo fun K hK => ?_ | refine Wq ?_ | refine Wr ?_); (try simp only [go_sem, fN, seval, eT, iR]); (repeat refine Ai ?_); (try (refine hK _ ?_; clear hK K)))
  simp only [go_sem, fN, seval, Ae, AS.result, AK, AL, AZ]
  rfl
 ·have h1 := Px h0
  have h2 : 0 < s.size := by omega
  refine DQ.ac fun C hC => ?_
  unfold CZ
  by_cases h3 : 65 ≤ A7 s 0 <;> by_cases h4 : A7 s 0 ≤ 90
  all_goals
   repeat' with_reducible first | refine W ?_ | refine Z0 ?_ | ((first | refine Wo fun K hK => ?_ | refine Wq ?_ | refine Wr ?_); (try simp only [go_sem, fN, seval, eT, iR, h1, h2, FT, h3, h4]); (repeat refine Ai ?_); (try (refine hK _ ?_; clear hK K)))
   simp only [go_sem, fN, seval, Ae, AS.result, AK, AL, AZ, BG, h3, h4, h2]
   try simp
theorem Nb (s : ByteArray) (h1 : 1 ≤ s.size) (h8 : s.size ≤ 8) (hd : ¬ (48 ≤ A7 s 0 ∧ A7 s 0 ≤ 57)) : BB s = CA s s.size := by
 unfold BB
 have : (decide (48 ≤ A7 s 0) && decide (A7 s 0 ≤ 57)) = false := by
  rw [Bool.and_eq_false_iff]
  simp
  omega
 rw [this]
 simp [h1, h8]
theorem HW (s : ByteArray) : Ac Try.prog 69 [HE s] (BJ (BB s)) := by
 by_cases h0 : s.size < 1
 ·have e : BB s = false := by simp [BB]; omega
  rw [e]
  have h0' : (s.size : Int) < 1 := by omega
  refine Ct.ac fun C hC => ?_
  unfold CG
  repeat' with_reducible first | refine W ?_ | refine Z0 ?_ | ((first | refine Wo fun K hK => ?_ | refine Wq ?_ | refine Wr ?_); (try simp only [go_sem, fN, seval, eT, iR, h0']); (repeat refine Ai ?_); (try (refine hK _ ?_; clear hK K)))
  with_reducible refine Wp ?_
  simp only [go_sem, fN, seval, true_implies, false_implies, implies_true, dT, dF, nL, h0']
  (try with_reducible refine iC ?_)
  repeat' with_reducible first | refine W ?_ | refine Z0 ?_ | ((first | refine Wo fun K hK => ?_ | refine Wq ?_ | refine Wr ?_); (try simp only [go_sem, fN, seval, eT, iR]); (repeat refine Ai ?_); (try (refine hK _ ?_; clear hK K)))
  simp only [go_sem, fN, seval, Ae, AS.result, AK, AL, AZ]
 have h0' : ¬ (s.size : Int) < 1 := by omega
 by_cases h8 : 8 < s.size
 ·have e : BB s = false := by simp [BB]; omega
  rw [e]
  have h8' : (8 : Int) < s.size := by omega
  refine Ct.ac fun C hC => ?_
  unfold CG
  repeat' with_reducible first | refine W ?_ | refine Z0 ?_ | ((first | refine Wo fun K hK => ?_ | refine Wq ?_ | refine Wr ?_); (try simp only [go_sem, fN, seval, eT, iR, h0', h8']); (repeat refine Ai ?_); (try (refine hK _ ?_; clear hK K)))
  with_reducible refine Wp ?_
  simp only [go_sem, fN, seval, true_implies, false_implies, implies_true, dT, dF, nL, h0']
  (try with_reducible refine iC ?_)
  repeat' with_reducible first | refine W ?_ | refine Z0 ?_ | ((first | refine Wo fun K hK => ?_ | refine Wq ?_ | refine Wr ?_); (try simp only [go_sem, fN, seval, eT, iR]); (repeat refine Ai ?_); (try (refine hK _ ?_; clear hK K)))
  simp only [go_sem, fN, seval, Ae, AS.result, AK, AL, AZ]
 have h8' : ¬ (8 : Int) < s.size := by omega
 have hpos : 0 < s.size := by omega
 by_cases hd : 48 ≤ A7 s 0 ∧ A7 s 0 ≤ 57
 ·have e : BB s = false := by simp [BB, hd.1, hd.2]
  rw [e]
  refine Ct.ac fun C hC => ?_
  unfold CG
  repeat' with_reducible first | refine W ?_ | refine Z0 ?_ | ((first | refine Wo fun K hK => ?_ | refine Wq ?_ | refine Wr ?_); (try simp only [go_sem, fN, seval, eT, iR, h0', h8', hpos, FT, hd.1, hd.2]); (repeat refine Ai ?_); (try (refine hK _ ?_; clear hK K)))
  with_reducible refine Wp ?_
  simp only [go_sem, fN, seval, true_implies, false_implies, implies_true, dT, dF, nL, h0']
  (try with_reducible refine iC ?_)
  repeat' with_reducible first | refine W ?_ | refine Z0 ?_ | ((first | refine Wo fun K hK => ?_ | refine Wq ?_ | refine Wr ?_); (try simp only [go_sem, fN, seval, eT, iR]); (repeat refine Ai ?_); (try (refine hK _ ?_; clear hK K)))
  simp only [go_sem, fN, seval, Ae, AS.result, AK, AL, AZ]
 rw [Nb s (by omega) (by omega) hd]
 have hd2 : (48 ≤ A7 s 0 ∧ ¬ A7 s 0 ≤ 57) ∨ (¬ 48 ≤ A7 s 0) := by omega
 refine Ct.ac fun C hC => ?_
 unfold CG
 have h57 : 48 ≤ A7 s 0 → ¬ A7 s 0 ≤ 57 := fun h h' => hd ⟨h, h'⟩
 by_cases h48 : 48 ≤ A7 s 0
 all_goals
  simp only [h48, true_implies, false_implies] at h57
  repeat' with_reducible first | refine W ?_ | refine Z0 ?_ | ((first | refine Wo fun K hK => ?_ | refine Wq ?_ | refine Wr ?_); (try simp only [go_sem, fN, seval, eT, iR, h0', h8', hpos, FT, h48, h57]); (repeat refine Ai ?_); (try (refine hK _ ?_; clear hK K)))
  with_reducible refine Wp ?_
  simp only [go_sem, fN, seval, true_implies, false_implies, implies_true, dT, dF, nL, h0']
  (try with_reducible refine iC ?_)
  repeat' with_reducible first | refine W ?_ | refine Z0 ?_ | ((first | refine Wo fun K hK => ?_ | refine Wq ?_ | refine Wr ?_); (try simp only [go_sem, fN, seval, eT, iR]); (repeat refine Ai ?_); (try (refine hK _ ?_; clear hK K)))
  refine IWP.loop (fun m x => ∃ k, k ≤ s.size ∧ m = s.size - k ∧ CA s k = true ∧ x.env 0 = HE s ∧ x.env 23 = AR s.size ∧ x.env 24 = AR k) s.size ⟨0, Nat.zero_le _, rfl, rfl, rfl, rfl, rfl⟩ ?_
  rintro m ⟨env, S⟩ ⟨k, hk, rfl, hl, e0, e23, e24⟩
  simp only at e0 e23 e24
  repeat' with_reducible first | refine W ?_ | refine Z0 ?_ | ((first | refine Wo fun K hK => ?_ | refine Wq ?_ | refine Wr ?_); (try simp only [go_sem, fN, seval, eT, iR, e0, e23, e24]); (repeat refine Ai ?_); (try (refine hK _ ?_; clear hK K)))
  with_reducible refine Wp ?_
  simp only [go_sem, fN, seval, true_implies, false_implies, implies_true, dT, dF, nL, e0, e23, e24]
  (try with_reducible refine iC ?_)
  refine ⟨fun hlt => ?_, fun hge => ?_⟩
  ·have hlt' : k < s.size := by omega
   repeat' (first | (with_reducible first | refine W ?_ | refine Z0 ?_ | ((first | refine Wo fun K hK => ?_ | refine Wq ?_ | refine Wr ?_); (try simp only [go_sem, fN, seval, eT, iR, e0, e23, e24, hlt', FT]); (repeat refine Ai ?_); (try (refine hK _ ?_; clear hK K)))) | refine Cg _ (Pe _ (JU s k).1) ?_)
   with_reducible refine Wp ?_
   simp only [go_sem, fN, seval, true_implies, false_implies, implies_true, dT, dF, nL]
   (try with_reducible refine iC ?_)
   refine ⟨fun hn => ?_, fun hn => ?_⟩
   ·repeat' with_reducible first | refine W ?_ | refine Z0 ?_ | ((first | refine Wo fun K hK => ?_ | refine Wq ?_ | refine Wr ?_); (try simp only [go_sem, fN, seval, eT, iR]); (repeat refine Ai ?_); (try (refine hK _ ?_; clear hK K)))
    simp only [go_sem, fN, seval, Ae, AS.result, AK, AL, AZ]
    rw [Jd s k hlt' (by simpa using hn)]
   ·repeat' with_reducible first | refine W ?_ | refine Z0 ?_ | ((first | refine Wo fun K hK => ?_ | refine Wq ?_ | refine Wr ?_); (try simp only [go_sem, fN, seval, eT, iR, e0, e23, e24]); (repeat refine Ai ?_); (try (refine hK _ ?_; clear hK K)))
    refine AH ⟨s.size - (k + 1), by omega, k + 1, by omega, rfl, ?_, ?_⟩
    ·rw [Hc s k hlt', hl]
     simpa using hn
    ·simp only [go_sem, fN, seval, eT, iR, e0, e23, e24]
     congr 3
  ·repeat' with_reducible first | refine W ?_ | refine Z0 ?_ | ((first | refine Wo fun K hK => ?_ | refine Wq ?_ | refine Wr ?_); (try simp only [go_sem, fN, seval, eT, iR]); (repeat refine Ai ?_); (try (refine hK _ ?_; clear hK K)))
   simp only [go_sem, fN, seval, Ae, AS.result, AK, AL, AZ]
   rw [show s.size = k by omega, hl]
theorem PS (t : Tm) (m : Int) (h0 : 0 ≤ m) (h1 : m ≤ 9223372036854775807) : Ac Try.prog 64 [aTm t, AR m] (AR (Bh t.size m)) := by
 induction h : SizeOf.sizeOf t using Nat.strongRecOn generalizing t m with
 | _ N ih =>
 subst h
 have hs := Tm.size_eq t
 refine G0.ac fun C hC => ?_
 unfold ET
 refine IWP.learn 0 (by omega) fun hkn => ?_
 have hkn := Kn hkn
 repeat' with_reducible first | refine W ?_ | refine Z0 ?_ | ((first | refine Wo fun K hK => ?_ | refine Wq ?_ | refine Wr ?_); (try simp only [go_sem, fN, seval, eT, iR]); (repeat refine Ai ?_); (try (refine hK _ ?_; clear hK K)))
 refine IWP.loopD [6] (fun n s => ∃ k, k ≤ t.args.length ∧ n = t.args.length - k ∧ s.env 1 = AR (Bh (1 + Tm.sizes (t.args.take k)) m) ∧ s.env 10 = .one (.st (.list (t.args.map EM))) ∧ s.env 11 = AR t.args.length ∧ s.env 12 = AR k ∧ s.S 6 = none) t.args.length ⟨0, Nat.zero_le _, rfl, by
  simp only [go_sem, fN, seval, eT, iR]
  rw [Bh]
  have z0 : Tm.sizes [] = 0 := rfl
  congr 3
  split <;> omega, rfl, rfl, rfl, rfl⟩ ?_
 rintro n ⟨env, S⟩ ⟨k, hk, rfl, e1, e10, e11, e12, s6⟩
 simp only at e1 e10 e11 e12 s6
 repeat' with_reducible first | refine W ?_ | refine Z0 ?_ | ((first | refine Wo fun K hK => ?_ | refine Wq ?_ | refine Wr ?_); (try simp only [go_sem, fN, seval, eT, iR, e1, e10, e11, e12, s6]); (repeat refine Ai ?_); (try (refine hK _ ?_; clear hK K)))
 with_reducible refine Wp ?_
 simp only [go_sem, fN, seval, true_implies, false_implies, implies_true, dT, dF, nL, e1, e10, e11, e12, s6]
 (try with_reducible refine iC ?_)
 refine ⟨fun hlt => ?_, fun hge => ?_⟩
 ·obtain ⟨a, ha⟩ := Ap (show k < t.args.length by omega)
  have z1 := Tm.sizes_take ha
  have z2 := Tm.sizes_take_le t.args (k + 1)
  have z3 := Tm.length_le t.args
  have z4 := NT (1 + Tm.sizes (t.args.take k)) m h0
  repeat' with_reducible first | refine W ?_ | refine Z0 ?_ | ((first | refine Wo fun K hK => ?_ | refine Wq ?_ | refine Wr ?_); (try simp only [go_sem, fN, seval, eT, iR, e1, e10, e11, e12, s6, ha]); (repeat refine Ai ?_); (try (refine hK _ ?_; clear hK K)))
  with_reducible refine Wp ?_
  simp only [go_sem, fN, seval, true_implies, false_implies, implies_true, dT, dF, nL, e1]
  (try with_reducible refine iC ?_)
  refine ⟨fun hb => ?_, fun hb => ?_⟩
  ·repeat' with_reducible first | refine W ?_ | refine Z0 ?_ | ((first | refine Wo fun K hK => ?_ | refine Wq ?_ | refine Wr ?_); (try simp only [go_sem, fN, seval, eT, iR, e1]); (repeat refine Ai ?_); (try (refine hK _ ?_; clear hK K)))
   simp only [go_sem, fN, seval, Ae, AS.result, AK, AL, AZ, e1]
   rw [Lk hb (show _ ≤ t.size by rw [hs]; omega)]
  ·repeat' (first | (with_reducible first | refine W ?_ | refine Z0 ?_ | ((first | refine Wo fun K hK => ?_ | refine Wq ?_ | refine Wr ?_); (try simp only [go_sem, fN, seval, eT, iR, e1, e10, e11, e12, s6, ha]); (repeat refine Ai ?_); (try (refine hK _ ?_; clear hK K)))) | refine Cg _ (ih _ (Tm.lt_of_arg (AT ha)) a _ (by omega) (by omega) rfl) ?_)
   refine AH ⟨t.args.length - (k + 1), by omega, k + 1, by omega, rfl, ?_⟩
   simp only [go_sem, fN, seval, AS.drop, As, AC.clears, AC.clear, AC.highs, AC.high, Bool.not_false, Bool.true_and, Bool.and_self, AV.purge, AV.purges, AC.purge, AJ.purge, List.contains_cons, List.contains_nil, Nat.reduceBEq, Bool.or_self, Bool.or_false, Bool.false_or, Bool.or_true, eT, iR, e1, e10, e11, e12, s6]
   exact ⟨by rw [Jq (by omega), z1]; congr 4; omega, by congr 3⟩
 ·repeat' with_reducible first | refine W ?_ | refine Z0 ?_ | ((first | refine Wo fun K hK => ?_ | refine Wq ?_ | refine Wr ?_); (try simp only [go_sem, fN, seval, eT, iR, e1]); (repeat refine Ai ?_); (try (refine hK _ ?_; clear hK K)))
  simp only [go_sem, fN, seval, Ae, AS.result, AK, AL, AZ, e1]
  rw [List.take_of_length_le (by omega), hs]
theorem P9 (t : Tm) : Ac Try.prog 65 [aTm t] (AR t.chk) := by
 induction h : SizeOf.sizeOf t using Nat.strongRecOn generalizing t with
 | _ N ih =>
 subst h
 have hc := Tm.chk_eq t
 have hc1 : D6 t = if BB t.name = true then (if BG t.name = true ∧ 0 < t.args.length then 2 else 0) else 1 := rfl
 refine H9.ac fun C hC => ?_
 unfold Et
 refine IWP.learn 0 (by omega) fun hkn => ?_
 have hkn := Kn hkn
 repeat' with_reducible first | refine W ?_ | refine Z0 ?_ | ((first | refine Wo fun K hK => ?_ | refine Wq ?_ | refine Wr ?_); (try simp only [go_sem, fN, seval, eT, iR]); (repeat refine Ai ?_); (try (refine hK _ ?_; clear hK K)))
 refine ⟨_, HW _, ?_⟩
 cases hn : BB t.name with
 | false =>
  rw [hn, if_neg (by simp)] at hc1
  repeat' with_reducible first | refine W ?_ | refine Z0 ?_ | ((first | refine Wo fun K hK => ?_ | refine Wq ?_ | refine Wr ?_); (try simp only [go_sem, fN, seval, eT, iR]); (repeat refine Ai ?_); (try (refine hK _ ?_; clear hK K)))
  with_reducible refine Wp ?_
  simp only [go_sem, fN, seval, true_implies, false_implies, implies_true, dT, dF, nL]
  (try with_reducible refine iC ?_)
  repeat' with_reducible first | refine W ?_ | refine Z0 ?_ | ((first | refine Wo fun K hK => ?_ | refine Wq ?_ | refine Wr ?_); (try simp only [go_sem, fN, seval, eT, iR]); (repeat refine Ai ?_); (try (refine hK _ ?_; clear hK K)))
  simp only [go_sem, fN, seval, Ae, AS.result, AK, AL, AZ]
  rw [hc, hc1]
  rfl
 | true =>
  rw [hn, if_pos rfl] at hc1
  repeat' with_reducible first | refine W ?_ | refine Z0 ?_ | ((first | refine Wo fun K hK => ?_ | refine Wq ?_ | refine Wr ?_); (try simp only [go_sem, fN, seval, eT, iR]); (repeat refine Ai ?_); (try (refine hK _ ?_; clear hK K)))
  with_reducible refine Wp ?_
  simp only [go_sem, fN, seval, true_implies, false_implies, implies_true, dT, dF, nL]
  (try with_reducible refine iC ?_)
  repeat' with_reducible first | refine W ?_ | refine Z0 ?_ | ((first | refine Wo fun K hK => ?_ | refine Wq ?_ | refine Wr ?_); (try simp only [go_sem, fN, seval, eT, iR]); (repeat refine Ai ?_); (try (refine hK _ ?_; clear hK K)))
  refine ⟨_, C6 _, ?_⟩
  by_cases hv : BG t.name = true ∧ 0 < t.args.length
  ·obtain ⟨hv1, hv2⟩ := hv
   have hv2' : (0 : Int) < t.args.length := by omega
   rw [if_pos ⟨hv1, hv2⟩] at hc1
   rw [hv1]
   repeat' with_reducible first | refine W ?_ | refine Z0 ?_ | ((first | refine Wo fun K hK => ?_ | refine Wq ?_ | refine Wr ?_); (try simp only [go_sem, fN, seval, eT, iR, hv2']); (repeat refine Ai ?_); (try (refine hK _ ?_; clear hK K)))
   with_reducible refine Wp ?_
   simp only [go_sem, fN, seval, true_implies, false_implies, implies_true, dT, dF, nL, hv2']
   (try with_reducible refine iC ?_)
   repeat' with_reducible first | refine W ?_ | refine Z0 ?_ | ((first | refine Wo fun K hK => ?_ | refine Wq ?_ | refine Wr ?_); (try simp only [go_sem, fN, seval, eT, iR]); (repeat refine Ai ?_); (try (refine hK _ ?_; clear hK K)))
   simp only [go_sem, fN, seval, Ae, AS.result, AK, AL, AZ]
   rw [hc, hc1]
   rfl
  ·rw [if_neg hv] at hc1
   rw [if_pos hc1] at hc
   have hv2 : BG t.name = true → ¬ (0 : Int) < t.args.length := fun h h' => hv ⟨h, by omega⟩
   cases hvv : BG t.name
   all_goals
    simp only [hvv, true_implies, false_implies, Bool.false_eq_true] at hv2
    repeat' with_reducible first | refine W ?_ | refine Z0 ?_ | ((first | refine Wo fun K hK => ?_ | refine Wq ?_ | refine Wr ?_); (try simp only [go_sem, fN, seval, eT, iR, hv2]); (repeat refine Ai ?_); (try (refine hK _ ?_; clear hK K)))
    with_reducible refine Wp ?_
    simp only [go_sem, fN, seval, true_implies, false_implies, implies_true, dT, dF, nL, hv2]
    (try with_reducible refine iC ?_)
    repeat' with_reducible first | refine W ?_ | refine Z0 ?_ | ((first | refine Wo fun K hK => ?_ | refine Wq ?_ | refine Wr ?_); (try simp only [go_sem, fN, seval, eT, iR]); (repeat refine Ai ?_); (try (refine hK _ ?_; clear hK K)))
    refine IWP.loopD [4] (fun n s => ∃ k, k ≤ t.args.length ∧ n = t.args.length - k ∧ Tm.chkL (t.args.take k) = 0 ∧ s.env 20 = .one (.st (.list (t.args.map EM))) ∧ s.env 21 = AR t.args.length ∧ s.env 22 = AR k ∧ s.S 4 = none) t.args.length ⟨0, Nat.zero_le _, rfl, rfl, rfl, rfl, rfl, rfl⟩ ?_
    rintro n ⟨env, S⟩ ⟨k, hk, rfl, h0, e20, e21, e22, s4⟩
    simp only at e20 e21 e22 s4
    repeat' with_reducible first | refine W ?_ | refine Z0 ?_ | ((first | refine Wo fun K hK => ?_ | refine Wq ?_ | refine Wr ?_); (try simp only [go_sem, fN, seval, eT, iR, e20, e21, e22, s4]); (repeat refine Ai ?_); (try (refine hK _ ?_; clear hK K)))
    with_reducible refine Wp ?_
    simp only [go_sem, fN, seval, true_implies, false_implies, implies_true, dT, dF, nL, e20, e21, e22, s4]
    (try with_reducible refine iC ?_)
    refine ⟨fun hlt => ?_, fun hge => ?_⟩
    ·obtain ⟨a, ha⟩ := Ap (show k < t.args.length by omega)
     obtain ⟨g1, g2⟩ := Tm.chkL_get ha h0
     repeat' (first | (with_reducible first | refine W ?_ | refine Z0 ?_ | ((first | refine Wo fun K hK => ?_ | refine Wq ?_ | refine Wr ?_); (try simp only [go_sem, fN, seval, eT, iR, e20, e21, e22, s4, ha]); (repeat refine Ai ?_); (try (refine hK _ ?_; clear hK K)))) | refine Cg _ (ih _ (Tm.lt_of_arg (AT ha)) a rfl) ?_)
     with_reducible refine Wp ?_
     simp only [go_sem, fN, seval, true_implies, false_implies, implies_true, dT, dF, nL]
     (try with_reducible refine iC ?_)
     refine ⟨fun hb => ?_, fun hb => ?_⟩
     ·repeat' with_reducible first | refine W ?_ | refine Z0 ?_ | ((first | refine Wo fun K hK => ?_ | refine Wq ?_ | refine Wr ?_); (try simp only [go_sem, fN, seval, eT, iR]); (repeat refine Ai ?_); (try (refine hK _ ?_; clear hK K)))
      simp only [go_sem, fN, seval, Ae, AS.result, AK, AL, AZ]
      rw [hc, g2 hb]
     ·repeat' with_reducible first | refine W ?_ | refine Z0 ?_ | ((first | refine Wo fun K hK => ?_ | refine Wq ?_ | refine Wr ?_); (try simp only [go_sem, fN, seval, eT, iR, e20, e21, e22, s4]); (repeat refine Ai ?_); (try (refine hK _ ?_; clear hK K)))
      refine AH ⟨t.args.length - (k + 1), by omega, k + 1, by omega, rfl, g1 (by omega), ?_⟩
      simp only [go_sem, fN, seval, AS.drop, As, AC.clears, AC.clear, AC.highs, AC.high, Bool.not_false, Bool.true_and, Bool.and_self, AV.purge, AV.purges, AC.purge, AJ.purge, List.contains_cons, List.contains_nil, Nat.reduceBEq, Bool.or_self, Bool.or_false, Bool.false_or, Bool.or_true, eT, iR, e20, e21, e22, s4]
      congr 3
    ·repeat' with_reducible first | refine W ?_ | refine Z0 ?_ | ((first | refine Wo fun K hK => ?_ | refine Wq ?_ | refine Wr ?_); (try simp only [go_sem, fN, seval, eT, iR]); (repeat refine Ai ?_); (try (refine hK _ ?_; clear hK K)))
     simp only [go_sem, fN, seval, Ae, AS.result, AK, AL, AZ]
     rw [List.take_of_length_le (by omega)] at h0
     rw [hc, h0]
theorem Fa (t : Tm) : Ac Try.prog 46 [aTm t] (AR t.may) := by
 have hm : t.may = if 200 < t.size then 3 else t.chk := rfl
 refine IB.ac fun C hC => ?_
 unfold E2
 repeat' with_reducible first | refine W ?_ | refine Z0 ?_ | ((first | refine Wo fun K hK => ?_ | refine Wq ?_ | refine Wr ?_); (try simp only [go_sem, fN, seval, eT, iR]); (repeat refine Ai ?_); (try (refine hK _ ?_; clear hK K)))
 refine ⟨_, PS t 200 (by omega) (by omega), ?_⟩
 by_cases h : Bh t.size 200 < 0
 ·repeat' with_reducible first | refine W ?_ | refine Z0 ?_ | ((first | refine Wo fun K hK => ?_ | refine Wq ?_ | refine Wr ?_); (try simp only [go_sem, fN, seval, eT, iR, h]); (repeat refine Ai ?_); (try (refine hK _ ?_; clear hK K)))
  with_reducible refine Wp ?_
  simp only [go_sem, fN, seval, true_implies, false_implies, implies_true, dT, dF, nL, h]
  (try with_reducible refine iC ?_)
  repeat' with_reducible first | refine W ?_ | refine Z0 ?_ | ((first | refine Wo fun K hK => ?_ | refine Wq ?_ | refine Wr ?_); (try simp only [go_sem, fN, seval, eT, iR]); (repeat refine Ai ?_); (try (refine hK _ ?_; clear hK K)))
  simp only [go_sem, fN, seval, Ae, AS.result, AK, AL, AZ]
  unfold Bh at h
  rw [hm, if_pos (by split at h <;> omega)]
 ·repeat' with_reducible first | refine W ?_ | refine Z0 ?_ | ((first | refine Wo fun K hK => ?_ | refine Wq ?_ | refine Wr ?_); (try simp only [go_sem, fN, seval, eT, iR, h]); (repeat refine Ai ?_); (try (refine hK _ ?_; clear hK K)))
  with_reducible refine Wp ?_
  simp only [go_sem, fN, seval, true_implies, false_implies, implies_true, dT, dF, nL, h]
  (try with_reducible refine iC ?_)
  repeat' (first | (with_reducible first | refine W ?_ | refine Z0 ?_ | ((first | refine Wo fun K hK => ?_ | refine Wq ?_ | refine Wr ?_); (try simp only [go_sem, fN, seval, eT, iR]); (repeat refine Ai ?_); (try (refine hK _ ?_; clear hK K)))) | refine Cg _ (P9 t) ?_)
  simp only [go_sem, fN, seval, Ae, AS.result, AK, AL, AZ]
  unfold Bh at h
  rw [hm, if_neg (by split at h <;> omega)]
theorem Pp (l : List ByteArray) (x : ByteArray) : ∃ i : Int, Ac Try.prog 90 [Ku l, HE x] (AR i) ∧ (0 ≤ i ↔ GL x l = true) := by
 by_cases hin : GL x l = true
 ·obtain ⟨k0, hk0, hmin⟩ : ∃ k, l[k]? = some x ∧ ∀ j, j < k → l[j]? ≠ some x := by
   have hx := KO.1 hin
   have ⟨k, hk⟩ := List.getElem?_of_mem hx
   induction k using Nat.strongRecOn with
   | _ k ih =>
    by_cases h : ∃ j, j < k ∧ l[j]? = some x
    ·obtain ⟨j, hj, hjx⟩ := h
     exact ih j hj hjx
    ·exact ⟨k, hk, fun j hj hjx => h ⟨j, hj, hjx⟩⟩
  have hlt0 := F7 hk0
  refine ⟨k0, ?_, by simp [hin]⟩
  refine Bb.ac fun C hC => ?_
  unfold A8
  refine IWP.learn 0 (by omega) fun hkn => ?_
  have hkn := IU hkn
  rw [List.length_map] at hkn
  repeat' with_reducible first | refine W ?_ | refine Z0 ?_ | ((first | refine Wo fun K hK => ?_ | refine Wq ?_ | refine Wr ?_); (try simp only [go_sem, fN, seval, eT, iR]); (repeat refine Ai ?_); (try (refine hK _ ?_; clear hK K)))
  refine IWP.loop (fun n s => ∃ k, k ≤ k0 ∧ n = k0 - k ∧ s.env 0 = Ku l ∧ s.env 1 = HE x ∧ s.env 7 = AR l.length ∧ s.env 8 = AR k) k0 ⟨0, Nat.zero_le _, rfl, rfl, rfl, rfl, rfl⟩ ?_
  rintro n ⟨env, S⟩ ⟨k, hk, rfl, e0, e1, e7, e8⟩
  simp only at e0 e1 e7 e8
  have hlt : (k : Int) < l.length := by omega
  repeat' with_reducible first | refine W ?_ | refine Z0 ?_ | ((first | refine Wo fun K hK => ?_ | refine Wq ?_ | refine Wr ?_); (try simp only [go_sem, fN, seval, eT, iR, e0, e1, e7, e8, hlt]); (repeat refine Ai ?_); (try (refine hK _ ?_; clear hK K)))
  with_reducible refine Wp ?_
  simp only [go_sem, fN, seval, true_implies, false_implies, implies_true, dT, dF, nL, e0, e1, e7, e8, hlt]
  (try with_reducible refine iC ?_)
  obtain ⟨a, ha⟩ := Ap (show k < l.length by omega)
  repeat' with_reducible first | refine W ?_ | refine Z0 ?_ | ((first | refine Wo fun K hK => ?_ | refine Wq ?_ | refine Wr ?_); (try simp only [go_sem, fN, seval, eT, iR, e0, e1, e7, e8, ha]); (repeat refine Ai ?_); (try (refine hK _ ?_; clear hK K)))
  by_cases he : k = k0
  ·subst he
   rw [hk0] at ha
   cases ha
   with_reducible refine Wp ?_
   simp only [go_sem, fN, seval, true_implies, false_implies, implies_true, dT, dF, nL]
   (try with_reducible refine iC ?_)
   repeat' with_reducible first | refine W ?_ | refine Z0 ?_ | ((first | refine Wo fun K hK => ?_ | refine Wq ?_ | refine Wr ?_); (try simp only [go_sem, fN, seval, eT, iR, e0, e1, e7, e8]); (repeat refine Ai ?_); (try (refine hK _ ?_; clear hK K)))
   simp only [go_sem, fN, seval, Ae, AS.result, AK, AL, AZ]
  ·have hne : ¬ x = a := fun e => hmin k (by omega) (by rw [ha, e])
   with_reducible refine Wp ?_
   simp only [go_sem, fN, seval, true_implies, false_implies, implies_true, dT, dF, nL, hne]
   (try with_reducible refine iC ?_)
   repeat' with_reducible first | refine W ?_ | refine Z0 ?_ | ((first | refine Wo fun K hK => ?_ | refine Wq ?_ | refine Wr ?_); (try simp only [go_sem, fN, seval, eT, iR, e0, e1, e7, e8]); (repeat refine Ai ?_); (try (refine hK _ ?_; clear hK K)))
   refine AH ⟨k0 - (k + 1), by omega, k + 1, by omega, rfl, ?_⟩
   simp only [go_sem, fN, seval, eT, iR, e0, e1, e7, e8]
   congr 3
 ·rw [Bool.not_eq_true] at hin
  refine ⟨-1, ?_, by simp [hin]⟩
  refine Bb.ac fun C hC => ?_
  unfold A8
  refine IWP.learn 0 (by omega) fun hkn => ?_
  have hkn := IU hkn
  rw [List.length_map] at hkn
  repeat' with_reducible first | refine W ?_ | refine Z0 ?_ | ((first | refine Wo fun K hK => ?_ | refine Wq ?_ | refine Wr ?_); (try simp only [go_sem, fN, seval, eT, iR]); (repeat refine Ai ?_); (try (refine hK _ ?_; clear hK K)))
  refine IWP.loop (fun n s => ∃ k, k ≤ l.length ∧ n = l.length - k ∧ s.env 0 = Ku l ∧ s.env 1 = HE x ∧ s.env 7 = AR l.length ∧ s.env 8 = AR k) l.length ⟨0, Nat.zero_le _, rfl, rfl, rfl, rfl, rfl⟩ ?_
  rintro n ⟨env, S⟩ ⟨k, hk, rfl, e0, e1, e7, e8⟩
  simp only at e0 e1 e7 e8
  by_cases hlt : (k : Int) < l.length
  ·repeat' with_reducible first | refine W ?_ | refine Z0 ?_ | ((first | refine Wo fun K hK => ?_ | refine Wq ?_ | refine Wr ?_); (try simp only [go_sem, fN, seval, eT, iR, e0, e1, e7, e8, hlt]); (repeat refine Ai ?_); (try (refine hK _ ?_; clear hK K)))
   with_reducible refine Wp ?_
   simp only [go_sem, fN, seval, true_implies, false_implies, implies_true, dT, dF, nL, e0, e1, e7, e8, hlt]
   (try with_reducible refine iC ?_)
   obtain ⟨a, ha⟩ := Ap (show k < l.length by omega)
   have hne : ¬ x = a := fun e => by
    rw [Ps] at hin
    exact hin (by rw [e]; exact AT ha)
   repeat' with_reducible first | refine W ?_ | refine Z0 ?_ | ((first | refine Wo fun K hK => ?_ | refine Wq ?_ | refine Wr ?_); (try simp only [go_sem, fN, seval, eT, iR, e0, e1, e7, e8, ha]); (repeat refine Ai ?_); (try (refine hK _ ?_; clear hK K)))
   with_reducible refine Wp ?_
   simp only [go_sem, fN, seval, true_implies, false_implies, implies_true, dT, dF, nL, hne]
   (try with_reducible refine iC ?_)
   repeat' with_reducible first | refine W ?_ | refine Z0 ?_ | ((first | refine Wo fun K hK => ?_ | refine Wq ?_ | refine Wr ?_); (try simp only [go_sem, fN, seval, eT, iR, e0, e1, e7, e8]); (repeat refine Ai ?_); (try (refine hK _ ?_; clear hK K)))
   refine AH ⟨l.length - (k + 1), by omega, k + 1, by omega, rfl, ?_⟩
   simp only [go_sem, fN, seval, eT, iR, e0, e1, e7, e8]
   congr 3
  ·repeat' with_reducible first | refine W ?_ | refine Z0 ?_ | ((first | refine Wo fun K hK => ?_ | refine Wq ?_ | refine Wr ?_); (try simp only [go_sem, fN, seval, eT, iR, e0, e1, e7, e8, hlt]); (repeat refine Ai ?_); (try (refine hK _ ?_; clear hK K)))
   with_reducible refine Wp ?_
   simp only [go_sem, fN, seval, true_implies, false_implies, implies_true, dT, dF, nL, e0, e1, e7, e8, hlt]
   (try with_reducible refine iC ?_)
   repeat' with_reducible first | refine W ?_ | refine Z0 ?_ | ((first | refine Wo fun K hK => ?_ | refine Wq ?_ | refine Wr ?_); (try simp only [go_sem, fN, seval, eT, iR]); (repeat refine Ai ?_); (try (refine hK _ ?_; clear hK K)))
   simp only [go_sem, fN, seval, Ae, AS.result, AK, AL, AZ]
theorem Hr (l : List ByteArray) (x : ByteArray) : Ac Try.prog 75 [Ku l, HE x] (BJ (GL x l)) := by
 obtain ⟨i, h1, h2⟩ := Pp l x
 refine CB.ac fun C hC => ?_
 unfold BS
 repeat' (first | (with_reducible first | refine W ?_ | refine Z0 ?_ | ((first | refine Wo fun K hK => ?_ | refine Wq ?_ | refine Wr ?_); (try simp only [go_sem, fN, seval, eT, iR]); (repeat refine Ai ?_); (try (refine hK _ ?_; clear hK K)))) | refine Cg _ (h1) ?_)
 simp only [go_sem, fN, seval, Ae, AS.result, AK, AL, AZ]
 congr 4
 cases hi : GL x l with
 | true => exact decide_eq_true (h2.2 hi)
 | false =>
  refine decide_eq_false fun h => ?_
  rw [h2.1 h] at hi
  cases hi
mutual
def Tm.beq : Tm → Tm → Bool
 | .mk n xs, .mk m ys => decide (n = m) && Tm.beqL xs ys
def Tm.beqL : List Tm → List Tm → Bool
 | [], [] => true
 | x :: xs, y :: ys => x.beq y && Tm.beqL xs ys
 | _, _ => false
end
def Tm.nil : Tm := .mk ⟨#[]⟩ []

set_option maxHeartbeats 1000000
def Ab (m : Mv) : List SV := [.str m.name, .list (m.frm.map BE), .int .i64 m.to_]
abbrev aAu (a : Au) : AV := .agg [.st (.int .i64 a.states), .st (.list (a.moves.map Ab)), .st (.list (a.last.map BE))]
theorem FF {ts : List Mv} : ∀ x ∈ ts.map Ab, x.length = 3 := by
 intro x hx
 obtain ⟨a, _, rfl⟩ := List.mem_map.1 hx
 rfl
theorem De {ts : List Int} : ∀ x ∈ ts.map BE, x.length = 1 := by
 intro x hx
 obtain ⟨a, _, rfl⟩ := List.mem_map.1 hx
 rfl
theorem N3 {S : AA} {a : Au} (h : (aAu a).known S) : a.moves.length ≤ 9223372036854775807 ∧ a.last.length ≤ 9223372036854775807 ∧ ∀ m ∈ a.moves, m.frm.length ≤ 9223372036854775807 := by
 have h1 := h (.st (.list (a.moves.map Ab))) (by simp)
 have h2 := h (.st (.list (a.last.map BE))) (by simp)
 simp only [AC.known, SV.known, List.length_map] at h1 h2
 rw [Cz] at h1 h2
 refine ⟨h1.1, h2.1, fun m hm => ?_⟩
 have h3 := Dk.1 (DD.1 h1.2 (Ab m) (List.mem_map.2 ⟨m, hm, rfl⟩)) (.list (m.frm.map BE)) (by simp [Ab])
 simp only [SV.known, List.length_map] at h3
 rw [Cz] at h3
 exact h3.1
theorem DT {α : Type} {p : α → Bool} {xs : List α} {k : Nat} {a : α} (ha : xs[k]? = some a) (h : (xs.take k).all p = true) : (xs.take (k + 1)).all p = p a := by
 rw [Aj ha, List.all_append, h]
 simp
theorem Nm {α : Type} {p : α → Bool} {xs : List α} {k : Nat} {a : α} (ha : xs[k]? = some a) (h : (xs.take k).any p = false) : (xs.take (k + 1)).any p = p a := by
 rw [Aj ha, List.any_append, h]
 simp
theorem ME {α : Type} {p : α → Bool} {xs : List α} {a : α} (ha : a ∈ xs) (h : p a = false) : xs.all p = false := by
 rw [List.all_eq_false]
 exact ⟨a, ha, by simp [h]⟩
theorem PW {S : Int} {m : Mv} (h : ¬ BB m.name = true) : m.err S = 1 := if_neg (fun h' => h h'.1)
theorem P5 {S : Int} {m : Mv} (h : BG m.name = true) : m.err S = 1 := if_neg (fun h' => by rw [h] at h'; exact absurd h'.2 (by decide))
theorem P_ {S : Int} {m : Mv} (h1 : BB m.name = true) (h2 : ¬ BG m.name = true) (h : 4 < m.frm.length) : m.err S = 3 := by
 unfold Mv.err
 rw [if_pos ⟨h1, by simpa using h2⟩, if_pos h]
theorem P2 {S : Int} {m : Mv} (h1 : BB m.name = true) (h2 : ¬ BG m.name = true) (h3 : ¬ 4 < m.frm.length) {s : Int} (hs : s ∈ m.frm) (h : s < 0 ∨ S ≤ s) : m.err S = 10 := by
 unfold Mv.err
 rw [if_pos ⟨h1, by simpa using h2⟩, if_neg h3, if_neg]
 intro h'
 have := BN.1 (List.all_eq_true.1 h'.1 s hs)
 omega
theorem QJ {S : Int} {m : Mv} (h1 : BB m.name = true) (h2 : ¬ BG m.name = true) (h3 : ¬ 4 < m.frm.length) (h : m.to_ < 0 ∨ S ≤ m.to_) : m.err S = 10 := by
 unfold Mv.err
 rw [if_pos ⟨h1, by simpa using h2⟩, if_neg h3, if_neg]
 intro h'
 have := BN.1 h'.2
 omega
theorem Oo {S : Int} {m : Mv} (h1 : BB m.name = true) (h2 : ¬ BG m.name = true) (h3 : ¬ 4 < m.frm.length) (h4 : m.frm.all (inS S) = true) (h5 : inS S m.to_ = true) : m.err S = 0 := by
 unfold Mv.err
 rw [if_pos ⟨h1, by simpa using h2⟩, if_neg h3, if_pos ⟨h4, h5⟩]
theorem EK {a : Au} {S M : Int} {k : Nat} {m : Mv} (h0 : ¬ (a.states < 0 ∨ S < a.states ∨ M < a.moves.length)) (hm : a.moves[k]? = some m) (ht : BI a.states (a.moves.take k) = 0) {e : Int} (he : m.err a.states = e) (hne : e ≠ 0) : a.may S M = e := by
 have h1 : ¬ BI a.states (a.moves.take (k + 1)) = 0 := by
  rw [EE hm ht, he]
  exact hne
 have h2 := NA h1
 rw [EE hm ht, he] at h2
 unfold Au.may
 rw [if_neg h0, h2, if_neg hne]
theorem N8 {a : Au} {S M : Int} (h0 : ¬ (a.states < 0 ∨ S < a.states ∨ M < a.moves.length)) (ht : BI a.states a.moves = 0) : a.may S M = if a.last.all (inS a.states) = true then 0 else 10 := by
 unfold Au.may
 rw [if_neg h0, if_pos ht]
theorem Mr {S s : Int} (h : s < 0 ∨ S ≤ s) : inS S s = false := by
 cases hh : inS S s with
 | false => rfl
 | true =>
  have := BN.1 hh
  omega
theorem PN {S s : Int} (h1 : ¬ s < 0) (h2 : ¬ S ≤ s) : inS S s = true := BN.2 (by omega)

end Go.Proofs.Ytkegjgodjigjfaa
