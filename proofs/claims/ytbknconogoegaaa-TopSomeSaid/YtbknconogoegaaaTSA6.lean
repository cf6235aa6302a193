/-
  Part 6 of the texts. Conditions: none.
-/
import Derived.Test.YtbknconogoegaaaTSA5
namespace Go.Proofs.Ytbknconogoegaaa
open Go Go.RowKit
set_option linter.unusedVariables false
set_option linter.unusedSimpArgs false
set_option maxHeartbeats 400000
mutual
def AC.clear (ds : List Nat) : AC → Bool
 | .row id _ => !ds.contains id
 | .part id _ _ => !ds.contains id
 | .rest id _ _ => !ds.contains id
 | .ptr id _ _ _ => !ds.contains id
 | .mptr id => !ds.contains id
 | .yld id => !ds.contains id
 | .ubool => true
 | .fn _ caps => AC.clears ds caps
 | .st _ => true
 | .full _ => true
 | .eptr _ => true
 | .any => true
def AC.clears (ds : List Nat) : List AC → Bool
 | [] => true
 | c :: cs => c.clear ds && AC.clears ds cs
end
theorem Gn {ds : List Nat} : ∀ {l : List AC}, AC.clears ds l = true → ∀ a ∈ l, a.clear ds = true
 | [], _, a, ha => by simp at ha
 | x :: xs, hx, a, ha => by
  rw [AC.clears, Bool.and_eq_true] at hx
  rcases List.mem_cons.1 ha with rfl | ha
  ·exact hx.1
  ·exact Gn hx.2 a ha
def AC.purge (ds : List Nat) : AC → AC
 | .row id n => if ds.contains id then .any else .row id n
 | .part id k n => if ds.contains id then .any else .part id k n
 | .rest id k n => if ds.contains id then .any else .rest id k n
 | .ptr id n k off => if ds.contains id then .any else .ptr id n k off
 | .mptr id => if ds.contains id then .any else .mptr id
 | .yld id => if ds.contains id then .any else .yld id
 | .fn f caps => if AC.clears ds caps then .fn f caps else .any
 | c => c
mutual
def AV.purge (ds : List Nat) : AV → AV
 | .one c => .one (c.purge ds)
 | .agg cs => .agg (cs.map (AC.purge ds))
 | .tup vs => .tup (AV.purges ds vs)
 | .any => .any
def AV.purges (ds : List Nat) : List AV → List AV
 | [] => []
 | v :: vs => v.purge ds :: AV.purges ds vs
end
def AI.purge (ds : List Nat) : AI → AI
 | .box e cs => .box e (cs.map (AC.purge ds))
 | .iter x n seen => .iter (x.purge ds) n seen
 | .loop env r => .loop (AV.purges ds env) r
 | b => b
def Ao (ds : List Nat) (S : AA) : AA := fun id => if ds.contains id then none else (S id).map (AI.purge ds)
def AS.drop (ds : List Nat) (s : AS) : AS := ⟨fun i => (s.env i).purge ds, Ao ds s.S⟩
theorem B2 {ds : List Nat} (hds : ∀ d ∈ ds, d < 1000) {id : Nat} (h : 1000 ≤ id) : ds.contains id = false := by
 cases hc : ds.contains id with
 | false => rfl
 | true =>
  have := hds id (List.contains_iff_mem.1 hc)
  omega
mutual
theorem AC.clear_high {ds : List Nat} (hds : ∀ d ∈ ds, d < 1000) : ∀ {c : AC}, c.high = true → c.clear ds = true
 | .st _, _ => rfl
 | .full _, _ => rfl
 | .row id n, h => by
  rw [AC.high] at h
  rw [AC.clear, B2 hds (of_decide_eq_true h)]
  rfl
 | .part id k n, h => by
  rw [AC.high] at h
  rw [AC.clear, B2 hds (of_decide_eq_true h)]
  rfl
 | .rest id k n, h => by
  rw [AC.high] at h
  rw [AC.clear, B2 hds (of_decide_eq_true h)]
  rfl
 | .ptr id n k off, h => by
  rw [AC.high] at h
  rw [AC.clear, B2 hds (of_decide_eq_true h)]
  rfl
 | .mptr id, h => by
  rw [AC.high] at h
  rw [AC.clear, B2 hds (of_decide_eq_true h)]
  rfl
 | .yld id, h => by
  rw [AC.high] at h
  rw [AC.clear, B2 hds (of_decide_eq_true h)]
  rfl
 | .ubool, _ => rfl
 | .eptr _, _ => rfl
 | .fn f caps, h => by
  rw [AC.high] at h
  rw [AC.clear]
  exact AC.clears_highs hds h
 | .any, _ => rfl
theorem AC.clears_highs {ds : List Nat} (hds : ∀ d ∈ ds, d < 1000) : ∀ {cs : List AC}, AC.highs cs = true → AC.clears ds cs = true
 | [], _ => rfl
 | c :: cs, h => by
  rw [AC.highs, Bool.and_eq_true] at h
  rw [AC.clears, AC.clear_high hds h.1, AC.clears_highs hds h.2]
  rfl
end
theorem AC.purge_high {ds : List Nat} (hds : ∀ d ∈ ds, d < 1000) : ∀ {c : AC}, c.high = true → c.purge ds = c
 | .st _, _ => rfl
 | .full _, _ => rfl
 | .row id n, h => by
  rw [AC.high] at h
  simp only [AC.purge, B2 hds (of_decide_eq_true h), Bool.false_eq_true, if_false]
 | .part id k n, h => by
  rw [AC.high] at h
  simp only [AC.purge, B2 hds (of_decide_eq_true h), Bool.false_eq_true, if_false]
 | .rest id k n, h => by
  rw [AC.high] at h
  simp only [AC.purge, B2 hds (of_decide_eq_true h), Bool.false_eq_true, if_false]
 | .ptr id n k off, h => by
  rw [AC.high] at h
  simp only [AC.purge, B2 hds (of_decide_eq_true h), Bool.false_eq_true, if_false]
 | .mptr id, h => by
  rw [AC.high] at h
  simp only [AC.purge, B2 hds (of_decide_eq_true h), Bool.false_eq_true, if_false]
 | .yld id, h => by
  rw [AC.high] at h
  simp only [AC.purge, B2 hds (of_decide_eq_true h), Bool.false_eq_true, if_false]
 | .ubool, _ => rfl
 | .eptr _, _ => rfl
 | .fn f caps, h => by
  rw [AC.high] at h
  simp only [AC.purge, AC.clears_highs hds h, if_true]
 | .any, _ => rfl
mutual
theorem AV.purge_high {ds : List Nat} (hds : ∀ d ∈ ds, d < 1000) : ∀ {c : AV}, c.high = true → c.purge ds = c
 | .one c, h => by rw [AV.high] at h; rw [AV.purge, AC.purge_high hds h]
 | .agg cs, h => by
  rw [AV.high] at h
  rw [AV.purge]
  congr 1
  exact (List.map_congr_left fun a ha => AC.purge_high hds (BW h a ha)).trans (List.map_id _)
 | .tup vs, h => by rw [AV.high] at h; rw [AV.purge, AV.purges_high hds h]
 | .any, _ => rfl
theorem AV.purges_high {ds : List Nat} (hds : ∀ d ∈ ds, d < 1000) : ∀ {c : List AV}, AV.highs c = true → AV.purges ds c = c
 | [], _ => rfl
 | c :: cs, h => by
  rw [AV.highs, Bool.and_eq_true] at h
  rw [AV.purges, AV.purge_high hds h.1, AV.purges_high hds h.2]
end
theorem AI.purge_high {ds : List Nat} (hds : ∀ d ∈ ds, d < 1000) {b : AI} (h : b.high = true) : b.purge ds = b := by
 cases b with
 | box e cs =>
  rw [AI.high] at h
  simp only [AI.purge]
  congr 1
  exact (List.map_congr_left fun a ha => AC.purge_high hds (BW h a ha)).trans (List.map_id _)
 | arow => rfl
 | mrow => rfl
 | map => rfl
 | memo => rfl
 | iter x =>
  rw [AI.high] at h
  simp only [AI.purge, AC.purge_high hds h]
 | loop env r =>
  rw [AI.high] at h
  simp only [AI.purge, AV.purges_high hds h]
 | dead => rfl
theorem I1 {ds : List Nat} (hds : ∀ d ∈ ds, d < 1000) {S : AA} (h : Ah S) : Ao ds S = S := by
 funext id
 unfold Ao
 cases hb : S id with
 | none => split <;> rfl
 | some b =>
  obtain ⟨h1, h2⟩ := h id b hb
  rw [B2 hds h1, if_neg (by simp), Option.map_some, AI.purge_high hds h2]
theorem Iu {ds : List Nat} {S : AA} {i : Nat} {b : Option AI} (h : ds.contains i = true) : Ao ds (AE S i b) = Ao ds S := by
 funext k
 unfold Ao
 by_cases e : k = i
 ·subst e
  rw [if_pos h, if_pos h]
 ·rw [AG _ e]
theorem FC {ds : List Nat} {S : AA} {i : Nat} {b : AI} (h : ds.contains i = false) : Ao ds (AE S i (some b)) = AE (Ao ds S) i (some (b.purge ds)) := by
 funext k
 unfold Ao
 by_cases e : k = i
 ·subst e
  rw [AB, AB, if_neg (by rw [h]; simp)]
  rfl
 ·rw [AG _ e, AG _ e]
section
variable {C : Ctx} {σ : Sto} {ι : Ae} {s : AS} {a : Act} {w : World} {ds : List Nat}
theorem At (b : AI) : (b.purge ds).len = b.len := by cases b <;> rfl
theorem D1 (b : AI) : (b.purge ds).wid = b.wid := by cases b <;> rfl
theorem AT.keepClear {ds : List Nat} {S S2 : AA} (hS : ∀ id b, ds.contains id = false → S id = some b → ∃ b', S2 id = some b' ∧ b'.len = b.len ∧ b'.wid = b.wid) {v : Value} {c : AC} (h : AT σ S ι v c) (hc : c.clear ds = true) : AT σ S2 ι v c := by
 induction h with
 | st h => exact .st h
 | full h => exact .full h
 | row h1 h2 h3 h4 =>
  rw [AC.clear] at hc
  obtain ⟨b', q1, q2, q3⟩ := hS _ _ (by simpa using hc) h1
  exact .row q1 (by rw [q2]; exact h2) h3 (by rw [q2]; exact h4)
 | part h1 h2 h3 h4 =>
  rw [AC.clear] at hc
  obtain ⟨b', q1, q2, q3⟩ := hS _ _ (by simpa using hc) h1
  exact .part q1 (by rw [q2]; exact h2) h3 (by rw [q2]; exact h4)
 | rest h1 h2 h3 h4 =>
  rw [AC.clear] at hc
  obtain ⟨b', q1, q2, q3⟩ := hS _ _ (by simpa using hc) h1
  exact .rest q1 (by rw [q2]; exact h2) h3 (by rw [q2, q3]; exact h4)
 | ptr h1 h2 h3 h4 =>
  rw [AC.clear] at hc
  obtain ⟨b', q1, q2, q3⟩ := hS _ _ (by simpa using hc) h1
  exact .ptr q1 (by rw [q2]; exact h2) h3 (by rw [q2, q3]; exact h4)
 | mptr h1 h2 h3 h4 =>
  rw [AC.clear] at hc
  obtain ⟨b', q1, q2, q3⟩ := hS _ _ (by simpa using hc) h1
  exact .mptr q1 (by rw [q2]; exact h2) h3 (by rw [q2]; exact h4)
 | yld h1 h2 h3 h4 =>
  rw [AC.clear] at hc
  obtain ⟨b', q1, q2, q3⟩ := hS _ _ (by simpa using hc) h1
  exact .yld q1 (by rw [q2]; exact h2) h3 (by rw [q2]; exact h4)
 | ubool => exact .ubool
 | eptr c h1 h2 hh => exact .eptr c h1 h2 hh
 | fn c h1 h2 h3 ih =>
  rw [AC.clear] at hc
  exact .fn c h1 h2 (fun j a ha => ih j a ha (Gn hc a (List.mem_of_getElem? ha)))
 | any h => exact .any h
theorem AT.purge (hds : ∀ d ∈ ds, d < 1000) {v : Value} {c : AC} (h : AT σ s.S ι v c) : AT σ (s.drop ds).S ι v (c.purge ds) := by
 have h0 := h
 cases h with
 | st h => exact .st h
 | full h => exact .full h
 | @row _ id n b h1 h2 h3 h4 =>
  simp only [AC.purge]
  split
  ·exact .any h3
  ·rename_i hn
   exact .row (b := b.purge ds) (by simp only [AS.drop, Ao, hn]; rw [h1]; rfl) (by rw [At]; exact h2) h3 (by rw [At]; exact h4)
 | @part _ id k n b h1 h2 h3 h4 =>
  simp only [AC.purge]
  split
  ·exact .any h3
  ·rename_i hn
   exact .part (b := b.purge ds) (by simp only [AS.drop, Ao, hn]; rw [h1]; rfl) (by rw [At]; exact h2) h3 (by rw [At]; exact h4)
 | @rest _ id k n b h1 h2 h3 h4 =>
  simp only [AC.purge]
  split
  ·exact .any h3
  ·rename_i hn
   exact .rest (b := b.purge ds) (by simp only [AS.drop, Ao, hn]; rw [h1]; rfl) (by rw [At]; exact h2) h3 (by rw [At, D1]; exact h4)
 | @ptr _ id n k off b h1 h2 h3 h4 =>
  simp only [AC.purge]
  split
  ·exact .any h3
  ·rename_i hn
   exact .ptr (b := b.purge ds) (by simp only [AS.drop, Ao, hn]; rw [h1]; rfl) (by rw [At]; exact h2) h3 (by rw [At, D1]; exact h4)
 | @mptr _ id b h1 h2 h3 h4 =>
  simp only [AC.purge]
  split
  ·exact .any h3
  ·rename_i hn
   exact .mptr (b := b.purge ds) (by simp only [AS.drop, Ao, hn]; rw [h1]; rfl) (by rw [At]; exact h2) h3 (by rw [At]; exact h4)
 | @yld _ id b h1 h2 h3 h4 =>
  simp only [AC.purge]
  split
  ·exact .any h3
  ·rename_i hn
   exact .yld (b := b.purge ds) (by simp only [AS.drop, Ao, hn]; rw [h1]; rfl) (by rw [At]; exact h2) h3 (by rw [At]; exact h4)
 | ubool => exact .ubool
 | eptr c h1 h2 hh => exact .eptr c h1 h2 hh
 | @fn f vs caps c h1 h2 h3 =>
  simp only [AC.purge]
  split
  ·rename_i hh
   exact h0.keepClear (ds := ds) (fun id b hid hb => ⟨b.purge ds, by
    show Ao ds s.S id = _
    unfold Ao
    rw [hid, hb]
    rfl, At b, D1 b⟩) (by rw [AC.clear]; exact hh)
  ·exact .any rfl
 | any h => exact .any h
mutual
theorem AL.purge (hds : ∀ d ∈ ds, d < 1000) : ∀ {v : Value} {c : AV}, AL σ s.S ι v c → AL σ (s.drop ds).S ι v (c.purge ds)
 | v, .one c, h => by cases h with | one h => exact .one (h.purge hds)
 | v, .agg cs, h => by cases h with | agg h => exact .agg ((h.mono fun _ _ x => x.purge hds).map_right)
 | v, .tup vs, h => by
  cases h with
  | tup c h1 h2 h3 =>
   obtain ⟨k1, k2⟩ := AL.purges hds (c := c) h3
   exact .tup c (by rw [h1, k1]) (fun j b hb => by
    rcases Nat.lt_or_ge j vs.length with hj | hj
    ·exact h2 j _ (List.getElem?_eq_getElem hj)
    ·rw [List.getElem?_eq_none (by omega)] at hb; cases hb) k2
 | v, .any, h => .any
theorem AL.purges (hds : ∀ d ∈ ds, d < 1000) : ∀ {vs : List AV} {c : Nat → Value}, (∀ j b, vs[j]? = some b → AL σ s.S ι (c j) b) → vs.length = (AV.purges ds vs).length ∧ ∀ j b, (AV.purges ds vs)[j]? = some b → AL σ (s.drop ds).S ι (c j) b
 | [], c, h => by simp [AV.purges]
 | x :: xs, c, h => by
  obtain ⟨m1, m2⟩ := AL.purges hds (vs := xs) (c := fun j => c (j + 1)) (fun j b hb => h (j + 1) b (by simpa using hb))
  refine ⟨by simp [AV.purges, ← m1], fun j b hb => ?_⟩
  cases j with
  | zero =>
   simp [AV.purges] at hb
   subst hb
   exact AL.purge hds (h 0 x rfl)
  | succ j => exact m2 j b (by simpa [AV.purges] using hb)
end
theorem BI.purge (hds : ∀ d ∈ ds, d < 1000) {h : Hnd} {b : AI} (hr : BI σ s.S ι w h b) : BI σ (s.drop ds).S ι w h (b.purge ds) := by
 cases hr with
 | box h1 h2 h3 h4 h5 => exact .box h1 h2 h3 ((h4.mono fun _ _ x => x.purge hds).map_right) h5
 | afull h1 h2 h3 h4 => exact .afull h1 h2 h3 h4
 | arow h1 h2 h3 h4 h5 h6 h7 h8 h9 hh => exact .arow h1 h2 h3 h4 h5 h6 h7 h8 h9 hh
 | mnil h1 h2 => exact .mnil h1 h2
 | mrow h1 h2 h3 h4 h5 h6 h7 h8 h9 => exact .mrow h1 h2 h3 h4 h5 h6 h7 h8 h9
 | map h1 h2 h3 h4 => exact .map h1 h2 h3 h4
 | memo h1 h2 h3 h4 => exact .memo h1 h2 h3 h4
 | iter h1 h2 h3 h4 => exact .iter h1 h2 (h3.purge hds) h4
 | loop h1 h2 h3 h4 h5 =>
  obtain ⟨k1, k2⟩ := AL.purges hds h4
  exact .loop h1 h2 (by rw [← k1]; exact h3) k2 h5
 | dead h1 => exact .dead h1
theorem Dx {id : Nat} {b : AI} (h : (s.drop ds).S id = some b) : ∃ b', s.S id = some b' ∧ b = b'.purge ds := by
 simp only [AS.drop, Ao] at h
 split at h
 ·cases h
 ·rw [Option.map_eq_some_iff] at h
  obtain ⟨b', h1, h2⟩ := h
  exact ⟨b', h1, h2.symm⟩
theorem AZ.drop (ds : List Nat) (s : AS) (hds : ∀ d ∈ ds, d < 1000) : AZ C s (s.drop ds) := fun a w ⟨σ, ι, R⟩ => by
 refine ⟨σ, ι, R.size, fun i hi => (R.env i hi).purge hds, R.nod, R.fit, fun id b h => ?_, fun id id' b b' g h1 h2 g1 g2 => ?_, fun id b g h hg => ?_, R.ext, R.old, R.os, R.grown, R.same, fun id b hb => ?_⟩
 ·obtain ⟨b', h1, rfl⟩ := Dx h
  exact (R.blk id b' h1).purge hds
 ·obtain ⟨c1, k1, _⟩ := Dx h1
  obtain ⟨c2, k2, _⟩ := Dx h2
  exact R.inj _ _ _ _ _ k1 k2 g1 g2
 ·obtain ⟨c1, k1, _⟩ := Dx h
  exact R.base _ _ _ k1 hg
 ·obtain ⟨b', h1, h2, h3⟩ := R.upd id b hb
  have hid := (C.clean id b hb).1
  have hnc : ds.contains id = false := by
   cases hc : ds.contains id with
   | false => rfl
   | true =>
    have := hds id (List.contains_iff_mem.1 hc)
    omega
  refine ⟨b'.purge ds, by simp only [AS.drop, Ao, hnc]; rw [h1]; rfl, by rw [At]; exact h2, fun hl => ?_⟩
  rw [At] at hl
  rw [D1]
  exact h3 hl
theorem AZ.share {id : Nat} {e : TypeId} {wd : Nat} {xs : List (List SV)} (hS : s.S id = some (.mrow e wd xs)) : AZ C s (s.set id (.arow e wd xs)) := fun a w ⟨σ, ι, R⟩ => by
 have hb := R.blk _ _ hS
 have hι : AE ι id (ι id) = ι := by
  funext k
  unfold AE
  split
  ·rename_i h; rw [h]
  ·rfl
 cases hb with
 | mnil h1 h2 =>
  obtain ⟨hu, R'⟩ := R.turn (w' := w) hS (.arow e wd []) (ι id) (σ' := σ) (fun _ _ h => h) (fun _ _ _ => rfl) R.fit (Nat.le_refl _) (fun _ => ⟨rfl, rfl⟩) ⟨rfl, rfl, rfl⟩ (Nat.le_refl _) (fun _ _ _ => rfl) (fun g h => .inl h) (fun hu => .afull h1 (by simpa using h2) (by simp) (.list (b := 0) (o := 0) (w := 0) (fun _ _ => undef) rfl (by simp) (by rw [h2]; simp [maxLen]) (fun _ => h2) (by simp) (by simp) (fun _ h _ => absurd h (by omega)) (by simp) (by simp)))
  exact ⟨σ, _, R'⟩
 | @mrow _ _ _ g vs h1 h2 h3 h4 h5 h6 h7 h8 h9 =>
  have hl : Al σ vs.toList wd xs := ⟨h7, fun k x j y hx hy => by simpa using h8 k x j y hx hy⟩
  have hkeep := Dy (σ := σ) (w' := w) (g := g) (k := xs.length * wd) (fun p x e hx => by rw [h9 _ e] at hx; cases hx)
  obtain ⟨hu, R'⟩ := R.turn (w' := w) hS (.arow e wd xs) (ι id) (σ' := Ce σ w g (xs.length * wd)) hkeep (fun p hp _ => Dl (fun e => hp (by rw [e]; exact h1))) (Cu R.fit) (Nat.le_refl _) (fun _ => ⟨rfl, rfl⟩) ⟨rfl, rfl, rfl⟩ (Nat.le_refl _) (fun _ _ _ => rfl) (fun g h => .inl h)
   (fun hu => by
    have := FK (S' := (s.set id (.arow e wd xs)).S) (ι' := AE ι id (ι id)) (w' := w) (p := (ι id).p) h2 h3 h4 h5 h6 hl hkeep (fun p hp hne => absurd (h9 p hp) hne)
    rw [← h1] at this
    exact this)
  exact ⟨_, _, R'⟩
theorem AZ.own (t id : Nat) (e : TypeId) (wd : Nat) {xs : List (List SV)} (ht : s.env t = .one (.full xs)) (hid : s.S id = none) (hw : ∀ x ∈ xs, x.length = wd) (hn : t < C.n) : AZ C s ⟨AE s.env t (.one (.row id xs.length)), AE s.S id (some (.arow e wd xs))⟩ := fun a w ⟨σ, ι, R⟩ => by
 have rt := R.env t hn
 rw [ht] at rt
 generalize hv : a.tmps.getD t undef = v at rt
 cases AO rt with
 | @full p len xs hs =>
  have hl : len = xs.length := by
   obtain ⟨p', cap', e1, _⟩ := Bf hs
   cases e1
   rfl
  subst hl
  obtain ⟨hu, R'⟩ := R.fresh (w' := w) hid (.arow e wd xs) ⟨p, xs.length, none⟩ (Ext.refl _ _) R.fit (Below.refl _ _) (by simp) (fun S' ι' hu => .afull rfl rfl hw hs)
  refine ⟨σ, _, R'.size, fun i hi => ?_, R'.nod, R'.fit, R'.blk, R'.inj, R'.base, R'.ext, R'.old, R'.os, R'.grown, R'.same, R'.upd⟩
  show AL σ (s.set id (.arow e wd xs)).S _ _ (AE s.env t _ i)
  unfold AE
  split
  ·rename_i e1
   subst e1
   rw [hv]
   exact .one (.row (b := .arow e wd xs) (by simp [AS.set, AB]) (Nat.le_refl _) rfl fun _ => by simp [AE])
  ·exact R'.env i hi
theorem AZ.keep (t id k n : Nat) {e : TypeId} {wd : Nat} {xs : List (List SV)} (ht : s.env t = .one (.part id k n)) (hS : s.S id = some (.arow e wd xs)) (hl : n = xs.length) (hn : t < C.n) : AZ C s ⟨AE s.env t (.one (.st (.list (xs.take k)))), s.S⟩ := fun a w ⟨σ, ι, R⟩ => by
 have rt := R.env t hn
 rw [ht] at rt
 refine ⟨σ, ι, R.size, fun i hi => ?_, R.nod, R.fit, R.blk, R.inj, R.base, R.ext, R.old, R.os, R.grown, R.same, R.upd⟩
 show AL σ s.S ι _ (AE s.env t _ i)
 unfold AE
 split
 ·rename_i e1
  subst e1
  obtain ⟨b, h1, h2, h3⟩ := Cy (AO rt)
  rw [hS] at h1
  cases h1
  obtain ⟨h4, h5⟩ := h3 hl
  rw [h5]
  have hb := R.blk _ _ hS
  have hr := hb.srep
  have hmem : ∀ {kk x}, (xs.take k)[kk]? = some x → xs[kk]? = some x := fun hx => by
   rw [List.getElem?_take] at hx
   split at hx
   ·exact hx
   ·cases hx
  cases hr with
  | @list p len cap b o w' _ c q1 q2 q3 q4 q5 q6 qh q7 q8 =>
   exact .one (.st (.list (b := b) (o := o) (w := w') c (by rw [List.length_take]; omega) (by omega) q3 q4 (fun hne => q5 (by omega)) (fun x hx => q6 x (List.mem_of_mem_take hx)) (fun e1 e2 e3 => qh e1 e2 (fun e4 => e3 (by rw [e4]; exact List.take_nil))) (fun kk x j a hx ha => q7 kk x j a (hmem hx) ha) (fun kk x j a hx ha => q8 kk x j a (hmem hx) ha)))
 ·exact R.env i hi
theorem AZ.ownC (id j nid : Nat) (e : TypeId) (wd : Nat) {xs : List (List SV)} {ty : TypeId} {cs : List AC} (hb : s.S id = some (.box ty cs)) (hc : cs[j]? = some (.full xs)) (hn : s.S nid = none) (hw : ∀ x ∈ xs, x.length = wd) :
  AZ C s ((s.set nid (.arow e wd xs)).set id (.box ty (cs.set j (.row nid xs.length)))) := fun a w ⟨σ, ι, R⟩ => by
 have hbk := R.blk id _ hb
 have hne : id ≠ nid := fun e => by subst e; rw [hb] at hn; cases hn
 cases hbk with
 | @box _ _ g vs h1 h2 h3 h4 h5 =>
  obtain ⟨v, hv, hr⟩ := h4.get hc
  cases hr with
  | @full p len xs hs =>
   have hl : len = xs.length := by
    obtain ⟨p', cap', e1, _⟩ := Bf hs
    cases e1
    rfl
   subst hl
   obtain ⟨hu, R'⟩ := R.fresh (w' := w) hn (.arow e wd xs) ⟨p, xs.length, none⟩ (Ext.refl _ _) R.fit (Below.refl _ _) (by simp) (fun S' ι' hu => .afull rfl rfl hw hs)
   have hb' : (s.set nid (.arow e wd xs)).S id = some (.box ty cs) := by simp [AS.set, AG _ hne, hb]
   have hι : AE ι nid ⟨p, xs.length, none⟩ id = ι id := AG _ hne _
   obtain ⟨hu2, R2⟩ := R'.turn (w' := w) hb' (.box ty (cs.set j (.row nid xs.length))) (AE ι nid ⟨p, xs.length, none⟩ id) (σ' := σ) (fun _ _ h => h) (fun _ _ _ => rfl) R.fit (Nat.le_refl _) (fun _ => ⟨by simp [AI.wid], rfl⟩) ⟨rfl, rfl, rfl⟩ (Nat.le_refl _) (fun _ _ _ => rfl) (fun g h => .inl h) (fun hu2 => by
    refine .box (by rw [hι]; exact h1) (by rw [hι]; exact h2) h3 (AP.of_get (by rw [List.length_set]; exact h4.len) fun k u c hu' hck => ?_) h5
    by_cases hk : k = j
    ·subst hk
     rw [hv] at hu'
     cases hu'
     have hlt : k < cs.length := (List.getElem?_eq_some_iff.1 hc).1
     rw [List.getElem?_set_self hlt] at hck
     cases hck
     exact .row (b := .arow e wd xs) (by simp [AS.set, AE, hne.symm]) (Nat.le_refl _) rfl fun _ => by simp [AE, hne.symm]
    ·rw [List.getElem?_set_ne (fun e => hk e.symm)] at hck
     obtain ⟨u', q1, q2⟩ := h4.get hck
     rw [hu'] at q1
     cases q1
     exact (q2.mono (fun _ _ h => h) hu).mono (fun _ _ h => h) hu2)
   exact ⟨_, _, R2⟩
theorem Nr {v : Value} {c : AV} (h : AL σ noS noH v c) : AL σ s.S ι v c := h.mono (fun _ _ h => h) (ET _ _)
def AV.low (v : AV) : AV := if v.high then v else .any
theorem AJ.low (R : AJ C σ ι s a w) (hb : ∀ i b, 1000 ≤ i → s.S i = some b → b.high = true) : AJ C σ ι ⟨fun i => (s.env i).low, Bp s.S⟩ a w := by
 have hS : ∀ i b, 1000 ≤ i → s.S i = some b → Bp s.S i = some b := fun i b hi h => by
  show (if i < 1000 then none else s.S i) = some b
  rw [if_neg (by omega), h]
 have hinv : ∀ i b, Bp s.S i = some b → 1000 ≤ i ∧ s.S i = some b := fun i b h => by
  have h' : (if i < 1000 then none else s.S i) = some b := h
  split at h'
  ·cases h'
  ·exact ⟨by omega, h'⟩
 refine ⟨R.size, fun i hi => ?_, R.nod, R.fit, fun id b h => ?_, fun id id' b b' g h1 h2 g1 g2 => R.inj _ _ _ _ g (hinv _ _ h1).2 (hinv _ _ h2).2 g1 g2, fun id b g h hg => R.base _ _ g (hinv _ _ h).2 hg, R.ext, R.old, R.os, R.grown, R.same, fun id b h => ?_⟩
 ·show AL σ (Bp s.S) ι _ ((s.env i).low)
  unfold AV.low
  split
  ·rename_i hh
   exact (R.env i hi).low hS hh
  ·exact .any
 ·obtain ⟨h1, h2⟩ := hinv _ _ h
  have hh := hb id b h1 h2
  cases R.blk id b h2 with
  | box k1 k2 k3 k4 k5 => exact .box k1 k2 k3 (JQ hS k4 hh) k5
  | afull k1 k2 k3 k4 => exact .afull k1 k2 k3 k4
  | arow k1 k2 k3 k4 k5 k6 k7 k8 k9 kh => exact .arow k1 k2 k3 k4 k5 k6 k7 k8 k9 kh
  | mnil k1 k2 => exact .mnil k1 k2
  | mrow k1 k2 k3 k4 k5 k6 k7 k8 k9 => exact .mrow k1 k2 k3 k4 k5 k6 k7 k8 k9
  | map k1 k2 k3 k4 => exact .map k1 k2 k3 k4
  | memo k1 k2 k3 k4 => exact .memo k1 k2 k3 k4
  | iter k1 k2 k3 k4 => exact .iter k1 k2 (k3.low hS hh) k4
  | loop k1 k2 k3 k4 k5 => exact .loop k1 k2 k3 (AL.lows hS k4 hh) k5
  | dead k1 => exact .dead k1
 ·obtain ⟨b', h1, h2⟩ := R.upd id b h
  exact ⟨b', hS _ _ (C.clean id b h).1 h1, h2⟩
theorem AZ.low (hb : ∀ i b, 1000 ≤ i → s.S i = some b → b.high = true) : AZ C s ⟨fun i => (s.env i).low, Bp s.S⟩ := fun a w ⟨σ, ι, R⟩ => ⟨σ, ι, R.low hb⟩
def A6 (id a : Nat) (i : Nat) : Nat := if i = id then a else i
def AV.hand (id a : Nat) (v : AV) : AV := if (v.ren (A6 id a)).high then v.ren (A6 id a) else .any
section
variable {S S2 : AA} {ι2 : Ae} {id a0 : Nat}
theorem AT.hand (hS : ∀ i b, 1000 ≤ A6 id a0 i → S i = some b → S2 (A6 id a0 i) = some b ∧ ι2 (A6 id a0 i) = ι i) {v : Value} {c : AC} (h : AT σ S ι v c) (hc : (c.ren (A6 id a0)).high = true) : AT σ S2 ι2 v (c.ren (A6 id a0)) := by
 induction h with
 | st h => exact .st h
 | full h => exact .full h
 | row h1 h2 h3 h4 =>
  rw [AC.ren, AC.high] at hc
  obtain ⟨q1, q2⟩ := hS _ _ (of_decide_eq_true hc) h1
  rw [AC.ren]
  exact .row q1 h2 h3 (fun hn => by rw [q2]; exact h4 hn)
 | part h1 h2 h3 h4 =>
  rw [AC.ren, AC.high] at hc
  obtain ⟨q1, q2⟩ := hS _ _ (of_decide_eq_true hc) h1
  rw [AC.ren]
  exact .part q1 h2 h3 (fun hn => by rw [q2]; exact h4 hn)
 | rest h1 h2 h3 h4 =>
  rw [AC.ren, AC.high] at hc
  obtain ⟨q1, q2⟩ := hS _ _ (of_decide_eq_true hc) h1
  rw [AC.ren]
  exact .rest q1 h2 h3 (fun hn => by rw [q2]; exact h4 hn)
 | ptr h1 h2 h3 h4 =>
  rw [AC.ren, AC.high] at hc
  obtain ⟨q1, q2⟩ := hS _ _ (of_decide_eq_true hc) h1
  rw [AC.ren]
  exact .ptr q1 h2 h3 (fun hn => by rw [q2]; exact h4 hn)
 | mptr h1 h2 h3 h4 =>
  rw [AC.ren, AC.high] at hc
  obtain ⟨q1, q2⟩ := hS _ _ (of_decide_eq_true hc) h1
  rw [AC.ren]
  exact .mptr q1 h2 h3 (fun hn => by rw [q2]; exact h4 hn)
 | yld h1 h2 h3 h4 =>
  rw [AC.ren, AC.high] at hc
  obtain ⟨q1, q2⟩ := hS _ _ (of_decide_eq_true hc) h1
  rw [AC.ren]
  exact .yld q1 h2 h3 (fun hn => by rw [q2]; exact h4 hn)
 | ubool => exact .ubool
 | eptr c h1 h2 hh => exact .eptr c h1 h2 hh
 | @fn f vs caps c h1 h2 h3 ih =>
  rw [AC.ren, AC.high] at hc
  rw [AC.ren]
  have key : ∀ (j : Nat) (b : AC), (AC.rens (A6 id a0) caps)[j]? = some b → ∃ a, caps[j]? = some a ∧ b = a.ren (A6 id a0) := fun j b hb => by
   rw [AC.rens_eq, List.getElem?_map, Option.map_eq_some_iff] at hb
   obtain ⟨a, ha, rfl⟩ := hb
   exact ⟨a, ha, rfl⟩
  refine .fn c (by rw [AC.rens_eq]; simpa using h1) (fun j b hb => ?_) (fun j b hb => ?_)
  ·obtain ⟨a, ha, rfl⟩ := key j b hb
   exact h2 j a ha
  ·have hm := BW hc b (List.mem_of_getElem? hb)
   obtain ⟨a, ha, rfl⟩ := key j b hb
   exact ih j a ha hm
 | any h => exact .any h
mutual
theorem AL.hand (hS : ∀ i b, 1000 ≤ A6 id a0 i → S i = some b → S2 (A6 id a0 i) = some b ∧ ι2 (A6 id a0 i) = ι i) : ∀ {v : Value} {c : AV}, AL σ S ι v c → (c.ren (A6 id a0)).high = true → AL σ S2 ι2 v (c.ren (A6 id a0))
 | v, .one c, h, hc => by
  rw [AV.ren] at hc ⊢
  rw [AV.high] at hc
  cases h with | one h => exact .one (h.hand hS hc)
 | v, .agg cs, h, hc => by
  rw [AV.ren] at hc ⊢
  rw [AV.high] at hc
  cases h with
  | agg h =>
   refine .agg (AP.of_get (by rw [AC.rens_eq]; simpa using h.len) fun j x c hx hcj => ?_)
   have hm := BW hc c (List.mem_of_getElem? hcj)
   rw [AC.rens_eq, List.getElem?_map, Option.map_eq_some_iff] at hcj
   obtain ⟨c', hc', rfl⟩ := hcj
   obtain ⟨x', h1, h2⟩ := h.get hc'
   rw [hx] at h1
   cases h1
   exact h2.hand hS hm
 | v, .tup vs, h, hc => by
  rw [AV.ren] at hc ⊢
  rw [AV.high] at hc
  cases h with
  | tup c h1 h2 h3 =>
   obtain ⟨k1, k2⟩ := AL.hands hS h3 hc
   exact .tup c (by rw [h1, k1]) (fun j b hb => by
    rcases Nat.lt_or_ge j vs.length with hj | hj
    ·exact h2 j _ (List.getElem?_eq_getElem hj)
    ·rw [List.getElem?_eq_none (by omega)] at hb; cases hb) k2
 | v, .any, h, _ => .any
theorem AL.hands (hS : ∀ i b, 1000 ≤ A6 id a0 i → S i = some b → S2 (A6 id a0 i) = some b ∧ ι2 (A6 id a0 i) = ι i) : ∀ {vs : List AV} {c : Nat → Value}, (∀ j b, vs[j]? = some b → AL σ S ι (c j) b) → AV.highs (AV.rens (A6 id a0) vs) = true → vs.length = (AV.rens (A6 id a0) vs).length ∧ ∀ j b, (AV.rens (A6 id a0) vs)[j]? = some b → AL σ S2 ι2 (c j) b
 | [], c, h, _ => by simp [AV.rens]
 | x :: xs, c, h, hc => by
  rw [AV.rens, AV.highs, Bool.and_eq_true] at hc
  obtain ⟨m1, m2⟩ := AL.hands hS (vs := xs) (c := fun j => c (j + 1)) (fun j b hb => h (j + 1) b (by simpa using hb)) hc.2
  refine ⟨by simp [AV.rens, ← m1], fun j b hb => ?_⟩
  cases j with
  | zero =>
   simp [AV.rens] at hb
   subst hb
   exact AL.hand hS (h 0 x rfl) hc.1
  | succ j => exact m2 j b (by simpa [AV.rens] using hb)
end
end
theorem AT.stay {S S2 : AA} {ι2 : Ae} (hS : ∀ i b, 1000 ≤ i → S i = some b → S2 i = some b ∧ ι2 i = ι i) {v : Value} {c : AC} (h : AT σ S ι v c) (hc : c.high = true) : AT σ S2 ι2 v c := by
 induction h with
 | st h => exact .st h
 | full h => exact .full h
 | row h1 h2 h3 h4 =>
  rw [AC.high] at hc
  obtain ⟨q1, q2⟩ := hS _ _ (of_decide_eq_true hc) h1
  exact .row q1 h2 h3 (fun hn => by rw [q2]; exact h4 hn)
 | part h1 h2 h3 h4 =>
  rw [AC.high] at hc
  obtain ⟨q1, q2⟩ := hS _ _ (of_decide_eq_true hc) h1
  exact .part q1 h2 h3 (fun hn => by rw [q2]; exact h4 hn)
 | rest h1 h2 h3 h4 =>
  rw [AC.high] at hc
  obtain ⟨q1, q2⟩ := hS _ _ (of_decide_eq_true hc) h1
  exact .rest q1 h2 h3 (fun hn => by rw [q2]; exact h4 hn)
 | ptr h1 h2 h3 h4 =>
  rw [AC.high] at hc
  obtain ⟨q1, q2⟩ := hS _ _ (of_decide_eq_true hc) h1
  exact .ptr q1 h2 h3 (fun hn => by rw [q2]; exact h4 hn)
 | mptr h1 h2 h3 h4 =>
  rw [AC.high] at hc
  obtain ⟨q1, q2⟩ := hS _ _ (of_decide_eq_true hc) h1
  exact .mptr q1 h2 h3 (fun hn => by rw [q2]; exact h4 hn)
 | yld h1 h2 h3 h4 =>
  rw [AC.high] at hc
  obtain ⟨q1, q2⟩ := hS _ _ (of_decide_eq_true hc) h1
  exact .yld q1 h2 h3 (fun hn => by rw [q2]; exact h4 hn)
 | ubool => exact .ubool
 | eptr c h1 h2 hh => exact .eptr c h1 h2 hh
 | fn c h1 h2 h3 ih =>
  rw [AC.high] at hc
  exact .fn c h1 h2 (fun j a ha => ih j a ha (BW hc a (List.mem_of_getElem? ha)))
 | any h => exact .any h
theorem AJ.hand (R : AJ C σ ι s a w) (id a0 : Nat) {b0 : AI} (hid : id < 1000) (ha : 1000 ≤ a0) (hSa : s.S a0 = none) (hb0 : s.S id = some b0) (hbh : b0.high = true) (hb : ∀ i b, 1000 ≤ i → s.S i = some b → b.high = true) :
  AJ C σ (AE ι a0 (ι id)) ⟨fun i => (s.env i).hand id a0, AE (Bp s.S) a0 (some b0)⟩ a w ∧ ∀ i b, 1000 ≤ A6 id a0 i → s.S i = some b → AE (Bp s.S) a0 (some b0) (A6 id a0 i) = some b ∧ AE ι a0 (ι id) (A6 id a0 i) = ι i := by
 have hlow : ∀ i, 1000 ≤ i → Bp s.S i = s.S i := fun i hi => by
  show (if i < 1000 then none else s.S i) = _
  rw [if_neg (by omega)]
 have hS : ∀ i b, 1000 ≤ A6 id a0 i → s.S i = some b → AE (Bp s.S) a0 (some b0) (A6 id a0 i) = some b ∧ AE ι a0 (ι id) (A6 id a0 i) = ι i := fun i b hi h => by
  unfold A6 at hi ⊢
  by_cases e : i = id
  ·subst e
   rw [if_pos rfl, AB, AB, ← hb0, h]
   exact ⟨rfl, rfl⟩
  ·rw [if_neg e] at hi ⊢
   have hne : i ≠ a0 := fun e => by subst e; rw [hSa] at h; cases h
   rw [AG _ hne, AG _ hne, hlow i hi]
   exact ⟨h, rfl⟩
 have hS' : ∀ i b, 1000 ≤ i → s.S i = some b → AE (Bp s.S) a0 (some b0) i = some b ∧ AE ι a0 (ι id) i = ι i := fun i b hi h => by
  have hne : i ≠ a0 := fun e => by subst e; rw [hSa] at h; cases h
  rw [AG _ hne, AG _ hne, hlow i hi]
  exact ⟨h, rfl⟩
 have hinv : ∀ i b, AE (Bp s.S) a0 (some b0) i = some b → (i = a0 ∧ b = b0) ∨ (i ≠ a0 ∧ 1000 ≤ i ∧ s.S i = some b) := fun i b h => by
  by_cases e : i = a0
  ·subst e
   rw [AB] at h
   cases h
   exact .inl ⟨rfl, rfl⟩
  ·rw [AG _ e] at h
   have h' : (if i < 1000 then none else s.S i) = some b := h
   split at h'
   ·cases h'
   ·exact .inr ⟨e, by omega, h'⟩
 refine ⟨⟨R.size, fun i hi => ?_, R.nod, R.fit, fun i b h => ?_, fun i j b c g h1 h2 g1 g2 => ?_, fun i b g h hg => ?_, R.ext, R.old, R.os, R.grown, R.same, fun i b h => ?_⟩, hS⟩
 ·show AL σ (AE (Bp s.S) a0 (some b0)) _ _ ((s.env i).hand id a0)
  unfold AV.hand
  split
  ·rename_i hh
   exact (R.env i hi).hand hS hh
  ·exact .any
 ·rcases hinv i b h with ⟨rfl, rfl⟩ | ⟨hne, h1, h2⟩
  ·rw [AB]
   exact (R.blk id _ hb0).samecells (fun v c hv hc => hv.stay hS' hc) hbh
  ·rw [AG _ hne]
   exact (R.blk i b h2).samecells (fun v c hv hc => hv.stay hS' hc) (hb i b h1 h2)
 ·rcases hinv i b h1 with ⟨rfl, rfl⟩ | ⟨hne, k1, k2⟩ <;> rcases hinv j c h2 with ⟨rfl, rfl⟩ | ⟨hne', k1', k2'⟩
  ·rfl
  ·rw [AB] at g1
   rw [AG _ hne'] at g2
   have := R.inj _ _ _ _ g hb0 k2' g1 g2
   omega
  ·rw [AB] at g2
   rw [AG _ hne] at g1
   have := R.inj _ _ _ _ g k2 hb0 g1 g2
   omega
  ·rw [AG _ hne] at g1
   rw [AG _ hne'] at g2
   exact R.inj _ _ _ _ g k2 k2' g1 g2
 ·rcases hinv i b h with ⟨rfl, rfl⟩ | ⟨hne, k1, k2⟩
  ·rw [AB] at hg
   exact R.base _ _ g hb0 hg
  ·rw [AG _ hne] at hg
   exact R.base _ _ g k2 hg
 ·obtain ⟨b', h1, h2, h3⟩ := R.upd i b h
  obtain ⟨q1, q2⟩ := hS' i b' (C.clean i b h).1 h1
  exact ⟨b', q1, h2, fun hl => ⟨(h3 hl).1, by rw [q2]; exact (h3 hl).2⟩⟩
theorem AZ.hand (id a0 : Nat) {b0 : AI} (hid : id < 1000) (ha : 1000 ≤ a0) (hSa : s.S a0 = none) (hb0 : s.S id = some b0) (hbh : b0.high = true) (hb : ∀ i b, 1000 ≤ i → s.S i = some b → b.high = true) : AZ C s ⟨fun i => (s.env i).hand id a0, AE (Bp s.S) a0 (some b0)⟩ := fun a w ⟨σ, ι, R⟩ =>
 ⟨σ, _, (R.hand id a0 hid ha hSa hb0 hbh hb).1⟩
theorem LA {C : Ctx} {rs : List RV} {S' : AA} {e : AX} {s : AS} (he : match e with | .normal => True | .ret => True | _ => False) (id a0 : Nat) (r0 : AV) {b0 : AI} (hid : id < 1000) (ha : 1000 ≤ a0) (hSa : s.S a0 = none) (hb0 : s.S id = some b0) (hbh : b0.high = true) (hb : ∀ i b, 1000 ≤ i → s.S i = some b → b.high = true)
  (h1 : (AH s rs).map AY = some r0) (hh : (r0.ren (A6 id a0)).high = true) (h3 : AE (Bp s.S) a0 (some b0) = S') (hc : Ah S') : E8 C rs (r0.ren (A6 id a0)) S' e s :=
 ⟨he, s, ⟨fun i => (s.env i).hand id a0, AE (Bp s.S) a0 (some b0)⟩, r0, AZ.refl _ _, h1, fun σ ι a w R => ⟨σ, _, (R.hand id a0 hid ha hSa hb0 hbh hb).1, fun v hv => hv.hand (R.hand id a0 hid ha hSa hb0 hbh hb).2 hh⟩, h3, hc⟩
theorem Ca (S : AA) (i : Nat) : upS S (up1 i) = (S i).map (AI.ren up1) := by
 show (if i + 1000 < 1000 then none else (S (i + 1000 - 1000)).map (AI.ren up1)) = _
 rw [if_neg (by omega), Nat.add_sub_cancel]
theorem OG (S : AA) (i : Nat) (b : AI) : dnS (AE S (up1 i) (some b)) = AE (dnS S) i (some (b.ren dn1)) := by
 funext k
 show (AE S (up1 i) (some b) (up1 k)).map _ = AE (dnS S) i _ k
 by_cases h : k = i
 ·subst h
  rw [AB, AB]
  rfl
 ·have hne : up1 k ≠ up1 i := fun e => h (by have := congrArg dn1 e; rw [Gp, Gp] at this; exact this)
  rw [AG _ hne, AG _ h]
  rfl
theorem GL (S : AA) {i : Nat} (h : i < 1000) (b : Option AI) : Bp (AE S i b) = Bp S := by
 funext k
 show (if k < 1000 then none else AE S i b k) = (if k < 1000 then none else S k)
 split
 ·rfl
 ·exact AG _ (by omega) _
theorem Lb (S : AA) {i : Nat} (h : 1000 ≤ i) (b : Option AI) : Bp (AE S i b) = AE (Bp S) i b := by
 funext k
 show (if k < 1000 then none else AE S i b k) = AE (Bp S) i b k
 by_cases e : k = i
 ·subst e
  rw [if_neg (by omega), AB, AB]
 ·rw [AG _ e, AG _ e]
  rfl
theorem B8 {S : AA} (h : Ah S) {i : Nat} (hi : 1000 ≤ i) {b : AI} (hb : b.high = true) : Ah (AE S i (some b)) := fun k c hk => by
 by_cases e : k = i
 ·subst e
  rw [AB] at hk
  cases hk
  exact ⟨hi, hb⟩
 ·rw [AG _ e] at hk
  exact h k c hk
theorem Ms {S : AA} {i : Nat} {b : AI} (h : ∀ k c, 1000 ≤ k → S k = some c → c.high = true) (hb : b.high = true) : ∀ k c, 1000 ≤ k → AE S i (some b) k = some c → c.high = true := fun k c hk hc => by
 by_cases e : k = i
 ·subst e
  rw [AB] at hc
  cases hc
  exact hb
 ·rw [AG _ e] at hc
  exact h k c hk hc
theorem FD {S : AA} {i : Nat} (hi : i < 1000) {b : Option AI} (h : ∀ k c, 1000 ≤ k → S k = some c → c.high = true) : ∀ k c, 1000 ≤ k → AE S i b k = some c → c.high = true := fun k c hk hc => by
 rw [AG _ (by omega)] at hc
 exact h k c hk hc
end
theorem IWP.loopD {P : Program} {C : Ctx} {mu : List Nat} {Q : AX → AS → Prop} {s : AS} {x : IR} (ds : List Nat) (Inv : Nat → AS → Prop) (m0 : Nat) (h0 : Inv m0 s) (h : ∀ m s, Inv m s → IWP P C mu x (AX.then (fun s' => ∃ m', m' < m ∧ Inv m' (s'.drop ds)) Q) s) (hds : ∀ d ∈ ds, d < 1000 := by decide) : IWP P C mu (.loop x) Q s := by
 refine IWP.loop (fun m s => ∃ s1, AZ C s s1 ∧ Inv m s1) m0 ⟨s, AZ.refl _ _, h0⟩ fun m s ⟨s1, hg, hi⟩ => ?_
 refine (IWP.ghost hg (h m s1 hi)).mono fun e s2 he => ?_
 cases e with
 | normal =>
  obtain ⟨m', h1, h2⟩ := he
  exact ⟨m', h1, _, AZ.drop ds s2 hds, h2⟩
 | _ => exact he
theorem AT.out {σ : Sto} {S : AA} {ι : Ae} {v : Value} {c : AC} (h : AT σ S ι v c) (hc : outC noS c = some c) : AT σ noS noH v c := by
 cases h with
 | st h => exact .st h
 | full h => simp [outC, stC] at hc
 | row h1 h2 h3 h4 => simp [outC, stC, noS] at hc
 | part h1 h2 h3 h4 => simp [outC, stC, noS] at hc
 | rest h1 h2 h3 h4 => simp [outC, stC, noS] at hc
 | ptr h1 h2 h3 h4 => simp [outC, stC] at hc
 | mptr h1 h2 h3 h4 => simp [outC, stC] at hc
 | yld h1 h2 h3 h4 => simp [outC, stC] at hc
 | ubool => exact .ubool
 | eptr c h1 h2 hh => exact .eptr c h1 h2 hh
 | @fn f vs caps c h1 h2 h3 =>
  cases caps with
  | nil => exact .fn c h1 h2 (by simp)
  | cons x xs =>
   have hall : (x :: xs).all AC.stay = true := by
    unfold outC at hc
    by_cases e : (x :: xs).all AC.stay = true
    ·exact e
    ·simp only [e, if_false] at hc
     cases hc
   exact .fn c h1 h2 fun j a ha => (h3 j a ha).staying (List.all_eq_true.1 hall a (List.mem_of_getElem? ha))
 | any h => simp [outC, stC] at hc
theorem Gd : ∀ {cs : List AC}, outCs noS cs = some cs → ∀ c ∈ cs, outC noS c = some c
 | [], _, c, hc => by simp at hc
 | x :: xs, h, c, hc => by
  simp only [outCs] at h
  split at h
  ·rename_i y ys h1 h2
   simp only [Option.some.injEq, List.cons.injEq] at h
   obtain ⟨rfl, rfl⟩ := h
   rcases List.mem_cons.1 hc with rfl | hc
   ·exact h1
   ·exact Gd h2 c hc
  ·cases h
mutual
theorem AL.out {σ : Sto} {S : AA} {ι : Ae} : ∀ {v : Value} {c : AV}, AL σ S ι v c → outV noS c = some c → AL σ noS noH v c
 | v, .one c, h, hc => by
  rw [outV, Option.map_eq_some_iff] at hc
  obtain ⟨a, h1, h2⟩ := hc
  cases h2
  cases h with | one h => exact .one (h.out h1)
 | v, .agg cs, h, hc => by
  rw [outV, Option.map_eq_some_iff] at hc
  obtain ⟨a, h1, h2⟩ := hc
  cases h2
  cases h with
  | agg h => exact .agg (AP.of_get h.len fun j x c hx hcj => by
    obtain ⟨x', q1, q2⟩ := h.get hcj
    rw [hx] at q1
    cases q1
    exact q2.out (Gd h1 c (List.mem_of_getElem? hcj)))
 | v, .tup vs, h, hc => by
  rw [outV, Option.map_eq_some_iff] at hc
  obtain ⟨a, h1, h2⟩ := hc
  cases h2
  cases h with
  | tup c k1 k2 k3 => exact .tup c k1 k2 (AL.outs k3 h1)
 | v, .any, h, _ => .any
theorem AL.outs {σ : Sto} {S : AA} {ι : Ae} : ∀ {vs : List AV} {c : Nat → Value}, (∀ j b, vs[j]? = some b → AL σ S ι (c j) b) → outVs noS vs = some vs → ∀ j b, vs[j]? = some b → AL σ noS noH (c j) b
 | [], c, h, _, j, b, hb => by simp at hb
 | x :: xs, c, h, hc, j, b, hb => by
  rw [outVs] at hc
  split at hc
  ·rename_i y ys h1 h2
   simp only [Option.some.injEq, List.cons.injEq] at hc
   obtain ⟨rfl, rfl⟩ := hc
   cases j with
   | zero =>
    simp at hb
    subst hb
    exact AL.out (h 0 _ rfl) h1
   | succ j => exact AL.outs (c := fun j => c (j + 1)) (fun j b hb => h (j + 1) b (by simpa using hb)) h2 j b (by simpa using hb)
  ·cases hc
end
theorem JE {C : Ctx} {rs : List RV} {r : AV} {S' : AA} {e : AX} {s : AS} (he : match e with | .normal => True | .ret => True | _ => False) (r0 : AV) (h1 : (AH s rs).map AY = some r0) (h2 : outV s.S r0 = some r) (hb : ∀ i b, 1000 ≤ i → s.S i = some b → b.high = true) (h3 : Bp s.S = S') (hc : Ah S') : E8 C rs r S' e s := by
 refine ⟨he, s, ⟨fun i => (s.env i).low, Bp s.S⟩, r0, AZ.refl _ _, h1, fun σ ι a w R => ?_, h3, hc⟩
 exact ⟨σ, ι, R.low hb, fun v hv => Nr (s := ⟨fun i => (s.env i).low, Bp s.S⟩) (R.outV hv h2)⟩
theorem CT {C : Ctx} {rs : List RV} {r : AV} {e : AX} {s : AS} {S : AA} (r0 : AV) (hS : Ah S) (he : match e with | .normal => True | .ret => True | _ => False)
  (h1 : (AH s rs).map AY = some r0) (h2 : outV s.S r0 = some r) (h4 : ∀ i, 1000 ≤ i → s.S i = S i) : E8 C rs r S e s :=
 JE he r0 h1 h2 (fun i b hi hb => (hS i b (by rw [← h4 i hi]; exact hb)).2) (by
  funext i
  unfold Bp
  split
  ·exact (Bg hS (by omega)).symm
  ·exact h4 i (by omega)) hS
theorem KU {C : Ctx} {rs : List RV} {r : AV} {S' : AA} {e : AX} {s s1 : AS} (hg : AZ C s s1) (h : E8 C rs r S' e s1) : E8 C rs r S' e s := by
 obtain ⟨he, s2, s3, r0, h1, h2⟩ := h
 exact ⟨he, s2, s3, r0, hg.trans h1, h2⟩
theorem OQ {C : Ctx} {rs : List RV} {e : AX} {s : AS} {ty : TypeId} {w n : Nat} {ys : List (List SV)} {mu : Bool} (he : match e with | .normal => True | .ret => True | _ => False) (id : Nat) (hid : id < 1000) (hb0 : s.S id = some (Fo mu ty w ys)) (hlow : ∀ i, 1000 ≤ i → s.S i = none)
  (h1 : (AH s rs).map AY = some (.one (.row id n))) : E8 C rs (.one (.row 1000 n)) (fun i => if i = 1000 then some (Fo mu ty w ys) else noS i) e s := by
 have e1 : (AV.one (.row id n)).ren (A6 id 1000) = .one (.row 1000 n) := by simp [AV.ren, AC.ren, A6]
 rw [← e1]
 refine LA he id 1000 _ hid (by decide) (hlow 1000 (by decide)) hb0 (by cases mu <;> rfl) (fun i b hi hb => by rw [hlow i hi] at hb; cases hb) h1 (by rw [e1]; rfl) ?_ ?_
 ·funext i
  unfold AE Bp noS
  by_cases h2 : i = 1000
  ·rw [if_pos h2, if_pos h2]
  ·rw [if_neg h2, if_neg h2]
   split
   ·rfl
   ·exact hlow i (by omega)
 ·intro i b hb
  have hb : (if i = 1000 then some (Fo mu ty w ys) else noS i) = some b := hb
  split at hb
  ·rename_i h2
   cases hb
   exact ⟨by omega, by cases mu <;> rfl⟩
  ·cases hb

theorem K8 (c P Q : Prop) [Decidable c] : ((c → P) ∧ (¬ c → Q)) = if c then P else Q := by
 by_cases h : c <;> simp [h]
theorem NS {c A B : Prop} [Decidable c] (h : (c → A) ∧ (¬ c → B)) : if c then A else B := by
 by_cases hc : c
 ·rw [if_pos hc]; exact h.1 hc
 ·rw [if_neg hc]; exact h.2 hc
theorem Nc (b : Bool) (P Q : Prop) : ((b = true → P) ∧ (b = false → Q)) = if b = true then P else Q := by
 cases b <;> simp
attribute [congr] If.congr E6.congr
mutual
def BY : Tm → List SV
 | .mk n xs => [.str n, .list (Kr xs)]
def Kr : List Tm → List (List SV)
 | [] => []
 | t :: ts => BY t :: Kr ts
end
theorem In : ∀ xs : List Tm, Kr xs = xs.map BY
 | [] => rfl
 | t :: ts => by rw [Kr, In ts]; rfl
theorem CM (t : Tm) : BY t = [.str t.name, .list (t.args.map BY)] := by
 cases t
 rw [BY, In]
 rfl
theorem Mc (t : Tm) : (BY t).length = 2 := by rw [CM]; rfl
class Oe {α : Type} (f : α → List SV) (n : outParam Nat) : Prop where
 ok : ∀ a, (f a).length = n
theorem Oo {α : Type} {f : α → List SV} {n : Nat} [h : Oe f n] {ts : List α} : ∀ x ∈ ts.map f, x.length = n := fun x hx => by
 obtain ⟨a, _, rfl⟩ := List.mem_map.1 hx
 exact h.ok a
instance : Oe BY 2 := ⟨fun t => by rw [CM]; rfl⟩
theorem K3 {ts : List Tm} : ∀ x ∈ ts.map BY, x.length = 2 := by
 intro x hx
 obtain ⟨a, _, rfl⟩ := List.mem_map.1 hx
 exact Mc a
theorem Tm.args_mk (n : ByteArray) (xs : List Tm) : (Tm.mk n xs).args = xs := rfl
theorem Tm.name_mk (n : ByteArray) (xs : List Tm) : (Tm.mk n xs).name = n := rfl
abbrev AR (n : Int) : AV := .one (.st (.int .i64 n))
abbrev BX (b : Bool) : AV := .one (.st (.bool b))
abbrev Ed (s : ByteArray) : AV := .one (.st (.str s))
abbrev aTm (t : Tm) : AV := .agg [.st (.str t.name), .st (.list (t.args.map BY))]
abbrev CO (n : Int) : List SV := [.int .i64 n]
abbrev Ds (s : ByteArray) : List SV := [.str s]
abbrev Cw (l : List Int) : AV := .one (.st (.list (l.map CO)))
abbrev Iq (l : List ByteArray) : AV := .one (.st (.list (l.map Ds)))
abbrev Ok (l : List Tm) : AV := .one (.st (.list (l.map BY)))
theorem BB {α : Type} {xs : List α} {k : Nat} (h : k < xs.length) : ∃ a, xs[k]? = some a := ⟨xs[k], List.getElem?_eq_getElem h⟩
theorem CL (n : Int) : inR .i64 n ↔ -9223372036854775808 ≤ n ∧ n ≤ 9223372036854775807 := by
 simp [inR, IntKind.min, IntKind.max, IntKind.signed, IntKind.bits]
theorem KD {l : List Int} (h : (SV.list (l.map CO)).known) : l.length ≤ maxLen ∧ ∀ n ∈ l, inR .i64 n := by
 obtain ⟨h1, h2⟩ := h
 refine ⟨by simpa using h1, fun n hn => ?_⟩
 have := DI.1 (Ch.1 h2 (CO n) (List.mem_map.2 ⟨n, hn, rfl⟩)) (.int .i64 n) (by simp)
 exact this
theorem BV : maxLen = 9223372036854775807 := by simp [maxLen]
theorem Ho {S : AA} {xs : List (List SV)} (h : (AV.one (.st (.list xs))).known S) : xs.length ≤ 9223372036854775807 := by
 simp only [AV.known, AC.known, SV.known] at h
 rw [BV] at h
 exact h.1
theorem GK {S : AA} {t : Tm} (h : (aTm t).known S) : t.name.size ≤ 9223372036854775807 ∧ t.args.length ≤ 9223372036854775807 := by
 have h1 : t.name.size ≤ maxLen := by
  have := h (.st (.str t.name)) (by simp)
  simpa [AC.known, SV.known] using this
 have h2 : t.args.length ≤ maxLen := by
  have := h (.st (.list (t.args.map BY))) (by simp)
  simp only [AC.known, SV.known, List.length_map] at this
  exact this.1
 rw [BV] at h1 h2
 exact ⟨h1, h2⟩

def Kd.isCall : Kd → Bool
 | .call _ _ => true
 | .callS _ _ => true
 | .callV _ _ => true
 | .callN _ _ => true
 | .callR _ _ => true
 | .callW _ _ => true
 | .callX _ _ => true
 | .callY _ _ => true
 | .buildFlat _ => false
 | .cutP _ _ _ => false
 | .indexP _ _ _ => false
 | .appP _ _ _ _ _ => false
 | .restP _ _ _ => false
 | .appS _ _ _ => false
 | .loadL _ _ _ => false
 | .indexL _ _ _ => false
 | .buildL _ _ => false
 | .fieldL _ _ => false
 | .lenL _ _ => false
 | .appF _ _ _ _ _ _ => false
 | .clearP _ _ _ _ => false
 | .copyP _ _ => false
 | .mov _ => false
 | .pick _ _ _ => false
 | .alloc _ _ => false
 | .box _ _ => false
 | .build _ _ => false
 | .buildSlice _ _ _ _ => false
 | .load _ _ _ => false
 | .store _ _ _ => false
 | .fieldAddr _ _ => false
 | .field _ _ _ _ => false
 | .indexAddr _ _ _ => false
 | .indexArr _ _ _ _ => false
 | .indexStr _ _ => false
 | .bin _ _ _ => false
 | .eqB _ _ _ => false
 | .eqN _ _ => false
 | .eqE _ _ => false
 | .eqP _ _ => false
 | .bits _ _ _ => false
 | .never => false
 | .pan _ => false
 | .iface _ _ => false
 | .strOf _ => false
 | .un _ _ => false
 | .sliceS _ _ _ => false
 | .sliceL _ _ _ _ => false
 | .sliceM _ _ _ _ => false
 | .extract _ _ => false
 | .len _ _ => false
 | .append _ _ _ _ _ _ => false
 | .conv _ _ => false
 | .nilCheck _ => false
 | .mm _ _ _ => false
 | .makeSlice _ _ _ _ _ _ => false
 | .makeFunc _ _ => false
 | .makeMap _ => false
 | .lookup _ _ _ _ _ => false
 | .mapSet _ _ _ _ => false
 | .mapEntry _ _ _ _ => false
 | .entrySet _ _ _ => false
 | .rangeM _ => false
 | .next _ => false
 | .entry _ => false
 | .lenM _ => false
 | .buildArr _ => false
 | .makeMemo => false
 | .memoGet _ _ _ _ => false
 | .memoSet _ _ _ => false
inductive OM (P : Program) (f : FuncId) (vs : List AV) (d : Option Nat) (l : List Ins) (s : AS) (K : AS → Prop) : Prop
 | mk (r : AV) (h1 : Ac P f vs r) (h2 : Run P l (s.put d r) K)
inductive H6 (P : Program) (f : FuncId) (vs : List AV) (S : AA) (ks : List Nat) (d : Option Nat) (l : List Ins) (env : Nat → AV) (K : AS → Prop) : Prop
 | mk (r : AV) (S' : AA) (h1 : Aj P f vs (upS S) r S') (h2 : (∀ k ∈ ks, dnS S' k = S k) ∧ Run P l ((⟨env, dnS S'⟩ : AS).put d (r.ren dn1)) K)
inductive L4 (P : Program) (f : FuncId) (vs : List AV) (ks : List Nat) (d : Option Nat) (l : List Ins) (s : AS) (K : AS → Prop) : Prop
 | mk (mu : Bool) (e : TypeId) (w : Nat) (ys : List (List SV)) (h1 : Ft P f vs e w ys mu) (h2 : s.S (d.getD 0) = none ∧ (∀ k ∈ ks, (s.set (d.getD 0) (Fo mu e w ys)).S k = s.S k) ∧ Run P l ((s.set (d.getD 0) (Fo mu e w ys)).put d (.one (.row (d.getD 0) ys.length))) K)
inductive Od (P : Program) (f : FuncId) (vs : List AV) (d : Option Nat) (l : List Ins) (s : AS) (K : AS → Prop) : Prop
 | mk (r : AV) (rows : List (Nat × AI)) (h0 : ∀ q ∈ rows, s.S q.1 = some q.2) (h1 : ∀ T : AA, (∀ q ∈ rows, T q.1 = some q.2) → Aj P f vs (upS T) r (upS T)) (h2 : Run P l (s.put d (r.ren dn1)) K)
inductive NG (P : Program) (f : FuncId) (vs : List AV) (ks : List Nat) (d : Option Nat) (l : List Ins) (s : AS) (K : AS → Prop) : Prop
 | mk (r : AV) (rows : List (Nat × AI × AI)) (h0 : Ku s.S rows) (h1 : ∀ T : AA, Ku T rows → Aj P f vs (upS T) r (upS (DS T rows))) (h2 : (∀ k ∈ ks, DS s.S rows k = s.S k) ∧ Run P l ((⟨s.env, DS s.S rows⟩ : AS).put d (r.ren dn1)) K)
inductive MG (P : Program) (S : AA) (hs : Bool) (G : AA → (AV → AA → Prop) → Prop) (d : Option Nat) (l : List Ins) (env : Nat → AV) (K : AS → Prop) : Prop
 | mk (T : AA) (Post : AV → AA → Prop) (h1 : Ah T) (h2 : ∀ i, 1000 ≤ i → S i = T i) (h3 : hs = true) (h4 : G T Post) (h5 : ∀ r S', Ah S' → Post r S' → Run P l ((⟨env, Ct S S'⟩ : AS).put d r) K)
def Kd.goC (P : Program) (d : Option Nat) (s : AS) (t : Tag) (l : List Ins) (K : AS → Prop) : Kd → Prop
 | .call f xs => match t with
  | .no => match outVs s.S (s.evs xs) with
   | some vs => OM P f vs d l s K
   | none => False
  | _ => False
 | .callR f xs => match t with
  | .no => Od P f (AV.rens up1 (s.evs xs)) d l s K
  | _ => False
 | .callW f xs => match t with
  | .no => NG P f (AV.rens up1 (s.evs xs)) [] d l s K
  | .keeps ks => NG P f (AV.rens up1 (s.evs xs)) ks d l s K
  | .onb _ => False
 | .callX f xs => match t with
  | .no => MG P s.S (AV.highs ((s.evs xs).map (FM s.S))) (Hv P f ((s.evs xs).map (FM s.S))) d l s.env K
  | _ => False
 | .callY f xs => match t with
  | .no => MG P s.S ((s.ev f).high && AV.highs ((s.evs xs).map (FM s.S))) (Fs P (s.ev f) ((s.evs xs).map (FM s.S))) d l s.env K
  | _ => False
 | .callN f xs => match t with
  | .no => match outVs s.S (s.evs xs) with
   | some vs => L4 P f vs [] d l s K
   | none => False
  | .keeps ks => match outVs s.S (s.evs xs) with
   | some vs => L4 P f vs ks d l s K
   | none => False
  | .onb _ => False
 | .callS f xs => match t with
  | .no => H6 P f (AV.rens up1 (s.evs xs)) s.S [] d l s.env K
  | .keeps ks => H6 P f (AV.rens up1 (s.evs xs)) s.S ks d l s.env K
  | .onb _ => False
 | .callV f xs => match (s.ev f).fnOf with
  | some (g, caps) => Bu P g = true ∧ match t with
   | .no => H6 P g (AV.rens up1 (s.evs xs ++ caps.map .one)) s.S [] d l s.env K
   | .keeps ks => H6 P g (AV.rens up1 (s.evs xs ++ caps.map .one)) s.S ks d l s.env K
   | .onb _ => False
  | _ => False
 | _ => False
def EQ (P : Program) : List Ins → AS → (AS → Prop) → Prop
 | [], s, K => K s
 | i :: l, s, K => match i.kd.isCall with
  | false => match i.guard with
   | none => i.kd.goT P (i.dst.getD 0) s i.tag fun v s' => EQ P l (s'.put i.dst v) K
   | some (g, want) => match s.env g with
    | .one (.st (.bool b)) => (b = want → i.kd.goT P (i.dst.getD 0) s i.tag fun v s' => EQ P l (s'.put i.dst v) K) ∧ (¬ b = want → EQ P l (s.put i.dst (.tup [])) K)
    | .tup [] => EQ P l (s.put i.dst (.tup [])) K
    | _ => False
  | true => match i.guard with
   | none => i.kd.goC P i.dst s i.tag l K
   | some (g, want) => match s.env g with
    | .one (.st (.bool b)) => (b = want → i.kd.goC P i.dst s i.tag l K) ∧ (¬ b = want → EQ P l (s.put i.dst (.tup [])) K)
    | .tup [] => EQ P l (s.put i.dst (.tup [])) K
    | _ => False
section
variable {P : Program}
theorem Kl {kd : Kd} {d : Option Nat} {s : AS} {t : Tag} {l : List Ins} {K : AS → Prop} (h : kd.goC P d s t l K) : kd.goT P (d.getD 0) s t fun v s' => Run P l (s'.put d v) K := by
 cases kd <;> simp only [Kd.goC] at h
 case call f xs =>
  cases t <;> simp only at h
  split at h
  ·rename_i vs e
   obtain ⟨r, h1, h2⟩ := h
   simp only [Kd.goT, Kd.go, e]
   exact ⟨r, h1, trivial, h2⟩
  ·exact h.elim
 case callN f xs =>
  cases t <;> simp only at h
  ·split at h
   ·rename_i vs e
    obtain ⟨mu, ty, w, ys, h1, h2, _, h3⟩ := h
    simp only [Kd.goT, Kd.go, e]
    exact ⟨mu, ty, w, ys, h1, h2, trivial, h3⟩
   ·exact h.elim
  ·split at h
   ·rename_i vs e
    obtain ⟨mu, ty, w, ys, h1, h2, h4, h3⟩ := h
    simp only [Kd.goT, Kd.go, e]
    exact ⟨mu, ty, w, ys, h1, h2, h4, h3⟩
   ·exact h.elim
 case callW f xs =>
  cases t <;> simp only at h
  ·obtain ⟨r, rows, h0, h1, _, h2⟩ := h
   simp only [Kd.goT, Kd.go]
   exact ⟨r, rows, h0, h1, trivial, h2⟩
  ·obtain ⟨r, rows, h0, h1, hk, h2⟩ := h
   simp only [Kd.goT, Kd.go]
   exact ⟨r, rows, h0, h1, hk, h2⟩
 case callX f xs =>
  cases t <;> simp only at h
  obtain ⟨T, Post, h1, h2, h3, h4, h5⟩ := h
  exact ⟨T, Post, h1, h2, h3, h4, fun r S' k1 k2 => ⟨trivial, h5 r S' k1 k2⟩⟩
 case callY f xs =>
  cases t <;> simp only at h
  obtain ⟨T, Post, h1, h2, h3, h4, h5⟩ := h
  exact ⟨T, Post, h1, h2, h3, h4, fun r S' k1 k2 => ⟨trivial, h5 r S' k1 k2⟩⟩
 case callR f xs =>
  cases t <;> simp only at h
  obtain ⟨r, rows, h0, h1, h2⟩ := h
  simp only [Kd.goT, Kd.go]
  exact ⟨r, rows, h0, h1, trivial, h2⟩
 case callS f xs =>
  cases t <;> simp only at h
  ·obtain ⟨r, S', h1, h2, h3⟩ := h
   exact ⟨r, S', h1, trivial, h3⟩
  ·obtain ⟨r, S', h1, h2, h3⟩ := h
   exact ⟨r, S', h1, h2, h3⟩
 case callV f xs =>
  split at h
  ·rename_i g caps e
   obtain ⟨hp, h⟩ := h
   cases t <;> simp only at h
   ·obtain ⟨r, S', h1, h2, h3⟩ := h
    simp only [Kd.goT, Kd.go, e]
    exact ⟨hp, r, S', h1, trivial, h3⟩
   ·obtain ⟨r, S', h1, h2, h3⟩ := h
    simp only [Kd.goT, Kd.go, e]
    exact ⟨hp, r, S', h1, h2, h3⟩
  ·exact h.elim
theorem BU : ∀ {l : List Ins} {s : AS} {K : AS → Prop}, EQ P l s K → Run P l s K
 | [], s, K, h => h
 | i :: l, s, K, h => by
  unfold EQ at h
  unfold Run
  split at h
  ·split at h
   ·rename_i e
    simp only [e]
    exact Cv h fun v s' _ h' => BU h'
   ·rename_i g want e
    simp only [e]
    split at h
    ·rename_i b e2
     simp only [e2]
     exact ⟨fun hb => Cv (h.1 hb) fun v s' _ h' => BU h', fun hb => BU (h.2 hb)⟩
    ·rename_i e2
     simp only [e2]
     exact BU h
    ·exact h.elim
  ·split at h
   ·rename_i e
    simp only [e]
    exact Kl h
   ·rename_i g want e
    simp only [e]
    split at h
    ·rename_i b e2
     simp only [e2]
     exact ⟨fun hb => Kl (h.1 hb), fun hb => BU (h.2 hb)⟩
    ·rename_i e2
     simp only [e2]
     exact BU h
    ·exact h.elim
theorem E4 {l : List Ins} {s : AS} {K : AS → Prop} {A : Prop} (h : A ∧ EQ P l s K) : A ∧ Run P l s K := ⟨h.1, BU h.2⟩
theorem IWP.ops2 {C : Ctx} {mu : List Nat} {Q : AX → AS → Prop} {s : AS} {l : List Ins} (h : ∀ K : AS → Prop, (∀ s, Q .normal s → K s) → EQ P l s K) : IWP P C mu (.ops l) Q s := IWP.opsK fun K hK => BU (h K hK)
end
attribute [go_sem] OD Mx M2 Hf Ins.i Ins.m Ins.L Ins.l Ins.f Ins.s Opd.n Fo DS EQ Kd.isCall Kd.goC Kd.goT Tag.ok Kd.ptrOpd DW List.forall_mem_cons List.not_mem_nil Kd.go AS.ev AS.evs AS.put AS.set AE AV.cells ES CD Dd stP L_ stC stCs outC outCs outV outVs FV Br Ba Bi MM Cr LY K0 optI I7 splice AI.len AS.start AS.startS noS List.getElem?_cons_zero List.getElem?_cons_succ List.getElem?_nil List.getElem?_map Option.isSome_none Option.isSome_some Option.map_some Option.map_none Option.getD_some Option.getD_none List.length_map List.length_cons List.length_nil List.length_append List.map_cons List.map_nil List.take_succ_cons List.take_zero List.take_nil List.drop_succ_cons List.drop_zero List.drop_nil List.nil_append List.cons_append List.append_nil Nat.zero_add Nat.add_zero Nat.le_refl Nat.zero_le if_true if_false Bool.false_eq_true true_and and_true Option.some.injEq Int.toNat_natCast Int.natCast_nonneg Int.ofNat_eq_natCast ite_self decide_true decide_false not_true_eq_false not_false_eq_true true_implies false_implies implies_true Bool.true_eq_false eq_self Bool.not_true Bool.not_false beq_self_eq_true Tm.args_mk Tm.name_mk AV.rens AV.ren AC.ren AC.rens AI.ren Ca Gp OG Ju
theorem Nq (T : AA) (i : Nat) (b : AI) : upS (AE T i (some b)) = AE (upS T) (up1 i) (some (b.ren up1)) := by
 funext k
 show (if k < 1000 then none else (AE T i (some b) (k - 1000)).map (AI.ren up1)) = _
 by_cases e : k = up1 i
 ·subst e
  rw [AB, if_neg (by have := BT i; omega), show up1 i - 1000 = i from Gp i, AB]
  rfl
 ·rw [AG _ e]
  by_cases hk : k < 1000
  ·rw [if_pos hk]
   show none = if k < 1000 then none else _
   rw [if_pos hk]
  ·rw [if_neg hk, AG _ (fun h => e (by rw [← h]; exact (GJ (by omega)).symm))]
   show _ = if k < 1000 then none else _
   rw [if_neg hk]
abbrev Wo := @IWP.ops2
abbrev Wp := @IWP.cond
abbrev Wq := @BU
abbrev Wr := @E4
abbrev iC := @NS
abbrev Cg := @OM.mk
abbrev dT := @decide_eq_true_eq
abbrev dF := @decide_eq_false_iff_not
abbrev nL := @Int.ofNat_lt
abbrev eT := @CM
abbrev iR := @CL
attribute [go_sem ↓] K8 Nc
theorem Ai {a b : Prop} (k : b) (h : a := by first | omega | exact Oo | (simp [BV] <;> omega)) : a ∧ b := ⟨h, k⟩
theorem Z0 {id id' : Nat} {Q : AX → AS → Prop} {s : AS} (h : Q (.exit id') s) (hne : id' ≠ id := by decide) : AX.inBlock id Q (.exit id') s := Hw hne h
theorem fN {α : Type} (p : α → Prop) : ∀ x ∈ ([] : List α), p x := List.forall_mem_nil p
class Ey (goal : Prop) (prev : outParam Prop) : Prop where
 imp : prev → goal
theorem W {goal prev : Prop} [s : Ey goal prev] (h : prev) : goal := s.imp h
section
variable {P : Program} {C : Ctx} {mu : List Nat} {x y : IR} {Q : AX → AS → Prop} {s : AS} {id : Nat} {K : AS → Prop}
instance : Ey (IWP P C mu (.seq x y) Q s) (IWP P C mu x (I0 P C mu y Q) s) := ⟨IWP.seq⟩
instance : Ey (I0 P C mu y Q .normal s) (IWP P C mu y Q s) := ⟨JK⟩
instance : Ey (IWP P C mu (.block id x) Q s) (IWP P C mu x (AX.inBlock id Q) s) := ⟨IWP.block⟩
instance : Ey (IWP P C mu .skip Q s) (Q .normal s) := ⟨IWP.skip⟩
instance : Ey (IWP P C mu (.exit id) Q s) (Q (.exit id) s) := ⟨IWP.exit⟩
instance : Ey (IWP P C mu .ret Q s) (Q .ret s) := ⟨IWP.ret⟩
instance : Ey (I0 P C mu y Q (.exit id) s) (Q (.exit id) s) := ⟨L3⟩
instance : Ey (I0 P C mu y Q .ret s) (Q .ret s) := ⟨L5⟩
instance : Ey (AX.inBlock id Q .normal s) (Q .normal s) := ⟨Gt⟩
instance : Ey (AX.inBlock id Q (.exit id) s) (Q .normal s) := ⟨IN⟩
instance : Ey (AX.inBlock id Q .ret s) (Q .ret s) := ⟨Jf⟩
instance : Ey (AX.then K Q (.exit id) s) (Q (.exit id) s) := ⟨LG⟩
instance : Ey (AX.then K Q .ret s) (Q .ret s) := ⟨NI⟩
class MQ (goal : Prop) (prev : outParam Prop) : Prop where
 imp : prev → goal
class MT (goal : Prop) (prev : outParam Prop) : Prop where
 imp : prev → goal
theorem U {goal prev : Prop} [s : MQ goal prev] (h : prev) : goal := s.imp h
instance {l : List Ins} : MQ (Run P l s K) (EQ P l s K) := ⟨BU⟩
instance {l : List Ins} {A : Prop} : MQ (A ∧ Run P l s K) (A ∧ EQ P l s K) := ⟨E4⟩
instance {l : List Ins} : MT (Run P l s K) (EQ P l s K) := ⟨BU⟩
instance {l : List Ins} {A : Prop} : MT (A ∧ Run P l s K) (A ∧ EQ P l s K) := ⟨E4⟩
instance {c0 : Opd} : MT (IWP P C mu (.cond c0 x y) Q s) (match s.ev c0 with | .one (.st (.bool b)) => (b = true → IWP P C mu x Q s) ∧ (b = false → IWP P C mu y Q s) | .one .ubool => IWP P C mu x Q s ∧ IWP P C mu y Q s | _ => False) := ⟨IWP.cond⟩
end
theorem IWP.fresh {P : Program} {C : Ctx} {mu : List Nat} {x : IR} {Q : AX → AS → Prop} {s : AS} (h1000 : ∀ i, 1000 ≤ i → s.S i = none) (h : ∀ env' : Nat → AV, (∀ i v, s.env i = .one (.st v) → env' i = .one (.st v)) → IWP P C mu x Q ⟨env', noS⟩) : IWP P C mu x Q s := by
 refine IWP.ghost (AZ.low (s := s) fun i b hi hb => by rw [h1000 i hi] at hb; cases hb) ?_
 have e : Bp s.S = noS := by
  funext i
  show (if i < 1000 then none else s.S i) = none
  split
  ·rfl
  ·exact h1000 i (by omega)
 rw [e]
 exact h _ fun i v hv => by rw [hv]; rfl



structure Mv where
 name : ByteArray
 frm : List Int
 to_ : Int
structure Au where
 states : Int
 moves : List Mv
 last : List Int
def inS (S : Int) (s : Int) : Bool := decide (0 ≤ s) && decide (s < S)
def Mv.err (S : Int) (m : Mv) : Int := if As m.name = true ∧ A3 m.name = false then (if 4 < m.frm.length then 3 else if m.frm.all (inS S) = true ∧ inS S m.to_ = true then 0 else 10) else 1
def A7 (S : Int) : List Mv → Int
 | [] => 0
 | m :: ms => if m.err S = 0 then A7 S ms else m.err S
def Au.may (a : Au) (S M : Int) : Int := if a.states < 0 ∨ S < a.states ∨ M < a.moves.length then 3 else if A7 a.states a.moves = 0 then (if a.last.all (inS a.states) = true then 0 else 10) else A7 a.states a.moves
theorem EA (S : Int) (xs ys : List Mv) : A7 S (xs ++ ys) = if A7 S xs = 0 then A7 S ys else A7 S xs := by
 induction xs with
 | nil => simp [A7]
 | cons x xs ih =>
  simp only [List.cons_append, A7, ih]
  by_cases h : x.err S = 0
  ·simp [h]
  ·simp [h]
theorem Dj {S : Int} {xs : List Mv} {k : Nat} {m : Mv} (hm : xs[k]? = some m) (h : A7 S (xs.take k) = 0) : A7 S (xs.take (k + 1)) = m.err S := by
 rw [A2 hm, EA, if_pos h]
 simp only [A7]
 split
 ·rename_i h1
  rw [h1]
 ·rfl
theorem L1 {S : Int} {xs : List Mv} {k : Nat} (h : ¬ A7 S (xs.take k) = 0) : A7 S xs = A7 S (xs.take k) := by
 have := EA S (xs.take k) (xs.drop k)
 rw [List.take_append_drop, if_neg h] at this
 exact this
theorem HI {S : Int} : ∀ {xs : List Mv}, A7 S xs = 0 ↔ ∀ m ∈ xs, m.err S = 0
 | [] => by simp [A7]
 | x :: xs => by
  rw [A7]
  by_cases h : x.err S = 0
  ·rw [if_pos h, HI]
   simp [h]
  ·rw [if_neg h]
   simp [h]
theorem Mv.err_ok {S : Int} {m : Mv} : m.err S = 0 ↔ (As m.name = true ∧ A3 m.name = false) ∧ m.frm.length ≤ 4 ∧ m.frm.all (inS S) = true ∧ inS S m.to_ = true := by
 unfold Mv.err
 by_cases h1 : As m.name = true ∧ A3 m.name = false
 ·rw [if_pos h1]
  by_cases h2 : 4 < m.frm.length
  ·rw [if_pos h2]
   constructor
   ·intro h; cases h
   ·intro h; omega
  ·rw [if_neg h2]
   by_cases h3 : m.frm.all (inS S) = true ∧ inS S m.to_ = true
   ·rw [if_pos h3]
    exact ⟨fun _ => ⟨h1, by omega, h3⟩, fun _ => rfl⟩
   ·rw [if_neg h3]
    constructor
    ·intro h; cases h
    ·intro h; exact absurd h.2.2 h3
 ·rw [if_neg h1]
  constructor
  ·intro h; cases h
  ·intro h; exact absurd h.1 h1
theorem Au.may_ok {a : Au} {S M : Int} : a.may S M = 0 ↔ (0 ≤ a.states ∧ a.states ≤ S ∧ a.moves.length ≤ M) ∧ (∀ m ∈ a.moves, m.err a.states = 0) ∧ a.last.all (inS a.states) = true := by
 unfold Au.may
 by_cases h1 : a.states < 0 ∨ S < a.states ∨ M < a.moves.length
 ·rw [if_pos h1]
  constructor
  ·intro h; cases h
  ·intro h; omega
 ·rw [if_neg h1, ← HI]
  by_cases h2 : A7 a.states a.moves = 0
  ·rw [if_pos h2]
   by_cases h3 : a.last.all (inS a.states) = true
   ·rw [if_pos h3]
    exact ⟨fun _ => ⟨by omega, h2, h3⟩, fun _ => rfl⟩
   ·rw [if_neg h3]
    constructor
    ·intro h; cases h
    ·intro h; exact absurd h.2.2 h3
  ·rw [if_neg h2]
   constructor
   ·intro h; exact absurd h h2
   ·intro h; exact absurd h.2.1 h2
theorem CC {S s : Int} : inS S s = true ↔ 0 ≤ s ∧ s < S := by simp [inS]
def Bk : List (List Bool) → List Int → Bool
 | b :: bs, s :: ss => b.getD s.toNat false && Bk bs ss
 | [], [] => true
 | _, _ => false
def Mv.fits (m : Mv) (n : ByteArray) (below : List (List Bool)) : Bool := decide (m.name = n) && Bk below m.frm
def CK (n : ByteArray) (below : List (List Bool)) (out : List Bool) (m : Mv) : List Bool := if m.fits n below = true then out.set m.to_.toNat true else out
def Au.ending (a : Au) (n : ByteArray) (below : List (List Bool)) : List Bool := a.moves.foldl (CK n below) (List.replicate a.states.toNat false)
mutual
def Au.ends (a : Au) : Tm → List Bool
 | .mk n xs => a.ending n (a.endsL xs)
def Au.endsL (a : Au) : List Tm → List (List Bool)
 | [] => []
 | t :: ts => a.ends t :: a.endsL ts
end
theorem Au.ends_eq (a : Au) (t : Tm) : a.ends t = a.ending t.name (a.endsL t.args) := by cases t; rfl
theorem Au.endsL_eq (a : Au) : ∀ ts : List Tm, a.endsL ts = ts.map a.ends
 | [] => rfl
 | t :: ts => by rw [Au.endsL, Au.endsL_eq a ts]; rfl
def Au.acc (a : Au) (t : Tm) : Bool := a.last.any fun s => (a.ends t).getD s.toNat false
theorem Er (n : ByteArray) (below : List (List Bool)) (out : List Bool) (m : Mv) : (CK n below out m).length = out.length := by
 unfold CK
 split <;> simp
theorem Dm (n : ByteArray) (below : List (List Bool)) : ∀ (ms : List Mv) (out : List Bool), (ms.foldl (CK n below) out).length = out.length
 | [], _ => rfl
 | m :: ms, out => by rw [List.foldl_cons, Dm n below ms, Er]
theorem Au.ending_length (a : Au) (n : ByteArray) (below : List (List Bool)) : (a.ending n below).length = a.states.toNat := by
 unfold Au.ending
 rw [Dm]
 simp
theorem Au.ends_length (a : Au) (t : Tm) : (a.ends t).length = a.states.toNat := by rw [Au.ends_eq, Au.ending_length]
theorem JC (n : ByteArray) (below : List (List Bool)) (i : Nat) : ∀ (ms : List Mv) (out : List Bool), i < out.length → (ms.foldl (CK n below) out).getD i false = (out.getD i false || ms.any fun m => m.fits n below && decide (m.to_.toNat = i))
 | [], out, h => by simp
 | m :: ms, out, h => by
  rw [List.foldl_cons, JC n below i ms _ (by rw [Er]; exact h), List.any_cons, ← Bool.or_assoc]
  congr 1
  unfold CK
  by_cases hf : m.fits n below = true
  ·rw [if_pos hf, hf, Bool.true_and]
   by_cases he : m.to_.toNat = i
   ·subst he
    simp [List.getD_eq_getElem?_getD, h]
   ·simp [List.getD_eq_getElem?_getD, List.getElem?_set_ne he, he]
  ·rw [if_neg hf]
   have : m.fits n below = false := by simpa using hf
   rw [this]
   simp
theorem Au.ends_get (a : Au) (t : Tm) (i : Nat) (h : i < a.states.toNat) : (a.ends t).getD i false = a.moves.any fun m => m.fits t.name (a.endsL t.args) && decide (m.to_.toNat = i) := by
 rw [Au.ends_eq]
 unfold Au.ending
 rw [JC _ _ _ _ _ (by simpa using h)]
 simp [List.getD_eq_getElem?_getD, h]
structure Au.Good (a : Au) : Prop where
 states : 0 ≤ a.states
 to_ : ∀ m ∈ a.moves, 0 ≤ m.to_ ∧ m.to_ < a.states
 frm : ∀ m ∈ a.moves, ∀ s ∈ m.frm, 0 ≤ s ∧ s < a.states
 last : ∀ s ∈ a.last, 0 ≤ s ∧ s < a.states
theorem Au.may_good {a : Au} {S M : Int} (h : a.may S M = 0) : a.Good := by
 obtain ⟨h1, h2, h3⟩ := Au.may_ok.1 h
 refine ⟨h1.1, fun m hm => ?_, fun m hm s hs => ?_, fun s hs => ?_⟩
 ·exact CC.1 (Mv.err_ok.1 (h2 m hm)).2.2.2
 ·exact CC.1 (List.all_eq_true.1 (Mv.err_ok.1 (h2 m hm)).2.2.1 s hs)
 ·exact CC.1 (List.all_eq_true.1 h3 s hs)

set_option maxRecDepth 100000
def Bl : IR :=
 (.seq (.ops [.i 2 (.mov (.c (.one (.full []))))]) (.seq (.seq (.ops [.m 3 0, .i 4 (.eqN false (.t 3))]) (.cond (.t 4) (.seq (.ops [.i 2 (.mov (.c (.one (.full []))))]) .ret) .skip)) (.seq (.ops [.i 5 (.buildFlat []), .m 6 0, .i 7 (.append false 3 1 8 (.t 5) (.t 6)), .m 2 7]) .ret)))
theorem C1 : OkF Try.prog 48 8 [] Bl [.t 2] := .of Try.func48 rfl rfl (by kernel_rfl) rfl
def BG : IR :=
 (.seq (.ops [.i 4 (.mov (.c (.one (.st (.bool false)))))]) (.seq (.ops [.m 5 0, .m 6 1, .i 7 (.callS 55 [.t 5, .t 6]), .i 8 (.bin .geq (.t 7) (.n 0)), .m 4 8]) .ret))
theorem B6 : OkF Try.prog 49 9 [7] BG [.t 4] := .of Try.func49 rfl rfl (by kernel_rfl) rfl
def BS : IR :=
 (.seq (.ops [.i 4 (.mov (.n 0))]) (.seq (.seq (.ops [.m 6 0, .i 7 (.len false (.t 6)), .i 8 (.mov (.n 0))]) (.block 0 (.loop (.seq (.ops [.i 9 (.bin .lss (.t 8) (.t 7))]) (.seq (.cond (.t 9) .skip (.exit 0)) (.seq (.block 1 (.seq (.ops [.m 10 8, .m 5 10]) (.seq (.ops [.m 11 1, .m 12 0, .m 13 5, .i 14 (.indexAddr 1 (.t 12) (.t 13)), .l 15 14, .i 16 (.callV (.t 11) [.t 15])]) (.cond (.t 16) (.seq (.ops [.m 17 5, .m 4 17]) .ret) .skip)))) (.ops [.i 18 (.bin .add (.t 8) (.n 1)), .m 8 18]))))))) (.seq (.ops [.i 4 (.mov (.c (.one (.st (.int .i64 (-1))))))]) .ret)))
theorem CP : OkF Try.prog 55 19 [] BS [.t 4] := .of Try.func55 rfl rfl (by kernel_rfl) rfl
def Cj : IR :=
 (.seq (.ops [.i 3 (.mov (.c (.one (.st (.bool false)))))]) (.seq (.ops [.m 4 0, .i 5 (.bin .lss (.t 4) (.n 0)), .m 6 5, .mk (some 7) (some (6, false)) (.mov (.t 0)) .no, .mk (some 8) (some (6, false)) (.fieldAddr 0 (.t 1)) .no, .mk (some 9) (some (6, false)) (.load false 1 (.t 8)) .no, .mk (some 10) (some (6, false)) (.bin .geq (.t 7) (.t 9)) .no, .i 11 (.pick (.t 6) (.c (.one (.st (.bool true)))) (.t 10)), .m 3 11]) .ret))
theorem Ef : OkF Try.prog 50 12 [] Cj [.t 3] := .of Try.func50 rfl rfl (by kernel_rfl) rfl
def BL : IR :=
 (.seq (.ops [.i 3 (.box 25 (.t 0)), .i 6 (.mov (.n 0))]) (.seq (.seq (.ops [.f 11 0 3, .l 12 11, .i 13 (.bin .lss (.t 12) (.n 0)), .m 14 13, .mk (some 15) (some (14, false)) (.fieldAddr 0 (.t 3)) .no, .mk (some 16) (some (14, false)) (.load false 1 (.t 15)) .no, .mk (some 17) (some (14, false)) (.mov (.t 1)) .no, .mk (some 18) (some (14, false)) (.bin .gtr (.t 16) (.t 17)) .no, .i 19 (.pick (.t 14) (.c (.one (.st (.bool true)))) (.t 18)), .m 20 19, .mk (some 21) (some (20, false)) (.fieldAddr 1 (.t 3)) .no, .mk (some 22) (some (20, false)) (.load false 1 (.t 21)) .no, .mk (some 23) (some (20, false)) (.len false (.t 22)) .no, .mk (some 24) (some (20, false)) (.mov (.t 2)) .no, .mk (some 25) (some (20, false)) (.bin .gtr (.t 23) (.t 24)) .no, .i 26 (.pick (.t 20) (.c (.one (.st (.bool true)))) (.t 25))]) (.cond (.t 26) (.seq (.ops [.i 6 (.mov (.n 3))]) .ret) .skip)) (.seq (.seq (.ops [.f 27 1 3, .l 28 27, .i 29 (.len false (.t 28)), .i 30 (.mov (.n 0))]) (.block 0 (.loop (.seq (.ops [.i 31 (.bin .lss (.t 30) (.t 29))]) (.seq (.cond (.t 31) .skip (.exit 0)) (.seq (.block 1 (.seq (.ops [.i 32 (.indexAddr 3 (.t 28) (.t 30)), .L 33 3 32, .i 8 (.alloc 50 [.st (.str (ByteArray.mk (#[]))), .full [], .st (.int .i64 0)]), .s 3 8 33]) (.seq (.seq (.ops [.f 34 0 8, .l 35 34, .i 36 (.call 46 [.t 35]), .i 37 (.un .not (.t 36)), .m 38 37, .mk (some 39) (some (38, false)) (.fieldAddr 0 (.t 8)) .no, .mk (some 40) (some (38, false)) (.load false 1 (.t 39)) .no, .mk (some 41) (some (38, false)) (.call 47 [.t 40]) .no, .i 42 (.pick (.t 38) (.c (.one (.st (.bool true)))) (.t 41))]) (.cond (.t 42) (.seq (.ops [.i 6 (.mov (.n 1))]) .ret) .skip)) (.seq (.seq (.ops [.f 43 1 8, .l 44 43, .i 45 (.len false (.t 44)), .i 46 (.bin .gtr (.t 45) (.n 4))]) (.cond (.t 46) (.seq (.ops [.i 6 (.mov (.n 3))]) .ret) .skip)) (.seq (.ops [.f 47 1 8, .l 48 47, .mk (some 49) none (.callN 48 [.t 48]) (.keeps [8, 8]), .mk (some 50) none (.fieldAddr 2 (.t 8)) (.onb 8), .mk (some 51) none (.load false 1 (.t 50)) (.onb 8), .i 52 (.buildFlat [.t 51]), .i 53 (.append false 3 1 8 (.t 49) (.t 52)), .i 54 (.len false (.t 53)), .i 55 (.mov (.n 0))]) (.block 2 (.loop (.seq (.ops [.i 56 (.bin .lss (.t 55) (.t 54))]) (.seq (.cond (.t 56) .skip (.exit 2)) (.seq (.block 3 (.seq (.ops [.i 57 (.indexAddr 1 (.t 53) (.t 55)), .l 58 57, .m 10 58]) (.seq (.ops [.m 59 10, .i 60 (.bin .lss (.t 59) (.n 0)), .m 61 60, .mk (some 62) (some (61, false)) (.mov (.t 10)) .no, .mk (some 63) (some (61, false)) (.fieldAddr 0 (.t 3)) .no, .mk (some 64) (some (61, false)) (.load false 1 (.t 63)) .no, .mk (some 65) (some (61, false)) (.bin .geq (.t 62) (.t 64)) .no, .i 66 (.pick (.t 61) (.c (.one (.st (.bool true)))) (.t 65))]) (.cond (.t 66) (.seq (.ops [.i 6 (.mov (.n 10))]) .ret) .skip)))) (.ops [.i 67 (.bin .add (.t 55) (.n 1)), .m 55 67]))))))))))) (.ops [.i 68 (.bin .add (.t 30) (.n 1)), .m 30 68]))))))) (.seq (.seq (.ops [.f 69 2 3, .l 70 69, .i 71 (.makeFunc 50 [.t 3]), .i 72 (.callS 49 [.t 70, .t 71])]) (.cond (.t 72) (.seq (.ops [.i 6 (.mov (.n 10))]) .ret) .skip)) (.seq (.ops [.i 6 (.mov (.n 0))]) .ret)))))
theorem Bc : OkF Try.prog 35 73 [20000049, 72] BL [.t 6] := .of Try.func35 rfl rfl (by kernel_rfl) rfl
def ED : IR :=
 (.seq (.ops [.i 1 (.box 25 (.t 0)), .i 2 (.mov (.n 0))]) (.seq (.ops [.L 3 3 1, .i 4 (.call 35 [.t 3, .n 8, .n 40]), .m 2 4]) .ret))
theorem HC : OkF Try.prog 14 5 [] ED [.t 2] := .of Try.func14 rfl rfl (by kernel_rfl) rfl

def Dt : IR :=
 (.seq (.ops [.i 2 (.mov (.c (.one (.st (.bool false)))))]) (.seq (.ops [.m 3 0, .i 4 (.bin .geq (.t 3) (.c (.one (.st (.int .u8 97))))), .m 5 4, .mk (some 6) (some (5, true)) (.mov (.t 0)) .no, .mk (some 7) (some (5, true)) (.bin .leq (.t 6) (.c (.one (.st (.int .u8 122))))) .no, .i 8 (.pick (.t 5) (.t 7) (.c (.one (.st (.bool false))))), .m 9 8, .mk (some 10) (some (9, false)) (.mov (.t 0)) .no, .mk (some 11) (some (9, false)) (.bin .geq (.t 10) (.c (.one (.st (.int .u8 65))))) .no, .mk (some 12) (some (9, false)) (.mov (.t 11)) .no, .mk (some 13) (some (12, true)) (.mov (.t 0)) .no, .mk (some 14) (some (12, true)) (.bin .leq (.t 13) (.c (.one (.st (.int .u8 90))))) .no, .mk (some 15) (some (9, false)) (.pick (.t 12) (.t 14) (.c (.one (.st (.bool false))))) .no, .i 16 (.pick (.t 9) (.c (.one (.st (.bool true)))) (.t 15)), .m 17 16, .mk (some 18) (some (17, false)) (.mov (.t 0)) .no, .mk (some 19) (some (17, false)) (.bin .geq (.t 18) (.c (.one (.st (.int .u8 48))))) .no, .mk (some 20) (some (17, false)) (.mov (.t 19)) .no, .mk (some 21) (some (20, true)) (.mov (.t 0)) .no, .mk (some 22) (some (20, true)) (.bin .leq (.t 21) (.c (.one (.st (.int .u8 57))))) .no, .mk (some 23) (some (17, false)) (.pick (.t 20) (.t 22) (.c (.one (.st (.bool false))))) .no, .i 24 (.pick (.t 17) (.c (.one (.st (.bool true)))) (.t 23)), .m 2 24]) .ret))
theorem F6 : OkF Try.prog 54 25 [] Dt [.t 2] := .of Try.func54 rfl rfl (by kernel_rfl) rfl
def Bv : IR :=
 (.seq (.ops [.i 2 (.mov (.c (.one (.st (.bool false)))))]) (.seq (.seq (.ops [.m 4 0, .i 5 (.len true (.t 4)), .i 6 (.bin .lss (.t 5) (.n 1)), .m 7 6, .mk (some 8) (some (7, false)) (.mov (.t 0)) .no, .mk (some 9) (some (7, false)) (.len true (.t 8)) .no, .mk (some 10) (some (7, false)) (.bin .gtr (.t 9) (.n 8)) .no, .i 11 (.pick (.t 7) (.c (.one (.st (.bool true)))) (.t 10)), .m 12 11, .mk (some 13) (some (12, false)) (.mov (.t 0)) .no, .mk (some 14) (some (12, false)) (.indexStr (.t 13) (.n 0)) .no, .mk (some 15) (some (12, false)) (.bin .geq (.t 14) (.c (.one (.st (.int .u8 48))))) .no, .mk (some 16) (some (12, false)) (.mov (.t 15)) .no, .mk (some 17) (some (16, true)) (.mov (.t 0)) .no, .mk (some 18) (some (16, true)) (.indexStr (.t 17) (.n 0)) .no, .mk (some 19) (some (16, true)) (.bin .leq (.t 18) (.c (.one (.st (.int .u8 57))))) .no, .mk (some 20) (some (12, false)) (.pick (.t 16) (.t 19) (.c (.one (.st (.bool false))))) .no, .i 21 (.pick (.t 12) (.c (.one (.st (.bool true)))) (.t 20))]) (.cond (.t 21) (.seq (.ops [.i 2 (.mov (.c (.one (.st (.bool false)))))]) .ret) .skip)) (.seq (.seq (.ops [.m 22 0, .i 23 (.len true (.t 22)), .i 24 (.mov (.n 0))]) (.block 0 (.loop (.seq (.ops [.i 25 (.bin .lss (.t 24) (.t 23))]) (.seq (.cond (.t 25) .skip (.exit 0)) (.seq (.block 1 (.seq (.ops [.m 26 24, .m 3 26]) (.seq (.ops [.m 27 0, .m 28 3, .i 29 (.indexStr (.t 27) (.t 28)), .i 30 (.call 54 [.t 29]), .i 31 (.un .not (.t 30))]) (.cond (.t 31) (.seq (.ops [.i 2 (.mov (.c (.one (.st (.bool false)))))]) .ret) .skip)))) (.ops [.i 32 (.bin .add (.t 24) (.n 1)), .m 24 32]))))))) (.seq (.ops [.i 2 (.mov (.c (.one (.st (.bool true)))))]) .ret))))
theorem CQ : OkF Try.prog 46 33 [] Bv [.t 2] := .of Try.func46 rfl rfl (by kernel_rfl) rfl
def B4 : IR :=
 (.seq (.ops [.i 2 (.mov (.c (.one (.st (.bool false)))))]) (.seq (.ops [.m 3 0, .i 4 (.bin .neq (.t 3) (.c (.one (.st (.str (ByteArray.mk (#[]))))))), .m 5 4, .mk (some 6) (some (5, true)) (.mov (.t 0)) .no, .mk (some 7) (some (5, true)) (.indexStr (.t 6) (.n 0)) .no, .mk (some 8) (some (5, true)) (.bin .geq (.t 7) (.c (.one (.st (.int .u8 65))))) .no, .i 9 (.pick (.t 5) (.t 8) (.c (.one (.st (.bool false))))), .m 10 9, .mk (some 11) (some (10, true)) (.mov (.t 0)) .no, .mk (some 12) (some (10, true)) (.indexStr (.t 11) (.n 0)) .no, .mk (some 13) (some (10, true)) (.bin .leq (.t 12) (.c (.one (.st (.int .u8 90))))) .no, .i 14 (.pick (.t 10) (.t 13) (.c (.one (.st (.bool false))))), .m 2 14]) .ret))
theorem C7 : OkF Try.prog 47 15 [] B4 [.t 2] := .of Try.func47 rfl rfl (by kernel_rfl) rfl
def Dc : IR :=
 (.seq (.ops [.i 2 (.box 28 (.t 0)), .i 4 (.mov (.n 0))]) (.seq (.ops [.m 7 1, .i 8 (.bin .sub (.t 7) (.n 1)), .m 1 8]) (.seq (.seq (.ops [.f 9 1 2, .l 10 9, .i 11 (.len false (.t 10)), .i 12 (.mov (.n 0))]) (.block 0 (.loop (.seq (.ops [.i 13 (.bin .lss (.t 12) (.t 11))]) (.seq (.cond (.t 13) .skip (.exit 0)) (.seq (.block 1 (.seq (.ops [.i 14 (.indexAddr 2 (.t 10) (.t 12)), .L 15 2 14, .i 6 (.alloc 28 [.st (.str (ByteArray.mk (#[]))), .full []]), .s 2 6 15]) (.seq (.seq (.ops [.m 16 1, .i 17 (.bin .lss (.t 16) (.n 0))]) (.cond (.t 17) (.exit 0) .skip)) (.ops [.L 18 2 6, .m 19 1, .i 20 (.call 41 [.t 18, .t 19]), .m 1 20])))) (.ops [.i 21 (.bin .add (.t 12) (.n 1)), .m 12 21]))))))) (.seq (.ops [.m 22 1, .m 4 22]) .ret))))
theorem GH : OkF Try.prog 41 23 [] Dc [.t 4] := .of Try.func41 rfl rfl (by kernel_rfl) rfl
def HQ : IR :=
 (.seq (.ops [.i 2 (.box 28 (.t 0)), .i 4 (.mov (.n 0))]) (.seq (.ops [.i 5 (.mov (.n 1))]) (.seq (.seq (.ops [.i 6 (.mov (.n 0))]) (.block 0 (.loop (.seq (.seq (.ops [.m 7 6, .f 8 1 2, .l 9 8, .i 10 (.len false (.t 9)), .i 11 (.bin .lss (.t 7) (.t 10)), .m 12 11, .mk (some 13) (some (12, true)) (.mov (.t 5)) .no, .mk (some 14) (some (12, true)) (.mov (.t 1)) .no, .mk (some 15) (some (12, true)) (.bin .leq (.t 13) (.t 14)) .no, .i 16 (.pick (.t 12) (.t 15) (.c (.one (.st (.bool false)))))]) (.cond (.t 16) .skip (.exit 0))) (.seq (.block 1 (.ops [.m 19 5, .f 20 1 2, .l 21 20, .m 22 6, .i 23 (.indexAddr 2 (.t 21) (.t 22)), .L 24 2 23, .m 25 1, .m 26 5, .i 27 (.bin .sub (.t 25) (.t 26)), .i 28 (.call 20 [.t 24, .t 27]), .i 29 (.bin .add (.t 19) (.t 28)), .m 5 29])) (.ops [.m 17 6, .i 18 (.bin .add (.t 17) (.n 1)), .m 6 18])))))) (.seq (.seq (.ops [.m 30 5, .m 31 1, .i 32 (.bin .gtr (.t 30) (.t 31))]) (.cond (.t 32) (.seq (.ops [.m 33 1, .i 34 (.bin .add (.t 33) (.n 1)), .m 4 34]) .ret) .skip)) (.seq (.ops [.m 35 5, .m 4 35]) .ret)))))
theorem Lw : OkF Try.prog 20 36 [] HQ [.t 4] := .of Try.func20 rfl rfl (by kernel_rfl) rfl
def EG : IR :=
 (.seq (.ops [.i 1 (.box 28 (.t 0)), .i 2 (.mov (.n 0))]) (.seq (.seq (.ops [.f 6 0 1, .l 7 6, .i 8 (.call 46 [.t 7]), .i 9 (.un .not (.t 8))]) (.cond (.t 9) (.seq (.ops [.i 2 (.mov (.n 1))]) .ret) .skip)) (.seq (.seq (.ops [.f 10 0 1, .l 11 10, .i 12 (.call 47 [.t 11]), .m 13 12, .mk (some 14) (some (13, true)) (.fieldAddr 1 (.t 1)) .no, .mk (some 15) (some (13, true)) (.load false 1 (.t 14)) .no, .mk (some 16) (some (13, true)) (.len false (.t 15)) .no, .mk (some 17) (some (13, true)) (.bin .gtr (.t 16) (.n 0)) .no, .i 18 (.pick (.t 13) (.t 17) (.c (.one (.st (.bool false)))))]) (.cond (.t 18) (.seq (.ops [.i 2 (.mov (.n 2))]) .ret) .skip)) (.seq (.seq (.ops [.f 19 1 1, .l 20 19, .i 21 (.len false (.t 20)), .i 22 (.mov (.n 0))]) (.block 0 (.loop (.seq (.ops [.i 23 (.bin .lss (.t 22) (.t 21))]) (.seq (.cond (.t 23) .skip (.exit 0)) (.seq (.block 1 (.seq (.ops [.i 24 (.indexAddr 2 (.t 20) (.t 22)), .L 25 2 24, .i 4 (.alloc 28 [.st (.str (ByteArray.mk (#[]))), .full []]), .s 2 4 25]) (.seq (.ops [.L 26 2 4, .i 27 (.call 42 [.t 26]), .m 5 27]) (.seq (.ops [.m 28 5, .i 29 (.bin .neq (.t 28) (.n 0))]) (.cond (.t 29) (.seq (.ops [.m 30 5, .m 2 30]) .ret) .skip))))) (.ops [.i 31 (.bin .add (.t 22) (.n 1)), .m 22 31]))))))) (.seq (.ops [.i 2 (.mov (.n 0))]) .ret)))))
theorem Gy : OkF Try.prog 42 32 [] EG [.t 2] := .of Try.func42 rfl rfl (by kernel_rfl) rfl
def EB : IR :=
 (.seq (.ops [.i 1 (.box 28 (.t 0)), .i 2 (.mov (.n 0))]) (.seq (.seq (.ops [.L 3 2 1, .i 4 (.call 41 [.t 3, .n 200]), .i 5 (.bin .lss (.t 4) (.n 0))]) (.cond (.t 5) (.seq (.ops [.i 2 (.mov (.n 3))]) .ret) .skip)) (.seq (.ops [.L 6 2 1, .i 7 (.call 42 [.t 6]), .m 2 7]) .ret)))
theorem G5 : OkF Try.prog 28 8 [] EB [.t 2] := .of Try.func28 rfl rfl (by kernel_rfl) rfl
def Es : IR :=
 (.seq (.ops [.i 1 (.box 28 (.t 0)), .i 2 (.alloc 28 [.st (.str (ByteArray.mk (#[]))), .full []])]) (.seq (.ops [.f 6 0 1, .l 7 6, .i 8 (.build [.st (.str (ByteArray.mk (#[]))), .full []] [(0, 1, .t 7)]), .i 3 (.alloc 28 [.st (.str (ByteArray.mk (#[]))), .full []]), .s 2 3 8]) (.seq (.seq (.ops [.f 9 1 1, .l 10 9, .i 11 (.len false (.t 10)), .i 12 (.mov (.n 0))]) (.block 0 (.loop (.seq (.ops [.i 13 (.bin .lss (.t 12) (.t 11))]) (.seq (.cond (.t 13) .skip (.exit 0)) (.seq (.block 1 (.seq (.ops [.i 14 (.indexAddr 2 (.t 10) (.t 12)), .L 15 2 14, .i 5 (.alloc 28 [.st (.str (ByteArray.mk (#[]))), .full []]), .s 2 5 15]) (.ops [.f 16 1 3, .l 17 16, .L 18 2 5, .i 19 (.call 34 [.t 18]), .i 20 (.buildSlice false 28 2 [.t 19]), .i 21 (.append false 28 2 40 (.t 17) (.t 20)), .f 22 1 3, .s 1 22 21]))) (.ops [.i 23 (.bin .add (.t 12) (.n 1)), .m 12 23]))))))) (.seq (.ops [.L 24 2 3, .s 2 2 24]) .ret))))
theorem IF : OkF Try.prog 34 25 [] Es [.cell 2 true 2] := .of Try.func34 rfl rfl (by kernel_rfl) rfl
def Aw : IR :=
 (.seq (.ops [.i 4 (.mov (.n 0))]) (.seq (.seq (.ops [.m 6 0, .i 7 (.len false (.t 6)), .i 8 (.mov (.n 0))]) (.block 0 (.loop (.seq (.ops [.i 9 (.bin .lss (.t 8) (.t 7))]) (.seq (.cond (.t 9) .skip (.exit 0)) (.seq (.block 1 (.seq (.ops [.m 10 8, .m 5 10]) (.seq (.ops [.m 11 1, .m 12 0, .m 13 5, .i 14 (.indexAddr 1 (.t 12) (.t 13)), .l 15 14, .i 16 (.bin .eql (.t 11) (.t 15))]) (.cond (.t 16) (.seq (.ops [.m 17 5, .m 4 17]) .ret) .skip)))) (.ops [.i 18 (.bin .add (.t 8) (.n 1)), .m 8 18]))))))) (.seq (.ops [.i 4 (.mov (.c (.one (.st (.int .i64 (-1))))))]) .ret)))
theorem BJ : OkF Try.prog 56 19 [] Aw [.t 4] := .of Try.func56 rfl rfl (by kernel_rfl) rfl
def BA : IR :=
 (.seq (.ops [.i 4 (.mov (.c (.one (.st (.bool false)))))]) (.seq (.ops [.m 5 0, .m 6 1, .i 7 (.call 56 [.t 5, .t 6]), .i 8 (.bin .geq (.t 7) (.n 0)), .m 4 8]) .ret))
theorem By : OkF Try.prog 51 9 [] BA [.t 4] := .of Try.func51 rfl rfl (by kernel_rfl) rfl
def DJ : IR :=
 (.seq (.ops [.i 2 (.box 28 (.t 0)), .i 4 (.mov (.c (.one (.full []))))]) (.seq (.seq (.ops [.f 7 0 2, .l 8 7, .i 9 (.call 47 [.t 8]), .m 10 9, .mk (some 11) (some (10, true)) (.mov (.t 1)) .no, .mk (some 12) (some (10, true)) (.fieldAddr 0 (.t 2)) .no, .mk (some 13) (some (10, true)) (.load false 1 (.t 12)) .no, .mk (some 14) (some (10, true)) (.call 51 [.t 11, .t 13]) .no, .mk (some 15) (some (10, true)) (.un .not (.t 14)) .no, .i 16 (.pick (.t 10) (.t 15) (.c (.one (.st (.bool false)))))]) (.cond (.t 16) (.ops [.m 17 1, .f 18 0 2, .l 19 18, .i 20 (.buildFlat [.t 19]), .i 21 (.append false 9 1 16 (.t 17) (.t 20)), .m 1 21]) .skip)) (.seq (.seq (.ops [.f 22 1 2, .l 23 22, .i 24 (.len false (.t 23)), .i 25 (.mov (.n 0))]) (.block 0 (.loop (.seq (.ops [.i 26 (.bin .lss (.t 25) (.t 24))]) (.seq (.cond (.t 26) .skip (.exit 0)) (.seq (.block 1 (.seq (.ops [.i 27 (.indexAddr 2 (.t 23) (.t 25)), .L 28 2 27, .i 6 (.alloc 28 [.st (.str (ByteArray.mk (#[]))), .full []]), .s 2 6 28]) (.ops [.L 29 2 6, .m 30 1, .i 31 (.callS 43 [.t 29, .t 30]), .m 1 31]))) (.ops [.i 32 (.bin .add (.t 25) (.n 1)), .m 25 32]))))))) (.seq (.ops [.m 33 1, .m 4 33]) .ret))))
theorem Ea : OkF Try.prog 43 34 [31] DJ [.t 4] := .of Try.func43 rfl rfl (by kernel_rfl) rfl
def EY : IR :=
 (.seq (.ops [.i 1 (.box 28 (.t 0)), .i 2 (.mov (.c (.one (.full []))))]) (.seq (.ops [.L 3 2 1, .i 4 (.callS 43 [.t 3, .c (.one (.full []))]), .m 2 4]) .ret))
theorem IB : OkF Try.prog 29 5 [4] EY [.t 2] := .of Try.func29 rfl rfl (by kernel_rfl) rfl

theorem Ek (s : ByteArray) (k : Nat) : Fg s k = Ay s k := rfl
theorem Nf {s : ByteArray} (h : ¬ s.size = 0) : ¬ s = ⟨#[]⟩ := fun e => h (by rw [e]; rfl)
theorem Nb {s : ByteArray} (h : s.size = 0) : s = ⟨#[]⟩ := by
 have := ByteArray.size_eq_zero_iff.1 h
 exact this
theorem L8 (n : Int) (h0 : 0 ≤ n) : Ac Try.prog 54 [.one (.st (.int .u8 n))] (BX (Bw n)) := by
 refine F6.ac fun C hC => ?_
 unfold Dt
 have hc : (97 ≤ n ∧ n ≤ 122) ∨ (122 < n) ∨ (n < 97 ∧ 65 ≤ n ∧ n ≤ 90) ∨ (n < 97 ∧ 90 < n) ∨ (n < 65 ∧ 48 ≤ n ∧ n ≤ 57) ∨ (n < 65 ∧ 57 < n) ∨ (n < 48) := by omega
 rcases hc with h | h | h | h | h | h | h
 ·have h1 : 97 ≤ n := h.1
  have h2 : n ≤ 122 := h.2
  repeat' with_reducible first | refine W ?_ | refine Z0 ?_ | ((first | refine Wo fun K hK => ?_ | refine Wq ?_ | refine Wr ?_); (try simp only [go_sem, fN, seval, eT, iR, h1, h2]); (repeat refine Ai ?_); (try (refine hK _ ?_; clear hK K)))
  simp only [go_sem, fN, seval, Af, AS.result, AH, AM, AY, Bw, h1, h2]
  try simp
 ·have h1 : 97 ≤ n := by omega
  have h2 : ¬ n ≤ 122 := by omega
  have h3 : 65 ≤ n := by omega
  have h4 : ¬ n ≤ 90 := by omega
  have h5 : 48 ≤ n := by omega
  have h6 : ¬ n ≤ 57 := by omega
  repeat' with_reducible first | refine W ?_ | refine Z0 ?_ | ((first | refine Wo fun K hK => ?_ | refine Wq ?_ | refine Wr ?_); (try simp only [go_sem, fN, seval, eT, iR, h1, h2, h3, h4, h5, h6]); (repeat refine Ai ?_); (try (refine hK _ ?_; clear hK K)))
  simp only [go_sem, fN, seval, Af, AS.result, AH, AM, AY, Bw, h1, h2, h3, h4, h5, h6]
  try simp
 ·have h1 : ¬ 97 ≤ n := by omega
  have h3 : 65 ≤ n := by omega
  have h4 : n ≤ 90 := by omega
  repeat' with_reducible first | refine W ?_ | refine Z0 ?_ | ((first | refine Wo fun K hK => ?_ | refine Wq ?_ | refine Wr ?_); (try simp only [go_sem, fN, seval, eT, iR, h1, h3, h4]); (repeat refine Ai ?_); (try (refine hK _ ?_; clear hK K)))
  simp only [go_sem, fN, seval, Af, AS.result, AH, AM, AY, Bw, h1, h3, h4]
  try simp
 ·have h1 : ¬ 97 ≤ n := by omega
  have h3 : 65 ≤ n := by omega
  have h4 : ¬ n ≤ 90 := by omega
  have h5 : 48 ≤ n := by omega
  have h6 : ¬ n ≤ 57 := by omega
  repeat' with_reducible first | refine W ?_ | refine Z0 ?_ | ((first | refine Wo fun K hK => ?_ | refine Wq ?_ | refine Wr ?_); (try simp only [go_sem, fN, seval, eT, iR, h1, h3, h4, h5, h6]); (repeat refine Ai ?_); (try (refine hK _ ?_; clear hK K)))
  simp only [go_sem, fN, seval, Af, AS.result, AH, AM, AY, Bw, h1, h3, h4, h5, h6]
  try simp
 ·have h1 : ¬ 97 ≤ n := by omega
  have h3 : ¬ 65 ≤ n := by omega
  have h5 : 48 ≤ n := by omega
  have h6 : n ≤ 57 := by omega
  repeat' with_reducible first | refine W ?_ | refine Z0 ?_ | ((first | refine Wo fun K hK => ?_ | refine Wq ?_ | refine Wr ?_); (try simp only [go_sem, fN, seval, eT, iR, h1, h3, h5, h6]); (repeat refine Ai ?_); (try (refine hK _ ?_; clear hK K)))
  simp only [go_sem, fN, seval, Af, AS.result, AH, AM, AY, Bw, h1, h3, h5, h6]
  try simp
 ·have h1 : ¬ 97 ≤ n := by omega
  have h3 : ¬ 65 ≤ n := by omega
  have h5 : 48 ≤ n := by omega
  have h6 : ¬ n ≤ 57 := by omega
  repeat' with_reducible first | refine W ?_ | refine Z0 ?_ | ((first | refine Wo fun K hK => ?_ | refine Wq ?_ | refine Wr ?_); (try simp only [go_sem, fN, seval, eT, iR, h1, h3, h5, h6]); (repeat refine Ai ?_); (try (refine hK _ ?_; clear hK K)))
  simp only [go_sem, fN, seval, Af, AS.result, AH, AM, AY, Bw, h1, h3, h5, h6]
  try simp
 ·have h1 : ¬ 97 ≤ n := by omega
  have h3 : ¬ 65 ≤ n := by omega
  have h5 : ¬ 48 ≤ n := by omega
  repeat' with_reducible first | refine W ?_ | refine Z0 ?_ | ((first | refine Wo fun K hK => ?_ | refine Wq ?_ | refine Wr ?_); (try simp only [go_sem, fN, seval, eT, iR, h1, h3, h5]); (repeat refine Ai ?_); (try (refine hK _ ?_; clear hK K)))
  simp only [go_sem, fN, seval, Af, AS.result, AH, AM, AY, Bw, h1, h3, h5]
  try simp
theorem CY (s : ByteArray) : Ac Try.prog 47 [Ed s] (BX (A3 s)) := by
 by_cases h0 : s.size = 0
 ·have := Nb h0
  subst this
  refine C7.ac fun C hC => ?_
  unfold B4
  repeat' with_reducible first | refine W ?_ | refine Z0 ?_ | ((first | refine Wo fun K hK => ?_ | refine Wq ?_ | refine Wr ?_); (try simp only [go_sem, fN, seval, eT, iR]); (repeat refine Ai ?_); (try (refine hK _ ?_; clear hK K)))
  simp only [go_sem, fN, seval, Af, AS.result, AH, AM, AY]
  rfl
 ·have h1 := Nf h0
  have h2 : 0 < s.size := by omega
  refine C7.ac fun C hC => ?_
  unfold B4
  by_cases h3 : 65 ≤ Ay s 0 <;> by_cases h4 : Ay s 0 ≤ 90
  all_goals
   repeat' with_reducible first | refine W ?_ | refine Z0 ?_ | ((first | refine Wo fun K hK => ?_ | refine Wq ?_ | refine Wr ?_); (try simp only [go_sem, fN, seval, eT, iR, h1, h2, Ek, h3, h4]); (repeat refine Ai ?_); (try (refine hK _ ?_; clear hK K)))
   simp only [go_sem, fN, seval, Af, AS.result, AH, AM, AY, A3, h3, h4, h2]
   try simp
theorem L2 (s : ByteArray) (h1 : 1 ≤ s.size) (h8 : s.size ≤ 8) (hd : ¬ (48 ≤ Ay s 0 ∧ Ay s 0 ≤ 57)) : As s = Bo s s.size := by
 unfold As
 have : (decide (48 ≤ Ay s 0) && decide (Ay s 0 ≤ 57)) = false := by
  rw [Bool.and_eq_false_iff]
  simp
  omega
 rw [this]
 simp [h1, h8]
theorem Gu (s : ByteArray) : Ac Try.prog 46 [Ed s] (BX (As s)) := by
 by_cases h0 : s.size < 1
 ·have e : As s = false := by simp [As]; omega
  rw [e]
  have h0' : (s.size : Int) < 1 := by omega
  refine CQ.ac fun C hC => ?_
  unfold Bv
  repeat' with_reducible first | refine W ?_ | refine Z0 ?_ | ((first | refine Wo fun K hK => ?_ | refine Wq ?_ | refine Wr ?_); (try simp only [go_sem, fN, seval, eT, iR, h0']); (repeat refine Ai ?_); (try (refine hK _ ?_; clear hK K)))
  with_reducible refine Wp ?_
  simp only [go_sem, fN, seval, true_implies, false_implies, implies_true, dT, dF, nL, h0']
  (try with_reducible refine iC ?_)
  repeat' with_reducible first | refine W ?_ | refine Z0 ?_ | ((first | refine Wo fun K hK => ?_ | refine Wq ?_ | refine Wr ?_); (try simp only [go_sem, fN, seval, eT, iR]); (repeat refine Ai ?_); (try (refine hK _ ?_; clear hK K)))
  simp only [go_sem, fN, seval, Af, AS.result, AH, AM, AY]
 have h0' : ¬ (s.size : Int) < 1 := by omega
 by_cases h8 : 8 < s.size
 ·have e : As s = false := by simp [As]; omega
  rw [e]
  have h8' : (8 : Int) < s.size := by omega
  refine CQ.ac fun C hC => ?_
  unfold Bv
  repeat' with_reducible first | refine W ?_ | refine Z0 ?_ | ((first | refine Wo fun K hK => ?_ | refine Wq ?_ | refine Wr ?_); (try simp only [go_sem, fN, seval, eT, iR, h0', h8']); (repeat refine Ai ?_); (try (refine hK _ ?_; clear hK K)))
  with_reducible refine Wp ?_
  simp only [go_sem, fN, seval, true_implies, false_implies, implies_true, dT, dF, nL, h0']
  (try with_reducible refine iC ?_)
  repeat' with_reducible first | refine W ?_ | refine Z0 ?_ | ((first | refine Wo fun K hK => ?_ | refine Wq ?_ | refine Wr ?_); (try simp only [go_sem, fN, seval, eT, iR]); (repeat refine Ai ?_); (try (refine hK _ ?_; clear hK K)))
  simp only [go_sem, fN, seval, Af, AS.result, AH, AM, AY]
 have h8' : ¬ (8 : Int) < s.size := by omega
 have hpos : 0 < s.size := by omega
 by_cases hd : 48 ≤ Ay s 0 ∧ Ay s 0 ≤ 57
 ·have e : As s = false := by simp [As, hd.1, hd.2]
  rw [e]
  refine CQ.ac fun C hC => ?_
  unfold Bv
  repeat' with_reducible first | refine W ?_ | refine Z0 ?_ | ((first | refine Wo fun K hK => ?_ | refine Wq ?_ | refine Wr ?_); (try simp only [go_sem, fN, seval, eT, iR, h0', h8', hpos, Ek, hd.1, hd.2]); (repeat refine Ai ?_); (try (refine hK _ ?_; clear hK K)))
  with_reducible refine Wp ?_
  simp only [go_sem, fN, seval, true_implies, false_implies, implies_true, dT, dF, nL, h0']
  (try with_reducible refine iC ?_)
  repeat' with_reducible first | refine W ?_ | refine Z0 ?_ | ((first | refine Wo fun K hK => ?_ | refine Wq ?_ | refine Wr ?_); (try simp only [go_sem, fN, seval, eT, iR]); (repeat refine Ai ?_); (try (refine hK _ ?_; clear hK K)))
  simp only [go_sem, fN, seval, Af, AS.result, AH, AM, AY]
 rw [L2 s (by omega) (by omega) hd]
 have hd2 : (48 ≤ Ay s 0 ∧ ¬ Ay s 0 ≤ 57) ∨ (¬ 48 ≤ Ay s 0) := by omega
 refine CQ.ac fun C hC => ?_
 unfold Bv
 have h57 : 48 ≤ Ay s 0 → ¬ Ay s 0 ≤ 57 := fun h h' => hd ⟨h, h'⟩
 by_cases h48 : 48 ≤ Ay s 0
 all_goals
  simp only [h48, true_implies, false_implies] at h57
  repeat' with_reducible first | refine W ?_ | refine Z0 ?_ | ((first | refine Wo fun K hK => ?_ | refine Wq ?_ | refine Wr ?_); (try simp only [go_sem, fN, seval, eT, iR, h0', h8', hpos, Ek, h48, h57]); (repeat refine Ai ?_); (try (refine hK _ ?_; clear hK K)))
  with_reducible refine Wp ?_
  simp only [go_sem, fN, seval, true_implies, false_implies, implies_true, dT, dF, nL, h0']
  (try with_reducible refine iC ?_)
  repeat' with_reducible first | refine W ?_ | refine Z0 ?_ | ((first | refine Wo fun K hK => ?_ | refine Wq ?_ | refine Wr ?_); (try simp only [go_sem, fN, seval, eT, iR]); (repeat refine Ai ?_); (try (refine hK _ ?_; clear hK K)))
  refine IWP.loop (fun m x => ∃ k, k ≤ s.size ∧ m = s.size - k ∧ Bo s k = true ∧ x.env 0 = Ed s ∧ x.env 23 = AR s.size ∧ x.env 24 = AR k) s.size ⟨0, Nat.zero_le _, rfl, rfl, rfl, rfl, rfl⟩ ?_
  rintro m ⟨env, S⟩ ⟨k, hk, rfl, hl, e0, e23, e24⟩
  simp only at e0 e23 e24
  repeat' with_reducible first | refine W ?_ | refine Z0 ?_ | ((first | refine Wo fun K hK => ?_ | refine Wq ?_ | refine Wr ?_); (try simp only [go_sem, fN, seval, eT, iR, e0, e23, e24]); (repeat refine Ai ?_); (try (refine hK _ ?_; clear hK K)))
  with_reducible refine Wp ?_
  simp only [go_sem, fN, seval, true_implies, false_implies, implies_true, dT, dF, nL, e0, e23, e24]
  (try with_reducible refine iC ?_)
  refine ⟨fun hlt => ?_, fun hge => ?_⟩
  ·have hlt' : k < s.size := by omega
   repeat' (first | (with_reducible first | refine W ?_ | refine Z0 ?_ | ((first | refine Wo fun K hK => ?_ | refine Wq ?_ | refine Wr ?_); (try simp only [go_sem, fN, seval, eT, iR, e0, e23, e24, hlt', Ek]); (repeat refine Ai ?_); (try (refine hK _ ?_; clear hK K)))) | refine Cg _ (L8 _ (H7 s k).1) ?_)
   with_reducible refine Wp ?_
   simp only [go_sem, fN, seval, true_implies, false_implies, implies_true, dT, dF, nL]
   (try with_reducible refine iC ?_)
   refine ⟨fun hn => ?_, fun hn => ?_⟩
   ·repeat' with_reducible first | refine W ?_ | refine Z0 ?_ | ((first | refine Wo fun K hK => ?_ | refine Wq ?_ | refine Wr ?_); (try simp only [go_sem, fN, seval, eT, iR]); (repeat refine Ai ?_); (try (refine hK _ ?_; clear hK K)))
    simp only [go_sem, fN, seval, Af, AS.result, AH, AM, AY]
    rw [H_ s k hlt' (by simpa using hn)]
   ·repeat' with_reducible first | refine W ?_ | refine Z0 ?_ | ((first | refine Wo fun K hK => ?_ | refine Wq ?_ | refine Wr ?_); (try simp only [go_sem, fN, seval, eT, iR, e0, e23, e24]); (repeat refine Ai ?_); (try (refine hK _ ?_; clear hK K)))
    refine AK ⟨s.size - (k + 1), by omega, k + 1, by omega, rfl, ?_, ?_⟩
    ·rw [GW s k hlt', hl]
     simpa using hn
    ·simp only [go_sem, fN, seval, eT, iR, e0, e23, e24]
     congr 3
  ·repeat' with_reducible first | refine W ?_ | refine Z0 ?_ | ((first | refine Wo fun K hK => ?_ | refine Wq ?_ | refine Wr ?_); (try simp only [go_sem, fN, seval, eT, iR]); (repeat refine Ai ?_); (try (refine hK _ ?_; clear hK K)))
   simp only [go_sem, fN, seval, Af, AS.result, AH, AM, AY]
   rw [show s.size = k by omega, hl]
theorem Mi (t : Tm) (m : Int) (h0 : 0 ≤ m) (h1 : m ≤ 9223372036854775807) : Ac Try.prog 41 [aTm t, AR m] (AR (BR t.size m)) := by
 induction h : SizeOf.sizeOf t using Nat.strongRecOn generalizing t m with
 | _ N ih =>
 subst h
 have hs := Tm.size_eq t
 refine GH.ac fun C hC => ?_
 unfold Dc
 refine IWP.learn 0 (by omega) fun hkn => ?_
 have hkn := GK hkn
 repeat' with_reducible first | refine W ?_ | refine Z0 ?_ | ((first | refine Wo fun K hK => ?_ | refine Wq ?_ | refine Wr ?_); (try simp only [go_sem, fN, seval, eT, iR]); (repeat refine Ai ?_); (try (refine hK _ ?_; clear hK K)))
 refine IWP.loopD [6] (fun n s => ∃ k, k ≤ t.args.length ∧ n = t.args.length - k ∧ s.env 1 = AR (BR (1 + Tm.sizes (t.args.take k)) m) ∧ s.env 10 = .one (.st (.list (t.args.map BY))) ∧ s.env 11 = AR t.args.length ∧ s.env 12 = AR k ∧ s.S 6 = none) t.args.length ⟨0, Nat.zero_le _, rfl, by
  simp only [go_sem, fN, seval, eT, iR]
  rw [BR]
  have z0 : Tm.sizes [] = 0 := rfl
  congr 3
  split <;> omega, rfl, rfl, rfl, rfl⟩ ?_
 rintro n ⟨env, S⟩ ⟨k, hk, rfl, e1, e10, e11, e12, s6⟩
 simp only at e1 e10 e11 e12 s6
 repeat' with_reducible first | refine W ?_ | refine Z0 ?_ | ((first | refine Wo fun K hK => ?_ | refine Wq ?_ | refine Wr ?_); (try simp only [go_sem, fN, seval, eT, iR, e1, e10, e11, e12, s6]); (repeat refine Ai ?_); (try (refine hK _ ?_; clear hK K)))
 with_reducible refine Wp ?_
 simp only [go_sem, fN, seval, true_implies, false_implies, implies_true, dT, dF, nL, e1, e10, e11, e12, s6]
 (try with_reducible refine iC ?_)
 refine ⟨fun hlt => ?_, fun hge => ?_⟩
 ·obtain ⟨a, ha⟩ := BB (show k < t.args.length by omega)
  have z1 := Tm.sizes_take ha
  have z2 := Tm.sizes_take_le t.args (k + 1)
  have z3 := Tm.length_le t.args
  have z4 := K5 (1 + Tm.sizes (t.args.take k)) m h0
  repeat' with_reducible first | refine W ?_ | refine Z0 ?_ | ((first | refine Wo fun K hK => ?_ | refine Wq ?_ | refine Wr ?_); (try simp only [go_sem, fN, seval, eT, iR, e1, e10, e11, e12, s6, ha]); (repeat refine Ai ?_); (try (refine hK _ ?_; clear hK K)))
  with_reducible refine Wp ?_
  simp only [go_sem, fN, seval, true_implies, false_implies, implies_true, dT, dF, nL, e1]
  (try with_reducible refine iC ?_)
  refine ⟨fun hb => ?_, fun hb => ?_⟩
  ·repeat' with_reducible first | refine W ?_ | refine Z0 ?_ | ((first | refine Wo fun K hK => ?_ | refine Wq ?_ | refine Wr ?_); (try simp only [go_sem, fN, seval, eT, iR, e1]); (repeat refine Ai ?_); (try (refine hK _ ?_; clear hK K)))
   simp only [go_sem, fN, seval, Af, AS.result, AH, AM, AY, e1]
   rw [J_ hb (show _ ≤ t.size by rw [hs]; omega)]
  ·repeat' (first | (with_reducible first | refine W ?_ | refine Z0 ?_ | ((first | refine Wo fun K hK => ?_ | refine Wq ?_ | refine Wr ?_); (try simp only [go_sem, fN, seval, eT, iR, e1, e10, e11, e12, s6, ha]); (repeat refine Ai ?_); (try (refine hK _ ?_; clear hK K)))) | refine Cg _ (ih _ (Tm.lt_of_arg (AW ha)) a _ (by omega) (by omega) rfl) ?_)
   refine AK ⟨t.args.length - (k + 1), by omega, k + 1, by omega, rfl, ?_⟩
   simp only [go_sem, fN, seval, AS.drop, Ao, AC.clears, AC.clear, AC.highs, AC.high, Bool.not_false, Bool.true_and, Bool.and_self, AV.purge, AV.purges, AC.purge, AI.purge, List.contains_cons, List.contains_nil, Nat.reduceBEq, Bool.or_self, Bool.or_false, Bool.false_or, Bool.or_true, eT, iR, e1, e10, e11, e12, s6]
   exact ⟨by rw [JB (by omega), z1]; congr 4; omega, by congr 3⟩
 ·repeat' with_reducible first | refine W ?_ | refine Z0 ?_ | ((first | refine Wo fun K hK => ?_ | refine Wq ?_ | refine Wr ?_); (try simp only [go_sem, fN, seval, eT, iR, e1]); (repeat refine Ai ?_); (try (refine hK _ ?_; clear hK K)))
  simp only [go_sem, fN, seval, Af, AS.result, AH, AM, AY, e1]
  rw [List.take_of_length_le (by omega), hs]
theorem Ky (t : Tm) (m : Int) (h0 : 0 ≤ m) (h1 : m ≤ 9223372036854775806) : Ac Try.prog 20 [aTm t, AR m] (AR (BP t.size m)) := by
 induction h : SizeOf.sizeOf t using Nat.strongRecOn generalizing t m with
 | _ N ih =>
 subst h
 have hs := Tm.size_eq t
 refine Lw.ac fun C hC => ?_
 unfold HQ
 refine IWP.learn 0 (by omega) fun hkn => ?_
 have hkn := GK hkn
 repeat' with_reducible first | refine W ?_ | refine Z0 ?_ | ((first | refine Wo fun K hK => ?_ | refine Wq ?_ | refine Wr ?_); (try simp only [go_sem, fN, seval, eT, iR]); (repeat refine Ai ?_); (try (refine hK _ ?_; clear hK K)))
 refine IWP.loop (fun n s => ∃ k, k ≤ t.args.length ∧ n = t.args.length - k ∧ s.env 5 = AR (BP (1 + Tm.sizes (t.args.take k)) m) ∧ s.env 1 = AR m ∧ s.env 2 = .one (.ptr 2 1 0 0) ∧ s.env 6 = AR k ∧ s.S 2 = some (.box 28 [.st (.str t.name), .st (.list (t.args.map BY))])) t.args.length ⟨0, Nat.zero_le _, rfl, by
  simp only [go_sem, fN, seval, eT, iR]
  rw [BP]
  have z0 : Tm.sizes [] = 0 := rfl
  congr 3
  split <;> omega, rfl, rfl, rfl, rfl⟩ ?_
 rintro n ⟨env, S⟩ ⟨k, hk, rfl, e5, e1, e2, e6, s2⟩
 simp only at e5 e1 e2 e6 s2
 have z4 := JP (1 + Tm.sizes (t.args.take k)) m h0
 by_cases hlt : (k : Int) < t.args.length
 ·obtain ⟨a, ha⟩ := BB (show k < t.args.length by omega)
  have z1 := Tm.sizes_take ha
  have z2 := Tm.sizes_take_le t.args (k + 1)
  by_cases hb : m < BP (1 + Tm.sizes (t.args.take k)) m
  ·have hb' : ¬ BP (1 + Tm.sizes (t.args.take k)) m ≤ m := by omega
   repeat' with_reducible first | refine W ?_ | refine Z0 ?_ | ((first | refine Wo fun K hK => ?_ | refine Wq ?_ | refine Wr ?_); (try simp only [go_sem, fN, seval, eT, iR, e5, e1, e2, e6, s2, hlt, hb']); (repeat refine Ai ?_); (try (refine hK _ ?_; clear hK K)))
   with_reducible refine Wp ?_
   simp only [go_sem, fN, seval, true_implies, false_implies, implies_true, dT, dF, nL, hb']
   (try with_reducible refine iC ?_)
   repeat' with_reducible first | refine W ?_ | refine Z0 ?_ | ((first | refine Wo fun K hK => ?_ | refine Wq ?_ | refine Wr ?_); (try simp only [go_sem, fN, seval, eT, iR, e5, e1, e2, e6, s2]); (repeat refine Ai ?_); (try (refine hK _ ?_; clear hK K)))
   with_reducible refine Wp ?_
   simp only [go_sem, fN, seval, true_implies, false_implies, implies_true, dT, dF, nL, hb]
   (try with_reducible refine iC ?_)
   repeat' with_reducible first | refine W ?_ | refine Z0 ?_ | ((first | refine Wo fun K hK => ?_ | refine Wq ?_ | refine Wr ?_); (try simp only [go_sem, fN, seval, eT, iR, e1]); (repeat refine Ai ?_); (try (refine hK _ ?_; clear hK K)))
   simp only [go_sem, fN, seval, Af, AS.result, AH, AM, AY]
   rw [GZ hb (show _ ≤ t.size by rw [hs]; omega)]
  ·have hb' : BP (1 + Tm.sizes (t.args.take k)) m ≤ m := by omega
   obtain ⟨b1, b2⟩ := ML hb
   repeat' with_reducible first | refine W ?_ | refine Z0 ?_ | ((first | refine Wo fun K hK => ?_ | refine Wq ?_ | refine Wr ?_); (try simp only [go_sem, fN, seval, eT, iR, e5, e1, e2, e6, s2, hlt, hb']); (repeat refine Ai ?_); (try (refine hK _ ?_; clear hK K)))
   with_reducible refine Wp ?_
   simp only [go_sem, fN, seval, true_implies, false_implies, implies_true, dT, dF, nL, hb']
   (try with_reducible refine iC ?_)
   repeat' with_reducible first | refine W ?_ | refine Z0 ?_ | ((first | refine Wo fun K hK => ?_ | refine Wq ?_ | refine Wr ?_); (try simp only [go_sem, fN, seval, eT, iR, e5, e1, e2, e6, s2, ha]); (repeat refine Ai ?_); (try (refine hK _ ?_; clear hK K)))
   refine ⟨_, ih _ (Tm.lt_of_arg (AW ha)) a (m - BP (1 + Tm.sizes (t.args.take k)) m) (by omega) (by omega) rfl, ?_⟩
   have z5 := JP a.size (m - BP (1 + Tm.sizes (t.args.take k)) m) (by omega)
   repeat' with_reducible first | refine W ?_ | refine Z0 ?_ | ((first | refine Wo fun K hK => ?_ | refine Wq ?_ | refine Wr ?_); (try simp only [go_sem, fN, seval, eT, iR, e5, e1, e2, e6, s2]); (repeat refine Ai ?_); (try (refine hK _ ?_; clear hK K)))
   refine AK ⟨t.args.length - (k + 1), by omega, k + 1, by omega, rfl, ?_⟩
   simp only [go_sem, fN, seval, eT, iR, e5, e1, e2, e6, s2]
   exact ⟨by rw [b1, Jy b2, z1]; congr 4; omega, by congr 3⟩
 ·repeat' with_reducible first | refine W ?_ | refine Z0 ?_ | ((first | refine Wo fun K hK => ?_ | refine Wq ?_ | refine Wr ?_); (try simp only [go_sem, fN, seval, eT, iR, e5, e1, e2, e6, s2, hlt]); (repeat refine Ai ?_); (try (refine hK _ ?_; clear hK K)))
  with_reducible refine Wp ?_
  simp only [go_sem, fN, seval, true_implies, false_implies, implies_true, dT, dF, nL]
  (try with_reducible refine iC ?_)
  have hfull : 1 + Tm.sizes (t.args.take k) = t.size := by rw [List.take_of_length_le (by omega), hs]
  rw [hfull] at e5 z4
  repeat' with_reducible first | refine W ?_ | refine Z0 ?_ | ((first | refine Wo fun K hK => ?_ | refine Wq ?_ | refine Wr ?_); (try simp only [go_sem, fN, seval, eT, iR, e5, e1]); (repeat refine Ai ?_); (try (refine hK _ ?_; clear hK K)))
  by_cases hb : m < BP t.size m
  ·with_reducible refine Wp ?_
   simp only [go_sem, fN, seval, true_implies, false_implies, implies_true, dT, dF, nL, hb]
   (try with_reducible refine iC ?_)
   repeat' with_reducible first | refine W ?_ | refine Z0 ?_ | ((first | refine Wo fun K hK => ?_ | refine Wq ?_ | refine Wr ?_); (try simp only [go_sem, fN, seval, eT, iR, e1]); (repeat refine Ai ?_); (try (refine hK _ ?_; clear hK K)))
   simp only [go_sem, fN, seval, Af, AS.result, AH, AM, AY]
   rw [GZ hb (Nat.le_refl _)]
  ·with_reducible refine Wp ?_
   simp only [go_sem, fN, seval, true_implies, false_implies, implies_true, dT, dF, nL, hb]
   (try with_reducible refine iC ?_)
   repeat' with_reducible first | refine W ?_ | refine Z0 ?_ | ((first | refine Wo fun K hK => ?_ | refine Wq ?_ | refine Wr ?_); (try simp only [go_sem, fN, seval, eT, iR, e5]); (repeat refine Ai ?_); (try (refine hK _ ?_; clear hK K)))
   simp only [go_sem, fN, seval, Af, AS.result, AH, AM, AY, e5]
theorem Nw (t : Tm) : Ac Try.prog 42 [aTm t] (AR t.chk) := by
 induction h : SizeOf.sizeOf t using Nat.strongRecOn generalizing t with
 | _ N ih =>
 subst h
 have hc := Tm.chk_eq t
 have hc1 : CJ t = if As t.name = true then (if A3 t.name = true ∧ 0 < t.args.length then 2 else 0) else 1 := rfl
 refine Gy.ac fun C hC => ?_
 unfold EG
 refine IWP.learn 0 (by omega) fun hkn => ?_
 have hkn := GK hkn
 repeat' with_reducible first | refine W ?_ | refine Z0 ?_ | ((first | refine Wo fun K hK => ?_ | refine Wq ?_ | refine Wr ?_); (try simp only [go_sem, fN, seval, eT, iR]); (repeat refine Ai ?_); (try (refine hK _ ?_; clear hK K)))
 refine ⟨_, Gu _, ?_⟩
 cases hn : As t.name with
 | false =>
  rw [hn, if_neg (by simp)] at hc1
  repeat' with_reducible first | refine W ?_ | refine Z0 ?_ | ((first | refine Wo fun K hK => ?_ | refine Wq ?_ | refine Wr ?_); (try simp only [go_sem, fN, seval, eT, iR]); (repeat refine Ai ?_); (try (refine hK _ ?_; clear hK K)))
  with_reducible refine Wp ?_
  simp only [go_sem, fN, seval, true_implies, false_implies, implies_true, dT, dF, nL]
  (try with_reducible refine iC ?_)
  repeat' with_reducible first | refine W ?_ | refine Z0 ?_ | ((first | refine Wo fun K hK => ?_ | refine Wq ?_ | refine Wr ?_); (try simp only [go_sem, fN, seval, eT, iR]); (repeat refine Ai ?_); (try (refine hK _ ?_; clear hK K)))
  simp only [go_sem, fN, seval, Af, AS.result, AH, AM, AY]
  rw [hc, hc1]
  rfl
 | true =>
  rw [hn, if_pos rfl] at hc1
  repeat' with_reducible first | refine W ?_ | refine Z0 ?_ | ((first | refine Wo fun K hK => ?_ | refine Wq ?_ | refine Wr ?_); (try simp only [go_sem, fN, seval, eT, iR]); (repeat refine Ai ?_); (try (refine hK _ ?_; clear hK K)))
  with_reducible refine Wp ?_
  simp only [go_sem, fN, seval, true_implies, false_implies, implies_true, dT, dF, nL]
  (try with_reducible refine iC ?_)
  repeat' with_reducible first | refine W ?_ | refine Z0 ?_ | ((first | refine Wo fun K hK => ?_ | refine Wq ?_ | refine Wr ?_); (try simp only [go_sem, fN, seval, eT, iR]); (repeat refine Ai ?_); (try (refine hK _ ?_; clear hK K)))
  refine ⟨_, CY _, ?_⟩
  by_cases hv : A3 t.name = true ∧ 0 < t.args.length
  ·obtain ⟨hv1, hv2⟩ := hv
   have hv2' : (0 : Int) < t.args.length := by omega
   rw [if_pos ⟨hv1, hv2⟩] at hc1
   rw [hv1]
   repeat' with_reducible first | refine W ?_ | refine Z0 ?_ | ((first | refine Wo fun K hK => ?_ | refine Wq ?_ | refine Wr ?_); (try simp only [go_sem, fN, seval, eT, iR, hv2']); (repeat refine Ai ?_); (try (refine hK _ ?_; clear hK K)))
   with_reducible refine Wp ?_
   simp only [go_sem, fN, seval, true_implies, false_implies, implies_true, dT, dF, nL, hv2']
   (try with_reducible refine iC ?_)
   repeat' with_reducible first | refine W ?_ | refine Z0 ?_ | ((first | refine Wo fun K hK => ?_ | refine Wq ?_ | refine Wr ?_); (try simp only [go_sem, fN, seval, eT, iR]); (repeat refine Ai ?_); (try (refine hK _ ?_; clear hK K)))
   simp only [go_sem, fN, seval, Af, AS.result, AH, AM, AY]
   rw [hc, hc1]
   rfl
  ·rw [if_neg hv] at hc1
   rw [if_pos hc1] at hc
   have hv2 : A3 t.name = true → ¬ (0 : Int) < t.args.length := fun h h' => hv ⟨h, by omega⟩
   cases hvv : A3 t.name
   all_goals
    simp only [hvv, true_implies, false_implies, Bool.false_eq_true] at hv2
    repeat' with_reducible first | refine W ?_ | refine Z0 ?_ | ((first | refine Wo fun K hK => ?_ | refine Wq ?_ | refine Wr ?_); (try simp only [go_sem, fN, seval, eT, iR, hv2]); (repeat refine Ai ?_); (try (refine hK _ ?_; clear hK K)))
    with_reducible refine Wp ?_
    simp only [go_sem, fN, seval, true_implies, false_implies, implies_true, dT, dF, nL, hv2]
    (try with_reducible refine iC ?_)
    repeat' with_reducible first | refine W ?_ | refine Z0 ?_ | ((first | refine Wo fun K hK => ?_ | refine Wq ?_ | refine Wr ?_); (try simp only [go_sem, fN, seval, eT, iR]); (repeat refine Ai ?_); (try (refine hK _ ?_; clear hK K)))
    refine IWP.loopD [4] (fun n s => ∃ k, k ≤ t.args.length ∧ n = t.args.length - k ∧ Tm.chkL (t.args.take k) = 0 ∧ s.env 20 = .one (.st (.list (t.args.map BY))) ∧ s.env 21 = AR t.args.length ∧ s.env 22 = AR k ∧ s.S 4 = none) t.args.length ⟨0, Nat.zero_le _, rfl, rfl, rfl, rfl, rfl, rfl⟩ ?_
    rintro n ⟨env, S⟩ ⟨k, hk, rfl, h0, e20, e21, e22, s4⟩
    simp only at e20 e21 e22 s4
    repeat' with_reducible first | refine W ?_ | refine Z0 ?_ | ((first | refine Wo fun K hK => ?_ | refine Wq ?_ | refine Wr ?_); (try simp only [go_sem, fN, seval, eT, iR, e20, e21, e22, s4]); (repeat refine Ai ?_); (try (refine hK _ ?_; clear hK K)))
    with_reducible refine Wp ?_
    simp only [go_sem, fN, seval, true_implies, false_implies, implies_true, dT, dF, nL, e20, e21, e22, s4]
    (try with_reducible refine iC ?_)
    refine ⟨fun hlt => ?_, fun hge => ?_⟩
    ·obtain ⟨a, ha⟩ := BB (show k < t.args.length by omega)
     obtain ⟨g1, g2⟩ := Tm.chkL_get ha h0
     repeat' (first | (with_reducible first | refine W ?_ | refine Z0 ?_ | ((first | refine Wo fun K hK => ?_ | refine Wq ?_ | refine Wr ?_); (try simp only [go_sem, fN, seval, eT, iR, e20, e21, e22, s4, ha]); (repeat refine Ai ?_); (try (refine hK _ ?_; clear hK K)))) | refine Cg _ (ih _ (Tm.lt_of_arg (AW ha)) a rfl) ?_)
     with_reducible refine Wp ?_
     simp only [go_sem, fN, seval, true_implies, false_implies, implies_true, dT, dF, nL]
     (try with_reducible refine iC ?_)
     refine ⟨fun hb => ?_, fun hb => ?_⟩
     ·repeat' with_reducible first | refine W ?_ | refine Z0 ?_ | ((first | refine Wo fun K hK => ?_ | refine Wq ?_ | refine Wr ?_); (try simp only [go_sem, fN, seval, eT, iR]); (repeat refine Ai ?_); (try (refine hK _ ?_; clear hK K)))
      simp only [go_sem, fN, seval, Af, AS.result, AH, AM, AY]
      rw [hc, g2 hb]
     ·repeat' with_reducible first | refine W ?_ | refine Z0 ?_ | ((first | refine Wo fun K hK => ?_ | refine Wq ?_ | refine Wr ?_); (try simp only [go_sem, fN, seval, eT, iR, e20, e21, e22, s4]); (repeat refine Ai ?_); (try (refine hK _ ?_; clear hK K)))
      refine AK ⟨t.args.length - (k + 1), by omega, k + 1, by omega, rfl, g1 (by omega), ?_⟩
      simp only [go_sem, fN, seval, AS.drop, Ao, AC.clears, AC.clear, AC.highs, AC.high, Bool.not_false, Bool.true_and, Bool.and_self, AV.purge, AV.purges, AC.purge, AI.purge, List.contains_cons, List.contains_nil, Nat.reduceBEq, Bool.or_self, Bool.or_false, Bool.false_or, Bool.or_true, eT, iR, e20, e21, e22, s4]
      congr 3
    ·repeat' with_reducible first | refine W ?_ | refine Z0 ?_ | ((first | refine Wo fun K hK => ?_ | refine Wq ?_ | refine Wr ?_); (try simp only [go_sem, fN, seval, eT, iR]); (repeat refine Ai ?_); (try (refine hK _ ?_; clear hK K)))
     simp only [go_sem, fN, seval, Af, AS.result, AH, AM, AY]
     rw [List.take_of_length_le (by omega)] at h0
     rw [hc, h0]
theorem EV (t : Tm) : Ac Try.prog 28 [aTm t] (AR t.may) := by
 have hm : t.may = if 200 < t.size then 3 else t.chk := rfl
 refine G5.ac fun C hC => ?_
 unfold EB
 repeat' with_reducible first | refine W ?_ | refine Z0 ?_ | ((first | refine Wo fun K hK => ?_ | refine Wq ?_ | refine Wr ?_); (try simp only [go_sem, fN, seval, eT, iR]); (repeat refine Ai ?_); (try (refine hK _ ?_; clear hK K)))
 refine ⟨_, Mi t 200 (by omega) (by omega), ?_⟩
 by_cases h : BR t.size 200 < 0
 ·repeat' with_reducible first | refine W ?_ | refine Z0 ?_ | ((first | refine Wo fun K hK => ?_ | refine Wq ?_ | refine Wr ?_); (try simp only [go_sem, fN, seval, eT, iR, h]); (repeat refine Ai ?_); (try (refine hK _ ?_; clear hK K)))
  with_reducible refine Wp ?_
  simp only [go_sem, fN, seval, true_implies, false_implies, implies_true, dT, dF, nL, h]
  (try with_reducible refine iC ?_)
  repeat' with_reducible first | refine W ?_ | refine Z0 ?_ | ((first | refine Wo fun K hK => ?_ | refine Wq ?_ | refine Wr ?_); (try simp only [go_sem, fN, seval, eT, iR]); (repeat refine Ai ?_); (try (refine hK _ ?_; clear hK K)))
  simp only [go_sem, fN, seval, Af, AS.result, AH, AM, AY]
  unfold BR at h
  rw [hm, if_pos (by split at h <;> omega)]
 ·repeat' with_reducible first | refine W ?_ | refine Z0 ?_ | ((first | refine Wo fun K hK => ?_ | refine Wq ?_ | refine Wr ?_); (try simp only [go_sem, fN, seval, eT, iR, h]); (repeat refine Ai ?_); (try (refine hK _ ?_; clear hK K)))
  with_reducible refine Wp ?_
  simp only [go_sem, fN, seval, true_implies, false_implies, implies_true, dT, dF, nL, h]
  (try with_reducible refine iC ?_)
  repeat' (first | (with_reducible first | refine W ?_ | refine Z0 ?_ | ((first | refine Wo fun K hK => ?_ | refine Wq ?_ | refine Wr ?_); (try simp only [go_sem, fN, seval, eT, iR]); (repeat refine Ai ?_); (try (refine hK _ ?_; clear hK K)))) | refine Cg _ (Nw t) ?_)
  simp only [go_sem, fN, seval, Af, AS.result, AH, AM, AY]
  unfold BR at h
  rw [hm, if_neg (by split at h <;> omega)]
theorem Ns (l : List ByteArray) (x : ByteArray) : ∃ i : Int, Ac Try.prog 56 [Iq l, Ed x] (AR i) ∧ (0 ≤ i ↔ FJ x l = true) := by
 by_cases hin : FJ x l = true
 ·obtain ⟨k0, hk0, hmin⟩ : ∃ k, l[k]? = some x ∧ ∀ j, j < k → l[j]? ≠ some x := by
   have hx := Jm.1 hin
   have ⟨k, hk⟩ := List.getElem?_of_mem hx
   induction k using Nat.strongRecOn with
   | _ k ih =>
    by_cases h : ∃ j, j < k ∧ l[j]? = some x
    ·obtain ⟨j, hj, hjx⟩ := h
     exact ih j hj hjx
    ·exact ⟨k, hk, fun j hj hjx => h ⟨j, hj, hjx⟩⟩
  have hlt0 := E9 hk0
  refine ⟨k0, ?_, by simp [hin]⟩
  refine BJ.ac fun C hC => ?_
  unfold Aw
  refine IWP.learn 0 (by omega) fun hkn => ?_
  have hkn := Ho hkn
  rw [List.length_map] at hkn
  repeat' with_reducible first | refine W ?_ | refine Z0 ?_ | ((first | refine Wo fun K hK => ?_ | refine Wq ?_ | refine Wr ?_); (try simp only [go_sem, fN, seval, eT, iR]); (repeat refine Ai ?_); (try (refine hK _ ?_; clear hK K)))
  refine IWP.loop (fun n s => ∃ k, k ≤ k0 ∧ n = k0 - k ∧ s.env 0 = Iq l ∧ s.env 1 = Ed x ∧ s.env 7 = AR l.length ∧ s.env 8 = AR k) k0 ⟨0, Nat.zero_le _, rfl, rfl, rfl, rfl, rfl⟩ ?_
  rintro n ⟨env, S⟩ ⟨k, hk, rfl, e0, e1, e7, e8⟩
  simp only at e0 e1 e7 e8
  have hlt : (k : Int) < l.length := by omega
  repeat' with_reducible first | refine W ?_ | refine Z0 ?_ | ((first | refine Wo fun K hK => ?_ | refine Wq ?_ | refine Wr ?_); (try simp only [go_sem, fN, seval, eT, iR, e0, e1, e7, e8, hlt]); (repeat refine Ai ?_); (try (refine hK _ ?_; clear hK K)))
  with_reducible refine Wp ?_
  simp only [go_sem, fN, seval, true_implies, false_implies, implies_true, dT, dF, nL, e0, e1, e7, e8, hlt]
  (try with_reducible refine iC ?_)
  obtain ⟨a, ha⟩ := BB (show k < l.length by omega)
  repeat' with_reducible first | refine W ?_ | refine Z0 ?_ | ((first | refine Wo fun K hK => ?_ | refine Wq ?_ | refine Wr ?_); (try simp only [go_sem, fN, seval, eT, iR, e0, e1, e7, e8, ha]); (repeat refine Ai ?_); (try (refine hK _ ?_; clear hK K)))
  by_cases he : k = k0
  ·subst he
   rw [hk0] at ha
   cases ha
   with_reducible refine Wp ?_
   simp only [go_sem, fN, seval, true_implies, false_implies, implies_true, dT, dF, nL]
   (try with_reducible refine iC ?_)
   repeat' with_reducible first | refine W ?_ | refine Z0 ?_ | ((first | refine Wo fun K hK => ?_ | refine Wq ?_ | refine Wr ?_); (try simp only [go_sem, fN, seval, eT, iR, e0, e1, e7, e8]); (repeat refine Ai ?_); (try (refine hK _ ?_; clear hK K)))
   simp only [go_sem, fN, seval, Af, AS.result, AH, AM, AY]
  ·have hne : ¬ x = a := fun e => hmin k (by omega) (by rw [ha, e])
   with_reducible refine Wp ?_
   simp only [go_sem, fN, seval, true_implies, false_implies, implies_true, dT, dF, nL, hne]
   (try with_reducible refine iC ?_)
   repeat' with_reducible first | refine W ?_ | refine Z0 ?_ | ((first | refine Wo fun K hK => ?_ | refine Wq ?_ | refine Wr ?_); (try simp only [go_sem, fN, seval, eT, iR, e0, e1, e7, e8]); (repeat refine Ai ?_); (try (refine hK _ ?_; clear hK K)))
   refine AK ⟨k0 - (k + 1), by omega, k + 1, by omega, rfl, ?_⟩
   simp only [go_sem, fN, seval, eT, iR, e0, e1, e7, e8]
   congr 3
 ·rw [Bool.not_eq_true] at hin
  refine ⟨-1, ?_, by simp [hin]⟩
  refine BJ.ac fun C hC => ?_
  unfold Aw
  refine IWP.learn 0 (by omega) fun hkn => ?_
  have hkn := Ho hkn
  rw [List.length_map] at hkn
  repeat' with_reducible first | refine W ?_ | refine Z0 ?_ | ((first | refine Wo fun K hK => ?_ | refine Wq ?_ | refine Wr ?_); (try simp only [go_sem, fN, seval, eT, iR]); (repeat refine Ai ?_); (try (refine hK _ ?_; clear hK K)))
  refine IWP.loop (fun n s => ∃ k, k ≤ l.length ∧ n = l.length - k ∧ s.env 0 = Iq l ∧ s.env 1 = Ed x ∧ s.env 7 = AR l.length ∧ s.env 8 = AR k) l.length ⟨0, Nat.zero_le _, rfl, rfl, rfl, rfl, rfl⟩ ?_
  rintro n ⟨env, S⟩ ⟨k, hk, rfl, e0, e1, e7, e8⟩
  simp only at e0 e1 e7 e8
  by_cases hlt : (k : Int) < l.length
  ·repeat' with_reducible first | refine W ?_ | refine Z0 ?_ | ((first | refine Wo fun K hK => ?_ | refine Wq ?_ | refine Wr ?_); (try simp only [go_sem, fN, seval, eT, iR, e0, e1, e7, e8, hlt]); (repeat refine Ai ?_); (try (refine hK _ ?_; clear hK K)))
   with_reducible refine Wp ?_
   simp only [go_sem, fN, seval, true_implies, false_implies, implies_true, dT, dF, nL, e0, e1, e7, e8, hlt]
   (try with_reducible refine iC ?_)
   obtain ⟨a, ha⟩ := BB (show k < l.length by omega)
   have hne : ¬ x = a := fun e => by
    rw [Ng] at hin
    exact hin (by rw [e]; exact AW ha)
   repeat' with_reducible first | refine W ?_ | refine Z0 ?_ | ((first | refine Wo fun K hK => ?_ | refine Wq ?_ | refine Wr ?_); (try simp only [go_sem, fN, seval, eT, iR, e0, e1, e7, e8, ha]); (repeat refine Ai ?_); (try (refine hK _ ?_; clear hK K)))
   with_reducible refine Wp ?_
   simp only [go_sem, fN, seval, true_implies, false_implies, implies_true, dT, dF, nL, hne]
   (try with_reducible refine iC ?_)
   repeat' with_reducible first | refine W ?_ | refine Z0 ?_ | ((first | refine Wo fun K hK => ?_ | refine Wq ?_ | refine Wr ?_); (try simp only [go_sem, fN, seval, eT, iR, e0, e1, e7, e8]); (repeat refine Ai ?_); (try (refine hK _ ?_; clear hK K)))
   refine AK ⟨l.length - (k + 1), by omega, k + 1, by omega, rfl, ?_⟩
   simp only [go_sem, fN, seval, eT, iR, e0, e1, e7, e8]
   congr 3
  ·repeat' with_reducible first | refine W ?_ | refine Z0 ?_ | ((first | refine Wo fun K hK => ?_ | refine Wq ?_ | refine Wr ?_); (try simp only [go_sem, fN, seval, eT, iR, e0, e1, e7, e8, hlt]); (repeat refine Ai ?_); (try (refine hK _ ?_; clear hK K)))
   with_reducible refine Wp ?_
   simp only [go_sem, fN, seval, true_implies, false_implies, implies_true, dT, dF, nL, e0, e1, e7, e8, hlt]
   (try with_reducible refine iC ?_)
   repeat' with_reducible first | refine W ?_ | refine Z0 ?_ | ((first | refine Wo fun K hK => ?_ | refine Wq ?_ | refine Wr ?_); (try simp only [go_sem, fN, seval, eT, iR]); (repeat refine Ai ?_); (try (refine hK _ ?_; clear hK K)))
   simp only [go_sem, fN, seval, Af, AS.result, AH, AM, AY]
theorem F9 (l : List ByteArray) (x : ByteArray) : Ac Try.prog 51 [Iq l, Ed x] (BX (FJ x l)) := by
 obtain ⟨i, h1, h2⟩ := Ns l x
 refine By.ac fun C hC => ?_
 unfold BA
 repeat' (first | (with_reducible first | refine W ?_ | refine Z0 ?_ | ((first | refine Wo fun K hK => ?_ | refine Wq ?_ | refine Wr ?_); (try simp only [go_sem, fN, seval, eT, iR]); (repeat refine Ai ?_); (try (refine hK _ ?_; clear hK K)))) | refine Cg _ (h1) ?_)
 simp only [go_sem, fN, seval, Af, AS.result, AH, AM, AY]
 congr 4
 cases hi : FJ x l with
 | true => exact decide_eq_true (h2.2 hi)
 | false =>
  refine decide_eq_false fun h => ?_
  rw [h2.1 h] at hi
  cases hi
mutual
def Tm.beq : Tm → Tm → Bool
 | .mk n xs, .mk m ys => decide (n = m) && Tm.beqL xs ys
def Tm.beqL : List Tm → List Tm → Bool
 | [], [] => true
 | x :: xs, y :: ys => x.beq y && Tm.beqL xs ys
 | _, _ => false
end
def Tm.nil : Tm := .mk ⟨#[]⟩ []

set_option maxHeartbeats 1000000
def BK (m : Mv) : List SV := [.str m.name, .list (m.frm.map CO), .int .i64 m.to_]
abbrev aAu (a : Au) : AV := .agg [.st (.int .i64 a.states), .st (.list (a.moves.map BK)), .st (.list (a.last.map CO))]
theorem J6 {ts : List Mv} : ∀ x ∈ ts.map BK, x.length = 3 := by
 intro x hx
 obtain ⟨a, _, rfl⟩ := List.mem_map.1 hx
 rfl
theorem HL {ts : List Int} : ∀ x ∈ ts.map CO, x.length = 1 := by
 intro x hx
 obtain ⟨a, _, rfl⟩ := List.mem_map.1 hx
 rfl
theorem NO {S : AA} {a : Au} (h : (aAu a).known S) : a.moves.length ≤ 9223372036854775807 ∧ a.last.length ≤ 9223372036854775807 ∧ ∀ m ∈ a.moves, m.frm.length ≤ 9223372036854775807 := by
 have h1 := h (.st (.list (a.moves.map BK))) (by simp)
 have h2 := h (.st (.list (a.last.map CO))) (by simp)
 simp only [AC.known, SV.known, List.length_map] at h1 h2
 rw [BV] at h1 h2
 refine ⟨h1.1, h2.1, fun m hm => ?_⟩
 have h3 := DI.1 (Ch.1 h1.2 (BK m) (List.mem_map.2 ⟨m, hm, rfl⟩)) (.list (m.frm.map CO)) (by simp [BK])
 simp only [SV.known, List.length_map] at h3
 rw [BV] at h3
 exact h3.1
theorem Li {α : Type} {p : α → Bool} {xs : List α} {k : Nat} {a : α} (ha : xs[k]? = some a) (h : (xs.take k).all p = true) : (xs.take (k + 1)).all p = p a := by
 rw [A2 ha, List.all_append, h]
 simp
theorem Lg {α : Type} {p : α → Bool} {xs : List α} {k : Nat} {a : α} (ha : xs[k]? = some a) (h : (xs.take k).any p = false) : (xs.take (k + 1)).any p = p a := by
 rw [A2 ha, List.any_append, h]
 simp
theorem M8 {S : Int} {m : Mv} (h : ¬ As m.name = true) : m.err S = 1 := if_neg (fun h' => h h'.1)
theorem N5 {S : Int} {m : Mv} (h : A3 m.name = true) : m.err S = 1 := if_neg (fun h' => by rw [h] at h'; exact absurd h'.2 (by decide))
theorem N6 {S : Int} {m : Mv} (h1 : As m.name = true) (h2 : ¬ A3 m.name = true) (h : 4 < m.frm.length) : m.err S = 3 := by
 unfold Mv.err
 rw [if_pos ⟨h1, by simpa using h2⟩, if_pos h]
theorem Nn {S : Int} {m : Mv} (h1 : As m.name = true) (h2 : ¬ A3 m.name = true) (h3 : ¬ 4 < m.frm.length) {s : Int} (hs : s ∈ m.frm) (h : s < 0 ∨ S ≤ s) : m.err S = 10 := by
 unfold Mv.err
 rw [if_pos ⟨h1, by simpa using h2⟩, if_neg h3, if_neg]
 intro h'
 have := CC.1 (List.all_eq_true.1 h'.1 s hs)
 omega
theorem Oi {S : Int} {m : Mv} (h1 : As m.name = true) (h2 : ¬ A3 m.name = true) (h3 : ¬ 4 < m.frm.length) (h : m.to_ < 0 ∨ S ≤ m.to_) : m.err S = 10 := by
 unfold Mv.err
 rw [if_pos ⟨h1, by simpa using h2⟩, if_neg h3, if_neg]
 intro h'
 have := CC.1 h'.2
 omega
theorem MR {S : Int} {m : Mv} (h1 : As m.name = true) (h2 : ¬ A3 m.name = true) (h3 : ¬ 4 < m.frm.length) (h4 : m.frm.all (inS S) = true) (h5 : inS S m.to_ = true) : m.err S = 0 := by
 unfold Mv.err
 rw [if_pos ⟨h1, by simpa using h2⟩, if_neg h3, if_pos ⟨h4, h5⟩]
theorem Di {a : Au} {S M : Int} {k : Nat} {m : Mv} (h0 : ¬ (a.states < 0 ∨ S < a.states ∨ M < a.moves.length)) (hm : a.moves[k]? = some m) (ht : A7 a.states (a.moves.take k) = 0) {e : Int} (he : m.err a.states = e) (hne : e ≠ 0) : a.may S M = e := by
 have h1 : ¬ A7 a.states (a.moves.take (k + 1)) = 0 := by
  rw [Dj hm ht, he]
  exact hne
 have h2 := L1 h1
 rw [Dj hm ht, he] at h2
 unfold Au.may
 rw [if_neg h0, h2, if_neg hne]
theorem My {a : Au} {S M : Int} (h0 : ¬ (a.states < 0 ∨ S < a.states ∨ M < a.moves.length)) (ht : A7 a.states a.moves = 0) : a.may S M = if a.last.all (inS a.states) = true then 0 else 10 := by
 unfold Au.may
 rw [if_neg h0, if_pos ht]
theorem Kp {S s : Int} (h : s < 0 ∨ S ≤ s) : inS S s = false := by
 cases hh : inS S s with
 | false => rfl
 | true =>
  have := CC.1 hh
  omega
theorem L7 {S s : Int} (h1 : ¬ s < 0) (h2 : ¬ S ≤ s) : inS S s = true := CC.2 (by omega)

theorem Mg (l : List Int) (hl : l.length ≤ 1000000) : Ft Try.prog 48 [Cw l] 3 1 (l.map CO) := by
 unfold Ft
 rw [List.length_map]
 refine C1.acS fun hS C hC => ?_
 unfold Bl
 by_cases h0 : l.length = 0
 ·have hl : l = [] := List.eq_nil_of_length_eq_zero h0
  subst hl
  repeat' with_reducible first | refine W ?_ | refine Z0 ?_ | ((first | refine Wo fun K hK => ?_ | refine Wp ?_ | refine Wq ?_ | refine Wr ?_); (try simp only [go_sem, fN, seval, eT, iR, dT, dF, nL]); (repeat refine Ai ?_); (try (refine hK _ ?_; clear hK K)); try refine iC ?_)
  refine ⟨?_, ?_⟩
  ·repeat' with_reducible first | refine W ?_ | refine Z0 ?_ | ((first | refine Wo fun K hK => ?_ | refine Wp ?_ | refine Wq ?_ | refine Wr ?_); (try simp only [go_sem, fN, seval, eT, iR, dT, dF, nL]); (repeat refine Ai ?_); (try (refine hK _ ?_; clear hK K)); try refine iC ?_)
   refine KU (AZ.own (C := C) 2 30 3 1 (xs := []) rfl rfl (by simp) (by omega)) ?_
   exact OQ (mu := false) trivial 30 (by decide) rfl (fun i hi => by show AE _ _ _ _ = _; rw [AG _ (by omega)]; rfl) rfl
  ·repeat' with_reducible first | refine W ?_ | refine Z0 ?_ | ((first | refine Wo fun K hK => ?_ | refine Wp ?_ | refine Wq ?_ | refine Wr ?_); (try simp only [go_sem, fN, seval, eT, iR, dT, dF, nL]); (repeat refine Ai ?_); (try (refine hK _ ?_; clear hK K)); try refine iC ?_)
   exact OQ (mu := false) trivial 7 (by decide) rfl (fun i hi => by show AE _ _ _ _ = _; rw [AG _ (by omega)]; rfl) rfl
 ·have hb : l.length * 8 ≤ 140737488355328 := by omega
  repeat' with_reducible first | refine W ?_ | refine Z0 ?_ | ((first | refine Wo fun K hK => ?_ | refine Wp ?_ | refine Wq ?_ | refine Wr ?_); (try simp only [go_sem, fN, seval, eT, iR, h0, hb, dT, dF, nL]); (repeat refine Ai ?_); (try (refine hK _ ?_; clear hK K)); try refine iC ?_)
  exact OQ (mu := false) trivial 7 (by decide) rfl (fun i hi => by show AE _ _ _ _ = _; rw [AG _ (by omega)]; rfl) rfl

end Go.Proofs.Ytbknconogoegaaa
