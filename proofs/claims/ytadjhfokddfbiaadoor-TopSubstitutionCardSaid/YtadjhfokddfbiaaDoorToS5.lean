/-
  Part 5 of the texts: AbsN; Data; AbsT; AbsU; AbsV; IrTSubst; PTermD; PTerm; PSubst; PSort; PThen; PCompose; IrTerm; BTerm; BVars; PPair; PGen; PComb. Conditions: none.
-/
import Derived.Test.YtadjhfokddfbiaaDoorToS4
import Derived.Lib.ItoaNum
namespace Go.Proofs.YtadjhfokddfbiaaDoor
open Go Go.RowKit
set_option linter.unusedVariables false
set_option linter.unusedSimpArgs false
set_option maxHeartbeats 400000
mutual
def AC.clear (ds : List Nat) : AC → Bool
  | .row id _ => !ds.contains id
  | .part id _ _ => !ds.contains id
  | .rest id _ _ => !ds.contains id
  | .ptr id _ _ _ => !ds.contains id
  | .mptr id => !ds.contains id
  | .yld id => !ds.contains id
  | .ubool => true
  | .fn _ caps => AC.clears ds caps
  | .st _ => true
  | .full _ => true
  | .eptr _ => true
  | .any => true
def AC.clears (ds : List Nat) : List AC → Bool
  | [] => true
  | c :: cs => c.clear ds && AC.clears ds cs
end
theorem clears_mem {ds : List Nat} : ∀ {l : List AC}, AC.clears ds l = true → ∀ a ∈ l, a.clear ds = true
  | [], _, a, ha => by simp at ha
  | x :: xs, hx, a, ha => by
    rw [AC.clears, Bool.and_eq_true] at hx
    rcases List.mem_cons.1 ha with rfl | ha
    · exact hx.1
    · exact clears_mem hx.2 a ha
def AC.purge (ds : List Nat) : AC → AC
  | .row id n => if ds.contains id then .any else .row id n
  | .part id k n => if ds.contains id then .any else .part id k n
  | .rest id k n => if ds.contains id then .any else .rest id k n
  | .ptr id n k off => if ds.contains id then .any else .ptr id n k off
  | .mptr id => if ds.contains id then .any else .mptr id
  | .yld id => if ds.contains id then .any else .yld id
  | .fn f caps => if AC.clears ds caps then .fn f caps else .any
  | c => c
mutual
def AV.purge (ds : List Nat) : AV → AV
  | .one c => .one (c.purge ds)
  | .agg cs => .agg (cs.map (AC.purge ds))
  | .tup vs => .tup (AV.purges ds vs)
  | .any => .any
def AV.purges (ds : List Nat) : List AV → List AV
  | [] => []
  | v :: vs => v.purge ds :: AV.purges ds vs
end
def ABlk.purge (ds : List Nat) : ABlk → ABlk
  | .box e cs => .box e (cs.map (AC.purge ds))
  | .iter x n seen => .iter (x.purge ds) n seen
  | .loop env r => .loop (AV.purges ds env) r
  | b => b
def dropS (ds : List Nat) (S : AStore) : AStore := fun id => if ds.contains id then none else (S id).map (ABlk.purge ds)
def AS.drop (ds : List Nat) (s : AS) : AS := ⟨fun i => (s.env i).purge ds, dropS ds s.S⟩
section
variable {C : Ctx} {σ : Sto} {ι : AHnd} {s : AS} {a : Act} {w : World} {ds : List Nat}
theorem purge_len (b : ABlk) : (b.purge ds).len = b.len := by cases b <;> rfl
theorem purge_wid (b : ABlk) : (b.purge ds).wid = b.wid := by cases b <;> rfl
theorem ARep.keepClear {ds : List Nat} {S S2 : AStore} (hS : ∀ id b, ds.contains id = false → S id = some b → ∃ b', S2 id = some b' ∧ b'.len = b.len ∧ b'.wid = b.wid) {v : Value} {c : AC} (h : ARep σ S ι v c) (hc : c.clear ds = true) : ARep σ S2 ι v c := by
  induction h with
  | st h => exact .st h
  | full h => exact .full h
  | row h1 h2 h3 h4 =>
    rw [AC.clear] at hc
    obtain ⟨b', q1, q2, q3⟩ := hS _ _ (by simpa using hc) h1
    exact .row q1 (by rw [q2]; exact h2) h3 (by rw [q2]; exact h4)
  | part h1 h2 h3 h4 =>
    rw [AC.clear] at hc
    obtain ⟨b', q1, q2, q3⟩ := hS _ _ (by simpa using hc) h1
    exact .part q1 (by rw [q2]; exact h2) h3 (by rw [q2]; exact h4)
  | rest h1 h2 h3 h4 =>
    rw [AC.clear] at hc
    obtain ⟨b', q1, q2, q3⟩ := hS _ _ (by simpa using hc) h1
    exact .rest q1 (by rw [q2]; exact h2) h3 (by rw [q2, q3]; exact h4)
  | ptr h1 h2 h3 h4 =>
    rw [AC.clear] at hc
    obtain ⟨b', q1, q2, q3⟩ := hS _ _ (by simpa using hc) h1
    exact .ptr q1 (by rw [q2]; exact h2) h3 (by rw [q2, q3]; exact h4)
  | mptr h1 h2 h3 h4 =>
    rw [AC.clear] at hc
    obtain ⟨b', q1, q2, q3⟩ := hS _ _ (by simpa using hc) h1
    exact .mptr q1 (by rw [q2]; exact h2) h3 (by rw [q2]; exact h4)
  | yld h1 h2 h3 h4 =>
    rw [AC.clear] at hc
    obtain ⟨b', q1, q2, q3⟩ := hS _ _ (by simpa using hc) h1
    exact .yld q1 (by rw [q2]; exact h2) h3 (by rw [q2]; exact h4)
  | ubool => exact .ubool
  | eptr c h1 h2 hh => exact .eptr c h1 h2 hh
  | fn c h1 h2 h3 ih =>
    rw [AC.clear] at hc
    exact .fn c h1 h2 (fun j a ha => ih j a ha (clears_mem hc a (List.mem_of_getElem? ha)))
  | any h => exact .any h
theorem ARep.purge (hds : ∀ d ∈ ds, d < 1000) {v : Value} {c : AC} (h : ARep σ s.S ι v c) : ARep σ (s.drop ds).S ι v (c.purge ds) := by
  have h0 := h
  cases h with
  | st h => exact .st h
  | full h => exact .full h
  | @row _ id n b h1 h2 h3 h4 =>
    simp only [AC.purge]
    split
    · exact .any h3
    · rename_i hn
      exact .row (b := b.purge ds) (by simp only [AS.drop, dropS, hn]; rw [h1]; rfl) (by rw [purge_len]; exact h2) h3 (by rw [purge_len]; exact h4)
  | @part _ id k n b h1 h2 h3 h4 =>
    simp only [AC.purge]
    split
    · exact .any h3
    · rename_i hn
      exact .part (b := b.purge ds) (by simp only [AS.drop, dropS, hn]; rw [h1]; rfl) (by rw [purge_len]; exact h2) h3 (by rw [purge_len]; exact h4)
  | @rest _ id k n b h1 h2 h3 h4 =>
    simp only [AC.purge]
    split
    · exact .any h3
    · rename_i hn
      exact .rest (b := b.purge ds) (by simp only [AS.drop, dropS, hn]; rw [h1]; rfl) (by rw [purge_len]; exact h2) h3 (by rw [purge_len, purge_wid]; exact h4)
  | @ptr _ id n k off b h1 h2 h3 h4 =>
    simp only [AC.purge]
    split
    · exact .any h3
    · rename_i hn
      exact .ptr (b := b.purge ds) (by simp only [AS.drop, dropS, hn]; rw [h1]; rfl) (by rw [purge_len]; exact h2) h3 (by rw [purge_len, purge_wid]; exact h4)
  | @mptr _ id b h1 h2 h3 h4 =>
    simp only [AC.purge]
    split
    · exact .any h3
    · rename_i hn
      exact .mptr (b := b.purge ds) (by simp only [AS.drop, dropS, hn]; rw [h1]; rfl) (by rw [purge_len]; exact h2) h3 (by rw [purge_len]; exact h4)
  | @yld _ id b h1 h2 h3 h4 =>
    simp only [AC.purge]
    split
    · exact .any h3
    · rename_i hn
      exact .yld (b := b.purge ds) (by simp only [AS.drop, dropS, hn]; rw [h1]; rfl) (by rw [purge_len]; exact h2) h3 (by rw [purge_len]; exact h4)
  | ubool => exact .ubool
  | eptr c h1 h2 hh => exact .eptr c h1 h2 hh
  | @fn f vs caps c h1 h2 h3 =>
    simp only [AC.purge]
    split
    · rename_i hh
      exact h0.keepClear (ds := ds) (fun id b hid hb => ⟨b.purge ds, by
        show dropS ds s.S id = _
        unfold dropS
        rw [hid, hb]
        rfl, purge_len b, purge_wid b⟩) (by rw [AC.clear]; exact hh)
    · exact .any rfl
  | any h => exact .any h
mutual
theorem VRep.purge (hds : ∀ d ∈ ds, d < 1000) : ∀ {v : Value} {c : AV}, VRep σ s.S ι v c → VRep σ (s.drop ds).S ι v (c.purge ds)
  | v, .one c, h => by cases h with | one h => exact .one (h.purge hds)
  | v, .agg cs, h => by cases h with | agg h => exact .agg ((h.mono fun _ _ x => x.purge hds).map_right)
  | v, .tup vs, h => by
    cases h with
    | tup c h1 h2 h3 =>
      obtain ⟨k1, k2⟩ := VRep.purges hds (c := c) h3
      exact .tup c (by rw [h1, k1]) (fun j b hb => by
        rcases Nat.lt_or_ge j vs.length with hj | hj
        · exact h2 j _ (List.getElem?_eq_getElem hj)
        · rw [List.getElem?_eq_none (by omega)] at hb; cases hb) k2
  | v, .any, h => .any
theorem VRep.purges (hds : ∀ d ∈ ds, d < 1000) : ∀ {vs : List AV} {c : Nat → Value}, (∀ j b, vs[j]? = some b → VRep σ s.S ι (c j) b) → vs.length = (AV.purges ds vs).length ∧ ∀ j b, (AV.purges ds vs)[j]? = some b → VRep σ (s.drop ds).S ι (c j) b
  | [], c, h => by simp [AV.purges]
  | x :: xs, c, h => by
    obtain ⟨m1, m2⟩ := VRep.purges hds (vs := xs) (c := fun j => c (j + 1)) (fun j b hb => h (j + 1) b (by simpa using hb))
    refine ⟨by simp [AV.purges, ← m1], fun j b hb => ?_⟩
    cases j with
    | zero =>
      simp [AV.purges] at hb
      subst hb
      exact VRep.purge hds (h 0 x rfl)
    | succ j => exact m2 j b (by simpa [AV.purges] using hb)
end
theorem BRep.purge (hds : ∀ d ∈ ds, d < 1000) {h : Hnd} {b : ABlk} (hr : BRep σ s.S ι w h b) : BRep σ (s.drop ds).S ι w h (b.purge ds) := by
  cases hr with
  | box h1 h2 h3 h4 h5 => exact .box h1 h2 h3 ((h4.mono fun _ _ x => x.purge hds).map_right) h5
  | afull h1 h2 h3 h4 => exact .afull h1 h2 h3 h4
  | arow h1 h2 h3 h4 h5 h6 h7 h8 h9 hh => exact .arow h1 h2 h3 h4 h5 h6 h7 h8 h9 hh
  | mnil h1 h2 => exact .mnil h1 h2
  | mrow h1 h2 h3 h4 h5 h6 h7 h8 h9 => exact .mrow h1 h2 h3 h4 h5 h6 h7 h8 h9
  | map h1 h2 h3 h4 => exact .map h1 h2 h3 h4
  | memo h1 h2 h3 h4 => exact .memo h1 h2 h3 h4
  | iter h1 h2 h3 h4 => exact .iter h1 h2 (h3.purge hds) h4
  | loop h1 h2 h3 h4 h5 =>
    obtain ⟨k1, k2⟩ := VRep.purges hds h4
    exact .loop h1 h2 (by rw [← k1]; exact h3) k2 h5
  | dead h1 => exact .dead h1
theorem drop_some {id : Nat} {b : ABlk} (h : (s.drop ds).S id = some b) : ∃ b', s.S id = some b' ∧ b = b'.purge ds := by
  simp only [AS.drop, dropS] at h
  split at h
  · cases h
  · rw [Option.map_eq_some_iff] at h
    obtain ⟨b', h1, h2⟩ := h
    exact ⟨b', h1, h2.symm⟩
theorem Ghost.drop (ds : List Nat) (s : AS) (hds : ∀ d ∈ ds, d < 1000) : Ghost C s (s.drop ds) := fun a w ⟨σ, ι, R⟩ => by
  refine ⟨σ, ι, R.size, fun i hi => (R.env i hi).purge hds, R.nod, R.fit, fun id b h => ?_, fun id id' b b' g h1 h2 g1 g2 => ?_, fun id b g h hg => ?_, R.ext, R.old, R.os, R.grown, R.same, fun id b hb => ?_⟩
  · obtain ⟨b', h1, rfl⟩ := drop_some h
    exact (R.blk id b' h1).purge hds
  · obtain ⟨c1, k1, _⟩ := drop_some h1
    obtain ⟨c2, k2, _⟩ := drop_some h2
    exact R.inj _ _ _ _ _ k1 k2 g1 g2
  · obtain ⟨c1, k1, _⟩ := drop_some h
    exact R.base _ _ _ k1 hg
  · obtain ⟨b', h1, h2, h3⟩ := R.upd id b hb
    have hid := (C.clean id b hb).1
    have hnc : ds.contains id = false := by
      cases hc : ds.contains id with
      | false => rfl
      | true =>
        have := hds id (List.contains_iff_mem.1 hc)
        omega
    refine ⟨b'.purge ds, by simp only [AS.drop, dropS, hnc]; rw [h1]; rfl, by rw [purge_len]; exact h2, fun hl => ?_⟩
    rw [purge_len] at hl
    rw [purge_wid]
    exact h3 hl
theorem Ghost.share {id : Nat} {e : TypeId} {wd : Nat} {xs : List (List SV)} (hS : s.S id = some (.mrow e wd xs)) : Ghost C s (s.set id (.arow e wd xs)) := fun a w ⟨σ, ι, R⟩ => by
  have hb := R.blk _ _ hS
  have hι : updE ι id (ι id) = ι := by
    funext k
    unfold updE
    split
    · rename_i h; rw [h]
    · rfl
  cases hb with
  | mnil h1 h2 =>
    obtain ⟨hu, R'⟩ := R.turn (w' := w) hS (.arow e wd []) (ι id) (σ' := σ) (fun _ _ h => h) (fun _ _ _ => rfl) R.fit (Nat.le_refl _) (fun _ => ⟨rfl, rfl⟩) ⟨rfl, rfl, rfl⟩ (Nat.le_refl _) (fun _ _ _ => rfl) (fun g h => .inl h) (fun hu => .afull h1 (by simpa using h2) (by simp) (.list (b := 0) (o := 0) (w := 0) (fun _ _ => undef) rfl (by simp) (by rw [h2]; simp [maxLen]) (fun _ => h2) (by simp) (by simp) (fun _ h _ => absurd h (by omega)) (by simp) (by simp)))
    exact ⟨σ, _, R'⟩
  | @mrow _ _ _ g vs h1 h2 h3 h4 h5 h6 h7 h8 h9 =>
    have hl : Laid σ vs.toList wd xs := ⟨h7, fun k x j y hx hy => by simpa using h8 k x j y hx hy⟩
    have hkeep := layS_keep (σ := σ) (w' := w) (g := g) (k := xs.length * wd) (fun p x e hx => by rw [h9 _ e] at hx; cases hx)
    obtain ⟨hu, R'⟩ := R.turn (w' := w) hS (.arow e wd xs) (ι id) (σ' := layS σ w g (xs.length * wd)) hkeep (fun p hp _ => layS_out (fun e => hp (by rw [e]; exact h1))) (layS_fit R.fit) (Nat.le_refl _) (fun _ => ⟨rfl, rfl⟩) ⟨rfl, rfl, rfl⟩ (Nat.le_refl _) (fun _ _ _ => rfl) (fun g h => .inl h)
      (fun hu => by
        have := brep_arow (S' := (s.set id (.arow e wd xs)).S) (ι' := updE ι id (ι id)) (w' := w) (p := (ι id).p) h2 h3 h4 h5 h6 hl hkeep (fun p hp hne => absurd (h9 p hp) hne)
        rw [← h1] at this
        exact this)
    exact ⟨_, _, R'⟩
theorem Ghost.own (t id : Nat) (e : TypeId) (wd : Nat) {xs : List (List SV)} (ht : s.env t = .one (.full xs)) (hid : s.S id = none) (hw : ∀ x ∈ xs, x.length = wd) (hn : t < C.n) : Ghost C s ⟨updE s.env t (.one (.row id xs.length)), updE s.S id (some (.arow e wd xs))⟩ := fun a w ⟨σ, ι, R⟩ => by
  have rt := R.env t hn
  rw [ht] at rt
  generalize hv : a.tmps.getD t undef = v at rt
  cases vrep_one rt with
  | @full p len xs hs =>
    have hl : len = xs.length := by
      obtain ⟨p', cap', e1, _⟩ := srep_slice hs
      cases e1
      rfl
    subst hl
    obtain ⟨hu, R'⟩ := R.fresh (w' := w) hid (.arow e wd xs) ⟨p, xs.length, none⟩ (Ext.refl _ _) R.fit (Below.refl _ _) (by simp) (fun S' ι' hu => .afull rfl rfl hw hs)
    refine ⟨σ, _, R'.size, fun i hi => ?_, R'.nod, R'.fit, R'.blk, R'.inj, R'.base, R'.ext, R'.old, R'.os, R'.grown, R'.same, R'.upd⟩
    show VRep σ (s.set id (.arow e wd xs)).S _ _ (updE s.env t _ i)
    unfold updE
    split
    · rename_i e1
      subst e1
      rw [hv]
      exact .one (.row (b := .arow e wd xs) (by simp [AS.set, updE_same]) (Nat.le_refl _) rfl fun _ => by simp [updE])
    · exact R'.env i hi
theorem Ghost.ownM (t id : Nat) (e : TypeId) (wd : Nat) (ht : s.env t = .one (.full [])) (hid : s.S id = none) (hn : t < C.n) : Ghost C s ⟨updE s.env t (.one (.row id 0)), updE s.S id (some (.mrow e wd []))⟩ := fun a w ⟨σ, ι, R⟩ => by
  have rt := R.env t hn
  rw [ht] at rt
  generalize hv : a.tmps.getD t undef = v at rt
  cases vrep_one rt with
  | @full p len xs hs =>
    have hl : len = 0 := by
      obtain ⟨p', cap', e1, _⟩ := srep_slice hs
      cases e1
      rfl
    subst hl
    obtain ⟨hu, R'⟩ := R.fresh (w' := w) hid (.mrow e wd []) ⟨p, 0, none⟩ (Ext.refl _ _) R.fit (Below.refl _ _) (by simp) (fun S' ι' hu => .mnil rfl rfl)
    refine ⟨σ, _, R'.size, fun i hi => ?_, R'.nod, R'.fit, R'.blk, R'.inj, R'.base, R'.ext, R'.old, R'.os, R'.grown, R'.same, R'.upd⟩
    show VRep σ (s.set id (.mrow e wd [])).S _ _ (updE s.env t _ i)
    unfold updE
    split
    · rename_i e1
      subst e1
      rw [hv]
      exact .one (.row (b := .mrow e wd []) (by simp [AS.set, updE_same]) (Nat.le_refl _) rfl fun _ => by simp [updE])
    · exact R'.env i hi
theorem Ghost.keep (t id k n : Nat) {e : TypeId} {wd : Nat} {xs : List (List SV)} (ht : s.env t = .one (.part id k n)) (hS : s.S id = some (.arow e wd xs)) (hl : n = xs.length) (hn : t < C.n) : Ghost C s ⟨updE s.env t (.one (.st (.list (xs.take k)))), s.S⟩ := fun a w ⟨σ, ι, R⟩ => by
  have rt := R.env t hn
  rw [ht] at rt
  refine ⟨σ, ι, R.size, fun i hi => ?_, R.nod, R.fit, R.blk, R.inj, R.base, R.ext, R.old, R.os, R.grown, R.same, R.upd⟩
  show VRep σ s.S ι _ (updE s.env t _ i)
  unfold updE
  split
  · rename_i e1
    subst e1
    obtain ⟨b, h1, h2, h3⟩ := arep_part (vrep_one rt)
    rw [hS] at h1
    cases h1
    obtain ⟨h4, h5⟩ := h3 hl
    rw [h5]
    have hb := R.blk _ _ hS
    have hr := hb.srep
    have hmem : ∀ {kk x}, (xs.take k)[kk]? = some x → xs[kk]? = some x := fun hx => by
      rw [List.getElem?_take] at hx
      split at hx
      · exact hx
      · cases hx
    cases hr with
    | @list p len cap b o w' _ c q1 q2 q3 q4 q5 q6 qh q7 q8 =>
      exact .one (.st (.list (b := b) (o := o) (w := w') c (by rw [List.length_take]; omega) (by omega) q3 q4 (fun hne => q5 (by omega)) (fun x hx => q6 x (List.mem_of_mem_take hx)) (fun e1 e2 e3 => qh e1 e2 (fun e4 => e3 (by rw [e4]; exact List.take_nil))) (fun kk x j a hx ha => q7 kk x j a (hmem hx) ha) (fun kk x j a hx ha => q8 kk x j a (hmem hx) ha)))
  · exact R.env i hi
theorem Ghost.ownC (id j nid : Nat) (e : TypeId) (wd : Nat) {xs : List (List SV)} {ty : TypeId} {cs : List AC} (hb : s.S id = some (.box ty cs)) (hc : cs[j]? = some (.full xs)) (hn : s.S nid = none) (hw : ∀ x ∈ xs, x.length = wd) :
    Ghost C s ((s.set nid (.arow e wd xs)).set id (.box ty (cs.set j (.row nid xs.length)))) := fun a w ⟨σ, ι, R⟩ => by
  have hbk := R.blk id _ hb
  have hne : id ≠ nid := fun e => by subst e; rw [hb] at hn; cases hn
  cases hbk with
  | @box _ _ g vs h1 h2 h3 h4 h5 =>
    obtain ⟨v, hv, hr⟩ := h4.get hc
    cases hr with
    | @full p len xs hs =>
      have hl : len = xs.length := by
        obtain ⟨p', cap', e1, _⟩ := srep_slice hs
        cases e1
        rfl
      subst hl
      obtain ⟨hu, R'⟩ := R.fresh (w' := w) hn (.arow e wd xs) ⟨p, xs.length, none⟩ (Ext.refl _ _) R.fit (Below.refl _ _) (by simp) (fun S' ι' hu => .afull rfl rfl hw hs)
      have hb' : (s.set nid (.arow e wd xs)).S id = some (.box ty cs) := by simp [AS.set, updE_ne _ hne, hb]
      have hι : updE ι nid ⟨p, xs.length, none⟩ id = ι id := updE_ne _ hne _
      obtain ⟨hu2, R2⟩ := R'.turn (w' := w) hb' (.box ty (cs.set j (.row nid xs.length))) (updE ι nid ⟨p, xs.length, none⟩ id) (σ' := σ) (fun _ _ h => h) (fun _ _ _ => rfl) R.fit (Nat.le_refl _) (fun _ => ⟨by simp [ABlk.wid], rfl⟩) ⟨rfl, rfl, rfl⟩ (Nat.le_refl _) (fun _ _ _ => rfl) (fun g h => .inl h) (fun hu2 => by
        refine .box (by rw [hι]; exact h1) (by rw [hι]; exact h2) h3 (All2.of_get (by rw [List.length_set]; exact h4.len) fun k u c hu' hck => ?_) h5
        by_cases hk : k = j
        · subst hk
          rw [hv] at hu'
          cases hu'
          have hlt : k < cs.length := (List.getElem?_eq_some_iff.1 hc).1
          rw [List.getElem?_set_self hlt] at hck
          cases hck
          exact .row (b := .arow e wd xs) (by simp [AS.set, updE, hne.symm]) (Nat.le_refl _) rfl fun _ => by simp [updE, hne.symm]
        · rw [List.getElem?_set_ne (fun e => hk e.symm)] at hck
          obtain ⟨u', q1, q2⟩ := h4.get hck
          rw [hu'] at q1
          cases q1
          exact (q2.mono (fun _ _ h => h) hu).mono (fun _ _ h => h) hu2)
      exact ⟨_, _, R2⟩
theorem noS_upd {v : Value} {c : AV} (h : VRep σ noS noH v c) : VRep σ s.S ι v c := h.mono (fun _ _ h => h) (upd_noS _ _)
theorem Ghost.settle (t : Nat) {v : AV} (h : outV s.S (s.env t) = some v) : Ghost C s ⟨updE s.env t v, s.S⟩ := fun a w ⟨σ, ι, R⟩ => by
  refine ⟨σ, ι, R.size, fun i hi => ?_, R.nod, R.fit, R.blk, R.inj, R.base, R.ext, R.old, R.os, R.grown, R.same, R.upd⟩
  show VRep σ s.S ι _ (updE s.env t v i)
  unfold updE
  split
  · rename_i e
    subst e
    exact noS_upd (R.outV (R.env i hi) h)
  · exact R.env i hi
def AV.low (v : AV) : AV := if v.high then v else .any
theorem Refs.low (R : Refs C σ ι s a w) (hb : ∀ i b, 1000 ≤ i → s.S i = some b → b.high = true) : Refs C σ ι ⟨fun i => (s.env i).low, lowS s.S⟩ a w := by
  have hS : ∀ i b, 1000 ≤ i → s.S i = some b → lowS s.S i = some b := fun i b hi h => by
    show (if i < 1000 then none else s.S i) = some b
    rw [if_neg (by omega), h]
  have hinv : ∀ i b, lowS s.S i = some b → 1000 ≤ i ∧ s.S i = some b := fun i b h => by
    have h' : (if i < 1000 then none else s.S i) = some b := h
    split at h'
    · cases h'
    · exact ⟨by omega, h'⟩
  refine ⟨R.size, fun i hi => ?_, R.nod, R.fit, fun id b h => ?_, fun id id' b b' g h1 h2 g1 g2 => R.inj _ _ _ _ g (hinv _ _ h1).2 (hinv _ _ h2).2 g1 g2, fun id b g h hg => R.base _ _ g (hinv _ _ h).2 hg, R.ext, R.old, R.os, R.grown, R.same, fun id b h => ?_⟩
  · show VRep σ (lowS s.S) ι _ ((s.env i).low)
    unfold AV.low
    split
    · rename_i hh
      exact (R.env i hi).low hS hh
    · exact .any
  · obtain ⟨h1, h2⟩ := hinv _ _ h
    have hh := hb id b h1 h2
    cases R.blk id b h2 with
    | box k1 k2 k3 k4 k5 => exact .box k1 k2 k3 (all2_low hS k4 hh) k5
    | afull k1 k2 k3 k4 => exact .afull k1 k2 k3 k4
    | arow k1 k2 k3 k4 k5 k6 k7 k8 k9 kh => exact .arow k1 k2 k3 k4 k5 k6 k7 k8 k9 kh
    | mnil k1 k2 => exact .mnil k1 k2
    | mrow k1 k2 k3 k4 k5 k6 k7 k8 k9 => exact .mrow k1 k2 k3 k4 k5 k6 k7 k8 k9
    | map k1 k2 k3 k4 => exact .map k1 k2 k3 k4
    | memo k1 k2 k3 k4 => exact .memo k1 k2 k3 k4
    | iter k1 k2 k3 k4 => exact .iter k1 k2 (k3.low hS hh) k4
    | loop k1 k2 k3 k4 k5 => exact .loop k1 k2 k3 (VRep.lows hS k4 hh) k5
    | dead k1 => exact .dead k1
  · obtain ⟨b', h1, h2⟩ := R.upd id b h
    exact ⟨b', hS _ _ (C.clean id b h).1 h1, h2⟩
theorem Ghost.low (hb : ∀ i b, 1000 ≤ i → s.S i = some b → b.high = true) : Ghost C s ⟨fun i => (s.env i).low, lowS s.S⟩ := fun a w ⟨σ, ι, R⟩ => ⟨σ, ι, R.low hb⟩
def oneTo (id a : Nat) (i : Nat) : Nat := if i = id then a else i
def AV.hand (id a : Nat) (v : AV) : AV := if (v.ren (oneTo id a)).high then v.ren (oneTo id a) else .any
section
variable {S S2 : AStore} {ι2 : AHnd} {id a0 : Nat}
theorem ARep.hand (hS : ∀ i b, 1000 ≤ oneTo id a0 i → S i = some b → S2 (oneTo id a0 i) = some b ∧ ι2 (oneTo id a0 i) = ι i) {v : Value} {c : AC} (h : ARep σ S ι v c) (hc : (c.ren (oneTo id a0)).high = true) : ARep σ S2 ι2 v (c.ren (oneTo id a0)) := by
  induction h with
  | st h => exact .st h
  | full h => exact .full h
  | row h1 h2 h3 h4 =>
    rw [AC.ren, AC.high] at hc
    obtain ⟨q1, q2⟩ := hS _ _ (of_decide_eq_true hc) h1
    rw [AC.ren]
    exact .row q1 h2 h3 (fun hn => by rw [q2]; exact h4 hn)
  | part h1 h2 h3 h4 =>
    rw [AC.ren, AC.high] at hc
    obtain ⟨q1, q2⟩ := hS _ _ (of_decide_eq_true hc) h1
    rw [AC.ren]
    exact .part q1 h2 h3 (fun hn => by rw [q2]; exact h4 hn)
  | rest h1 h2 h3 h4 =>
    rw [AC.ren, AC.high] at hc
    obtain ⟨q1, q2⟩ := hS _ _ (of_decide_eq_true hc) h1
    rw [AC.ren]
    exact .rest q1 h2 h3 (fun hn => by rw [q2]; exact h4 hn)
  | ptr h1 h2 h3 h4 =>
    rw [AC.ren, AC.high] at hc
    obtain ⟨q1, q2⟩ := hS _ _ (of_decide_eq_true hc) h1
    rw [AC.ren]
    exact .ptr q1 h2 h3 (fun hn => by rw [q2]; exact h4 hn)
  | mptr h1 h2 h3 h4 =>
    rw [AC.ren, AC.high] at hc
    obtain ⟨q1, q2⟩ := hS _ _ (of_decide_eq_true hc) h1
    rw [AC.ren]
    exact .mptr q1 h2 h3 (fun hn => by rw [q2]; exact h4 hn)
  | yld h1 h2 h3 h4 =>
    rw [AC.ren, AC.high] at hc
    obtain ⟨q1, q2⟩ := hS _ _ (of_decide_eq_true hc) h1
    rw [AC.ren]
    exact .yld q1 h2 h3 (fun hn => by rw [q2]; exact h4 hn)
  | ubool => exact .ubool
  | eptr c h1 h2 hh => exact .eptr c h1 h2 hh
  | @fn f vs caps c h1 h2 h3 ih =>
    rw [AC.ren, AC.high] at hc
    rw [AC.ren]
    have key : ∀ (j : Nat) (b : AC), (AC.rens (oneTo id a0) caps)[j]? = some b → ∃ a, caps[j]? = some a ∧ b = a.ren (oneTo id a0) := fun j b hb => by
      rw [AC.rens_eq, List.getElem?_map, Option.map_eq_some_iff] at hb
      obtain ⟨a, ha, rfl⟩ := hb
      exact ⟨a, ha, rfl⟩
    refine .fn c (by rw [AC.rens_eq]; simpa using h1) (fun j b hb => ?_) (fun j b hb => ?_)
    · obtain ⟨a, ha, rfl⟩ := key j b hb
      exact h2 j a ha
    · have hm := highs_mem hc b (List.mem_of_getElem? hb)
      obtain ⟨a, ha, rfl⟩ := key j b hb
      exact ih j a ha hm
  | any h => exact .any h
mutual
theorem VRep.hand (hS : ∀ i b, 1000 ≤ oneTo id a0 i → S i = some b → S2 (oneTo id a0 i) = some b ∧ ι2 (oneTo id a0 i) = ι i) : ∀ {v : Value} {c : AV}, VRep σ S ι v c → (c.ren (oneTo id a0)).high = true → VRep σ S2 ι2 v (c.ren (oneTo id a0))
  | v, .one c, h, hc => by
    rw [AV.ren] at hc ⊢
    rw [AV.high] at hc
    cases h with | one h => exact .one (h.hand hS hc)
  | v, .agg cs, h, hc => by
    rw [AV.ren] at hc ⊢
    rw [AV.high] at hc
    cases h with
    | agg h =>
      refine .agg (All2.of_get (by rw [AC.rens_eq]; simpa using h.len) fun j x c hx hcj => ?_)
      have hm := highs_mem hc c (List.mem_of_getElem? hcj)
      rw [AC.rens_eq, List.getElem?_map, Option.map_eq_some_iff] at hcj
      obtain ⟨c', hc', rfl⟩ := hcj
      obtain ⟨x', h1, h2⟩ := h.get hc'
      rw [hx] at h1
      cases h1
      exact h2.hand hS hm
  | v, .tup vs, h, hc => by
    rw [AV.ren] at hc ⊢
    rw [AV.high] at hc
    cases h with
    | tup c h1 h2 h3 =>
      obtain ⟨k1, k2⟩ := VRep.hands hS h3 hc
      exact .tup c (by rw [h1, k1]) (fun j b hb => by
        rcases Nat.lt_or_ge j vs.length with hj | hj
        · exact h2 j _ (List.getElem?_eq_getElem hj)
        · rw [List.getElem?_eq_none (by omega)] at hb; cases hb) k2
  | v, .any, h, _ => .any
theorem VRep.hands (hS : ∀ i b, 1000 ≤ oneTo id a0 i → S i = some b → S2 (oneTo id a0 i) = some b ∧ ι2 (oneTo id a0 i) = ι i) : ∀ {vs : List AV} {c : Nat → Value}, (∀ j b, vs[j]? = some b → VRep σ S ι (c j) b) → AV.highs (AV.rens (oneTo id a0) vs) = true → vs.length = (AV.rens (oneTo id a0) vs).length ∧ ∀ j b, (AV.rens (oneTo id a0) vs)[j]? = some b → VRep σ S2 ι2 (c j) b
  | [], c, h, _ => by simp [AV.rens]
  | x :: xs, c, h, hc => by
    rw [AV.rens, AV.highs, Bool.and_eq_true] at hc
    obtain ⟨m1, m2⟩ := VRep.hands hS (vs := xs) (c := fun j => c (j + 1)) (fun j b hb => h (j + 1) b (by simpa using hb)) hc.2
    refine ⟨by simp [AV.rens, ← m1], fun j b hb => ?_⟩
    cases j with
    | zero =>
      simp [AV.rens] at hb
      subst hb
      exact VRep.hand hS (h 0 x rfl) hc.1
    | succ j => exact m2 j b (by simpa [AV.rens] using hb)
end
end
theorem ARep.stay {S S2 : AStore} {ι2 : AHnd} (hS : ∀ i b, 1000 ≤ i → S i = some b → S2 i = some b ∧ ι2 i = ι i) {v : Value} {c : AC} (h : ARep σ S ι v c) (hc : c.high = true) : ARep σ S2 ι2 v c := by
  induction h with
  | st h => exact .st h
  | full h => exact .full h
  | row h1 h2 h3 h4 =>
    rw [AC.high] at hc
    obtain ⟨q1, q2⟩ := hS _ _ (of_decide_eq_true hc) h1
    exact .row q1 h2 h3 (fun hn => by rw [q2]; exact h4 hn)
  | part h1 h2 h3 h4 =>
    rw [AC.high] at hc
    obtain ⟨q1, q2⟩ := hS _ _ (of_decide_eq_true hc) h1
    exact .part q1 h2 h3 (fun hn => by rw [q2]; exact h4 hn)
  | rest h1 h2 h3 h4 =>
    rw [AC.high] at hc
    obtain ⟨q1, q2⟩ := hS _ _ (of_decide_eq_true hc) h1
    exact .rest q1 h2 h3 (fun hn => by rw [q2]; exact h4 hn)
  | ptr h1 h2 h3 h4 =>
    rw [AC.high] at hc
    obtain ⟨q1, q2⟩ := hS _ _ (of_decide_eq_true hc) h1
    exact .ptr q1 h2 h3 (fun hn => by rw [q2]; exact h4 hn)
  | mptr h1 h2 h3 h4 =>
    rw [AC.high] at hc
    obtain ⟨q1, q2⟩ := hS _ _ (of_decide_eq_true hc) h1
    exact .mptr q1 h2 h3 (fun hn => by rw [q2]; exact h4 hn)
  | yld h1 h2 h3 h4 =>
    rw [AC.high] at hc
    obtain ⟨q1, q2⟩ := hS _ _ (of_decide_eq_true hc) h1
    exact .yld q1 h2 h3 (fun hn => by rw [q2]; exact h4 hn)
  | ubool => exact .ubool
  | eptr c h1 h2 hh => exact .eptr c h1 h2 hh
  | fn c h1 h2 h3 ih =>
    rw [AC.high] at hc
    exact .fn c h1 h2 (fun j a ha => ih j a ha (highs_mem hc a (List.mem_of_getElem? ha)))
  | any h => exact .any h
theorem Refs.hand (R : Refs C σ ι s a w) (id a0 : Nat) {b0 : ABlk} (hid : id < 1000) (ha : 1000 ≤ a0) (hSa : s.S a0 = none) (hb0 : s.S id = some b0) (hbh : b0.high = true) (hb : ∀ i b, 1000 ≤ i → s.S i = some b → b.high = true) :
    Refs C σ (updE ι a0 (ι id)) ⟨fun i => (s.env i).hand id a0, updE (lowS s.S) a0 (some b0)⟩ a w ∧ ∀ i b, 1000 ≤ oneTo id a0 i → s.S i = some b → updE (lowS s.S) a0 (some b0) (oneTo id a0 i) = some b ∧ updE ι a0 (ι id) (oneTo id a0 i) = ι i := by
  have hlow : ∀ i, 1000 ≤ i → lowS s.S i = s.S i := fun i hi => by
    show (if i < 1000 then none else s.S i) = _
    rw [if_neg (by omega)]
  have hS : ∀ i b, 1000 ≤ oneTo id a0 i → s.S i = some b → updE (lowS s.S) a0 (some b0) (oneTo id a0 i) = some b ∧ updE ι a0 (ι id) (oneTo id a0 i) = ι i := fun i b hi h => by
    unfold oneTo at hi ⊢
    by_cases e : i = id
    · subst e
      rw [if_pos rfl, updE_same, updE_same, ← hb0, h]
      exact ⟨rfl, rfl⟩
    · rw [if_neg e] at hi ⊢
      have hne : i ≠ a0 := fun e => by subst e; rw [hSa] at h; cases h
      rw [updE_ne _ hne, updE_ne _ hne, hlow i hi]
      exact ⟨h, rfl⟩
  have hS' : ∀ i b, 1000 ≤ i → s.S i = some b → updE (lowS s.S) a0 (some b0) i = some b ∧ updE ι a0 (ι id) i = ι i := fun i b hi h => by
    have hne : i ≠ a0 := fun e => by subst e; rw [hSa] at h; cases h
    rw [updE_ne _ hne, updE_ne _ hne, hlow i hi]
    exact ⟨h, rfl⟩
  have hinv : ∀ i b, updE (lowS s.S) a0 (some b0) i = some b → (i = a0 ∧ b = b0) ∨ (i ≠ a0 ∧ 1000 ≤ i ∧ s.S i = some b) := fun i b h => by
    by_cases e : i = a0
    · subst e
      rw [updE_same] at h
      cases h
      exact .inl ⟨rfl, rfl⟩
    · rw [updE_ne _ e] at h
      have h' : (if i < 1000 then none else s.S i) = some b := h
      split at h'
      · cases h'
      · exact .inr ⟨e, by omega, h'⟩
  refine ⟨⟨R.size, fun i hi => ?_, R.nod, R.fit, fun i b h => ?_, fun i j b c g h1 h2 g1 g2 => ?_, fun i b g h hg => ?_, R.ext, R.old, R.os, R.grown, R.same, fun i b h => ?_⟩, hS⟩
  · show VRep σ (updE (lowS s.S) a0 (some b0)) _ _ ((s.env i).hand id a0)
    unfold AV.hand
    split
    · rename_i hh
      exact (R.env i hi).hand hS hh
    · exact .any
  · rcases hinv i b h with ⟨rfl, rfl⟩ | ⟨hne, h1, h2⟩
    · rw [updE_same]
      exact (R.blk id _ hb0).samecells (fun v c hv hc => hv.stay hS' hc) hbh
    · rw [updE_ne _ hne]
      exact (R.blk i b h2).samecells (fun v c hv hc => hv.stay hS' hc) (hb i b h1 h2)
  · rcases hinv i b h1 with ⟨rfl, rfl⟩ | ⟨hne, k1, k2⟩ <;> rcases hinv j c h2 with ⟨rfl, rfl⟩ | ⟨hne', k1', k2'⟩
    · rfl
    · rw [updE_same] at g1
      rw [updE_ne _ hne'] at g2
      have := R.inj _ _ _ _ g hb0 k2' g1 g2
      omega
    · rw [updE_same] at g2
      rw [updE_ne _ hne] at g1
      have := R.inj _ _ _ _ g k2 hb0 g1 g2
      omega
    · rw [updE_ne _ hne] at g1
      rw [updE_ne _ hne'] at g2
      exact R.inj _ _ _ _ g k2 k2' g1 g2
  · rcases hinv i b h with ⟨rfl, rfl⟩ | ⟨hne, k1, k2⟩
    · rw [updE_same] at hg
      exact R.base _ _ g hb0 hg
    · rw [updE_ne _ hne] at hg
      exact R.base _ _ g k2 hg
  · obtain ⟨b', h1, h2, h3⟩ := R.upd i b h
    obtain ⟨q1, q2⟩ := hS' i b' (C.clean i b h).1 h1
    exact ⟨b', q1, h2, fun hl => ⟨(h3 hl).1, by rw [q2]; exact (h3 hl).2⟩⟩
theorem Ghost.hand (id a0 : Nat) {b0 : ABlk} (hid : id < 1000) (ha : 1000 ≤ a0) (hSa : s.S a0 = none) (hb0 : s.S id = some b0) (hbh : b0.high = true) (hb : ∀ i b, 1000 ≤ i → s.S i = some b → b.high = true) : Ghost C s ⟨fun i => (s.env i).hand id a0, updE (lowS s.S) a0 (some b0)⟩ := fun a w ⟨σ, ι, R⟩ =>
  ⟨σ, _, (R.hand id a0 hid ha hSa hb0 hbh hb).1⟩
theorem finS_hand {C : Ctx} {rs : List RV} {S' : AStore} {e : AX} {s : AS} (he : match e with | .normal => True | .ret => True | _ => False) (id a0 : Nat) (r0 : AV) {b0 : ABlk} (hid : id < 1000) (ha : 1000 ≤ a0) (hSa : s.S a0 = none) (hb0 : s.S id = some b0) (hbh : b0.high = true) (hb : ∀ i b, 1000 ≤ i → s.S i = some b → b.high = true)
    (h1 : (resAll s rs).map tupV = some r0) (hh : (r0.ren (oneTo id a0)).high = true) (h3 : updE (lowS s.S) a0 (some b0) = S') (hc : Clean S') : FinS C rs (r0.ren (oneTo id a0)) S' e s :=
  ⟨he, s, ⟨fun i => (s.env i).hand id a0, updE (lowS s.S) a0 (some b0)⟩, r0, Ghost.refl _ _, h1, fun σ ι a w R => ⟨σ, _, (R.hand id a0 hid ha hSa hb0 hbh hb).1, fun v hv => hv.hand (R.hand id a0 hid ha hSa hb0 hbh hb).2 hh⟩, h3, hc⟩
theorem upS_up (S : AStore) (i : Nat) : upS S (up1 i) = (S i).map (ABlk.ren up1) := by
  show (if i + 1000 < 1000 then none else (S (i + 1000 - 1000)).map (ABlk.ren up1)) = _
  rw [if_neg (by omega), Nat.add_sub_cancel]
theorem dnS_upd (S : AStore) (i : Nat) (b : ABlk) : dnS (updE S (up1 i) (some b)) = updE (dnS S) i (some (b.ren dn1)) := by
  funext k
  show (updE S (up1 i) (some b) (up1 k)).map _ = updE (dnS S) i _ k
  by_cases h : k = i
  · subst h
    rw [updE_same, updE_same]
    rfl
  · have hne : up1 k ≠ up1 i := fun e => h (by have := congrArg dn1 e; rw [dn_up, dn_up] at this; exact this)
    rw [updE_ne _ hne, updE_ne _ h]
    rfl
theorem clean_upd {S : AStore} (h : Clean S) {i : Nat} (hi : 1000 ≤ i) {b : ABlk} (hb : b.high = true) : Clean (updE S i (some b)) := fun k c hk => by
  by_cases e : k = i
  · subst e
    rw [updE_same] at hk
    cases hk
    exact ⟨hi, hb⟩
  · rw [updE_ne _ e] at hk
    exact h k c hk
end
theorem IWP.loopD {P : Program} {C : Ctx} {mu : List Nat} {Q : AX → AS → Prop} {s : AS} {x : IR} (ds : List Nat) (Inv : Nat → AS → Prop) (m0 : Nat) (h0 : Inv m0 s) (h : ∀ m s, Inv m s → IWP P C mu x (AX.then (fun s' => ∃ m', m' < m ∧ Inv m' (s'.drop ds)) Q) s) (hds : ∀ d ∈ ds, d < 1000 := by decide) : IWP P C mu (.loop x) Q s := by
  refine IWP.loop (fun m s => ∃ s1, Ghost C s s1 ∧ Inv m s1) m0 ⟨s, Ghost.refl _ _, h0⟩ fun m s ⟨s1, hg, hi⟩ => ?_
  refine (IWP.ghost hg (h m s1 hi)).mono fun e s2 he => ?_
  cases e with
  | normal =>
    obtain ⟨m', h1, h2⟩ := he
    exact ⟨m', h1, _, Ghost.drop ds s2 hds, h2⟩
  | _ => exact he
theorem ARep.out {σ : Sto} {S : AStore} {ι : AHnd} {v : Value} {c : AC} (h : ARep σ S ι v c) (hc : outC noS c = some c) : ARep σ noS noH v c := by
  cases h with
  | st h => exact .st h
  | full h => simp [outC, stC] at hc
  | row h1 h2 h3 h4 => simp [outC, stC, noS] at hc
  | part h1 h2 h3 h4 => simp [outC, stC, noS] at hc
  | rest h1 h2 h3 h4 => simp [outC, stC, noS] at hc
  | ptr h1 h2 h3 h4 => simp [outC, stC] at hc
  | mptr h1 h2 h3 h4 => simp [outC, stC] at hc
  | yld h1 h2 h3 h4 => simp [outC, stC] at hc
  | ubool => exact .ubool
  | eptr c h1 h2 hh => exact .eptr c h1 h2 hh
  | @fn f vs caps c h1 h2 h3 =>
    cases caps with
    | nil => exact .fn c h1 h2 (by simp)
    | cons x xs =>
      have hall : (x :: xs).all AC.stay = true := by
        unfold outC at hc
        by_cases e : (x :: xs).all AC.stay = true
        · exact e
        · simp only [e, if_false] at hc
          cases hc
      exact .fn c h1 h2 fun j a ha => (h3 j a ha).staying (List.all_eq_true.1 hall a (List.mem_of_getElem? ha))
  | any h => simp [outC, stC] at hc
theorem outCs_self : ∀ {cs : List AC}, outCs noS cs = some cs → ∀ c ∈ cs, outC noS c = some c
  | [], _, c, hc => by simp at hc
  | x :: xs, h, c, hc => by
    simp only [outCs] at h
    split at h
    · rename_i y ys h1 h2
      simp only [Option.some.injEq, List.cons.injEq] at h
      obtain ⟨rfl, rfl⟩ := h
      rcases List.mem_cons.1 hc with rfl | hc
      · exact h1
      · exact outCs_self h2 c hc
    · cases h
mutual
theorem VRep.out {σ : Sto} {S : AStore} {ι : AHnd} : ∀ {v : Value} {c : AV}, VRep σ S ι v c → outV noS c = some c → VRep σ noS noH v c
  | v, .one c, h, hc => by
    rw [outV, Option.map_eq_some_iff] at hc
    obtain ⟨a, h1, h2⟩ := hc
    cases h2
    cases h with | one h => exact .one (h.out h1)
  | v, .agg cs, h, hc => by
    rw [outV, Option.map_eq_some_iff] at hc
    obtain ⟨a, h1, h2⟩ := hc
    cases h2
    cases h with
    | agg h => exact .agg (All2.of_get h.len fun j x c hx hcj => by
        obtain ⟨x', q1, q2⟩ := h.get hcj
        rw [hx] at q1
        cases q1
        exact q2.out (outCs_self h1 c (List.mem_of_getElem? hcj)))
  | v, .tup vs, h, hc => by
    rw [outV, Option.map_eq_some_iff] at hc
    obtain ⟨a, h1, h2⟩ := hc
    cases h2
    cases h with
    | tup c k1 k2 k3 => exact .tup c k1 k2 (VRep.outs k3 h1)
  | v, .any, h, _ => .any
theorem VRep.outs {σ : Sto} {S : AStore} {ι : AHnd} : ∀ {vs : List AV} {c : Nat → Value}, (∀ j b, vs[j]? = some b → VRep σ S ι (c j) b) → outVs noS vs = some vs → ∀ j b, vs[j]? = some b → VRep σ noS noH (c j) b
  | [], c, h, _, j, b, hb => by simp at hb
  | x :: xs, c, h, hc, j, b, hb => by
    rw [outVs] at hc
    split at hc
    · rename_i y ys h1 h2
      simp only [Option.some.injEq, List.cons.injEq] at hc
      obtain ⟨rfl, rfl⟩ := hc
      cases j with
      | zero =>
        simp at hb
        subst hb
        exact VRep.out (h 0 _ rfl) h1
      | succ j => exact VRep.outs (c := fun j => c (j + 1)) (fun j b hb => h (j + 1) b (by simpa using hb)) h2 j b (by simpa using hb)
    · cases hc
end
theorem ACalls.toS {P : Program} {f : FuncId} {xs : List AV} {S : AStore} {r : AV} (h : ACalls P f xs r) (hx : outVs noS xs = some xs) : ACallsS P f xs S r S := by
  intro hclean σ w vs ι hglob hfit hown hvs
  have hvs' : All2 (VRep σ noS noH) vs xs := All2.of_get hvs.len fun j v x hv hxj => by
    have := VRep.outs (c := fun j => (vs[j]?).getD undef) (σ := σ) (S := S) (ι := ι) (vs := xs) (fun j b hb => by
      obtain ⟨v', h1, h2⟩ := hvs.get hb
      rw [h1]
      exact h2) hx j x hxj
    rw [hv] at this
    exact this
  refine (h σ w vs hglob hfit hvs').mono fun e w' he => ?_
  obtain ⟨v, σ', he1, he2, hf, hext, hb⟩ := he
  have hlt : ∀ id b g, S id = some b → (ι id).g = some g → g < w.heap.size := fun id b g h1 h2 => (hown.1 id b h1).gsome h2
  refine ⟨v, σ', ι, he1, hclean, Upd.refl _ _, ⟨fun id b hid => (hown.1 id b hid).mono hext.keep (Upd.refl _ _) (fun g hg => hb.block g (hlt id b g hid hg)) (fun g hg p hp => hext.old p (by have := hlt id b g hid hg; omega)), hown.2⟩,
    noS_upd (s := ⟨fun _ => .any, S⟩) he2, hf, hext.keep, fun p hp _ => hext.old p hp, ⟨hb.os, hb.tape, hb.output⟩, hb.size, fun g hg _ => hb.block g hg, fun id b g h1 h2 => .inr fun hn => hn id b h1 h2⟩
theorem finS_low {C : Ctx} {rs : List RV} {r : AV} {S' : AStore} {e : AX} {s : AS} (he : match e with | .normal => True | .ret => True | _ => False) (r0 : AV) (h1 : (resAll s rs).map tupV = some r0) (h2 : outV s.S r0 = some r) (hb : ∀ i b, 1000 ≤ i → s.S i = some b → b.high = true) (h3 : lowS s.S = S') (hc : Clean S') : FinS C rs r S' e s := by
  refine ⟨he, s, ⟨fun i => (s.env i).low, lowS s.S⟩, r0, Ghost.refl _ _, h1, fun σ ι a w R => ?_, h3, hc⟩
  exact ⟨σ, ι, R.low hb, fun v hv => noS_upd (s := ⟨fun i => (s.env i).low, lowS s.S⟩) (R.outV hv h2)⟩
theorem finS_same {C : Ctx} {rs : List RV} {r : AV} {e : AX} {s : AS} {S : AStore} (r0 : AV) (hS : Clean S) (he : match e with | .normal => True | .ret => True | _ => False)
    (h1 : (resAll s rs).map tupV = some r0) (h2 : outV s.S r0 = some r) (h4 : ∀ i, 1000 ≤ i → s.S i = S i) : FinS C rs r S e s :=
  finS_low he r0 h1 h2 (fun i b hi hb => (hS i b (by rw [← h4 i hi]; exact hb)).2) (by
    funext i
    unfold lowS
    split
    · exact (clean_none hS (by omega)).symm
    · exact h4 i (by omega)) hS
theorem finS_ghost {C : Ctx} {rs : List RV} {r : AV} {S' : AStore} {e : AX} {s s1 : AS} (hg : Ghost C s s1) (h : FinS C rs r S' e s1) : FinS C rs r S' e s := by
  obtain ⟨he, s2, s3, r0, h1, h2⟩ := h
  exact ⟨he, s2, s3, r0, hg.trans h1, h2⟩
theorem finN {C : Ctx} {rs : List RV} {e : AX} {s : AS} {ty : TypeId} {w n : Nat} {ys : List (List SV)} {mu : Bool} (he : match e with | .normal => True | .ret => True | _ => False) (id : Nat) (hid : id < 1000) (hb0 : s.S id = some (rowB mu ty w ys)) (hlow : ∀ i, 1000 ≤ i → s.S i = none)
    (h1 : (resAll s rs).map tupV = some (.one (.row id n))) : FinS C rs (.one (.row 1000 n)) (fun i => if i = 1000 then some (rowB mu ty w ys) else noS i) e s := by
  have e1 : (AV.one (.row id n)).ren (oneTo id 1000) = .one (.row 1000 n) := by simp [AV.ren, AC.ren, oneTo]
  rw [← e1]
  refine finS_hand he id 1000 _ hid (by decide) (hlow 1000 (by decide)) hb0 (by cases mu <;> rfl) (fun i b hi hb => by rw [hlow i hi] at hb; cases hb) h1 (by rw [e1]; rfl) ?_ ?_
  · funext i
    unfold updE lowS noS
    by_cases h2 : i = 1000
    · rw [if_pos h2, if_pos h2]
    · rw [if_neg h2, if_neg h2]
      split
      · rfl
      · exact hlow i (by omega)
  · intro i b hb
    have hb : (if i = 1000 then some (rowB mu ty w ys) else noS i) = some b := hb
    split at hb
    · rename_i h2
      cases hb
      exact ⟨by omega, by cases mu <;> rfl⟩
    · cases hb

open Cod (wid dat)
inductive Tm where
  | mk (name : ByteArray) (args : List Tm)
def Tm.name : Tm → ByteArray | .mk n _ => n
def Tm.args : Tm → List Tm | .mk _ xs => xs
mutual
def Tm.dat : Tm → Dat
  | .mk n xs => .agg [.str n, .row 2 (Tm.dats xs)]
def Tm.dats : List Tm → List Dat
  | [] => []
  | t :: ts => t.dat :: Tm.dats ts
end
theorem Tm.dats_eq : ∀ xs : List Tm, Tm.dats xs = xs.map Tm.dat
  | [] => rfl
  | t :: ts => by rw [Tm.dats, Tm.dats_eq ts]; rfl
theorem Tm.dat_is {σ : Sto} {n : ByteArray} {xs : List Tm} {cs : List Value} (h : (Tm.dat (.mk n xs)).Is σ cs) :
    ∃ p len cap, cs = [.string n, .slice p len cap] ∧ n.size ≤ maxLen ∧ len = xs.length ∧ len ≤ cap ∧ cap ≤ maxLen ∧ (p = none → cap = 0) ∧ ∃ b o, (len ≠ 0 → p = some ⟨b, o, none⟩) ∧ Dat.RowIs σ 2 (xs.map Tm.dat) b o := by
  rw [Tm.dat, Tm.dats_eq] at h
  obtain ⟨x, y, rfl, ⟨rfl, hn⟩, x', y', rfl, ⟨p, len, cap, rfl, hl, r⟩, rfl⟩ := h
  exact ⟨p, len, cap, rfl, hn, by simpa using hl, r⟩
instance : Cod Tm := ⟨2, Tm.dat, fun σ t cs h => by
  cases t
  obtain ⟨p, len, cap, rfl, _⟩ := Tm.dat_is h
  rfl⟩
def TmV (σ : Sto) (v : Value) (t : Tm) : Prop := ∃ p len cap, v = .agg #[.string t.name, .slice p len cap] ∧ t.name.size ≤ maxLen ∧ Slc σ p len cap t.args
theorem TmV.ext {σ σ' : Sto} {N : Nat} {v : Value} {t : Tm} (h : TmV σ v t) (he : Ext N σ σ') : TmV σ' v t := by
  obtain ⟨p, len, cap, h1, h2, h3⟩ := h
  exact ⟨p, len, cap, h1, h2, h3.ext he⟩
theorem Slc.str {σ : Sto} {p : Option Addr} {len cap : Nat} {xs : List ByteArray} (h : Slc σ p len cap xs) (k : Nat) (hk : k < len) :
    ∃ b o a, p = some ⟨b, o, none⟩ ∧ Hid (xs[k]? = some a) ∧ σ ⟨b, o + k, none⟩ = some (.string a) ∧ a.size ≤ maxLen := by
  have hl := h.length
  obtain ⟨b, o, hp, cs, h1, h2, h3⟩ := h.get k (by omega)
  obtain ⟨rfl, h4⟩ := cells_str.1 h3
  have := h2 0 _ rfl
  exact ⟨b, o, xs[k], hp, Lib.hid (List.getElem?_eq_getElem (by omega)), by simpa [Cod.wid] using this, h4⟩
theorem wf_bounds {n : Int} (h : (Lit.int .i64 n).wf = true) : -9223372036854775808 ≤ n ∧ n ≤ 9223372036854775807 := by
  simpa [Lit.wf, IntKind.min, IntKind.max, IntKind.signed, IntKind.bits] using h
theorem Slc.int {σ : Sto} {p : Option Addr} {len cap : Nat} {xs : List Int} (h : Slc σ p len cap xs) (k : Nat) (hk : k < len) :
    ∃ b o a, p = some ⟨b, o, none⟩ ∧ Hid (xs[k]? = some a) ∧ σ ⟨b, o + k, none⟩ = some (.int .i64 a) ∧ -9223372036854775808 ≤ a ∧ a ≤ 9223372036854775807 := by
  have hl := h.length
  obtain ⟨b, o, hp, cs, h1, h2, h3⟩ := h.get k (by omega)
  obtain ⟨rfl, h4⟩ := cells_int.1 h3
  have := h2 0 _ rfl
  exact ⟨b, o, xs[k], hp, Lib.hid (List.getElem?_eq_getElem (by omega)), by simpa [Cod.wid] using this, wf_bounds h4⟩
theorem take_snoc {α : Type} {xs : List α} {k : Nat} {a : α} (h : xs[k]? = some a) : xs.take (k + 1) = xs.take k ++ [a] := by
  rw [List.take_add_one, h]; rfl
theorem lt_of_get {α : Type} {xs : List α} {k : Nat} {a : α} (h : xs[k]? = some a) : k < xs.length := by
  rcases Nat.lt_or_ge k xs.length with h' | h'
  · exact h'
  · rw [List.getElem?_eq_none h'] at h; cases h
theorem mem_of_get {α : Type} {xs : List α} {k : Nat} {a : α} (h : xs[k]? = some a) : a ∈ xs := List.mem_of_getElem? h
theorem Tm.lt_of_mem {a : Tm} {n : ByteArray} {xs : List Tm} (h : a ∈ xs) : SizeOf.sizeOf a < SizeOf.sizeOf (Tm.mk n xs) := by
  have := List.sizeOf_lt_of_mem h
  simp only [Tm.mk.sizeOf_spec]
  omega

theorem guard_ite (c P Q : Prop) [Decidable c] : ((c → P) ∧ (¬ c → Q)) = if c then P else Q := by
  by_cases h : c <;> simp [h]
theorem ite_conj {c A B : Prop} [Decidable c] (h : (c → A) ∧ (¬ c → B)) : if c then A else B := by
  by_cases hc : c
  · rw [if_pos hc]; exact h.1 hc
  · rw [if_neg hc]; exact h.2 hc
theorem pick_ite (b : Bool) (P Q : Prop) : ((b = true → P) ∧ (b = false → Q)) = if b = true then P else Q := by
  cases b <;> simp
attribute [congr] CallK.congr CallSK.congr
mutual
def encT : Tm → List SV
  | .mk n xs => [.str n, .list (encTs xs)]
def encTs : List Tm → List (List SV)
  | [] => []
  | t :: ts => encT t :: encTs ts
end
theorem encTs_eq : ∀ xs : List Tm, encTs xs = xs.map encT
  | [] => rfl
  | t :: ts => by rw [encTs, encTs_eq ts]; rfl
theorem encT_eq (t : Tm) : encT t = [.str t.name, .list (t.args.map encT)] := by
  cases t
  rw [encT, encTs_eq]
  rfl
class Lens {α : Type} (f : α → List SV) (n : outParam Nat) : Prop where
  ok : ∀ a, (f a).length = n
theorem lens {α : Type} {f : α → List SV} {n : Nat} [h : Lens f n] {ts : List α} : ∀ x ∈ ts.map f, x.length = n := fun x hx => by
  obtain ⟨a, _, rfl⟩ := List.mem_map.1 hx
  exact h.ok a
instance : Lens encT 2 := ⟨fun t => by rw [encT_eq]; rfl⟩
theorem Tm.args_mk (n : ByteArray) (xs : List Tm) : (Tm.mk n xs).args = xs := rfl
theorem Tm.name_mk (n : ByteArray) (xs : List Tm) : (Tm.mk n xs).name = n := rfl
abbrev aInt (n : Int) : AV := .one (.st (.int .i64 n))
abbrev aBool (b : Bool) : AV := .one (.st (.bool b))
abbrev aStr (s : ByteArray) : AV := .one (.st (.str s))
abbrev encI (n : Int) : List SV := [.int .i64 n]
abbrev encS (s : ByteArray) : List SV := [.str s]
abbrev aInts (l : List Int) : AV := .one (.st (.list (l.map encI)))
abbrev aStrs (l : List ByteArray) : AV := .one (.st (.list (l.map encS)))
theorem get_lt {α : Type} {xs : List α} {k : Nat} (h : k < xs.length) : ∃ a, xs[k]? = some a := ⟨xs[k], List.getElem?_eq_getElem h⟩
theorem inR_i64 (n : Int) : inR .i64 n ↔ -9223372036854775808 ≤ n ∧ n ≤ 9223372036854775807 := by
  simp [inR, IntKind.min, IntKind.max, IntKind.signed, IntKind.bits]
theorem known_ints {l : List Int} (h : (SV.list (l.map encI)).known) : l.length ≤ maxLen ∧ ∀ n ∈ l, inR .i64 n := by
  obtain ⟨h1, h2⟩ := h
  refine ⟨by simpa using h1, fun n hn => ?_⟩
  have := knownL_iff.1 (knownLL_iff.1 h2 (encI n) (List.mem_map.2 ⟨n, hn, rfl⟩)) (.int .i64 n) (by simp)
  exact this
theorem maxLen_eq : maxLen = 9223372036854775807 := by simp [maxLen]
theorem known_len {S : AStore} {xs : List (List SV)} (h : (AV.one (.st (.list xs))).known S) : xs.length ≤ 9223372036854775807 := by
  simp only [AV.known, AC.known, SV.known] at h
  rw [maxLen_eq] at h
  exact h.1

def Kd.isCall : Kd → Bool
  | .call _ _ => true
  | .callS _ _ => true
  | .callV _ _ => true
  | .callN _ _ => true
  | .callR _ _ => true
  | .callW _ _ => true
  | .callX _ _ => true
  | .callY _ _ => true
  | .buildFlat _ => false
  | .cutP _ _ _ => false
  | .indexP _ _ _ => false
  | .appP _ _ _ _ _ => false
  | .restP _ _ _ => false
  | .appS _ _ _ => false
  | .loadL _ _ _ => false
  | .indexL _ _ _ => false
  | .buildL _ _ => false
  | .fieldL _ _ => false
  | .lenL _ _ => false
  | .appF _ _ _ _ _ _ => false
  | .clearP _ _ _ _ => false
  | .mov _ => false
  | .pick _ _ _ => false
  | .alloc _ _ => false
  | .box _ _ => false
  | .build _ _ => false
  | .buildSlice _ _ _ _ => false
  | .load _ _ _ => false
  | .store _ _ _ => false
  | .fieldAddr _ _ => false
  | .field _ _ _ _ => false
  | .indexAddr _ _ _ => false
  | .indexArr _ _ _ _ => false
  | .indexStr _ _ => false
  | .bin _ _ _ => false
  | .eqB _ _ _ => false
  | .eqN _ _ => false
  | .eqE _ _ => false
  | .never => false
  | .pan _ => false
  | .iface _ _ => false
  | .strOf _ => false
  | .un _ _ => false
  | .sliceS _ _ _ => false
  | .sliceL _ _ _ _ => false
  | .sliceM _ _ _ _ => false
  | .extract _ _ => false
  | .len _ _ => false
  | .append _ _ _ _ _ _ => false
  | .conv _ _ => false
  | .nilCheck _ => false
  | .mm _ _ _ => false
  | .makeSlice _ _ _ _ _ _ => false
  | .makeFunc _ _ => false
  | .makeMap _ => false
  | .lookup _ _ _ _ _ => false
  | .mapSet _ _ _ _ => false
  | .mapEntry _ _ _ _ => false
  | .entrySet _ _ _ => false
  | .rangeM _ => false
  | .next _ => false
  | .entry _ => false
  | .lenM _ => false
  | .buildArr _ => false
  | .makeMemo => false
  | .memoGet _ _ _ _ => false
  | .memoSet _ _ _ => false
inductive CallG (P : Program) (f : FuncId) (vs : List AV) (d : Option Nat) (l : List Ins) (s : AS) (K : AS → Prop) : Prop
  | mk (r : AV) (h1 : ACalls P f vs r) (h2 : Run P l (s.put d r) K)
inductive CallSG (P : Program) (f : FuncId) (vs : List AV) (S : AStore) (ks : List Nat) (d : Option Nat) (l : List Ins) (env : Nat → AV) (K : AS → Prop) : Prop
  | mk (r : AV) (S' : AStore) (h1 : ACallsS P f vs (upS S) r S') (h2 : (∀ k ∈ ks, dnS S' k = S k) ∧ Run P l ((⟨env, dnS S'⟩ : AS).put d (r.ren dn1)) K)
inductive CallNG (P : Program) (f : FuncId) (vs : List AV) (ks : List Nat) (d : Option Nat) (l : List Ins) (s : AS) (K : AS → Prop) : Prop
  | mk (mu : Bool) (e : TypeId) (w : Nat) (ys : List (List SV)) (h1 : ACallsN P f vs e w ys mu) (h2 : s.S (d.getD 0) = none ∧ (∀ k ∈ ks, (s.set (d.getD 0) (rowB mu e w ys)).S k = s.S k) ∧ Run P l ((s.set (d.getD 0) (rowB mu e w ys)).put d (.one (.row (d.getD 0) ys.length))) K)
inductive CallRG (P : Program) (f : FuncId) (vs : List AV) (d : Option Nat) (l : List Ins) (s : AS) (K : AS → Prop) : Prop
  | mk (r : AV) (rows : List (Nat × ABlk)) (h0 : ∀ q ∈ rows, s.S q.1 = some q.2) (h1 : ∀ T : AStore, (∀ q ∈ rows, T q.1 = some q.2) → ACallsS P f vs (upS T) r (upS T)) (h2 : Run P l (s.put d (r.ren dn1)) K)
inductive CallWG (P : Program) (f : FuncId) (vs : List AV) (ks : List Nat) (d : Option Nat) (l : List Ins) (s : AS) (K : AS → Prop) : Prop
  | mk (r : AV) (rows : List (Nat × ABlk × ABlk)) (h0 : holdS s.S rows) (h1 : ∀ T : AStore, holdS T rows → ACallsS P f vs (upS T) r (upS (turnS T rows))) (h2 : (∀ k ∈ ks, turnS s.S rows k = s.S k) ∧ Run P l ((⟨s.env, turnS s.S rows⟩ : AS).put d (r.ren dn1)) K)
inductive CallXG (P : Program) (S : AStore) (hs : Bool) (G : AStore → (AV → AStore → Prop) → Prop) (d : Option Nat) (l : List Ins) (env : Nat → AV) (K : AS → Prop) : Prop
  | mk (T : AStore) (Post : AV → AStore → Prop) (h1 : Clean T) (h2 : ∀ i, 1000 ≤ i → S i = T i) (h3 : hs = true) (h4 : G T Post) (h5 : ∀ r S', Clean S' → Post r S' → Run P l ((⟨env, joinS S S'⟩ : AS).put d r) K)
def Kd.goC (P : Program) (d : Option Nat) (s : AS) (t : Tag) (l : List Ins) (K : AS → Prop) : Kd → Prop
  | .call f xs => match t with
    | .no => match outVs s.S (s.evs xs) with
      | some vs => CallG P f vs d l s K
      | none => False
    | _ => False
  | .callR f xs => match t with
    | .no => CallRG P f (AV.rens up1 (s.evs xs)) d l s K
    | _ => False
  | .callW f xs => match t with
    | .no => CallWG P f (AV.rens up1 (s.evs xs)) [] d l s K
    | .keeps ks => CallWG P f (AV.rens up1 (s.evs xs)) ks d l s K
    | .onb _ => False
  | .callX f xs => match t with
    | .no => CallXG P s.S (AV.highs ((s.evs xs).map (argX s.S))) (ACallsR P f ((s.evs xs).map (argX s.S))) d l s.env K
    | _ => False
  | .callY f xs => match t with
    | .no => CallXG P s.S ((s.ev f).high && AV.highs ((s.evs xs).map (argX s.S))) (AYields P (s.ev f) ((s.evs xs).map (argX s.S))) d l s.env K
    | _ => False
  | .callN f xs => match t with
    | .no => match outVs s.S (s.evs xs) with
      | some vs => CallNG P f vs [] d l s K
      | none => False
    | .keeps ks => match outVs s.S (s.evs xs) with
      | some vs => CallNG P f vs ks d l s K
      | none => False
    | .onb _ => False
  | .callS f xs => match t with
    | .no => CallSG P f (AV.rens up1 (s.evs xs)) s.S [] d l s.env K
    | .keeps ks => CallSG P f (AV.rens up1 (s.evs xs)) s.S ks d l s.env K
    | .onb _ => False
  | .callV f xs => match s.ev f with
    | .one (.fn g caps) => plainF P g = true ∧ match t with
      | .no => CallSG P g (AV.rens up1 (s.evs xs ++ caps.map .one)) s.S [] d l s.env K
      | .keeps ks => CallSG P g (AV.rens up1 (s.evs xs ++ caps.map .one)) s.S ks d l s.env K
      | .onb _ => False
    | _ => False
  | _ => False
def Run2 (P : Program) : List Ins → AS → (AS → Prop) → Prop
  | [], s, K => K s
  | i :: l, s, K => match i.kd.isCall with
    | false => match i.guard with
      | none => i.kd.goT P (i.dst.getD 0) s i.tag fun v s' => Run2 P l (s'.put i.dst v) K
      | some (g, want) => match s.env g with
        | .one (.st (.bool b)) => (b = want → i.kd.goT P (i.dst.getD 0) s i.tag fun v s' => Run2 P l (s'.put i.dst v) K) ∧ (¬ b = want → Run2 P l (s.put i.dst (.tup [])) K)
        | .tup [] => Run2 P l (s.put i.dst (.tup [])) K
        | _ => False
    | true => match i.guard with
      | none => i.kd.goC P i.dst s i.tag l K
      | some (g, want) => match s.env g with
        | .one (.st (.bool b)) => (b = want → i.kd.goC P i.dst s i.tag l K) ∧ (¬ b = want → Run2 P l (s.put i.dst (.tup [])) K)
        | .tup [] => Run2 P l (s.put i.dst (.tup [])) K
        | _ => False
section
variable {P : Program}
theorem goC_run {kd : Kd} {d : Option Nat} {s : AS} {t : Tag} {l : List Ins} {K : AS → Prop} (h : kd.goC P d s t l K) : kd.goT P (d.getD 0) s t fun v s' => Run P l (s'.put d v) K := by
  cases kd <;> simp only [Kd.goC] at h
  case call f xs =>
    cases t <;> simp only at h
    split at h
    · rename_i vs e
      obtain ⟨r, h1, h2⟩ := h
      simp only [Kd.goT, Kd.go, e]
      exact ⟨r, h1, trivial, h2⟩
    · exact h.elim
  case callN f xs =>
    cases t <;> simp only at h
    · split at h
      · rename_i vs e
        obtain ⟨mu, ty, w, ys, h1, h2, _, h3⟩ := h
        simp only [Kd.goT, Kd.go, e]
        exact ⟨mu, ty, w, ys, h1, h2, trivial, h3⟩
      · exact h.elim
    · split at h
      · rename_i vs e
        obtain ⟨mu, ty, w, ys, h1, h2, h4, h3⟩ := h
        simp only [Kd.goT, Kd.go, e]
        exact ⟨mu, ty, w, ys, h1, h2, h4, h3⟩
      · exact h.elim
  case callW f xs =>
    cases t <;> simp only at h
    · obtain ⟨r, rows, h0, h1, _, h2⟩ := h
      simp only [Kd.goT, Kd.go]
      exact ⟨r, rows, h0, h1, trivial, h2⟩
    · obtain ⟨r, rows, h0, h1, hk, h2⟩ := h
      simp only [Kd.goT, Kd.go]
      exact ⟨r, rows, h0, h1, hk, h2⟩
  case callX f xs =>
    cases t <;> simp only at h
    obtain ⟨T, Post, h1, h2, h3, h4, h5⟩ := h
    exact ⟨T, Post, h1, h2, h3, h4, fun r S' k1 k2 => ⟨trivial, h5 r S' k1 k2⟩⟩
  case callY f xs =>
    cases t <;> simp only at h
    obtain ⟨T, Post, h1, h2, h3, h4, h5⟩ := h
    exact ⟨T, Post, h1, h2, h3, h4, fun r S' k1 k2 => ⟨trivial, h5 r S' k1 k2⟩⟩
  case callR f xs =>
    cases t <;> simp only at h
    obtain ⟨r, rows, h0, h1, h2⟩ := h
    simp only [Kd.goT, Kd.go]
    exact ⟨r, rows, h0, h1, trivial, h2⟩
  case callS f xs =>
    cases t <;> simp only at h
    · obtain ⟨r, S', h1, h2, h3⟩ := h
      exact ⟨r, S', h1, trivial, h3⟩
    · obtain ⟨r, S', h1, h2, h3⟩ := h
      exact ⟨r, S', h1, h2, h3⟩
  case callV f xs =>
    split at h
    · rename_i g caps e
      obtain ⟨hp, h⟩ := h
      cases t <;> simp only at h
      · obtain ⟨r, S', h1, h2, h3⟩ := h
        simp only [Kd.goT, Kd.go, e]
        exact ⟨hp, r, S', h1, trivial, h3⟩
      · obtain ⟨r, S', h1, h2, h3⟩ := h
        simp only [Kd.goT, Kd.go, e]
        exact ⟨hp, r, S', h1, h2, h3⟩
    · exact h.elim
theorem run2_run : ∀ {l : List Ins} {s : AS} {K : AS → Prop}, Run2 P l s K → Run P l s K
  | [], s, K, h => h
  | i :: l, s, K, h => by
    unfold Run2 at h
    unfold Run
    split at h
    · split at h
      · rename_i e
        simp only [e]
        exact goT_mono h fun v s' _ h' => run2_run h'
      · rename_i g want e
        simp only [e]
        split at h
        · rename_i b e2
          simp only [e2]
          exact ⟨fun hb => goT_mono (h.1 hb) fun v s' _ h' => run2_run h', fun hb => run2_run (h.2 hb)⟩
        · rename_i e2
          simp only [e2]
          exact run2_run h
        · exact h.elim
    · split at h
      · rename_i e
        simp only [e]
        exact goC_run h
      · rename_i g want e
        simp only [e]
        split at h
        · rename_i b e2
          simp only [e2]
          exact ⟨fun hb => goC_run (h.1 hb), fun hb => run2_run (h.2 hb)⟩
        · rename_i e2
          simp only [e2]
          exact run2_run h
        · exact h.elim
theorem keep_run2 {l : List Ins} {s : AS} {K : AS → Prop} {A : Prop} (h : A ∧ Run2 P l s K) : A ∧ Run P l s K := ⟨h.1, run2_run h.2⟩
theorem IWP.ops2 {C : Ctx} {mu : List Nat} {Q : AX → AS → Prop} {s : AS} {l : List Ins} (h : ∀ K : AS → Prop, (∀ s, Q .normal s → K s) → Run2 P l s K) : IWP P C mu (.ops l) Q s := IWP.opsK fun K hK => run2_run (h K hK)
end
attribute [go_sem] Ins.i Ins.m Ins.L Ins.l Ins.f Ins.s Opd.n rowB turnS Run2 Kd.isCall Kd.goC Kd.goT Tag.ok Kd.ptrOpd ptrIs List.forall_mem_cons List.not_mem_nil Kd.go AS.ev AS.evs AS.put AS.set updE AV.cells fills elems elemsP stP stPs stC stCs outC outCs outV outVs flats blkCells idxK listOf cutOf lenOfA binI binS optI pack splice ABlk.len AS.start AS.startS noS List.getElem?_cons_zero List.getElem?_cons_succ List.getElem?_nil List.getElem?_map Option.isSome_none Option.isSome_some Option.map_some Option.map_none Option.getD_some Option.getD_none List.length_map List.length_cons List.length_nil List.length_append List.map_cons List.map_nil List.take_succ_cons List.take_zero List.take_nil List.drop_succ_cons List.drop_zero List.drop_nil List.nil_append List.cons_append List.append_nil Nat.zero_add Nat.add_zero Nat.le_refl Nat.zero_le if_true if_false Bool.false_eq_true true_and and_true Option.some.injEq Int.toNat_natCast Int.natCast_nonneg Int.ofNat_eq_natCast ite_self decide_true decide_false not_true_eq_false not_false_eq_true true_implies false_implies implies_true Bool.true_eq_false eq_self Bool.not_true Bool.not_false beq_self_eq_true Tm.args_mk Tm.name_mk AV.rens AV.ren AC.ren AC.rens ABlk.ren upS_up dn_up dnS_upd dn_upS
theorem upS_set (T : AStore) (i : Nat) (b : ABlk) : upS (updE T i (some b)) = updE (upS T) (up1 i) (some (b.ren up1)) := by
  funext k
  show (if k < 1000 then none else (updE T i (some b) (k - 1000)).map (ABlk.ren up1)) = _
  by_cases e : k = up1 i
  · subst e
    rw [updE_same, if_neg (by have := up1_le i; omega), show up1 i - 1000 = i from dn_up i, updE_same]
    rfl
  · rw [updE_ne _ e]
    by_cases hk : k < 1000
    · rw [if_pos hk]
      show none = if k < 1000 then none else _
      rw [if_pos hk]
    · rw [if_neg hk, updE_ne _ (fun h => e (by rw [← h]; exact (up_dn (by omega)).symm))]
      show _ = if k < 1000 then none else _
      rw [if_neg hk]
abbrev Wo := @IWP.ops2
abbrev Wp := @IWP.cond
abbrev Wq := @run2_run
abbrev Wr := @keep_run2
abbrev iC := @ite_conj
abbrev Cg := @CallG.mk
abbrev dT := @decide_eq_true_eq
abbrev dF := @decide_eq_false_iff_not
abbrev nL := @Int.ofNat_lt
abbrev eT := @encT_eq
abbrev iR := @inR_i64
attribute [go_sem ↓] guard_ite pick_ite
theorem Ai {a b : Prop} (k : b) (h : a := by first | omega | exact lens | (simp [maxLen_eq] <;> omega)) : a ∧ b := ⟨h, k⟩
theorem Wz0 {id id' : Nat} {Q : AX → AS → Prop} {s : AS} (h : Q (.exit id') s) (hne : id' ≠ id := by decide) : AX.inBlock id Q (.exit id') s := inBlock_away hne h
theorem fN {α : Type} (p : α → Prop) : ∀ x ∈ ([] : List α), p x := List.forall_mem_nil p
class Step (goal : Prop) (prev : outParam Prop) : Prop where
  imp : prev → goal
theorem W {goal prev : Prop} [s : Step goal prev] (h : prev) : goal := s.imp h
section
variable {P : Program} {C : Ctx} {mu : List Nat} {x y : IR} {Q : AX → AS → Prop} {s : AS} {id : Nat} {K : AS → Prop}
instance : Step (IWP P C mu (.seq x y) Q s) (IWP P C mu x (seqQ P C mu y Q) s) := ⟨IWP.seq⟩
instance : Step (seqQ P C mu y Q .normal s) (IWP P C mu y Q s) := ⟨seqQ_normal⟩
instance : Step (IWP P C mu (.block id x) Q s) (IWP P C mu x (AX.inBlock id Q) s) := ⟨IWP.block⟩
instance : Step (IWP P C mu .skip Q s) (Q .normal s) := ⟨IWP.skip⟩
instance : Step (IWP P C mu (.exit id) Q s) (Q (.exit id) s) := ⟨IWP.exit⟩
instance : Step (IWP P C mu .ret Q s) (Q .ret s) := ⟨IWP.ret⟩
instance : Step (seqQ P C mu y Q (.exit id) s) (Q (.exit id) s) := ⟨seqQ_exit⟩
instance : Step (seqQ P C mu y Q .ret s) (Q .ret s) := ⟨seqQ_ret⟩
instance : Step (AX.inBlock id Q .normal s) (Q .normal s) := ⟨inBlock_normal⟩
instance : Step (AX.inBlock id Q (.exit id) s) (Q .normal s) := ⟨inBlock_here⟩
instance : Step (AX.inBlock id Q .ret s) (Q .ret s) := ⟨inBlock_ret⟩
instance : Step (AX.then K Q (.exit id) s) (Q (.exit id) s) := ⟨then_exit⟩
instance : Step (AX.then K Q .ret s) (Q .ret s) := ⟨then_ret⟩
class StepC (goal : Prop) (prev : outParam Prop) : Prop where
  imp : prev → goal
class StepB (goal : Prop) (prev : outParam Prop) : Prop where
  imp : prev → goal
theorem U {goal prev : Prop} [s : StepC goal prev] (h : prev) : goal := s.imp h
instance {l : List Ins} : StepC (Run P l s K) (Run2 P l s K) := ⟨run2_run⟩
instance {l : List Ins} {A : Prop} : StepC (A ∧ Run P l s K) (A ∧ Run2 P l s K) := ⟨keep_run2⟩
instance {l : List Ins} : StepB (Run P l s K) (Run2 P l s K) := ⟨run2_run⟩
instance {l : List Ins} {A : Prop} : StepB (A ∧ Run P l s K) (A ∧ Run2 P l s K) := ⟨keep_run2⟩
instance {c0 : Opd} : StepB (IWP P C mu (.cond c0 x y) Q s) (match s.ev c0 with | .one (.st (.bool b)) => (b = true → IWP P C mu x Q s) ∧ (b = false → IWP P C mu y Q s) | .one .ubool => IWP P C mu x Q s ∧ IWP P C mu y Q s | _ => False) := ⟨IWP.cond⟩
end
theorem IWP.fresh {P : Program} {C : Ctx} {mu : List Nat} {x : IR} {Q : AX → AS → Prop} {s : AS} (h1000 : ∀ i, 1000 ≤ i → s.S i = none) (h : ∀ env' : Nat → AV, (∀ i v, s.env i = .one (.st v) → env' i = .one (.st v)) → IWP P C mu x Q ⟨env', noS⟩) : IWP P C mu x Q s := by
  refine IWP.ghost (Ghost.low (s := s) fun i b hi hb => by rw [h1000 i hi] at hb; cases hb) ?_
  have e : lowS s.S = noS := by
    funext i
    show (if i < 1000 then none else s.S i) = none
    split
    · rfl
    · exact h1000 i (by omega)
  rw [e]
  exact h _ fun i v hv => by rw [hv]; rfl

def APan (P : Program) (f : FuncId) (xs : List AV) (S : AStore) (v : Value) (S' : AStore) : Prop :=
  Clean S → ∀ (σ : Sto) (w : World) (vs : List Value) (ι : AHnd), GlobIn σ → Fit σ w → Owned σ S ι w → All2 (VRep σ S ι) vs xs →
    Calls P f vs.toArray w fun e w' => ∃ σ' ι', e = .panicked [{ v := v, recovered := false }] ∧ Clean S' ∧ Upd S ι S' ι' ∧ Owned σ' S' ι' w' ∧ Fit σ' w' ∧ (∀ p x, σ p = some x → σ' p = some x) ∧
      (∀ p : Addr, p.block < w.heap.size → notOf S ι p.block → σ' p = σ p) ∧ (w'.os = w.os ∧ w'.tape = w.tape ∧ w'.output = w.output) ∧ w.heap.size ≤ w'.heap.size ∧
      (∀ g, g < w.heap.size → notOf S ι g → w'.heap[g]? = w.heap[g]?) ∧ (∀ id b g, S' id = some b → (ι' id).g = some g → w.heap.size ≤ g ∨ ¬ notOf S ι g)
section
variable {P : Program} {C : Ctx} {a : Act} {w : World} {σ : Sto} {ι : AHnd} {s : AS} {Q : Exit → Act → World → Prop} {o : Oper}
theorem callPan_core {f : FuncId} {vs : List Value} {avs : List AV} {v : Value} {S' : AStore} {next : Act → World → Prop} (R : Refs C σ ι s a w) (hrun : (execOp a.eval o).run P w = .ok (.enter f vs.toArray) w) (hvs : All2 (VRep σ s.S ι) vs avs)
    (h : APan P f (AV.rens up1 avs) (upS s.S) v S') (hQ : ∀ a' w', Holds C ⟨s.env, dnS S'⟩ a' w' → Q (.panic [{ v := v, recovered := false }]) a' w') : o.wp P a w next Q := by
  have hup : ∀ i, dn1 (up1 i) = i := dn_up
  have hS : ∀ i b, s.S i = some b → upS s.S (up1 i) = some (b.ren up1) := fun i b hb => upS_some hb
  obtain ⟨ι1, hι1⟩ : ∃ ι1 : AHnd, ∀ i, ι1 i = ι (dn1 i) := ⟨fun i => ι (dn1 i), fun _ => rfl⟩
  have hι : ∀ i b, s.S i = some b → ι1 (up1 i) = ι i := fun i b _ => by rw [hι1, hup]
  have hown : Owned σ (upS s.S) ι1 w := by
    refine ⟨fun id b hb => ?_, fun id id' b b' g h1 h2 g1 g2 => ?_⟩
    · obtain ⟨hle, b', h1, rfl⟩ := upS_inv hb
      have := BRep.ren (S2 := upS s.S) (ι2 := ι1) (ρ := up1) hS hι (R.blk _ _ h1)
      rw [hι1]
      exact this
    · obtain ⟨l1, c1, k1, _⟩ := upS_inv h1
      obtain ⟨l2, c2, k2, _⟩ := upS_inv h2
      rw [hι1] at g1 g2
      have := R.inj _ _ _ _ g k1 k2 g1 g2
      rw [← up_dn l1, ← up_dn l2, this]
  have hargs : All2 (VRep σ (upS s.S) ι1) vs (AV.rens up1 avs) := by
    rw [AV.rens_eq]
    exact (hvs.mono fun _ _ x => VRep.ren (S2 := upS s.S) (ι2 := ι1) (ρ := up1) hS hι x).map_right
  unfold Oper.wp
  rw [hrun, Oper.upon_enter]
  refine (h (clean_upS _) σ w vs _ (C.glob.mono R.ext) R.fit hown hargs).mono fun e w' he => ?_
  obtain ⟨σ', ι', rfl, hclean, hupd, hown', hf', hkeep, hold, hos, hsz, hsame, hbase⟩ := he
  have hSd : ∀ i b, S' i = some b → dnS S' (dn1 i) = some (b.ren dn1) := fun i b hb => dnS_some (hclean i b hb).1 hb
  obtain ⟨ι2, hι2⟩ : ∃ ι2 : AHnd, ∀ i, ι2 i = ι' (up1 i) := ⟨fun i => ι' (up1 i), fun _ => rfl⟩
  have hιd : ∀ i b, S' i = some b → ι2 (dn1 i) = ι' i := fun i b hb => by
    rw [hι2, up_dn (hclean i b hb).1]
  have hu : Upd s.S ι (dnS S') ι2 := fun id b hb => by
    obtain ⟨b', h1, h2, h3⟩ := hupd _ _ (hS id b hb)
    have h4 := hSd _ _ h1
    rw [hup] at h4
    refine ⟨_, h4, by rw [ren_len] at h2 ⊢; exact h2, fun hl => ?_⟩
    rw [ren_len] at hl
    obtain ⟨q1, q2⟩ := h3 (by rw [ren_len]; exact hl)
    refine ⟨by rw [ren_wid] at q1 ⊢; exact q1, ?_⟩
    rw [hι2, q2, hι1, hup]
  have hnot : ∀ g, g < C.N → ¬ C.G g → notOf (upS s.S) ι1 g := fun g h1 h2 id b hb hg => by
    obtain ⟨_, b', k1, _⟩ := upS_inv hb
    rw [hι1] at hg
    rcases R.base _ _ g k1 hg with h | h
    · omega
    · exact h2 h
  have R' : Refs C σ' ι2 ⟨s.env, dnS S'⟩ a w' := by
    refine ⟨R.size, fun i hi => (R.env i hi).mono hkeep hu, R.nod.mono (fun D h => (hsame D (Array.getElem?_eq_some_iff.1 h).1 (notOf_mark hown.1 h)).trans h), hf', fun id b hb => ?_, fun id id' b b' g h1 h2 g1 g2 => ?_, fun id b g hb hg => ?_, fun p x hx => hkeep _ _ (R.ext p x hx), fun p h1 h2 => ?_, ⟨hos.1.trans R.os.1, hos.2.1.trans R.os.2.1, hos.2.2.trans R.os.2.2⟩, ⟨Nat.le_trans R.grown.1 hsz, Nat.le_trans R.grown.2 hsz⟩, fun g h1 h2 => ?_, R.upd.trans hu⟩
    · obtain ⟨b', h1, rfl⟩ := dnS_inv hb
      have := BRep.ren (S2 := dnS S') (ι2 := ι2) (ρ := dn1) hSd hιd (hown'.1 _ _ h1)
      rw [hι2]
      exact this
    · obtain ⟨c1, k1, _⟩ := dnS_inv h1
      obtain ⟨c2, k2, _⟩ := dnS_inv h2
      rw [hι2] at g1 g2
      have := congrArg dn1 (hown'.2 _ _ _ _ g k1 k2 g1 g2)
      rw [hup, hup] at this
      exact this
    · obtain ⟨b', h1, _⟩ := dnS_inv hb
      rw [hι2] at hg
      rcases hbase _ _ g h1 hg with h2 | h2
      · exact .inl (by have := R.grown.1; omega)
      · by_cases hN : g < C.N
        · by_cases hG : C.G g
          · exact .inr hG
          · exact absurd (hnot g hN hG) h2
        · exact .inl (by omega)
    · exact (hold p (by have := R.grown.1; omega) (hnot _ h1 h2)).trans (R.old p h1 h2)
    · exact (hsame g (by have := R.grown.1; omega) (hnot g h1 h2)).trans (R.same g h1 h2)
  exact hQ _ _ ⟨σ', _, R'⟩
def PanAt (P : Program) (kd : Kd) (s : AS) (E : Value → AStore → Prop) : Prop := match kd with
  | .callS f xs => ∃ v S', APan P f (AV.rens up1 (s.evs xs)) (upS s.S) v S' ∧ E v (dnS S')
  | .pan x => match s.ev x with
    | .one (.st (.lit (.iface t u))) => E (.iface t u) s.S
    | _ => False
  | _ => False
theorem go_env {kd : Kd} {d : Nat} {K : AV → AS → Prop} (h : kd.go P d s K) : kd.go P d s fun v s' => K v s' ∧ s'.env = s.env := by
  by_cases hdet : kd.det = true
  · obtain ⟨v, S1, h1, h2, h3⟩ := go_loc hdet h
    exact (h3 s.env (fun _ _ => rfl)).1 _ ⟨h1, rfl⟩
  · cases kd
    case next x =>
      simp only [Kd.go] at h ⊢
      split at h
      · exact ⟨fun hj => ⟨h.1 hj, trivial⟩, fun j x c h1 h2 h3 => ⟨h.2 j x c h1 h2 h3, rfl⟩⟩
      · exact h.elim
    case memoGet ok z m k =>
      simp only [Kd.go] at h ⊢
      split at h
      · exact ⟨h.1, ⟨h.2.1, trivial⟩, fun cs' ds' x h1 h2 h3 => ⟨h.2.2 cs' ds' x h1 h2 h3, trivial⟩⟩
      · exact h.elim
    case callX f xs =>
      obtain ⟨T, Post, h1, h2, h3, h4, h5⟩ := h
      exact ⟨T, Post, h1, h2, h3, h4, fun r S' k1 k2 => ⟨h5 r S' k1 k2, rfl⟩⟩
    case callY f xs =>
      obtain ⟨T, Post, h1, h2, h3, h4, h5⟩ := h
      exact ⟨T, Post, h1, h2, h3, h4, fun r S' k1 k2 => ⟨h5 r S' k1 k2, rfl⟩⟩
    all_goals exact absurd rfl hdet
theorem put_env' {s' : AS} {dd : Option Nat} {v : AV} {t : Nat} (h : dd ≠ some t) : (s'.put dd v).env t = s'.env t := put_env (env := s'.env) (S1 := s'.S) h
theorem ins_env {i : Ins} {K : AS → Prop} (h : i.go P s K) : i.go P s fun s' => K s' ∧ ∀ t, i.dst ≠ some t → s'.env t = s.env t := by
  have hgo : ∀ {d : Nat} {K' : AV → AS → Prop}, i.kd.goT P d s i.tag K' → i.kd.goT P d s i.tag fun v s' => K' v s' ∧ s'.env = s.env := fun hh => go_mono (go_env hh) fun v s' hv => ⟨hv.1.1, hv.1.2, hv.2⟩
  have hput : ∀ (v : AV) (s' : AS), s'.env = s.env → ∀ t, i.dst ≠ some t → (s'.put i.dst v).env t = s.env t := fun v s' he t ht => by rw [put_env' ht, he]
  unfold Ins.go at h ⊢
  revert h
  cases i.guard with
  | none =>
    intro h
    exact goT_mono (hgo h) fun v s' _ hv => ⟨hv.1, hput v s' hv.2⟩
  | some gw =>
    obtain ⟨g, want⟩ := gw
    intro h
    dsimp only at h ⊢
    split at h
    · rename_i b e1
      refine ⟨fun hb => goT_mono (hgo (h.1 hb)) fun v s' _ hv => ⟨hv.1, hput v s' hv.2⟩, fun hb => ⟨h.2 hb, hput _ _ rfl⟩⟩
    · exact ⟨h, hput _ _ rfl⟩
    · exact h.elim
theorem insMono {i : Ins} {K K' : AS → Prop} (h : i.go P s K) (hm : ∀ s, K s → K' s) : i.go P s K' := by
  unfold Ins.go at h ⊢
  revert h
  cases i.guard with
  | none =>
    intro h
    exact goT_mono h fun v s' _ hv => hm _ hv
  | some gw =>
    obtain ⟨g, want⟩ := gw
    intro h
    dsimp only at h ⊢
    split at h
    · exact ⟨fun hb => goT_mono (h.1 hb) fun v s' _ hv => hm _ hv, fun hb => hm _ (h.2 hb)⟩
    · exact hm _ h
    · exact h.elim
theorem runMono {K K' : AS → Prop} (hm : ∀ s, K s → K' s) : ∀ {l : List Ins} {s : AS}, Run P l s K → Run P l s K'
  | [], s, h => hm _ h
  | i :: l, s, h => by
    rw [run_cons] at h ⊢
    exact insMono h fun s' h' => runMono hm h'
theorem panAt_mono {kd : Kd} {E E' : Value → AStore → Prop} (h : PanAt P kd s E) (hm : ∀ v S', E v S' → E' v S') : PanAt P kd s E' := by
  cases kd <;> simp only [PanAt] at h ⊢
  case callS f xs =>
    obtain ⟨v, S', h1, h2⟩ := h
    exact ⟨v, S', h1, hm _ _ h2⟩
  case pan x =>
    split at h
    · exact hm _ _ h
    · exact h.elim
theorem panAt_loc {kd : Kd} {s1 : AS} {E : Value → AStore → Prop} (h : PanAt P kd s1 E) (hS : s1.S = s.S) (he : ∀ t ∈ kd.reads, s1.env t = s.env t) : PanAt P kd s E := by
  cases kd <;> simp only [PanAt] at h
  case callS f xs =>
    obtain ⟨v, S', h1, h2⟩ := h
    refine ⟨v, S', ?_, h2⟩
    have e : s.evs xs = s1.evs xs := evs_loc (s := s1) (env' := s.env) (S' := s.S) fun t ht => (he t ht).symm
    rw [e, ← hS]
    exact h1
  case pan x =>
    have e : s.ev x = s1.ev x := ev_loc (s := s1) (env' := s.env) (S' := s.S) fun t ht => (he t ht).symm
    simp only [PanAt, e]
    rw [← hS]
    exact h
theorem trKd0_callS {n : Nat} {mu : List Nat} {dst : Option Nat} {op : Op} {f : Nat} {xs : List Opd} (h : trKd0 P n mu dst op = some (.callS f xs)) : ∃ c, op = .call c ∧ trCall P n mu dst c = some (.callS f xs) := by
  unfold trKd0 at h
  split at h
  case h_21 c => exact ⟨c, rfl, h⟩
  all_goals (exfalso; revert h; (repeat' split) <;> simp)
theorem trCall_callS {n : Nat} {mu : List Nat} {dst : Option Nat} {c : Call} {f : Nat} {xs : List Opd} (h : trCall P n mu dst c = some (.callS f xs)) : c.callee = .value (.func f) ∧ plainF P f = true ∧ trOpds n c.args.toList = some xs := by
  unfold trCall at h
  split at h
  case h_6 g hc =>
    split at h
    · rename_i hpl
      rw [Option.map_eq_some_iff] at h
      obtain ⟨ys, hy, he⟩ := h
      have hfx : g = f ∧ ys = xs := by
        revert he
        (repeat' split) <;> simp <;> (intro h1 h2; exact ⟨h1, h2⟩)
      obtain ⟨rfl, rfl⟩ := hfx
      exact ⟨hc, hpl, hy⟩
    · cases h
  all_goals (exfalso; revert h; (repeat' split) <;> simp)
theorem trCall_pan {n : Nat} {mu : List Nat} {dst : Option Nat} {c : Call} {x : Opd} : ¬ trCall P n mu dst c = some (.pan x) := by
  intro h
  unfold trCall at h
  split at h
  all_goals (revert h; (repeat' split) <;> simp)
  all_goals (intro _ _; (repeat' split) <;> simp)
theorem trKd0_pan {n : Nat} {mu : List Nat} {dst : Option Nat} {op : Op} {x : Opd} : ¬ trKd0 P n mu dst op = some (.pan x) := by
  intro h
  unfold trKd0 at h
  split at h
  case h_21 c => exact trCall_pan h
  all_goals (revert h; (repeat' split) <;> simp)
theorem trMemo_not {n : Nat} {op : Op} {k : Kd} (h : trMemo P n op = some k) : (∀ f xs, k ≠ .callS f xs) ∧ ∀ x, k ≠ .pan x := by
  refine ⟨fun f xs e => ?_, fun x e => ?_⟩ <;> subst e <;> unfold trMemo at h <;> revert h <;> (repeat' split) <;> simp
theorem pan_sound {mu : List Nat} {ops : List Oper} {k k' : Ins} (htr : trIns P C.n mu ops o = some k) (hk' : k'.dst = k.dst ∧ k'.guard = k.guard ∧ k'.kd = k.kd) (hg : k'.guard = none) {E : Value → AStore → Prop} {next : Act → World → Prop} (R : Refs C σ ι s a w) (h : PanAt P k'.kd s E)
    (hQ : ∀ v S' a' w', E v S' → Holds C ⟨s.env, S'⟩ a' w' → Q (.panic [{ v := v, recovered := false }]) a' w') : o.guard = none ∧ o.wpIn (fen C.ro) 0 P a w next Q := by
  unfold trIns at htr
  split at htr
  · rename_i g kd e1 e2
    cases htr
    obtain ⟨hk1, hk2, hk3⟩ := hk'
    dsimp only at hk1 hk2 hk3
    rw [hg] at hk2
    subst hk2
    refine ⟨?_, ?_⟩
    · cases hog : o.guard with
      | none => rfl
      | some jw =>
        rw [hog] at e1
        obtain ⟨j, want⟩ := jw
        simp only [trGuard] at e1
        split at e1
        · split at e1
          · split at e1 <;> cases e1
          · cases e1
        · cases e1
    · rw [hk3] at h
      clear hk3
      unfold trKd at e2
      cases kd <;> simp only [PanAt] at h
      case callS f xs =>
        obtain ⟨v, S', h1, h2⟩ := h
        have h0 : trKd0 P C.n mu o.dst o.op = some (.callS f xs) := by
          split at e2
          · rename_i k0 hk0
            have e2 := stillIf_callS (Option.some.inj e2)
            subst e2
            exact hk0
          · split at e2
            · rename_i k0 hk1
              cases e2
              exact absurd rfl ((trMemo_not hk1).1 f xs)
            · split at e2
              · rw [Option.map_eq_some_iff] at e2
                obtain ⟨_, _, e⟩ := e2
                cases e
              · exfalso
                revert e2
                (repeat' split) <;> simp
              · cases e2
        obtain ⟨c, ho, hc⟩ := trKd0_callS h0
        obtain ⟨hcal, hpl, hy⟩ := trCall_callS hc
        refine wpIn_of_wp (fun c' e => by rw [e] at ho; cases ho) ?_
        refine callPan_core (vs := c.args.toList.map a.eval) R ?_ (R.evs hy) h1 fun a' w' hH => hQ _ _ _ _ h2 hH
        have := run_enter (P := P) (w := w) (args := c.args.map a.eval) hpl
        have e : (c.args.toList.map a.eval).toArray = c.args.map a.eval := by rw [← Array.toList_map, Array.toArray_toList]
        rw [e]
        obtain ⟨cal, args, tys⟩ := c
        dsimp only at hcal
        subst hcal
        simp [execOp, ho, resolve, Deferred.ofValue, Act.eval, invoke, this]
      case pan x =>
        split at e2
        · rename_i k0 hk0
          have e2 := stillIf_pan (Option.some.inj e2)
          subst e2
          exact absurd hk0 trKd0_pan
        · split at e2
          · rename_i k0 hk1
            cases e2
            exact absurd rfl ((trMemo_not hk1).2 x)
          · split at e2
            · rename_i y hop
              rw [Option.map_eq_some_iff] at e2
              obtain ⟨x', hx, e⟩ := e2
              cases e
              split at h
              · rename_i t u e3
                have rx := R.ev hx
                rw [e3] at rx
                have hex := srep_lit (arep_st (vrep_one rx))
                refine wpIn_of_wp (fun c e => by rw [e] at hop; cases hop) ?_
                unfold Oper.wp
                have : (execOp a.eval o).run P w = .halt (.panic (.iface t u)) w := by
                  simp [execOp, hop, hex, Instr.panic, goPanic]
                rw [this, Oper.upon_panic]
                exact hQ _ _ _ _ h ⟨σ, ι, R⟩
              · exact h.elim
            · exfalso
              revert e2
              (repeat' split) <;> simp
            · cases e2
  · cases htr
def panOk (l : List Ins) (j : Nat) : Bool := match l[j]? with
  | some y => y.guard.isNone && (List.range l.length).all fun i => match l[i]? with
    | some x => if i < j then !x.indep y || (x.kd.keepS && x.kd.det) else if j < i then !y.indep x else true
    | none => true
  | none => false
theorem panOk_facts {l : List Ins} {j : Nat} {y : Ins} (hj : l[j]? = some y) (h : panOk l j = true) : y.guard = none ∧ (∀ i x, i < j → l[i]? = some x → x.indep y = true → x.kd.keepS = true ∧ x.kd.det = true) ∧ ∀ i x, j < i → l[i]? = some x → y.indep x = false := by
  unfold panOk at h
  rw [hj] at h
  simp only [Bool.and_eq_true, Option.isNone_iff_eq_none, List.all_eq_true, List.mem_range] at h
  refine ⟨h.1, fun i x hi hx hd => ?_, fun i x hi hx => ?_⟩
  · have := h.2 i (List.getElem?_eq_some_iff.1 hx).1
    rw [hx] at this
    simpa [hi, hd] using this
  · have := h.2 i (List.getElem?_eq_some_iff.1 hx).1
    rw [hx] at this
    simpa [show ¬ i < j by omega, hi] using this
theorem indep_reads {x y : Ins} (h : x.indep y = true) : ∀ t ∈ y.reads, x.dst ≠ some t := by
  unfold Ins.indep at h
  simp only [Bool.and_eq_true] at h
  intro t ht e
  have h1 := h.1.1.2
  rw [e] at h1
  simp [ht] at h1
theorem run_keep {R : List Nat} : ∀ (l : List Ins) (s : AS) {K : AS → Prop}, (∀ x ∈ l, x.kd.keepS = true ∧ x.kd.det = true ∧ ∀ t ∈ R, x.dst ≠ some t) → Run P l s K → ∃ s1, K s1 ∧ s1.S = s.S ∧ ∀ t ∈ R, s1.env t = s.env t
  | [], s, _, _, h => ⟨s, h, rfl, fun _ _ => rfl⟩
  | x :: l, s, K, hx, h => by
    rw [run_cons] at h
    obtain ⟨k1, k2, k3⟩ := hx x List.mem_cons_self
    obtain ⟨v, S1, h1, h2, _⟩ := ins_loc k2 h
    have e := h2 k1
    subst e
    obtain ⟨s1, m1, m2, m3⟩ := run_keep l _ (fun x' hx' => hx x' (List.mem_cons_of_mem _ hx')) h1
    exact ⟨s1, m1, m2.trans put_S, fun t ht => (m3 t ht).trans (put_env (k3 t ht))⟩
theorem filterMap_take (ks : List Ins) : ∀ j : Nat, (List.range j).filterMap (fun i => ks[i]?) = ks.take j
  | 0 => rfl
  | j + 1 => by
    rw [List.range_succ, List.filterMap_append, filterMap_take ks j, List.take_add_one]
    cases h : ks[j]? <;> simp [h]
theorem region_pan {mu : List Nat} {ops : Array Oper} {ks0 ks : List Ins} {id j : Nat} {y : Ins} {E : Value → AStore → Prop} (hmix : P.follows .mixedOrders = true) (htr : trAll P C.n mu ops.toList ops.toList = some ks0) (hre : Retag ks0 ks) (hok : orderOk ops.toList ks = true) (hj : ks[j]? = some y) (hp : panOk ks j = true)
    (R : Refs C σ ι s a w) (h : Run P (ks.take j) s fun s1 => PanAt P y.kd s1 E) (hQ : ∀ v S' env a' w', E v S' → (∀ t, (∀ k ∈ ks, k.dst ≠ some t) → env t = s.env t) → Holds C ⟨env, S'⟩ a' w' → Q (.panic [{ v := v, recovered := false }]) a' w') : (Code.region id ops true).wpIn (fen C.ro) 0 P Q a w := by
  obtain ⟨p1, p2, p3⟩ := panOk_facts hj hp
  obtain ⟨hl0, hget0⟩ := trAll_get htr
  have hl : ops.size = ks.length := by
    rw [← hre.1, ← hl0, Array.length_toList]
  have hjl : j < ops.size := by rw [hl]; exact (List.getElem?_eq_some_iff.1 hj).1
  have hget : ∀ (i : Nat) (o : Oper), ops.toList[i]? = some o → ∃ k', ks[i]? = some k' ∧ ∃ k, trIns P C.n mu ops.toList o = some k ∧ k'.dst = k.dst ∧ k'.guard = k.guard ∧ k'.kd = k.kd := fun i o ho => by
    obtain ⟨k, h1, h2⟩ := hget0 i o ho
    obtain ⟨k', q1, q2⟩ := hre.2 i k h1
    exact ⟨k', q1, k, h2, q2⟩
  refine wpIn_region_any hmix ?_
  have hchk : ∀ i, i < ops.size → (∀ o, ops[i]? = some o → ∀ e ∈ o.after, Region.binds .any e = true → e.on < i) ∧ ∀ j, j < i → ∀ x y, ks[j]? = some x → ks[i]? = some y → x.indep y = true ∨ behind ops.toList ops.toList.length j i = true := fun i hi => by
    have h1 := List.all_eq_true.1 hok i (List.mem_range.2 (by simpa using hi))
    simp only [Bool.and_eq_true] at h1
    refine ⟨fun o ho e he hb => ?_, fun j hj x y hx hy => ?_⟩
    · have h2 := h1.1
      rw [show ops.toList[i]? = some o by simpa using ho] at h2
      dsimp only at h2
      obtain ⟨k, hk, rfl⟩ := Array.getElem_of_mem he
      have h3 := (Array.all_eq_true.1 h2) k hk
      simpa [hb] using h3
    · have h2 := List.all_eq_true.1 h1.2 j (List.mem_range.2 hj)
      rw [hx, hy] at h2
      simpa using h2
  have key : ∀ (f : Nat) (T : List Nat) (listed : Array Bool) (s1 : AS) (a : Act) (w : World), (∀ t, (∀ k ∈ ks, k.dst ≠ some t) → s1.env t = s.env t) → T.length ≤ f → listed.size = ops.size → T.Pairwise (· < ·) → (∀ i, i ∈ T ↔ i < ops.size ∧ listed.getD i true = false) →
      (∀ k o, ops[k]? = some o → listed.getD k true = true → k < ops.size → ∀ e ∈ o.after, Region.binds .any e = true → listed.getD e.on false = true) → j ∈ T → Holds C s1 a w → Run P ((T.filter fun i => decide (i < j)).filterMap fun i => ks[i]?) s1 (fun s1 => PanAt P y.kd s1 E) → wpAnyIn (fen C.ro) 0 P .any ops Q f listed a w := by
    intro f
    induction f with
    | zero =>
      intro T listed s0 a w hE hf hsz hs hT hdc hjT hH hr
      have hT0 : T = [] := List.eq_nil_of_length_eq_zero (by omega)
      subst hT0
      cases hjT
    | succ f ih =>
      intro T listed s0 a w hE hf hsz hs hT hdc hjT hH hr
      have hgone : ∀ i k, i ∈ T → (∀ o, ops[k]? = some o → ∀ e ∈ o.after, Region.binds .any e = true → listed.getD e.on false = true) → behind ops.toList ops.toList.length i k = true → False := fun i k hi hk hbe => by
        have h1 := behind_listed (ops := ops) (listed := listed) hdc (i := k) _ i k hk hbe
        have h2 := ((hT i).1 hi).2
        have h3 := ((hT i).1 hi).1
        simp [show i < listed.size by omega] at h1 h2
        rw [h1] at h2
        cases h2
      refine ⟨fun hready => ?_, fun i hi => ?_⟩
      · cases T with
        | nil => cases hjT
        | cons i T =>
          exfalso
          obtain ⟨hi1, hi2⟩ := (hT i).1 (by simp)
          have : i ∈ Region.ready .any ops listed := by
            refine mem_ready.2 ⟨hi2, ops[i], Array.getElem?_eq_getElem hi1, fun e he hb => ?_⟩
            have hlt := (hchk i hi1).1 _ (Array.getElem?_eq_getElem hi1) e he hb
            cases hq : listed.getD e.on true with
            | true =>
              simp [show e.on < listed.size by omega] at hq ⊢
              exact hq
            | false =>
              have hmem := (hT e.on).2 ⟨by omega, hq⟩
              rcases List.mem_cons.1 hmem with h | h
              · omega
              · have := (List.pairwise_cons.1 hs).1 _ h
                omega
          rw [hready] at this
          cases this
      · obtain ⟨q1, o, q2, q3⟩ := mem_ready.1 hi
        have hi1 := (Array.getElem?_eq_some_iff.1 q2).1
        have hmem := (hT i).2 ⟨hi1, q1⟩
        have q3' : ∀ o2, ops[i]? = some o2 → ∀ e ∈ o2.after, Region.binds .any e = true → listed.getD e.on false = true := fun o2 ho2 e he hb => by
          rw [q2] at ho2
          cases ho2
          exact q3 e he hb
        obtain ⟨k', hy1, k0, hy2, hy3⟩ := hget i o (by simpa using q2)
        rcases Nat.lt_trichotomy i j with hij | hij | hij
        · obtain ⟨pre, post, rfl⟩ := List.append_of_mem hmem
          rw [List.filter_append, List.filter_cons, if_pos (by simpa using hij), List.filterMap_append, List.filterMap_cons, hy1] at hr
          dsimp only at hr
          have hpre : ∀ j ∈ pre, j < i := fun j hj => (List.pairwise_append.1 hs).2.2 j hj i (by simp)
          have hfront := run_front (P := P) (pre := (pre.filter fun i => decide (i < j)).filterMap fun i => ks[i]?) (y := k') (post := (post.filter fun i => decide (i < j)).filterMap fun i => ks[i]?) (fun x hx => by
            obtain ⟨m, hm, hxm⟩ := List.mem_filterMap.1 hx
            have hm' := (List.mem_filter.1 hm).1
            rcases (hchk i hi1).2 m (hpre m hm') x k' hxm hy1 with hind | hbe
            · exact hind
            · exact (hgone m i (by simp [hm']) q3' hbe).elim) hr
          obtain ⟨σ, ι, R⟩ := hH
          refine ins_sound q2 hy2 hy3 R (ins_env hfront) fun s' a' w' hKE hH' => ?_
          obtain ⟨hK, hE'⟩ := hKE
          rw [← List.filterMap_append, ← List.filter_append] at hK
          have hsub : (pre ++ post).Pairwise (· < ·) := by
            refine hs.sublist ?_
            exact List.Sublist.append (List.Sublist.refl pre) (List.sublist_cons_self i post)
          have hni : i ∉ pre ++ post := fun hm => by
            rcases List.mem_append.1 hm with hm | hm
            · have := hpre i hm; omega
            · have := (List.pairwise_cons.1 (List.pairwise_append.1 hs).2.1).1 i hm; omega
          refine ih (pre ++ post) (listed.setIfInBounds i true) s' a' w' (fun t ht => (hE' t (ht _ (List.mem_of_getElem? hy1))).trans (hE t ht)) (by simp at hf ⊢; omega) (by simpa using hsz) hsub (fun m => ?_) (fun k ok hok2 hlk hkk e he hb => ?_) ?_ hH' hK
          · constructor
            · intro hm
              have hmi : i ≠ m := fun e => hni (e ▸ hm)
              have := (hT m).1 (by
                rcases List.mem_append.1 hm with h | h
                · simp [h]
                · simp [h])
              refine ⟨this.1, ?_⟩
              have h3 := this.2
              simp only [Array.getD_eq_getD_getElem?] at h3 ⊢
              rw [Array.getElem?_setIfInBounds_ne hmi]
              exact h3
            · rintro ⟨h1, h2⟩
              have hmi : i ≠ m := fun e => by
                subst e
                simp [show i < listed.size by omega] at h2
              have h3 : listed.getD m true = false := by
                simp only [Array.getD_eq_getD_getElem?] at h2 ⊢
                rw [Array.getElem?_setIfInBounds_ne hmi] at h2
                exact h2
              have := (hT m).2 ⟨h1, h3⟩
              rcases List.mem_append.1 this with h | h
              · exact List.mem_append_left _ h
              · rcases List.mem_cons.1 h with h | h
                · exact absurd h.symm hmi
                · exact List.mem_append_right _ h
          · have hstep : ∀ m, listed.getD m false = true → (listed.setIfInBounds i true).getD m false = true := fun m hm => by
              by_cases e : i = m
              · subst e
                simp [show i < listed.size by omega]
              · simp only [Array.getD_eq_getD_getElem?] at hm ⊢
                rw [Array.getElem?_setIfInBounds_ne e]
                exact hm
            by_cases hki : i = k
            · subst hki
              exact hstep _ (q3' ok hok2 e he hb)
            · refine hstep _ (hdc k ok hok2 ?_ hkk e he hb)
              simp only [Array.getD_eq_getD_getElem?] at hlk ⊢
              rw [Array.getElem?_setIfInBounds_ne hki] at hlk
              exact hlk
          · rcases List.mem_append.1 hjT with h | h
            · exact List.mem_append_left _ h
            · rcases List.mem_cons.1 h with h | h
              · omega
              · exact List.mem_append_right _ h
        · subst hij
          rw [hj] at hy1
          cases hy1
          obtain ⟨s1, k1, k2, k3⟩ := run_keep (R := y.kd.reads) _ _ (fun x hx => by
            obtain ⟨m, hm, hxm⟩ := List.mem_filterMap.1 hx
            obtain ⟨hmT, hmi⟩ := List.mem_filter.1 hm
            have hmi : m < i := by simpa using hmi
            rcases (hchk i hi1).2 m hmi x y hxm hj with hind | hbe
            · obtain ⟨r1, r2⟩ := p2 m x hmi hxm hind
              exact ⟨r1, r2, fun t ht => indep_reads hind t (by simp [Ins.reads, ht])⟩
            · exact (hgone m i hmT q3' hbe).elim) hr
          obtain ⟨σ, ι, R⟩ := hH
          obtain ⟨g1, g2⟩ := pan_sound (next := wpAnyIn (fen C.ro) 0 P .any ops Q f (listed.setIfInBounds i true)) hy2 hy3 p1 R (panAt_loc k1 k2 k3) fun v S' a' w' h1 h2 => hQ v S' s0.env a' w' h1 hE h2
          unfold wpOpIn
          rw [q2]
          dsimp only
          rw [if_pos (by simp [Region.wanted, g1])]
          exact g2
        · exfalso
          rcases (hchk i hi1).2 j hij y k' hj hy1 with hind | hbe
          · rw [p3 i k' hij hy1] at hind
            cases hind
          · exact hgone j i hjT q3' hbe
  have e0 : ((List.range ops.size).filter fun i => decide (i < j)).filterMap (fun i => ks[i]?) = ks.take j := by
    obtain ⟨m, hm⟩ : ∃ m, ops.size = j + m := ⟨ops.size - j, by omega⟩
    rw [hm, List.range_add, List.filter_append, List.filter_eq_self.2 (fun i hi => by simpa using hi), List.filter_eq_nil_iff.2 (fun i hi => by
      obtain ⟨k, _, rfl⟩ := List.mem_map.1 hi
      simp), List.append_nil]
    exact filterMap_take ks j
  refine key ops.size (List.range ops.size) (Array.replicate ops.size false) s a _ (fun _ _ => rfl) (by simp) (by simp) List.pairwise_lt_range (fun i => ?_) (fun k o hk hlk hkk e he hb => ?_) (List.mem_range.2 hjl) ⟨σ, ι, R.drew⟩ (by rw [e0]; exact h)
  · simp only [List.mem_range, Array.getD_eq_getD_getElem?]
    constructor
    · intro hi
      simp [hi]
    · rintro ⟨hi, _⟩
      exact hi
  · simp [hkk] at hlk
theorem region_pan_text {mu : List Nat} {ops : Array Oper} {ks : List Ins} {id j : Nat} {y : Ins} {E : Value → AStore → Prop} (htr : trAll P C.n mu ops.toList ops.toList = some ks) (hj : ks[j]? = some y) (hp : panOk ks j = true)
    (R : Refs C σ ι s a w) (h : Run P (ks.take j) s fun s1 => PanAt P y.kd s1 E) (hQ : ∀ v S' env a' w', E v S' → (∀ t, (∀ k ∈ ks, k.dst ≠ some t) → env t = s.env t) → Holds C ⟨env, S'⟩ a' w' → Q (.panic [{ v := v, recovered := false }]) a' w') : (Code.region id ops false).wpIn (fen C.ro) 0 P Q a w := by
  obtain ⟨p1, p2, p3⟩ := panOk_facts hj hp
  obtain ⟨hl, hget⟩ := trAll_get htr
  have hl' : ops.size = ks.length := by rw [← hl, Array.length_toList]
  have hjl : j < ks.length := (List.getElem?_eq_some_iff.1 hj).1
  refine wpIn_region ?_
  have key : ∀ (m k : Nat) (s1 : AS) (a : Act) (w : World), (∀ t, (∀ k ∈ ks, k.dst ≠ some t) → s1.env t = s.env t) → k + m = ops.size → k ≤ j → Holds C s1 a w → Run P ((ks.take j).drop k) s1 (fun s1 => PanAt P y.kd s1 E) → wpOpsIn (fen C.ro) 0 P ops Q (List.range' k m) a w := by
    intro m
    induction m with
    | zero => intro k s1 a w hE hk hkj; omega
    | succ m ih =>
      intro k s1 a w hE hk hkj hH hr
      have hlt : k < ops.toList.length := by simp; omega
      obtain ⟨oo, hoo⟩ : ∃ oo, ops.toList[k]? = some oo := ⟨_, List.getElem?_eq_getElem hlt⟩
      obtain ⟨kk, h1, h2⟩ := hget k oo hoo
      have hop : ops[k]? = some oo := by rw [← Array.getElem?_toList]; exact hoo
      obtain ⟨σ, ι, R⟩ := hH
      rw [List.range'_succ, wpOpsIn_cons]
      by_cases hkj' : k = j
      · subst hkj'
        rw [hj] at h1
        cases h1
        rw [List.drop_of_length_le (by simp; omega)] at hr
        obtain ⟨g1, g2⟩ := pan_sound (next := wpOpsIn (fen C.ro) 0 P ops Q (List.range' (k + 1) m)) h2 ⟨rfl, rfl, rfl⟩ p1 R hr fun v S' a' w' h1 h2 => hQ v S' s1.env a' w' h1 hE h2
        unfold wpOpIn
        rw [hop]
        dsimp only
        rw [if_pos (by simp [Region.wanted, g1])]
        exact g2
      · have hd : (ks.take j).drop k = kk :: (ks.take j).drop (k + 1) := by
          have hk' : k < (ks.take j).length := by simp; omega
          rw [List.drop_eq_getElem_cons hk']
          congr 1
          rw [List.getElem_take]
          exact (List.getElem?_eq_some_iff.1 h1).2
        rw [hd, run_cons] at hr
        exact ins_sound (i := k) hop h2 ⟨rfl, rfl, rfl⟩ R (ins_env hr) fun s' a' w' hK hH' => ih (k + 1) s' a' w' (fun t ht => (hK.2 t (ht _ (List.mem_of_getElem? h1))).trans (hE t ht)) (by omega) (by omega) hH' hK.1
  rw [List.range_eq_range']
  exact key ops.size 0 s a w (fun _ _ => rfl) (by omega) (by omega) ⟨σ, ι, R⟩ (by simpa using h)
end
section
variable {P : Program} {C : Ctx} {mu : List Nat} {Q : AX → AS → Prop} {s : AS}
theorem IWP.opsPanR {l : List Ins} (j : Nat) (y : Ins) (hj : l[j]? = some y) (hp : panOk l j = true) (h : Run P (l.take j) s fun s1 => PanAt P y.kd s1 fun v S' => ∀ env, (∀ t, (l.all fun k => k.dst != some t) = true → env t = s.env t) → Q (.pan v) ⟨env, S'⟩) : IWP P C mu (.ops l) Q s := fun c hc a w hH => by
  have hQ : ∀ (v : Value) (S' : AStore) (env : Nat → AV) (a' : Act) (w' : World), (∀ env, (∀ t, (l.all fun k => k.dst != some t) = true → env t = s.env t) → Q (.pan v) ⟨env, S'⟩) → (∀ t, (∀ k ∈ l, k.dst ≠ some t) → env t = s.env t) → Holds C ⟨env, S'⟩ a' w' → lift C Q (.panic [{ v := v, recovered := false }]) a' w' := fun v S' env a' w' hE hk hH => ⟨_, v, ⟨hE env fun t ht => hk t fun k hk' => by simpa using List.all_eq_true.1 ht k hk', rfl⟩, hH⟩
  cases c <;> simp only [trCode] at hc
  case region id ops draw =>
    split at hc
    · rename_i ks e1
      obtain ⟨σ, ι, R⟩ := hH
      cases draw with
      | true =>
        simp only [if_true] at hc
        split at hc
        · rename_i h1
          cases hc
          simp only [Bool.and_eq_true] at h1
          exact region_pan h1.1 e1 (Retag.refl _) h1.2 hj hp R h hQ
        · split at hc
          · rename_i h1
            cases hc
            simp only [Bool.and_eq_true] at h1
            exact region_pan h1.1 e1 (retag_ok _ 0 _) h1.2 hj hp R h hQ
          · cases hc
      | false =>
        simp only [Bool.false_eq_true, if_false, Option.some.injEq, IR.ops.injEq] at hc
        subst hc
        exact region_pan_text e1 hj hp R h hQ
    · cases hc
  all_goals (exfalso; revert hc; (repeat' split) <;> simp)
theorem IWP.opsPanE {l : List Ins} (j : Nat) (y : Ins) (hj : l[j]? = some y) (hp : panOk l j = true) (h : Run2 P (l.take j) s fun s1 => PanAt P y.kd s1 fun v S' => ∀ env, (∀ t, (l.all fun k => k.dst != some t) = true → env t = s.env t) → Q (.pan v) ⟨env, S'⟩) : IWP P C mu (.ops l) Q s := IWP.opsPanR j y hj hp (run2_run h)
theorem IWP.opsPan {l : List Ins} (j : Nat) (y : Ins) (hj : l[j]? = some y) (hp : panOk l j = true) (h : Run2 P (l.take j) s fun s1 => PanAt P y.kd s1 fun v S' => ∀ env, Q (.pan v) ⟨env, S'⟩) : IWP P C mu (.ops l) Q s :=
  IWP.opsPanR j y hj hp (runMono (fun s1 h1 => panAt_mono h1 fun v S' h2 env _ => h2 env) (run2_run h))
def noPan : List Ins → Bool
  | [] => true
  | i :: l => (match i.kd with | .pan _ => false | _ => true) && noPan l
theorem IWP.ops3 {l : List Ins} (hn : noPan l = true) (h : ∀ K : AS → Prop, (∀ s, Q .normal s → K s) → Run2 P l s K) : IWP P C mu (.ops l) Q s := IWP.ops2 h
theorem seqQ_pan {y : IR} {v : Value} (h : Q (.pan v) s) : seqQ P C mu y Q (.pan v) s := h
theorem inBlock_pan {id : Nat} {v : Value} (h : Q (.pan v) s) : AX.inBlock id Q (.pan v) s := h
theorem then_pan {K : AS → Prop} {v : Value} (h : Q (.pan v) s) : AX.then K Q (.pan v) s := h
def FinP (C : Ctx) (v : Value) (S' : AStore) (e : AX) (s : AS) : Prop := e = .pan v ∧ ∃ s2, Ghost C s s2 ∧ s2.S = S' ∧ Clean S'
theorem apan_ofT {f : FuncId} {fn : Func} {c : Code} {x : IR} {xs : List AV} {S : AStore} {v : Value} {S' : AStore} (hf : P.funcs[f]? = some fn) (hb : fn.body = some c) (hx : trCode P fn.ntmps mu c = some x) (hn : xs.length ≤ fn.ntmps)
    (h : Clean S → ∀ C : Ctx, C.n = fn.ntmps → C.Top → IWP P C mu x (FinP C v S') (AS.startS xs S)) : APan P f xs S v S' := by
  intro hclean σ w vs ι hglob hfit hown hvs
  have hl := hvs.len
  let C : Ctx := ⟨fn.ntmps, w.heap.size, fun g => ¬ notOf S ι g, σ, w, S, ι, hclean, hglob, [], none, false⟩
  refine callsIn_wide.1 (callsIn_of_wp_marks (n := 0) hf hb trivial ?_)
  have R : Refs C σ ι (AS.startS xs S) { tmps := vs.toArray ++ Array.replicate (fn.ntmps - vs.toArray.size) undef, defers := [] } w := by
    refine ⟨by simp [C]; omega, fun i hi => ?_, marks_nil, hfit, hown.1, hown.2, fun id b g h hg => .inr (fun hno => hno id b h hg), fun _ _ h => h, fun _ _ _ => rfl, ⟨rfl, rfl, rfl⟩, ⟨Nat.le_refl _, Nat.le_refl _⟩, fun _ _ _ => rfl, Upd.refl _ _⟩
    show VRep σ S ι _ ((xs[i]?).getD (.tup []))
    rw [Array.getD_eq_getD_getElem?]
    by_cases hlt : i < vs.length
    · rw [Array.getElem?_append_left (by simpa using hlt)]
      obtain ⟨b, hb1, hb2⟩ := hvs.get' (List.getElem?_eq_getElem hlt)
      rw [hb1]
      simpa [hlt] using hb2
    · rw [Array.getElem?_append_right (by simp; omega), List.getElem?_eq_none (by omega)]
      have hi' : i < fn.ntmps := hi
      rw [Array.getElem?_replicate, if_pos (by simp; omega)]
      exact .tup (fun _ => undef) rfl (by simp) (by simp)
  refine wpIn_mono (h hclean C rfl ⟨rfl, rfl⟩ c hx _ w ⟨σ, ι, R⟩) fun e a' w' he => ?_
  cases e with
  | panic ch =>
    obtain ⟨s, v', ⟨⟨h1, s2, hg, hS, hc⟩, rfl⟩, hH⟩ := he
    cases h1
    obtain ⟨σ', ι', R1⟩ := hg _ _ hH
    subst hS
    refine R1.leaves (fun h => by cases h) fun a2 w2 R' hd ht => ?_
    exact ⟨σ', ι', rfl, hc, R'.upd, ⟨R'.blk, R'.inj⟩, R'.fit, R'.ext, fun p h1 h2 => R'.old p h1 (fun h => h h2), R'.os, R'.grown.2, fun g h1 h2 => R'.same g h1 (fun h => h h2), fun id b g h1 h2 => R'.base id b g h1 h2⟩
  | normal => obtain ⟨s, h1, h2⟩ := he; cases h1.1
  | ret => obtain ⟨s, h1, h2⟩ := he; cases h1.1
  | exit id => obtain ⟨s, h1, h2⟩ := he; cases h1.1
  | _ => exact he.elim
end
abbrev Wx := @IWP.ops3
abbrev Wy := @seqQ_pan
abbrev Wz := @inBlock_pan
abbrev Wv := @then_pan
theorem OkF.acPT {P : Program} {f n : Nat} {mu : List Nat} {x : IR} {rs : List RV} (o : OkF P f n mu x rs) {xs : List AV} {S S' : AStore} {v : Value} (h : Clean S → ∀ C : Ctx, C.n = n → C.Top → IWP P C mu x (FinP C v S') (AS.startS xs S)) (hn : xs.length ≤ n := by exact Nat.le_of_ble_eq_true rfl) : APan P f xs S v S' := by
  obtain ⟨fn, c, hf, hb, rfl, hx, hr⟩ := o.ok
  exact apan_ofT hf hb hx hn h
theorem OkF.acP {P : Program} {f n : Nat} {mu : List Nat} {x : IR} {rs : List RV} (o : OkF P f n mu x rs) {xs : List AV} {S S' : AStore} {v : Value} (h : Clean S → ∀ C : Ctx, C.n = n → IWP P C mu x (FinP C v S') (AS.startS xs S)) (hn : xs.length ≤ n := by exact Nat.le_of_ble_eq_true rfl) : APan P f xs S v S' := by
  obtain ⟨fn, c, hf, hb, rfl, hx, hr⟩ := o.ok
  exact apan_ofT hf hb hx hn fun h0 C h1 _ => h h0 C h1

set_option maxRecDepth 100000
def ir_metaprunetop_applies : IR :=
  (.seq (.ops [.i 0 (.mov (.c (.one (.st (.bool false)))))]) (.seq (.ops [.i 9 (.call 18 [.c (.one (.st (.str (ByteArray.mk (#[40, 92, 121, 46, 121, 32, 121, 41, 32, 99, 49]))))), .c (.one (.full []))]), .m 8 9, .i 10 (.extract 0 (.t 8)), .i 11 (.extract 1 (.t 8)), .i 1 (.alloc 25 [.st (.int .i64 0), .st (.int .i64 0), .full []]), .s 3 1 10, .m 2 11]) (.seq (.ops [.L 13 3 1, .i 14 (.call 19 [.t 13, .n 0, .n 5]), .m 12 14, .i 15 (.extract 0 (.t 12)), .i 16 (.extract 1 (.t 12)), .i 17 (.extract 2 (.t 12)), .i 3 (.alloc 25 [.st (.int .i64 0), .st (.int .i64 0), .full []]), .s 3 3 15, .m 4 16, .m 5 17]) (.seq (.ops [.L 19 3 3, .i 20 (.call 20 [.t 19, .c (.one (.full []))]), .m 18 20, .i 21 (.extract 0 (.t 18)), .i 22 (.extract 1 (.t 18)), .m 6 21, .m 7 22]) (.seq (.ops [.m 23 2, .i 24 (.bin .eql (.t 23) (.n 0)), .m 25 24, .mk (some 26) (some (25, true)) (.mov (.t 5)) .no, .mk (some 27) (some (25, true)) (.bin .eql (.t 26) (.n 0)) .no, .i 28 (.pick (.t 25) (.t 27) (.c (.one (.st (.bool false))))), .m 29 28, .mk (some 30) (some (29, true)) (.mov (.t 7)) .no, .mk (some 31) (some (29, true)) (.bin .eql (.t 30) (.n 0)) .no, .i 32 (.pick (.t 29) (.t 31) (.c (.one (.st (.bool false))))), .m 33 32, .mk (some 34) (some (33, true)) (.mov (.t 4)) .no, .mk (some 35) (some (33, true)) (.bin .eql (.t 34) (.n 1)) .no, .i 36 (.pick (.t 33) (.t 35) (.c (.one (.st (.bool false))))), .m 37 36, .mk (some 38) (some (37, true)) (.mov (.t 6)) .no, .mk (some 39) (some (37, true)) (.bin .eql (.t 38) (.c (.one (.st (.str (ByteArray.mk (#[99, 49, 32, 99, 49]))))))) .no, .i 40 (.pick (.t 37) (.t 39) (.c (.one (.st (.bool false))))), .m 0 40]) .ret)))))
theorem ok_metaprunetop_applies : OkF Tryd.prog 11 41 [] ir_metaprunetop_applies [.t 0] := .of Tryd.func11 rfl rfl (by kernel_rfl) rfl
def ir_metaprunetop_swapped : IR :=
  (.seq (.ops [.i 1 (.box 25 (.t 0)), .i 2 (.alloc 25 [.st (.int .i64 0), .st (.int .i64 0), .full []])]) (.seq (.ops [.L 3 3 1, .i 4 (.call 8 [.t 3, .n 2, .n 2]), .i 5 (.call 17 [.n 1]), .i 6 (.call 17 [.n 0]), .i 7 (.buildSlice false 25 3 [.t 5, .t 6]), .i 8 (.call 16 [.t 4, .t 7, .n 0]), .s 3 2 8]) .ret))
theorem ok_metaprunetop_swapped : OkF Tryd.prog 7 9 [] ir_metaprunetop_swapped [.cell 2 true 3] := .of Tryd.func7 rfl rfl (by kernel_rfl) rfl
def ir_metaprunetop_TopSubstitution : IR :=
  (.seq (.ops [.i 4 (.mov (.c (.one (.st (.bool false)))))]) (.seq (.seq (.ops [.m 18 0, .i 19 (.len false (.t 18)), .i 20 (.bin .gtr (.t 19) (.n 256))]) (.cond (.t 20) (.seq (.ops [.i 4 (.mov (.c (.one (.st (.bool true)))))]) .ret) .skip)) (.seq (.ops [.m 21 0, .m 22 1, .i 23 (.call 5 [.t 22, .n 16]), .i 24 (.call 4 [.t 21, .n 0, .t 23, .n 3, .n 1]), .i 5 (.alloc 25 [.st (.int .i64 0), .st (.int .i64 0), .full []]), .s 3 5 24]) (.seq (.ops [.m 25 0, .i 26 (.call 4 [.t 25, .n 60, .n 5, .n 2, .n 1]), .i 6 (.alloc 25 [.st (.int .i64 0), .st (.int .i64 0), .full []]), .s 3 6 26]) (.seq (.ops [.m 27 0, .i 28 (.call 4 [.t 27, .n 90, .n 5, .n 1, .n 1]), .i 7 (.alloc 25 [.st (.int .i64 0), .st (.int .i64 0), .full []]), .s 3 7 28]) (.seq (.ops [.L 30 3 5, .L 31 3 6, .i 32 (.call 6 [.t 30, .t 31, .n 2]), .m 29 32, .i 33 (.extract 0 (.t 29)), .i 34 (.extract 1 (.t 29)), .i 8 (.alloc 25 [.st (.int .i64 0), .st (.int .i64 0), .full []]), .s 3 8 33, .m 9 34]) (.seq (.seq (.ops [.m 35 9, .i 36 (.bin .neq (.t 35) (.n 0))]) (.cond (.t 36) (.seq (.ops [.i 4 (.mov (.c (.one (.st (.bool false)))))]) .ret) .skip)) (.seq (.ops [.L 38 3 8, .L 39 3 7, .i 40 (.call 6 [.t 38, .t 39, .n 1]), .m 37 40, .i 41 (.extract 0 (.t 37)), .i 42 (.extract 1 (.t 37)), .i 10 (.alloc 25 [.st (.int .i64 0), .st (.int .i64 0), .full []]), .s 3 10 41, .m 11 42]) (.seq (.ops [.L 44 3 5, .i 45 (.call 7 [.t 44]), .L 46 3 7, .i 47 (.call 8 [.t 46, .n 1, .n 0]), .i 48 (.call 6 [.t 45, .t 47, .n 2]), .m 43 48, .i 49 (.extract 0 (.t 43)), .i 50 (.extract 1 (.t 43)), .i 12 (.alloc 25 [.st (.int .i64 0), .st (.int .i64 0), .full []]), .s 3 12 49, .m 13 50]) (.seq (.seq (.ops [.m 51 11, .i 52 (.bin .neq (.t 51) (.n 0)), .m 53 52, .mk (some 54) (some (53, false)) (.mov (.t 13)) .no, .mk (some 55) (some (53, false)) (.bin .neq (.t 54) (.n 0)) .no, .i 56 (.pick (.t 53) (.c (.one (.st (.bool true)))) (.t 55))]) (.cond (.t 56) (.seq (.ops [.L 57 3 8, .i 58 (.call 9 [.t 57, .n 200]), .i 59 (.bin .gtr (.t 58) (.n 200)), .m 4 59]) .ret) .skip)) (.seq (.ops [.L 61 3 6, .L 62 3 7, .i 63 (.call 6 [.t 61, .t 62, .n 1]), .m 60 63, .i 64 (.extract 0 (.t 60)), .i 65 (.extract 1 (.t 60)), .i 14 (.alloc 25 [.st (.int .i64 0), .st (.int .i64 0), .full []]), .s 3 14 64, .m 15 65]) (.seq (.seq (.ops [.m 66 15, .i 67 (.bin .neq (.t 66) (.n 0))]) (.cond (.t 67) (.seq (.ops [.i 4 (.mov (.c (.one (.st (.bool false)))))]) .ret) .skip)) (.seq (.ops [.L 69 3 12, .L 70 3 14, .i 71 (.call 6 [.t 69, .t 70, .n 1]), .m 68 71, .i 72 (.extract 0 (.t 68)), .i 73 (.extract 1 (.t 68)), .i 16 (.alloc 25 [.st (.int .i64 0), .st (.int .i64 0), .full []]), .s 3 16 72, .m 17 73]) (.seq (.ops [.m 74 17, .i 75 (.bin .eql (.t 74) (.n 0)), .m 76 75, .mk (some 77) (some (76, true)) (.load true 3 (.t 10)) .no, .mk (some 78) (some (76, true)) (.load true 3 (.t 16)) .no, .mk (some 79) (some (76, true)) (.call 10 [.t 77, .t 78]) .no, .i 80 (.pick (.t 76) (.t 79) (.c (.one (.st (.bool false))))), .m 81 80, .mk (some 82) (some (81, true)) (.call 11 []) .no, .i 83 (.pick (.t 81) (.t 82) (.c (.one (.st (.bool false))))), .m 4 83]) .ret))))))))))))))
theorem ok_metaprunetop_TopSubstitution : OkF Tryd.prog 3 84 [] ir_metaprunetop_TopSubstitution [.t 4] := .of Tryd.func3 rfl rfl (by kernel_rfl) rfl

def letterI (n : Int) : Bool := decide (97 ≤ n ∧ n ≤ 122) || decide (65 ≤ n ∧ n ≤ 90) || decide (48 ≤ n ∧ n ≤ 57)
def byteAt (s : ByteArray) (k : Nat) : Int := ((s.data.toList.getD k 0).toNat : Int)
theorem byteAt_range (s : ByteArray) (k : Nat) : 0 ≤ byteAt s k ∧ byteAt s k ≤ 255 := by
  unfold byteAt
  have := (s.data.toList.getD k 0).toNat_lt
  omega
def isVar (s : ByteArray) : Bool := decide (0 < s.size) && decide (65 ≤ byteAt s 0) && decide (byteAt s 0 ≤ 90)
def lettersTo (s : ByteArray) (k : Nat) : Bool := (s.data.toList.take k).all fun c => letterI c.toNat
def nameOk (s : ByteArray) : Bool := decide (1 ≤ s.size) && decide (s.size ≤ 8) && !(decide (48 ≤ byteAt s 0) && decide (byteAt s 0 ≤ 57)) && lettersTo s s.size
theorem lettersTo_succ (s : ByteArray) (k : Nat) (h : k < s.size) : lettersTo s (k + 1) = (lettersTo s k && letterI (byteAt s k)) := by
  unfold lettersTo byteAt
  have h2 : k < s.data.toList.length := by simpa using h
  rw [List.take_add_one, List.getD_eq_getElem?_getD, List.getElem?_eq_getElem h2]
  simp
theorem lettersTo_no (s : ByteArray) (k : Nat) (h : k < s.size) (hn : letterI (byteAt s k) = false) : lettersTo s s.size = false := by
  unfold lettersTo byteAt at *
  have h2 : k < s.data.toList.length := by simpa using h
  rw [List.getD_eq_getElem?_getD, List.getElem?_eq_getElem h2] at hn
  rw [List.all_eq_false]
  refine ⟨s.data.toList[k], ?_, by simpa using hn⟩
  rw [List.take_of_length_le (by simp)]
  exact List.getElem_mem h2
mutual
def Tm.size : Tm → Nat
  | .mk _ xs => 1 + Tm.sizes xs
def Tm.sizes : List Tm → Nat
  | [] => 0
  | t :: ts => t.size + Tm.sizes ts
end
theorem Tm.sizes_append (xs ys : List Tm) : Tm.sizes (xs ++ ys) = Tm.sizes xs + Tm.sizes ys := by
  induction xs with
  | nil => simp [Tm.sizes]
  | cons t ts ih => simp only [List.cons_append, Tm.sizes, ih]; omega
theorem Tm.sizes_take {xs : List Tm} {k : Nat} {a : Tm} (h : xs[k]? = some a) : Tm.sizes (xs.take (k+1)) = Tm.sizes (xs.take k) + a.size := by
  rw [take_snoc h, Tm.sizes_append]; simp [Tm.sizes]
theorem Tm.sizes_take_le (xs : List Tm) (k : Nat)  : Tm.sizes (xs.take k) ≤ Tm.sizes xs := by
  have := Tm.sizes_append (xs.take k) (xs.drop k)
  rw [List.take_append_drop] at this
  omega
theorem Tm.size_eq (t : Tm) : t.size = 1 + Tm.sizes t.args := by cases t; rfl
theorem Tm.size_pos (t : Tm) : 1 ≤ t.size := by rw [Tm.size_eq]; omega
theorem Tm.size_mem {a : Tm} {xs : List Tm} (h : a ∈ xs) : a.size ≤ Tm.sizes xs := by
  induction xs with
  | nil => simp at h
  | cons t ts ih =>
    rcases List.mem_cons.1 h with rfl | h
    · simp only [Tm.sizes]; omega
    · have := ih h; simp only [Tm.sizes]; omega
theorem Tm.length_le (xs : List Tm) : xs.length ≤ Tm.sizes xs := by
  induction xs with
  | nil => simp [Tm.sizes]
  | cons t ts ih => have := Tm.size_pos t; simp only [Tm.sizes, List.length_cons]; omega
theorem Tm.lt_of_arg {a t : Tm} (h : a ∈ t.args) : SizeOf.sizeOf a < SizeOf.sizeOf t := by
  cases t
  exact Tm.lt_of_mem h
def lessBy (s : Nat) (m : Int) : Int := if m < s then -1 else m - s
mutual
def Tm.knots : Tm → List Tm
  | .mk n xs => .mk n xs :: Tm.knotsL xs
def Tm.knotsL : List Tm → List Tm
  | [] => []
  | t :: ts => t.knots ++ Tm.knotsL ts
end
def chkOne (t : Tm) : Int := if nameOk t.name = true then (if isVar t.name = true ∧ 0 < t.args.length then 2 else 0) else 1
mutual
def Tm.chk : Tm → Int
  | .mk n xs => if chkOne (.mk n xs) = 0 then Tm.chkL xs else chkOne (.mk n xs)
def Tm.chkL : List Tm → Int
  | [] => 0
  | t :: ts => if t.chk = 0 then Tm.chkL ts else t.chk
end
theorem Tm.chk_eq (t : Tm) : t.chk = if chkOne t = 0 then Tm.chkL t.args else chkOne t := by cases t; rfl
def Tm.may (t : Tm) : Int := if 200 < t.size then 3 else t.chk
def isIn (x : ByteArray) (l : List ByteArray) : Bool := l.any fun y => decide (y = x)
theorem isIn_iff {x : ByteArray} {l : List ByteArray} : isIn x l = true ↔ x ∈ l := by simp [isIn]
theorem isIn_no {x : ByteArray} {l : List ByteArray} : isIn x l = false ↔ x ∉ l := by rw [← Bool.not_eq_true, isIn_iff]
mutual
def Tm.places : Tm → List (List Int)
  | .mk _ xs => [] :: Tm.placesFrom 0 xs
def Tm.placesFrom : Nat → List Tm → List (List Int)
  | _, [] => []
  | k, t :: ts => t.places.map (fun p => (k : Int) :: p) ++ Tm.placesFrom (k+1) ts
end
theorem lessBy_step {s z : Nat} {m : Int} (h : 0 ≤ lessBy s m) : lessBy z (lessBy s m) = lessBy (s + z) m := by
  unfold lessBy at *
  split at h
  · omega
  · rename_i h1
    rw [if_neg h1]
    split <;> split <;> omega
theorem lessBy_neg {s z : Nat} {m : Int} (h : lessBy s m < 0) (hz : s ≤ z) : lessBy s m = lessBy z m := by
  unfold lessBy at *
  split at h
  · rw [if_pos (by assumption), if_pos (by omega)]
  · omega
theorem lessBy_le (s : Nat) (m : Int) (h : 0 ≤ m) : -1 ≤ lessBy s m ∧ lessBy s m ≤ m := by unfold lessBy; split <;> omega



abbrev Bd := ByteArray × Tm
def encB (b : Bd) : List SV := [.str b.1, .str b.2.name, .list (b.2.args.map encT)]
instance : Lens encB 3 := ⟨fun _ => rfl⟩
def lookup (l : List Bd) (n : ByteArray) : Option Tm := (l.find? fun b => decide (b.1 = n)).map (·.2)
theorem lookup_mem {l : List Bd} {n : ByteArray} {x : Tm} (h : lookup l n = some x) : ∃ b ∈ l, b.1 = n ∧ b.2 = x := by
  unfold lookup at h
  rw [Option.map_eq_some_iff] at h
  obtain ⟨b, h1, h2⟩ := h
  exact ⟨b, List.mem_of_find?_eq_some h1, by simpa using List.find?_some h1, h2⟩
mutual
def Tm.on (s : List Bd) : Tm → Tm
  | .mk n xs => match (if xs.isEmpty then lookup s n else none) with
    | some x => x
    | none => .mk n (Tm.onL s xs)
def Tm.onL (s : List Bd) : List Tm → List Tm
  | [] => []
  | t :: ts => t.on s :: Tm.onL s ts
end
theorem Tm.onL_eq (s : List Bd) : ∀ ts : List Tm, Tm.onL s ts = ts.map (Tm.on s)
  | [] => rfl
  | t :: ts => by rw [Tm.onL, Tm.onL_eq s ts]; rfl
theorem Tm.on_leaf {s : List Bd} {t x : Tm} (h : lookup s t.name = some x) (h0 : t.args = []) : t.on s = x := by
  cases t with
  | mk n xs =>
    simp only [Tm.name_mk, Tm.args_mk] at h h0
    subst h0
    simp [Tm.on, h]
theorem Tm.on_knot {s : List Bd} {t : Tm} (h : lookup s t.name = none ∨ t.args ≠ []) : t.on s = .mk t.name (t.args.map (Tm.on s)) := by
  cases t with
  | mk n xs =>
    simp only [Tm.name_mk, Tm.args_mk] at h ⊢
    rw [← Tm.onL_eq]
    rcases h with h | h
    · simp [Tm.on, h]
    · cases xs with
      | nil => exact absurd rfl h
      | cons y ys => simp [Tm.on]



theorem size_sub {s : List Bd} {M : Nat} (hM : 1 ≤ M) (hs : ∀ b ∈ s, b.2.size ≤ M) (t : Tm) : (t.on s).size ≤ t.size * M := by
  induction hN : SizeOf.sizeOf t using Nat.strongRecOn generalizing t with
  | _ N ih =>
  subst hN
  have hsz := Tm.size_eq t
  by_cases hleaf : (∃ x, lookup s t.name = some x) ∧ t.args = []
  · obtain ⟨⟨x, hx⟩, h0⟩ := hleaf
    rw [Tm.on_leaf hx h0]
    obtain ⟨b, hb, _, rfl⟩ := lookup_mem hx
    have := hs b hb
    have h1 := Nat.mul_le_mul_right M (Tm.size_pos t)
    omega
  · have hon : t.on s = .mk t.name (t.args.map (Tm.on s)) := Tm.on_knot (by
      cases hl : lookup s t.name with
      | none => exact .inl rfl
      | some x => exact .inr fun h0 => hleaf ⟨⟨x, hl⟩, h0⟩)
    have key : ∀ xs : List Tm, (∀ x ∈ xs, (x.on s).size ≤ x.size * M) → Tm.sizes (xs.map (Tm.on s)) ≤ Tm.sizes xs * M := by
      intro xs
      induction xs with
      | nil => intro _; simp [Tm.sizes]
      | cons x xs ih2 =>
        intro h
        have h1 := h x (by simp)
        have h2 := ih2 fun y hy => h y (by simp [hy])
        simp only [List.map_cons, Tm.sizes]
        rw [Nat.add_mul]
        omega
    have hk := key t.args fun x hx => ih _ (Tm.lt_of_arg hx) x rfl
    rw [hon]
    have e : (Tm.mk t.name (t.args.map (Tm.on s))).size = 1 + Tm.sizes (t.args.map (Tm.on s)) := rfl
    rw [e, hsz, Nat.add_mul]
    omega

def ir_term_letter : IR :=
  (.seq (.ops [.i 2 (.mov (.c (.one (.st (.bool false)))))]) (.seq (.ops [.m 3 0, .i 4 (.bin .geq (.t 3) (.c (.one (.st (.int .u8 97))))), .m 5 4, .mk (some 6) (some (5, true)) (.mov (.t 0)) .no, .mk (some 7) (some (5, true)) (.bin .leq (.t 6) (.c (.one (.st (.int .u8 122))))) .no, .i 8 (.pick (.t 5) (.t 7) (.c (.one (.st (.bool false))))), .m 9 8, .mk (some 10) (some (9, false)) (.mov (.t 0)) .no, .mk (some 11) (some (9, false)) (.bin .geq (.t 10) (.c (.one (.st (.int .u8 65))))) .no, .mk (some 12) (some (9, false)) (.mov (.t 11)) .no, .mk (some 13) (some (12, true)) (.mov (.t 0)) .no, .mk (some 14) (some (12, true)) (.bin .leq (.t 13) (.c (.one (.st (.int .u8 90))))) .no, .mk (some 15) (some (9, false)) (.pick (.t 12) (.t 14) (.c (.one (.st (.bool false))))) .no, .i 16 (.pick (.t 9) (.c (.one (.st (.bool true)))) (.t 15)), .m 17 16, .mk (some 18) (some (17, false)) (.mov (.t 0)) .no, .mk (some 19) (some (17, false)) (.bin .geq (.t 18) (.c (.one (.st (.int .u8 48))))) .no, .mk (some 20) (some (17, false)) (.mov (.t 19)) .no, .mk (some 21) (some (20, true)) (.mov (.t 0)) .no, .mk (some 22) (some (20, true)) (.bin .leq (.t 21) (.c (.one (.st (.int .u8 57))))) .no, .mk (some 23) (some (17, false)) (.pick (.t 20) (.t 22) (.c (.one (.st (.bool false))))) .no, .i 24 (.pick (.t 17) (.c (.one (.st (.bool true)))) (.t 23)), .m 2 24]) .ret))
theorem ok_term_letter : OkF Tryd.prog 54 25 [] ir_term_letter [.t 2] := .of Tryd.func54 rfl rfl (by kernel_rfl) rfl
def ir_term_Name : IR :=
  (.seq (.ops [.i 2 (.mov (.c (.one (.st (.bool false)))))]) (.seq (.seq (.ops [.m 4 0, .i 5 (.len true (.t 4)), .i 6 (.bin .lss (.t 5) (.n 1)), .m 7 6, .mk (some 8) (some (7, false)) (.mov (.t 0)) .no, .mk (some 9) (some (7, false)) (.len true (.t 8)) .no, .mk (some 10) (some (7, false)) (.bin .gtr (.t 9) (.n 8)) .no, .i 11 (.pick (.t 7) (.c (.one (.st (.bool true)))) (.t 10)), .m 12 11, .mk (some 13) (some (12, false)) (.mov (.t 0)) .no, .mk (some 14) (some (12, false)) (.indexStr (.t 13) (.n 0)) .no, .mk (some 15) (some (12, false)) (.bin .geq (.t 14) (.c (.one (.st (.int .u8 48))))) .no, .mk (some 16) (some (12, false)) (.mov (.t 15)) .no, .mk (some 17) (some (16, true)) (.mov (.t 0)) .no, .mk (some 18) (some (16, true)) (.indexStr (.t 17) (.n 0)) .no, .mk (some 19) (some (16, true)) (.bin .leq (.t 18) (.c (.one (.st (.int .u8 57))))) .no, .mk (some 20) (some (12, false)) (.pick (.t 16) (.t 19) (.c (.one (.st (.bool false))))) .no, .i 21 (.pick (.t 12) (.c (.one (.st (.bool true)))) (.t 20))]) (.cond (.t 21) (.seq (.ops [.i 2 (.mov (.c (.one (.st (.bool false)))))]) .ret) .skip)) (.seq (.seq (.ops [.m 22 0, .i 23 (.len true (.t 22)), .i 24 (.mov (.n 0))]) (.block 0 (.loop (.seq (.ops [.i 25 (.bin .lss (.t 24) (.t 23))]) (.seq (.cond (.t 25) .skip (.exit 0)) (.seq (.block 1 (.seq (.ops [.m 26 24, .m 3 26]) (.seq (.ops [.m 27 0, .m 28 3, .i 29 (.indexStr (.t 27) (.t 28)), .i 30 (.call 54 [.t 29]), .i 31 (.un .not (.t 30))]) (.cond (.t 31) (.seq (.ops [.i 2 (.mov (.c (.one (.st (.bool false)))))]) .ret) .skip)))) (.ops [.i 32 (.bin .add (.t 24) (.n 1)), .m 24 32]))))))) (.seq (.ops [.i 2 (.mov (.c (.one (.st (.bool true)))))]) .ret))))
theorem ok_term_Name : OkF Tryd.prog 39 33 [] ir_term_Name [.t 2] := .of Tryd.func39 rfl rfl (by kernel_rfl) rfl
def ir_slices_Index_string_string : IR :=
  (.seq (.ops [.i 4 (.mov (.n 0))]) (.seq (.seq (.ops [.m 6 0, .i 7 (.len false (.t 6)), .i 8 (.mov (.n 0))]) (.block 0 (.loop (.seq (.ops [.i 9 (.bin .lss (.t 8) (.t 7))]) (.seq (.cond (.t 9) .skip (.exit 0)) (.seq (.block 1 (.seq (.ops [.m 10 8, .m 5 10]) (.seq (.ops [.m 11 1, .m 12 0, .m 13 5, .i 14 (.indexAddr 1 (.t 12) (.t 13)), .l 15 14, .i 16 (.bin .eql (.t 11) (.t 15))]) (.cond (.t 16) (.seq (.ops [.m 17 5, .m 4 17]) .ret) .skip)))) (.ops [.i 18 (.bin .add (.t 8) (.n 1)), .m 8 18]))))))) (.seq (.ops [.i 4 (.mov (.c (.one (.st (.int .i64 (-1))))))]) .ret)))
theorem ok_slices_Index_string_string : OkF Tryd.prog 55 19 [] ir_slices_Index_string_string [.t 4] := .of Tryd.func55 rfl rfl (by kernel_rfl) rfl
def ir_slices_Contains_string_string : IR :=
  (.seq (.ops [.i 4 (.mov (.c (.one (.st (.bool false)))))]) (.seq (.ops [.m 5 0, .m 6 1, .i 7 (.call 55 [.t 5, .t 6]), .i 8 (.bin .geq (.t 7) (.n 0)), .m 4 8]) .ret))
theorem ok_slices_Contains_string_string : OkF Tryd.prog 40 9 [] ir_slices_Contains_string_string [.t 4] := .of Tryd.func40 rfl rfl (by kernel_rfl) rfl

theorem byteN_eq (s : ByteArray) (k : Nat) : byteN s k = byteAt s k := rfl
theorem letter_a (n : Int) (h0 : 0 ≤ n) : ACalls Tryd.prog 54 [.one (.st (.int .u8 n))] (aBool (letterI n)) := by
  refine ok_term_letter.ac fun C hC => ?_
  unfold ir_term_letter
  have hc : (97 ≤ n ∧ n ≤ 122) ∨ (122 < n) ∨ (n < 97 ∧ 65 ≤ n ∧ n ≤ 90) ∨ (n < 97 ∧ 90 < n) ∨ (n < 65 ∧ 48 ≤ n ∧ n ≤ 57) ∨ (n < 65 ∧ 57 < n) ∨ (n < 48) := by omega
  rcases hc with h | h | h | h | h | h | h
  · have h1 : 97 ≤ n := h.1
    have h2 : n ≤ 122 := h.2
    repeat' (first | (with_reducible first | refine W ?_ | refine Wz0 ?_) | ((with_reducible first | refine Wo (fun K hK => ?_) | refine Wq ?_ | refine Wr ?_); (try simp only [go_sem, fN, seval, eT, iR, h1, h2]); (repeat with_reducible refine Ai ?_); (try (refine hK _ ?_; clear hK K))))
    simp only [go_sem, fN, seval, FinQ, AS.result, resAll, resOne, tupV, letterI, h1, h2]
    try simp
  · have h1 : 97 ≤ n := by omega
    have h2 : ¬ n ≤ 122 := by omega
    have h3 : 65 ≤ n := by omega
    have h4 : ¬ n ≤ 90 := by omega
    have h5 : 48 ≤ n := by omega
    have h6 : ¬ n ≤ 57 := by omega
    repeat' (first | (with_reducible first | refine W ?_ | refine Wz0 ?_) | ((with_reducible first | refine Wo (fun K hK => ?_) | refine Wq ?_ | refine Wr ?_); (try simp only [go_sem, fN, seval, eT, iR, h1, h2, h3, h4, h5, h6]); (repeat with_reducible refine Ai ?_); (try (refine hK _ ?_; clear hK K))))
    simp only [go_sem, fN, seval, FinQ, AS.result, resAll, resOne, tupV, letterI, h1, h2, h3, h4, h5, h6]
    try simp
  · have h1 : ¬ 97 ≤ n := by omega
    have h3 : 65 ≤ n := by omega
    have h4 : n ≤ 90 := by omega
    repeat' (first | (with_reducible first | refine W ?_ | refine Wz0 ?_) | ((with_reducible first | refine Wo (fun K hK => ?_) | refine Wq ?_ | refine Wr ?_); (try simp only [go_sem, fN, seval, eT, iR, h1, h3, h4]); (repeat with_reducible refine Ai ?_); (try (refine hK _ ?_; clear hK K))))
    simp only [go_sem, fN, seval, FinQ, AS.result, resAll, resOne, tupV, letterI, h1, h3, h4]
    try simp
  · have h1 : ¬ 97 ≤ n := by omega
    have h3 : 65 ≤ n := by omega
    have h4 : ¬ n ≤ 90 := by omega
    have h5 : 48 ≤ n := by omega
    have h6 : ¬ n ≤ 57 := by omega
    repeat' (first | (with_reducible first | refine W ?_ | refine Wz0 ?_) | ((with_reducible first | refine Wo (fun K hK => ?_) | refine Wq ?_ | refine Wr ?_); (try simp only [go_sem, fN, seval, eT, iR, h1, h3, h4, h5, h6]); (repeat with_reducible refine Ai ?_); (try (refine hK _ ?_; clear hK K))))
    simp only [go_sem, fN, seval, FinQ, AS.result, resAll, resOne, tupV, letterI, h1, h3, h4, h5, h6]
    try simp
  · have h1 : ¬ 97 ≤ n := by omega
    have h3 : ¬ 65 ≤ n := by omega
    have h5 : 48 ≤ n := by omega
    have h6 : n ≤ 57 := by omega
    repeat' (first | (with_reducible first | refine W ?_ | refine Wz0 ?_) | ((with_reducible first | refine Wo (fun K hK => ?_) | refine Wq ?_ | refine Wr ?_); (try simp only [go_sem, fN, seval, eT, iR, h1, h3, h5, h6]); (repeat with_reducible refine Ai ?_); (try (refine hK _ ?_; clear hK K))))
    simp only [go_sem, fN, seval, FinQ, AS.result, resAll, resOne, tupV, letterI, h1, h3, h5, h6]
    try simp
  · have h1 : ¬ 97 ≤ n := by omega
    have h3 : ¬ 65 ≤ n := by omega
    have h5 : 48 ≤ n := by omega
    have h6 : ¬ n ≤ 57 := by omega
    repeat' (first | (with_reducible first | refine W ?_ | refine Wz0 ?_) | ((with_reducible first | refine Wo (fun K hK => ?_) | refine Wq ?_ | refine Wr ?_); (try simp only [go_sem, fN, seval, eT, iR, h1, h3, h5, h6]); (repeat with_reducible refine Ai ?_); (try (refine hK _ ?_; clear hK K))))
    simp only [go_sem, fN, seval, FinQ, AS.result, resAll, resOne, tupV, letterI, h1, h3, h5, h6]
    try simp
  · have h1 : ¬ 97 ≤ n := by omega
    have h3 : ¬ 65 ≤ n := by omega
    have h5 : ¬ 48 ≤ n := by omega
    repeat' (first | (with_reducible first | refine W ?_ | refine Wz0 ?_) | ((with_reducible first | refine Wo (fun K hK => ?_) | refine Wq ?_ | refine Wr ?_); (try simp only [go_sem, fN, seval, eT, iR, h1, h3, h5]); (repeat with_reducible refine Ai ?_); (try (refine hK _ ?_; clear hK K))))
    simp only [go_sem, fN, seval, FinQ, AS.result, resAll, resOne, tupV, letterI, h1, h3, h5]
    try simp
theorem nameOk_eq (s : ByteArray) (h1 : 1 ≤ s.size) (h8 : s.size ≤ 8) (hd : ¬ (48 ≤ byteAt s 0 ∧ byteAt s 0 ≤ 57)) : nameOk s = lettersTo s s.size := by
  unfold nameOk
  have : (decide (48 ≤ byteAt s 0) && decide (byteAt s 0 ≤ 57)) = false := by
    rw [Bool.and_eq_false_iff]
    simp
    omega
  rw [this]
  simp [h1, h8]
theorem name_a (s : ByteArray) : ACalls Tryd.prog 39 [aStr s] (aBool (nameOk s)) := by
  by_cases h0 : s.size < 1
  · have e : nameOk s = false := by simp [nameOk]; omega
    rw [e]
    have h0' : (s.size : Int) < 1 := by omega
    refine ok_term_Name.ac fun C hC => ?_
    unfold ir_term_Name
    repeat' (first | (with_reducible first | refine W ?_ | refine Wz0 ?_) | ((with_reducible first | refine Wo (fun K hK => ?_) | refine Wq ?_ | refine Wr ?_); (try simp only [go_sem, fN, seval, eT, iR, h0']); (repeat with_reducible refine Ai ?_); (try (refine hK _ ?_; clear hK K))))
    with_reducible refine Wp ?_
    simp only [go_sem, fN, seval, true_implies, false_implies, implies_true, dT, dF, nL, h0']
    (try with_reducible refine iC ?_)
    repeat' (first | (with_reducible first | refine W ?_ | refine Wz0 ?_) | ((with_reducible first | refine Wo (fun K hK => ?_) | refine Wq ?_ | refine Wr ?_); (try simp only [go_sem, fN, seval, eT, iR]); (repeat with_reducible refine Ai ?_); (try (refine hK _ ?_; clear hK K))))
    simp only [go_sem, fN, seval, FinQ, AS.result, resAll, resOne, tupV]
  have h0' : ¬ (s.size : Int) < 1 := by omega
  by_cases h8 : 8 < s.size
  · have e : nameOk s = false := by simp [nameOk]; omega
    rw [e]
    have h8' : (8 : Int) < s.size := by omega
    refine ok_term_Name.ac fun C hC => ?_
    unfold ir_term_Name
    repeat' (first | (with_reducible first | refine W ?_ | refine Wz0 ?_) | ((with_reducible first | refine Wo (fun K hK => ?_) | refine Wq ?_ | refine Wr ?_); (try simp only [go_sem, fN, seval, eT, iR, h0', h8']); (repeat with_reducible refine Ai ?_); (try (refine hK _ ?_; clear hK K))))
    with_reducible refine Wp ?_
    simp only [go_sem, fN, seval, true_implies, false_implies, implies_true, dT, dF, nL, h0']
    (try with_reducible refine iC ?_)
    repeat' (first | (with_reducible first | refine W ?_ | refine Wz0 ?_) | ((with_reducible first | refine Wo (fun K hK => ?_) | refine Wq ?_ | refine Wr ?_); (try simp only [go_sem, fN, seval, eT, iR]); (repeat with_reducible refine Ai ?_); (try (refine hK _ ?_; clear hK K))))
    simp only [go_sem, fN, seval, FinQ, AS.result, resAll, resOne, tupV]
  have h8' : ¬ (8 : Int) < s.size := by omega
  have hpos : 0 < s.size := by omega
  by_cases hd : 48 ≤ byteAt s 0 ∧ byteAt s 0 ≤ 57
  · have e : nameOk s = false := by simp [nameOk, hd.1, hd.2]
    rw [e]
    refine ok_term_Name.ac fun C hC => ?_
    unfold ir_term_Name
    repeat' (first | (with_reducible first | refine W ?_ | refine Wz0 ?_) | ((with_reducible first | refine Wo (fun K hK => ?_) | refine Wq ?_ | refine Wr ?_); (try simp only [go_sem, fN, seval, eT, iR, h0', h8', hpos, byteN_eq, hd.1, hd.2]); (repeat with_reducible refine Ai ?_); (try (refine hK _ ?_; clear hK K))))
    with_reducible refine Wp ?_
    simp only [go_sem, fN, seval, true_implies, false_implies, implies_true, dT, dF, nL, h0']
    (try with_reducible refine iC ?_)
    repeat' (first | (with_reducible first | refine W ?_ | refine Wz0 ?_) | ((with_reducible first | refine Wo (fun K hK => ?_) | refine Wq ?_ | refine Wr ?_); (try simp only [go_sem, fN, seval, eT, iR]); (repeat with_reducible refine Ai ?_); (try (refine hK _ ?_; clear hK K))))
    simp only [go_sem, fN, seval, FinQ, AS.result, resAll, resOne, tupV]
  rw [nameOk_eq s (by omega) (by omega) hd]
  have hd2 : (48 ≤ byteAt s 0 ∧ ¬ byteAt s 0 ≤ 57) ∨ (¬ 48 ≤ byteAt s 0) := by omega
  refine ok_term_Name.ac fun C hC => ?_
  unfold ir_term_Name
  have h57 : 48 ≤ byteAt s 0 → ¬ byteAt s 0 ≤ 57 := fun h h' => hd ⟨h, h'⟩
  by_cases h48 : 48 ≤ byteAt s 0
  all_goals
    simp only [h48, true_implies, false_implies] at h57
    repeat' (first | (with_reducible first | refine W ?_ | refine Wz0 ?_) | ((with_reducible first | refine Wo (fun K hK => ?_) | refine Wq ?_ | refine Wr ?_); (try simp only [go_sem, fN, seval, eT, iR, h0', h8', hpos, byteN_eq, h48, h57]); (repeat with_reducible refine Ai ?_); (try (refine hK _ ?_; clear hK K))))
    with_reducible refine Wp ?_
    simp only [go_sem, fN, seval, true_implies, false_implies, implies_true, dT, dF, nL, h0']
    (try with_reducible refine iC ?_)
    repeat' (first | (with_reducible first | refine W ?_ | refine Wz0 ?_) | ((with_reducible first | refine Wo (fun K hK => ?_) | refine Wq ?_ | refine Wr ?_); (try simp only [go_sem, fN, seval, eT, iR]); (repeat with_reducible refine Ai ?_); (try (refine hK _ ?_; clear hK K))))
    refine IWP.loop (fun m x => ∃ k, k ≤ s.size ∧ m = s.size - k ∧ lettersTo s k = true ∧ x.env 0 = aStr s ∧ x.env 23 = aInt s.size ∧ x.env 24 = aInt k) s.size ⟨0, Nat.zero_le _, rfl, rfl, rfl, rfl, rfl⟩ ?_
    rintro m ⟨env, S⟩ ⟨k, hk, rfl, hl, e0, e23, e24⟩
    simp only at e0 e23 e24
    repeat' (first | (with_reducible first | refine W ?_ | refine Wz0 ?_) | ((with_reducible first | refine Wo (fun K hK => ?_) | refine Wq ?_ | refine Wr ?_); (try simp only [go_sem, fN, seval, eT, iR, e0, e23, e24]); (repeat with_reducible refine Ai ?_); (try (refine hK _ ?_; clear hK K))))
    with_reducible refine Wp ?_
    simp only [go_sem, fN, seval, true_implies, false_implies, implies_true, dT, dF, nL, e0, e23, e24]
    (try with_reducible refine iC ?_)
    refine ⟨fun hlt => ?_, fun hge => ?_⟩
    · have hlt' : k < s.size := by omega
      repeat' (first | (with_reducible first | refine W ?_ | refine Wz0 ?_) | refine Cg _ (letter_a _ (byteAt_range s k).1) ?_ | ((with_reducible first | refine Wo (fun K hK => ?_) | refine Wq ?_ | refine Wr ?_); (try simp only [go_sem, fN, seval, eT, iR, e0, e23, e24, hlt', byteN_eq]); (repeat with_reducible refine Ai ?_); (try (refine hK _ ?_; clear hK K))))
      with_reducible refine Wp ?_
      simp only [go_sem, fN, seval, true_implies, false_implies, implies_true, dT, dF, nL]
      (try with_reducible refine iC ?_)
      refine ⟨fun hn => ?_, fun hn => ?_⟩
      · repeat' (first | (with_reducible first | refine W ?_ | refine Wz0 ?_) | ((with_reducible first | refine Wo (fun K hK => ?_) | refine Wq ?_ | refine Wr ?_); (try simp only [go_sem, fN, seval, eT, iR]); (repeat with_reducible refine Ai ?_); (try (refine hK _ ?_; clear hK K))))
        simp only [go_sem, fN, seval, FinQ, AS.result, resAll, resOne, tupV]
        rw [lettersTo_no s k hlt' (by simpa using hn)]
      · repeat' (first | (with_reducible first | refine W ?_ | refine Wz0 ?_) | ((with_reducible first | refine Wo (fun K hK => ?_) | refine Wq ?_ | refine Wr ?_); (try simp only [go_sem, fN, seval, eT, iR, e0, e23, e24]); (repeat with_reducible refine Ai ?_); (try (refine hK _ ?_; clear hK K))))
        refine then_normal ⟨s.size - (k + 1), by omega, k + 1, by omega, rfl, ?_, ?_⟩
        · rw [lettersTo_succ s k hlt', hl]
          simpa using hn
        · simp only [go_sem, fN, seval, eT, iR, e0, e23, e24]
          congr 3
    · repeat' (first | (with_reducible first | refine W ?_ | refine Wz0 ?_) | ((with_reducible first | refine Wo (fun K hK => ?_) | refine Wq ?_ | refine Wr ?_); (try simp only [go_sem, fN, seval, eT, iR]); (repeat with_reducible refine Ai ?_); (try (refine hK _ ?_; clear hK K))))
      simp only [go_sem, fN, seval, FinQ, AS.result, resAll, resOne, tupV]
      rw [show s.size = k by omega, hl]
theorem index_a (l : List ByteArray) (x : ByteArray) : ∃ i : Int, ACalls Tryd.prog 55 [aStrs l, aStr x] (aInt i) ∧ (0 ≤ i ↔ isIn x l = true) := by
  by_cases hin : isIn x l = true
  · obtain ⟨k0, hk0, hmin⟩ : ∃ k, l[k]? = some x ∧ ∀ j, j < k → l[j]? ≠ some x := by
      have hx := isIn_iff.1 hin
      have ⟨k, hk⟩ := List.getElem?_of_mem hx
      induction k using Nat.strongRecOn with
      | _ k ih =>
        by_cases h : ∃ j, j < k ∧ l[j]? = some x
        · obtain ⟨j, hj, hjx⟩ := h
          exact ih j hj hjx
        · exact ⟨k, hk, fun j hj hjx => h ⟨j, hj, hjx⟩⟩
    have hlt0 := lt_of_get hk0
    refine ⟨k0, ?_, by simp [hin]⟩
    refine ok_slices_Index_string_string.ac fun C hC => ?_
    unfold ir_slices_Index_string_string
    refine IWP.learn 0 (by omega) fun hkn => ?_
    have hkn := known_len hkn
    rw [List.length_map] at hkn
    repeat' (first | (with_reducible first | refine W ?_ | refine Wz0 ?_) | ((with_reducible first | refine Wo (fun K hK => ?_) | refine Wq ?_ | refine Wr ?_); (try simp only [go_sem, fN, seval, eT, iR]); (repeat with_reducible refine Ai ?_); (try (refine hK _ ?_; clear hK K))))
    refine IWP.loop (fun n s => ∃ k, k ≤ k0 ∧ n = k0 - k ∧ s.env 0 = aStrs l ∧ s.env 1 = aStr x ∧ s.env 7 = aInt l.length ∧ s.env 8 = aInt k) k0 ⟨0, Nat.zero_le _, rfl, rfl, rfl, rfl, rfl⟩ ?_
    rintro n ⟨env, S⟩ ⟨k, hk, rfl, e0, e1, e7, e8⟩
    simp only at e0 e1 e7 e8
    have hlt : (k : Int) < l.length := by omega
    repeat' (first | (with_reducible first | refine W ?_ | refine Wz0 ?_) | ((with_reducible first | refine Wo (fun K hK => ?_) | refine Wq ?_ | refine Wr ?_); (try simp only [go_sem, fN, seval, eT, iR, e0, e1, e7, e8, hlt]); (repeat with_reducible refine Ai ?_); (try (refine hK _ ?_; clear hK K))))
    with_reducible refine Wp ?_
    simp only [go_sem, fN, seval, true_implies, false_implies, implies_true, dT, dF, nL, e0, e1, e7, e8, hlt]
    (try with_reducible refine iC ?_)
    obtain ⟨a, ha⟩ := get_lt (show k < l.length by omega)
    repeat' (first | (with_reducible first | refine W ?_ | refine Wz0 ?_) | ((with_reducible first | refine Wo (fun K hK => ?_) | refine Wq ?_ | refine Wr ?_); (try simp only [go_sem, fN, seval, eT, iR, e0, e1, e7, e8, ha]); (repeat with_reducible refine Ai ?_); (try (refine hK _ ?_; clear hK K))))
    by_cases he : k = k0
    · subst he
      rw [hk0] at ha
      cases ha
      with_reducible refine Wp ?_
      simp only [go_sem, fN, seval, true_implies, false_implies, implies_true, dT, dF, nL]
      (try with_reducible refine iC ?_)
      repeat' (first | (with_reducible first | refine W ?_ | refine Wz0 ?_) | ((with_reducible first | refine Wo (fun K hK => ?_) | refine Wq ?_ | refine Wr ?_); (try simp only [go_sem, fN, seval, eT, iR, e0, e1, e7, e8]); (repeat with_reducible refine Ai ?_); (try (refine hK _ ?_; clear hK K))))
      simp only [go_sem, fN, seval, FinQ, AS.result, resAll, resOne, tupV]
    · have hne : ¬ x = a := fun e => hmin k (by omega) (by rw [ha, e])
      with_reducible refine Wp ?_
      simp only [go_sem, fN, seval, true_implies, false_implies, implies_true, dT, dF, nL, hne]
      (try with_reducible refine iC ?_)
      repeat' (first | (with_reducible first | refine W ?_ | refine Wz0 ?_) | ((with_reducible first | refine Wo (fun K hK => ?_) | refine Wq ?_ | refine Wr ?_); (try simp only [go_sem, fN, seval, eT, iR, e0, e1, e7, e8]); (repeat with_reducible refine Ai ?_); (try (refine hK _ ?_; clear hK K))))
      refine then_normal ⟨k0 - (k + 1), by omega, k + 1, by omega, rfl, ?_⟩
      simp only [go_sem, fN, seval, eT, iR, e0, e1, e7, e8]
      congr 3
  · rw [Bool.not_eq_true] at hin
    refine ⟨-1, ?_, by simp [hin]⟩
    refine ok_slices_Index_string_string.ac fun C hC => ?_
    unfold ir_slices_Index_string_string
    refine IWP.learn 0 (by omega) fun hkn => ?_
    have hkn := known_len hkn
    rw [List.length_map] at hkn
    repeat' (first | (with_reducible first | refine W ?_ | refine Wz0 ?_) | ((with_reducible first | refine Wo (fun K hK => ?_) | refine Wq ?_ | refine Wr ?_); (try simp only [go_sem, fN, seval, eT, iR]); (repeat with_reducible refine Ai ?_); (try (refine hK _ ?_; clear hK K))))
    refine IWP.loop (fun n s => ∃ k, k ≤ l.length ∧ n = l.length - k ∧ s.env 0 = aStrs l ∧ s.env 1 = aStr x ∧ s.env 7 = aInt l.length ∧ s.env 8 = aInt k) l.length ⟨0, Nat.zero_le _, rfl, rfl, rfl, rfl, rfl⟩ ?_
    rintro n ⟨env, S⟩ ⟨k, hk, rfl, e0, e1, e7, e8⟩
    simp only at e0 e1 e7 e8
    by_cases hlt : (k : Int) < l.length
    · repeat' (first | (with_reducible first | refine W ?_ | refine Wz0 ?_) | ((with_reducible first | refine Wo (fun K hK => ?_) | refine Wq ?_ | refine Wr ?_); (try simp only [go_sem, fN, seval, eT, iR, e0, e1, e7, e8, hlt]); (repeat with_reducible refine Ai ?_); (try (refine hK _ ?_; clear hK K))))
      with_reducible refine Wp ?_
      simp only [go_sem, fN, seval, true_implies, false_implies, implies_true, dT, dF, nL, e0, e1, e7, e8, hlt]
      (try with_reducible refine iC ?_)
      obtain ⟨a, ha⟩ := get_lt (show k < l.length by omega)
      have hne : ¬ x = a := fun e => by
        rw [isIn_no] at hin
        exact hin (by rw [e]; exact mem_of_get ha)
      repeat' (first | (with_reducible first | refine W ?_ | refine Wz0 ?_) | ((with_reducible first | refine Wo (fun K hK => ?_) | refine Wq ?_ | refine Wr ?_); (try simp only [go_sem, fN, seval, eT, iR, e0, e1, e7, e8, ha]); (repeat with_reducible refine Ai ?_); (try (refine hK _ ?_; clear hK K))))
      with_reducible refine Wp ?_
      simp only [go_sem, fN, seval, true_implies, false_implies, implies_true, dT, dF, nL, hne]
      (try with_reducible refine iC ?_)
      repeat' (first | (with_reducible first | refine W ?_ | refine Wz0 ?_) | ((with_reducible first | refine Wo (fun K hK => ?_) | refine Wq ?_ | refine Wr ?_); (try simp only [go_sem, fN, seval, eT, iR, e0, e1, e7, e8]); (repeat with_reducible refine Ai ?_); (try (refine hK _ ?_; clear hK K))))
      refine then_normal ⟨l.length - (k + 1), by omega, k + 1, by omega, rfl, ?_⟩
      simp only [go_sem, fN, seval, eT, iR, e0, e1, e7, e8]
      congr 3
    · repeat' (first | (with_reducible first | refine W ?_ | refine Wz0 ?_) | ((with_reducible first | refine Wo (fun K hK => ?_) | refine Wq ?_ | refine Wr ?_); (try simp only [go_sem, fN, seval, eT, iR, e0, e1, e7, e8, hlt]); (repeat with_reducible refine Ai ?_); (try (refine hK _ ?_; clear hK K))))
      with_reducible refine Wp ?_
      simp only [go_sem, fN, seval, true_implies, false_implies, implies_true, dT, dF, nL, e0, e1, e7, e8, hlt]
      (try with_reducible refine iC ?_)
      repeat' (first | (with_reducible first | refine W ?_ | refine Wz0 ?_) | ((with_reducible first | refine Wo (fun K hK => ?_) | refine Wq ?_ | refine Wr ?_); (try simp only [go_sem, fN, seval, eT, iR]); (repeat with_reducible refine Ai ?_); (try (refine hK _ ?_; clear hK K))))
      simp only [go_sem, fN, seval, FinQ, AS.result, resAll, resOne, tupV]
theorem contains_a (l : List ByteArray) (x : ByteArray) : ACalls Tryd.prog 40 [aStrs l, aStr x] (aBool (isIn x l)) := by
  obtain ⟨i, h1, h2⟩ := index_a l x
  refine ok_slices_Contains_string_string.ac fun C hC => ?_
  unfold ir_slices_Contains_string_string
  repeat' (first | (with_reducible first | refine W ?_ | refine Wz0 ?_) | refine Cg _ (h1) ?_ | ((with_reducible first | refine Wo (fun K hK => ?_) | refine Wq ?_ | refine Wr ?_); (try simp only [go_sem, fN, seval, eT, iR]); (repeat with_reducible refine Ai ?_); (try (refine hK _ ?_; clear hK K))))
  simp only [go_sem, fN, seval, FinQ, AS.result, resAll, resOne, tupV]
  congr 4
  cases hi : isIn x l with
  | true => exact decide_eq_true (h2.2 hi)
  | false =>
    refine decide_eq_false fun h => ?_
    rw [h2.1 h] at hi
    cases hi
mutual
def Tm.beq : Tm → Tm → Bool
  | .mk n xs, .mk m ys => decide (n = m) && Tm.beqL xs ys
def Tm.beqL : List Tm → List Tm → Bool
  | [], [] => true
  | x :: xs, y :: ys => x.beq y && Tm.beqL xs ys
  | _, _ => false
end
def Tm.nil : Tm := .mk ⟨#[]⟩ []


abbrev Pr := Tm × Tm
def encP (p : Pr) : List SV := [.str p.1.name, .list (p.1.args.map encT), .str p.2.name, .list (p.2.args.map encT)]
instance : Lens encP 4 := ⟨fun _ => rfl⟩

def decS (n : Nat) : ByteArray := ⟨(Lib.decDigits n).toArray⟩
theorem nDig_le {u k : Nat} (h : u < 10 ^ k) (hk : 1 ≤ k) : Lib.nDigits u ≤ k := by
  induction k generalizing u with
  | zero => omega
  | succ k ih =>
    by_cases h1 : u < 10
    · rw [Lib.nDigits_small h1]; omega
    · rw [Lib.nDigits_big h1]
      have : 1 ≤ k := by
        rcases Nat.eq_zero_or_pos k with h0 | h0
        · subst h0; rw [Nat.zero_add, Nat.pow_one] at h; omega
        · exact h0
      have := ih (u := u / 10) (by rw [Nat.pow_succ] at h; omega) this
      omega
theorem decS_size (n : Nat) : (decS n).size = Lib.nDigits n := by
  show (Lib.decDigits n).toArray.size = _
  rw [List.size_toArray, Lib.decDigits_length]
theorem decS_size_le {n : Nat} (h : n < 1000000) : (decS n).size ≤ 6 := by rw [decS_size]; exact nDig_le (k := 6) (by omega) (by omega)
def headEq (n : ByteArray) (xs : List Tm) (b : Tm) : Prop := isVar n = false ∧ n = b.name ∧ xs.length = b.args.length
instance (n : ByteArray) (xs : List Tm) (b : Tm) : Decidable (headEq n xs b) := by unfold headEq; infer_instance
def Goes (l m : List Pr) : Prop := ∃ r, m = l ++ r
theorem Goes.refl (l : List Pr) : Goes l l := ⟨[], by simp⟩
theorem Goes.trans {a b c : List Pr} (h : Goes a b) (k : Goes b c) : Goes a c := by
  obtain ⟨r, rfl⟩ := h
  obtain ⟨q, rfl⟩ := k
  exact ⟨r ++ q, by simp⟩

def apS : ByteArray := ⟨#[97, 112]⟩
def ap2 (f x : Tm) : Tm := .mk apS [f, x]
mutual
def Tm.hd : Tm → Tm
  | .mk n xs => match Tm.hdL xs with | some h => h | none => .mk n xs
def Tm.hdL : List Tm → Option Tm
  | [] => none
  | f :: _ => some f.hd
end
mutual
def Tm.rw_ : Tm → List Tm
  | .mk n xs => match Tm.rwL xs, xs with
    | some l, _ :: x :: _ => l ++ [x]
    | _, _ => []
def Tm.rwL : List Tm → Option (List Tm)
  | [] => none
  | f :: _ => some f.rw_
end
def aps (h : Tm) (l : List Tm) : Tm := l.foldl ap2 h
def iS : ByteArray := ⟨#[105]⟩
def kS : ByteArray := ⟨#[107]⟩
def sS : ByteArray := ⟨#[115]⟩
def redOf (n : ByteArray) (l : List Tm) : Option (Tm × Nat) :=
  if n = iS then (match l with | x :: _ => some (x, 1) | _ => none)
  else if n = kS then (match l with | x :: _ :: _ => some (x, 2) | _ => none)
  else if n = sS then (match l with | x :: y :: z :: _ => some (ap2 (ap2 x z) (ap2 y z), 3) | _ => none)
  else none
def firstBy (f : Tm → Option Tm) : List Tm → Option (Nat × Tm)
  | [] => none
  | t :: ts => match f t with
    | some x => some (0, x)
    | none => (firstBy f ts).map fun p => (p.1 + 1, p.2)
def Tm.stepF : Nat → Tm → Option Tm
  | 0, _ => none
  | k + 1, t => match redOf t.hd.name t.rw_ with
    | some (y, u) => some (aps y (t.rw_.drop u))
    | none => (firstBy (Tm.stepF k) t.rw_).map fun p => aps t.hd (t.rw_.set p.1 p.2)
def Tm.step (t : Tm) : Option Tm := Tm.stepF t.size t
def Tm.run : Nat → Int → Tm → Tm × Int × Int
  | left, n, t => match t.step with
    | none => (t, n, 0)
    | some x => match left with
      | 0 => (.mk ⟨#[]⟩ [], 0, 9)
      | left + 1 => if 2000 < x.size then (.mk ⟨#[]⟩ [], 0, 8) else Tm.run left (n + 1) x
theorem Tm.run_none {left : Nat} {n : Int} {t : Tm} (h : t.step = none) : Tm.run left n t = (t, n, 0) := by
  cases left <;> (rw [Tm.run]; simp only [h])
theorem Tm.run_zero {n : Int} {t x : Tm} (h : t.step = some x) : Tm.run 0 n t = (.mk ⟨#[]⟩ [], 0, 9) := by rw [Tm.run]; simp only [h]
theorem Tm.run_succ {left : Nat} {n : Int} {t x : Tm} (h : t.step = some x) : Tm.run (left + 1) n t = if 2000 < x.size then (.mk ⟨#[]⟩ [], 0, 8) else Tm.run left (n + 1) x := by rw [Tm.run]; simp only [h]

end Go.Proofs.YtadjhfokddfbiaaDoor
