/-
  Part 5 of the texts: AbsN; Data; AbsT; AbsU; AbsV; IrLWrite; PTermD; PTerm; PSubst; PSort; PThen; PCompose; IrTerm; BTerm; BVars; PPair; PGen; PComb; PLam; PFrom; PRed; PRed2; PTo; PLShow; BEnds. Conditions: none.
-/
import Derived.Test.YtfiegbokcabhhaaDoorLaM4
import Derived.Lib.ItoaNum
import Derived.Lib.Atoi
import Derived.Lib.AtoiBound
namespace Go.Proofs.YtfiegbokcabhhaaDoor
open Go Go.RowKit
set_option linter.unusedVariables false
set_option linter.unusedSimpArgs false
set_option maxHeartbeats 400000
mutual
def AC.clear (ds : List Nat) : AC → Bool
  | .row id _ => !ds.contains id
  | .part id _ _ => !ds.contains id
  | .rest id _ _ => !ds.contains id
  | .ptr id _ _ _ => !ds.contains id
  | .mptr id => !ds.contains id
  | .yld id => !ds.contains id
  | .ubool => true
  | .fn _ caps => AC.clears ds caps
  | .st _ => true
  | .full _ => true
  | .eptr _ => true
  | .any => true
def AC.clears (ds : List Nat) : List AC → Bool
  | [] => true
  | c :: cs => c.clear ds && AC.clears ds cs
end
theorem clears_mem {ds : List Nat} : ∀ {l : List AC}, AC.clears ds l = true → ∀ a ∈ l, a.clear ds = true
  | [], _, a, ha => by simp at ha
  | x :: xs, hx, a, ha => by
    rw [AC.clears, Bool.and_eq_true] at hx
    rcases List.mem_cons.1 ha with rfl | ha
    · exact hx.1
    · exact clears_mem hx.2 a ha
def AC.purge (ds : List Nat) : AC → AC
  | .row id n => if ds.contains id then .any else .row id n
  | .part id k n => if ds.contains id then .any else .part id k n
  | .rest id k n => if ds.contains id then .any else .rest id k n
  | .ptr id n k off => if ds.contains id then .any else .ptr id n k off
  | .mptr id => if ds.contains id then .any else .mptr id
  | .yld id => if ds.contains id then .any else .yld id
  | .fn f caps => if AC.clears ds caps then .fn f caps else .any
  | c => c
mutual
def AV.purge (ds : List Nat) : AV → AV
  | .one c => .one (c.purge ds)
  | .agg cs => .agg (cs.map (AC.purge ds))
  | .tup vs => .tup (AV.purges ds vs)
  | .any => .any
def AV.purges (ds : List Nat) : List AV → List AV
  | [] => []
  | v :: vs => v.purge ds :: AV.purges ds vs
end
def ABlk.purge (ds : List Nat) : ABlk → ABlk
  | .box e cs => .box e (cs.map (AC.purge ds))
  | .iter x n seen => .iter (x.purge ds) n seen
  | .loop env r => .loop (AV.purges ds env) r
  | b => b
def dropS (ds : List Nat) (S : AStore) : AStore := fun id => if ds.contains id then none else (S id).map (ABlk.purge ds)
def AS.drop (ds : List Nat) (s : AS) : AS := ⟨fun i => (s.env i).purge ds, dropS ds s.S⟩
section
variable {C : Ctx} {σ : Sto} {ι : AHnd} {s : AS} {a : Act} {w : World} {ds : List Nat}
theorem purge_len (b : ABlk) : (b.purge ds).len = b.len := by cases b <;> rfl
theorem purge_wid (b : ABlk) : (b.purge ds).wid = b.wid := by cases b <;> rfl
theorem ARep.keepClear {ds : List Nat} {S S2 : AStore} (hS : ∀ id b, ds.contains id = false → S id = some b → ∃ b', S2 id = some b' ∧ b'.len = b.len ∧ b'.wid = b.wid) {v : Value} {c : AC} (h : ARep σ S ι v c) (hc : c.clear ds = true) : ARep σ S2 ι v c := by
  induction h with
  | st h => exact .st h
  | full h => exact .full h
  | row h1 h2 h3 h4 =>
    rw [AC.clear] at hc
    obtain ⟨b', q1, q2, q3⟩ := hS _ _ (by simpa using hc) h1
    exact .row q1 (by rw [q2]; exact h2) h3 (by rw [q2]; exact h4)
  | part h1 h2 h3 h4 =>
    rw [AC.clear] at hc
    obtain ⟨b', q1, q2, q3⟩ := hS _ _ (by simpa using hc) h1
    exact .part q1 (by rw [q2]; exact h2) h3 (by rw [q2]; exact h4)
  | rest h1 h2 h3 h4 =>
    rw [AC.clear] at hc
    obtain ⟨b', q1, q2, q3⟩ := hS _ _ (by simpa using hc) h1
    exact .rest q1 (by rw [q2]; exact h2) h3 (by rw [q2, q3]; exact h4)
  | ptr h1 h2 h3 h4 =>
    rw [AC.clear] at hc
    obtain ⟨b', q1, q2, q3⟩ := hS _ _ (by simpa using hc) h1
    exact .ptr q1 (by rw [q2]; exact h2) h3 (by rw [q2, q3]; exact h4)
  | mptr h1 h2 h3 h4 =>
    rw [AC.clear] at hc
    obtain ⟨b', q1, q2, q3⟩ := hS _ _ (by simpa using hc) h1
    exact .mptr q1 (by rw [q2]; exact h2) h3 (by rw [q2]; exact h4)
  | yld h1 h2 h3 h4 =>
    rw [AC.clear] at hc
    obtain ⟨b', q1, q2, q3⟩ := hS _ _ (by simpa using hc) h1
    exact .yld q1 (by rw [q2]; exact h2) h3 (by rw [q2]; exact h4)
  | ubool => exact .ubool
  | eptr c h1 h2 hh => exact .eptr c h1 h2 hh
  | fn c h1 h2 h3 ih =>
    rw [AC.clear] at hc
    exact .fn c h1 h2 (fun j a ha => ih j a ha (clears_mem hc a (List.mem_of_getElem? ha)))
  | any h => exact .any h
theorem ARep.purge (hds : ∀ d ∈ ds, d < 1000) {v : Value} {c : AC} (h : ARep σ s.S ι v c) : ARep σ (s.drop ds).S ι v (c.purge ds) := by
  have h0 := h
  cases h with
  | st h => exact .st h
  | full h => exact .full h
  | @row _ id n b h1 h2 h3 h4 =>
    simp only [AC.purge]
    split
    · exact .any h3
    · rename_i hn
      exact .row (b := b.purge ds) (by simp only [AS.drop, dropS, hn]; rw [h1]; rfl) (by rw [purge_len]; exact h2) h3 (by rw [purge_len]; exact h4)
  | @part _ id k n b h1 h2 h3 h4 =>
    simp only [AC.purge]
    split
    · exact .any h3
    · rename_i hn
      exact .part (b := b.purge ds) (by simp only [AS.drop, dropS, hn]; rw [h1]; rfl) (by rw [purge_len]; exact h2) h3 (by rw [purge_len]; exact h4)
  | @rest _ id k n b h1 h2 h3 h4 =>
    simp only [AC.purge]
    split
    · exact .any h3
    · rename_i hn
      exact .rest (b := b.purge ds) (by simp only [AS.drop, dropS, hn]; rw [h1]; rfl) (by rw [purge_len]; exact h2) h3 (by rw [purge_len, purge_wid]; exact h4)
  | @ptr _ id n k off b h1 h2 h3 h4 =>
    simp only [AC.purge]
    split
    · exact .any h3
    · rename_i hn
      exact .ptr (b := b.purge ds) (by simp only [AS.drop, dropS, hn]; rw [h1]; rfl) (by rw [purge_len]; exact h2) h3 (by rw [purge_len, purge_wid]; exact h4)
  | @mptr _ id b h1 h2 h3 h4 =>
    simp only [AC.purge]
    split
    · exact .any h3
    · rename_i hn
      exact .mptr (b := b.purge ds) (by simp only [AS.drop, dropS, hn]; rw [h1]; rfl) (by rw [purge_len]; exact h2) h3 (by rw [purge_len]; exact h4)
  | @yld _ id b h1 h2 h3 h4 =>
    simp only [AC.purge]
    split
    · exact .any h3
    · rename_i hn
      exact .yld (b := b.purge ds) (by simp only [AS.drop, dropS, hn]; rw [h1]; rfl) (by rw [purge_len]; exact h2) h3 (by rw [purge_len]; exact h4)
  | ubool => exact .ubool
  | eptr c h1 h2 hh => exact .eptr c h1 h2 hh
  | @fn f vs caps c h1 h2 h3 =>
    simp only [AC.purge]
    split
    · rename_i hh
      exact h0.keepClear (ds := ds) (fun id b hid hb => ⟨b.purge ds, by
        show dropS ds s.S id = _
        unfold dropS
        rw [hid, hb]
        rfl, purge_len b, purge_wid b⟩) (by rw [AC.clear]; exact hh)
    · exact .any rfl
  | any h => exact .any h
mutual
theorem VRep.purge (hds : ∀ d ∈ ds, d < 1000) : ∀ {v : Value} {c : AV}, VRep σ s.S ι v c → VRep σ (s.drop ds).S ι v (c.purge ds)
  | v, .one c, h => by cases h with | one h => exact .one (h.purge hds)
  | v, .agg cs, h => by cases h with | agg h => exact .agg ((h.mono fun _ _ x => x.purge hds).map_right)
  | v, .tup vs, h => by
    cases h with
    | tup c h1 h2 h3 =>
      obtain ⟨k1, k2⟩ := VRep.purges hds (c := c) h3
      exact .tup c (by rw [h1, k1]) (fun j b hb => by
        rcases Nat.lt_or_ge j vs.length with hj | hj
        · exact h2 j _ (List.getElem?_eq_getElem hj)
        · rw [List.getElem?_eq_none (by omega)] at hb; cases hb) k2
  | v, .any, h => .any
theorem VRep.purges (hds : ∀ d ∈ ds, d < 1000) : ∀ {vs : List AV} {c : Nat → Value}, (∀ j b, vs[j]? = some b → VRep σ s.S ι (c j) b) → vs.length = (AV.purges ds vs).length ∧ ∀ j b, (AV.purges ds vs)[j]? = some b → VRep σ (s.drop ds).S ι (c j) b
  | [], c, h => by simp [AV.purges]
  | x :: xs, c, h => by
    obtain ⟨m1, m2⟩ := VRep.purges hds (vs := xs) (c := fun j => c (j + 1)) (fun j b hb => h (j + 1) b (by simpa using hb))
    refine ⟨by simp [AV.purges, ← m1], fun j b hb => ?_⟩
    cases j with
    | zero =>
      simp [AV.purges] at hb
      subst hb
      exact VRep.purge hds (h 0 x rfl)
    | succ j => exact m2 j b (by simpa [AV.purges] using hb)
end
theorem BRep.purge (hds : ∀ d ∈ ds, d < 1000) {h : Hnd} {b : ABlk} (hr : BRep σ s.S ι w h b) : BRep σ (s.drop ds).S ι w h (b.purge ds) := by
  cases hr with
  | box h1 h2 h3 h4 h5 => exact .box h1 h2 h3 ((h4.mono fun _ _ x => x.purge hds).map_right) h5
  | afull h1 h2 h3 h4 => exact .afull h1 h2 h3 h4
  | arow h1 h2 h3 h4 h5 h6 h7 h8 h9 hh => exact .arow h1 h2 h3 h4 h5 h6 h7 h8 h9 hh
  | mnil h1 h2 => exact .mnil h1 h2
  | mrow h1 h2 h3 h4 h5 h6 h7 h8 h9 => exact .mrow h1 h2 h3 h4 h5 h6 h7 h8 h9
  | map h1 h2 h3 h4 => exact .map h1 h2 h3 h4
  | memo h1 h2 h3 h4 => exact .memo h1 h2 h3 h4
  | iter h1 h2 h3 h4 => exact .iter h1 h2 (h3.purge hds) h4
  | loop h1 h2 h3 h4 h5 =>
    obtain ⟨k1, k2⟩ := VRep.purges hds h4
    exact .loop h1 h2 (by rw [← k1]; exact h3) k2 h5
  | dead h1 => exact .dead h1
theorem drop_some {id : Nat} {b : ABlk} (h : (s.drop ds).S id = some b) : ∃ b', s.S id = some b' ∧ b = b'.purge ds := by
  simp only [AS.drop, dropS] at h
  split at h
  · cases h
  · rw [Option.map_eq_some_iff] at h
    obtain ⟨b', h1, h2⟩ := h
    exact ⟨b', h1, h2.symm⟩
theorem Ghost.drop (ds : List Nat) (s : AS) (hds : ∀ d ∈ ds, d < 1000) : Ghost C s (s.drop ds) := fun a w ⟨σ, ι, R⟩ => by
  refine ⟨σ, ι, R.size, fun i hi => (R.env i hi).purge hds, R.nod, R.fit, fun id b h => ?_, fun id id' b b' g h1 h2 g1 g2 => ?_, fun id b g h hg => ?_, R.ext, R.old, R.os, R.grown, R.same, fun id b hb => ?_⟩
  · obtain ⟨b', h1, rfl⟩ := drop_some h
    exact (R.blk id b' h1).purge hds
  · obtain ⟨c1, k1, _⟩ := drop_some h1
    obtain ⟨c2, k2, _⟩ := drop_some h2
    exact R.inj _ _ _ _ _ k1 k2 g1 g2
  · obtain ⟨c1, k1, _⟩ := drop_some h
    exact R.base _ _ _ k1 hg
  · obtain ⟨b', h1, h2, h3⟩ := R.upd id b hb
    have hid := (C.clean id b hb).1
    have hnc : ds.contains id = false := by
      cases hc : ds.contains id with
      | false => rfl
      | true =>
        have := hds id (List.contains_iff_mem.1 hc)
        omega
    refine ⟨b'.purge ds, by simp only [AS.drop, dropS, hnc]; rw [h1]; rfl, by rw [purge_len]; exact h2, fun hl => ?_⟩
    rw [purge_len] at hl
    rw [purge_wid]
    exact h3 hl
theorem Ghost.own (t id : Nat) (e : TypeId) (wd : Nat) {xs : List (List SV)} (ht : s.env t = .one (.full xs)) (hid : s.S id = none) (hw : ∀ x ∈ xs, x.length = wd) (hn : t < C.n) : Ghost C s ⟨updE s.env t (.one (.row id xs.length)), updE s.S id (some (.arow e wd xs))⟩ := fun a w ⟨σ, ι, R⟩ => by
  have rt := R.env t hn
  rw [ht] at rt
  generalize hv : a.tmps.getD t undef = v at rt
  cases vrep_one rt with
  | @full p len xs hs =>
    have hl : len = xs.length := by
      obtain ⟨p', cap', e1, _⟩ := srep_slice hs
      cases e1
      rfl
    subst hl
    obtain ⟨hu, R'⟩ := R.fresh (w' := w) hid (.arow e wd xs) ⟨p, xs.length, none⟩ (Ext.refl _ _) R.fit (Below.refl _ _) (by simp) (fun S' ι' hu => .afull rfl rfl hw hs)
    refine ⟨σ, _, R'.size, fun i hi => ?_, R'.nod, R'.fit, R'.blk, R'.inj, R'.base, R'.ext, R'.old, R'.os, R'.grown, R'.same, R'.upd⟩
    show VRep σ (s.set id (.arow e wd xs)).S _ _ (updE s.env t _ i)
    unfold updE
    split
    · rename_i e1
      subst e1
      rw [hv]
      exact .one (.row (b := .arow e wd xs) (by simp [AS.set, updE_same]) (Nat.le_refl _) rfl fun _ => by simp [updE])
    · exact R'.env i hi
theorem Ghost.ownM (t id : Nat) (e : TypeId) (wd : Nat) (ht : s.env t = .one (.full [])) (hid : s.S id = none) (hn : t < C.n) : Ghost C s ⟨updE s.env t (.one (.row id 0)), updE s.S id (some (.mrow e wd []))⟩ := fun a w ⟨σ, ι, R⟩ => by
  have rt := R.env t hn
  rw [ht] at rt
  generalize hv : a.tmps.getD t undef = v at rt
  cases vrep_one rt with
  | @full p len xs hs =>
    have hl : len = 0 := by
      obtain ⟨p', cap', e1, _⟩ := srep_slice hs
      cases e1
      rfl
    subst hl
    obtain ⟨hu, R'⟩ := R.fresh (w' := w) hid (.mrow e wd []) ⟨p, 0, none⟩ (Ext.refl _ _) R.fit (Below.refl _ _) (by simp) (fun S' ι' hu => .mnil rfl rfl)
    refine ⟨σ, _, R'.size, fun i hi => ?_, R'.nod, R'.fit, R'.blk, R'.inj, R'.base, R'.ext, R'.old, R'.os, R'.grown, R'.same, R'.upd⟩
    show VRep σ (s.set id (.mrow e wd [])).S _ _ (updE s.env t _ i)
    unfold updE
    split
    · rename_i e1
      subst e1
      rw [hv]
      exact .one (.row (b := .mrow e wd []) (by simp [AS.set, updE_same]) (Nat.le_refl _) rfl fun _ => by simp [updE])
    · exact R'.env i hi
theorem Ghost.keep (t id k n : Nat) {e : TypeId} {wd : Nat} {xs : List (List SV)} (ht : s.env t = .one (.part id k n)) (hS : s.S id = some (.arow e wd xs)) (hl : n = xs.length) (hn : t < C.n) : Ghost C s ⟨updE s.env t (.one (.st (.list (xs.take k)))), s.S⟩ := fun a w ⟨σ, ι, R⟩ => by
  have rt := R.env t hn
  rw [ht] at rt
  refine ⟨σ, ι, R.size, fun i hi => ?_, R.nod, R.fit, R.blk, R.inj, R.base, R.ext, R.old, R.os, R.grown, R.same, R.upd⟩
  show VRep σ s.S ι _ (updE s.env t _ i)
  unfold updE
  split
  · rename_i e1
    subst e1
    obtain ⟨b, h1, h2, h3⟩ := arep_part (vrep_one rt)
    rw [hS] at h1
    cases h1
    obtain ⟨h4, h5⟩ := h3 hl
    rw [h5]
    have hb := R.blk _ _ hS
    have hr := hb.srep
    have hmem : ∀ {kk x}, (xs.take k)[kk]? = some x → xs[kk]? = some x := fun hx => by
      rw [List.getElem?_take] at hx
      split at hx
      · exact hx
      · cases hx
    cases hr with
    | @list p len cap b o w' _ c q1 q2 q3 q4 q5 q6 qh q7 q8 =>
      exact .one (.st (.list (b := b) (o := o) (w := w') c (by rw [List.length_take]; omega) (by omega) q3 q4 (fun hne => q5 (by omega)) (fun x hx => q6 x (List.mem_of_mem_take hx)) (fun e1 e2 e3 => qh e1 e2 (fun e4 => e3 (by rw [e4]; exact List.take_nil))) (fun kk x j a hx ha => q7 kk x j a (hmem hx) ha) (fun kk x j a hx ha => q8 kk x j a (hmem hx) ha)))
  · exact R.env i hi
theorem Ghost.ownC (id j nid : Nat) (e : TypeId) (wd : Nat) {xs : List (List SV)} {ty : TypeId} {cs : List AC} (hb : s.S id = some (.box ty cs)) (hc : cs[j]? = some (.full xs)) (hn : s.S nid = none) (hw : ∀ x ∈ xs, x.length = wd) :
    Ghost C s ((s.set nid (.arow e wd xs)).set id (.box ty (cs.set j (.row nid xs.length)))) := fun a w ⟨σ, ι, R⟩ => by
  have hbk := R.blk id _ hb
  have hne : id ≠ nid := fun e => by subst e; rw [hb] at hn; cases hn
  cases hbk with
  | @box _ _ g vs h1 h2 h3 h4 h5 =>
    obtain ⟨v, hv, hr⟩ := h4.get hc
    cases hr with
    | @full p len xs hs =>
      have hl : len = xs.length := by
        obtain ⟨p', cap', e1, _⟩ := srep_slice hs
        cases e1
        rfl
      subst hl
      obtain ⟨hu, R'⟩ := R.fresh (w' := w) hn (.arow e wd xs) ⟨p, xs.length, none⟩ (Ext.refl _ _) R.fit (Below.refl _ _) (by simp) (fun S' ι' hu => .afull rfl rfl hw hs)
      have hb' : (s.set nid (.arow e wd xs)).S id = some (.box ty cs) := by simp [AS.set, updE_ne _ hne, hb]
      have hι : updE ι nid ⟨p, xs.length, none⟩ id = ι id := updE_ne _ hne _
      obtain ⟨hu2, R2⟩ := R'.turn (w' := w) hb' (.box ty (cs.set j (.row nid xs.length))) (updE ι nid ⟨p, xs.length, none⟩ id) (σ' := σ) (fun _ _ h => h) (fun _ _ _ => rfl) R.fit (Nat.le_refl _) (fun _ => ⟨by simp [ABlk.wid], rfl⟩) ⟨rfl, rfl, rfl⟩ (Nat.le_refl _) (fun _ _ _ => rfl) (fun g h => .inl h) (fun hu2 => by
        refine .box (by rw [hι]; exact h1) (by rw [hι]; exact h2) h3 (All2.of_get (by rw [List.length_set]; exact h4.len) fun k u c hu' hck => ?_) h5
        by_cases hk : k = j
        · subst hk
          rw [hv] at hu'
          cases hu'
          have hlt : k < cs.length := (List.getElem?_eq_some_iff.1 hc).1
          rw [List.getElem?_set_self hlt] at hck
          cases hck
          exact .row (b := .arow e wd xs) (by simp [AS.set, updE, hne.symm]) (Nat.le_refl _) rfl fun _ => by simp [updE, hne.symm]
        · rw [List.getElem?_set_ne (fun e => hk e.symm)] at hck
          obtain ⟨u', q1, q2⟩ := h4.get hck
          rw [hu'] at q1
          cases q1
          exact (q2.mono (fun _ _ h => h) hu).mono (fun _ _ h => h) hu2)
      exact ⟨_, _, R2⟩
theorem noS_upd {v : Value} {c : AV} (h : VRep σ noS noH v c) : VRep σ s.S ι v c := h.mono (fun _ _ h => h) (upd_noS _ _)
def AV.low (v : AV) : AV := if v.high then v else .any
theorem Refs.low (R : Refs C σ ι s a w) (hb : ∀ i b, 1000 ≤ i → s.S i = some b → b.high = true) : Refs C σ ι ⟨fun i => (s.env i).low, lowS s.S⟩ a w := by
  have hS : ∀ i b, 1000 ≤ i → s.S i = some b → lowS s.S i = some b := fun i b hi h => by
    show (if i < 1000 then none else s.S i) = some b
    rw [if_neg (by omega), h]
  have hinv : ∀ i b, lowS s.S i = some b → 1000 ≤ i ∧ s.S i = some b := fun i b h => by
    have h' : (if i < 1000 then none else s.S i) = some b := h
    split at h'
    · cases h'
    · exact ⟨by omega, h'⟩
  refine ⟨R.size, fun i hi => ?_, R.nod, R.fit, fun id b h => ?_, fun id id' b b' g h1 h2 g1 g2 => R.inj _ _ _ _ g (hinv _ _ h1).2 (hinv _ _ h2).2 g1 g2, fun id b g h hg => R.base _ _ g (hinv _ _ h).2 hg, R.ext, R.old, R.os, R.grown, R.same, fun id b h => ?_⟩
  · show VRep σ (lowS s.S) ι _ ((s.env i).low)
    unfold AV.low
    split
    · rename_i hh
      exact (R.env i hi).low hS hh
    · exact .any
  · obtain ⟨h1, h2⟩ := hinv _ _ h
    have hh := hb id b h1 h2
    cases R.blk id b h2 with
    | box k1 k2 k3 k4 k5 => exact .box k1 k2 k3 (all2_low hS k4 hh) k5
    | afull k1 k2 k3 k4 => exact .afull k1 k2 k3 k4
    | arow k1 k2 k3 k4 k5 k6 k7 k8 k9 kh => exact .arow k1 k2 k3 k4 k5 k6 k7 k8 k9 kh
    | mnil k1 k2 => exact .mnil k1 k2
    | mrow k1 k2 k3 k4 k5 k6 k7 k8 k9 => exact .mrow k1 k2 k3 k4 k5 k6 k7 k8 k9
    | map k1 k2 k3 k4 => exact .map k1 k2 k3 k4
    | memo k1 k2 k3 k4 => exact .memo k1 k2 k3 k4
    | iter k1 k2 k3 k4 => exact .iter k1 k2 (k3.low hS hh) k4
    | loop k1 k2 k3 k4 k5 => exact .loop k1 k2 k3 (VRep.lows hS k4 hh) k5
    | dead k1 => exact .dead k1
  · obtain ⟨b', h1, h2⟩ := R.upd id b h
    exact ⟨b', hS _ _ (C.clean id b h).1 h1, h2⟩
theorem Ghost.low (hb : ∀ i b, 1000 ≤ i → s.S i = some b → b.high = true) : Ghost C s ⟨fun i => (s.env i).low, lowS s.S⟩ := fun a w ⟨σ, ι, R⟩ => ⟨σ, ι, R.low hb⟩
def oneTo (id a : Nat) (i : Nat) : Nat := if i = id then a else i
def AV.hand (id a : Nat) (v : AV) : AV := if (v.ren (oneTo id a)).high then v.ren (oneTo id a) else .any
section
variable {S S2 : AStore} {ι2 : AHnd} {id a0 : Nat}
theorem ARep.hand (hS : ∀ i b, 1000 ≤ oneTo id a0 i → S i = some b → S2 (oneTo id a0 i) = some b ∧ ι2 (oneTo id a0 i) = ι i) {v : Value} {c : AC} (h : ARep σ S ι v c) (hc : (c.ren (oneTo id a0)).high = true) : ARep σ S2 ι2 v (c.ren (oneTo id a0)) := by
  induction h with
  | st h => exact .st h
  | full h => exact .full h
  | row h1 h2 h3 h4 =>
    rw [AC.ren, AC.high] at hc
    obtain ⟨q1, q2⟩ := hS _ _ (of_decide_eq_true hc) h1
    rw [AC.ren]
    exact .row q1 h2 h3 (fun hn => by rw [q2]; exact h4 hn)
  | part h1 h2 h3 h4 =>
    rw [AC.ren, AC.high] at hc
    obtain ⟨q1, q2⟩ := hS _ _ (of_decide_eq_true hc) h1
    rw [AC.ren]
    exact .part q1 h2 h3 (fun hn => by rw [q2]; exact h4 hn)
  | rest h1 h2 h3 h4 =>
    rw [AC.ren, AC.high] at hc
    obtain ⟨q1, q2⟩ := hS _ _ (of_decide_eq_true hc) h1
    rw [AC.ren]
    exact .rest q1 h2 h3 (fun hn => by rw [q2]; exact h4 hn)
  | ptr h1 h2 h3 h4 =>
    rw [AC.ren, AC.high] at hc
    obtain ⟨q1, q2⟩ := hS _ _ (of_decide_eq_true hc) h1
    rw [AC.ren]
    exact .ptr q1 h2 h3 (fun hn => by rw [q2]; exact h4 hn)
  | mptr h1 h2 h3 h4 =>
    rw [AC.ren, AC.high] at hc
    obtain ⟨q1, q2⟩ := hS _ _ (of_decide_eq_true hc) h1
    rw [AC.ren]
    exact .mptr q1 h2 h3 (fun hn => by rw [q2]; exact h4 hn)
  | yld h1 h2 h3 h4 =>
    rw [AC.ren, AC.high] at hc
    obtain ⟨q1, q2⟩ := hS _ _ (of_decide_eq_true hc) h1
    rw [AC.ren]
    exact .yld q1 h2 h3 (fun hn => by rw [q2]; exact h4 hn)
  | ubool => exact .ubool
  | eptr c h1 h2 hh => exact .eptr c h1 h2 hh
  | @fn f vs caps c h1 h2 h3 ih =>
    rw [AC.ren, AC.high] at hc
    rw [AC.ren]
    have key : ∀ (j : Nat) (b : AC), (AC.rens (oneTo id a0) caps)[j]? = some b → ∃ a, caps[j]? = some a ∧ b = a.ren (oneTo id a0) := fun j b hb => by
      rw [AC.rens_eq, List.getElem?_map, Option.map_eq_some_iff] at hb
      obtain ⟨a, ha, rfl⟩ := hb
      exact ⟨a, ha, rfl⟩
    refine .fn c (by rw [AC.rens_eq]; simpa using h1) (fun j b hb => ?_) (fun j b hb => ?_)
    · obtain ⟨a, ha, rfl⟩ := key j b hb
      exact h2 j a ha
    · have hm := highs_mem hc b (List.mem_of_getElem? hb)
      obtain ⟨a, ha, rfl⟩ := key j b hb
      exact ih j a ha hm
  | any h => exact .any h
mutual
theorem VRep.hand (hS : ∀ i b, 1000 ≤ oneTo id a0 i → S i = some b → S2 (oneTo id a0 i) = some b ∧ ι2 (oneTo id a0 i) = ι i) : ∀ {v : Value} {c : AV}, VRep σ S ι v c → (c.ren (oneTo id a0)).high = true → VRep σ S2 ι2 v (c.ren (oneTo id a0))
  | v, .one c, h, hc => by
    rw [AV.ren] at hc ⊢
    rw [AV.high] at hc
    cases h with | one h => exact .one (h.hand hS hc)
  | v, .agg cs, h, hc => by
    rw [AV.ren] at hc ⊢
    rw [AV.high] at hc
    cases h with
    | agg h =>
      refine .agg (All2.of_get (by rw [AC.rens_eq]; simpa using h.len) fun j x c hx hcj => ?_)
      have hm := highs_mem hc c (List.mem_of_getElem? hcj)
      rw [AC.rens_eq, List.getElem?_map, Option.map_eq_some_iff] at hcj
      obtain ⟨c', hc', rfl⟩ := hcj
      obtain ⟨x', h1, h2⟩ := h.get hc'
      rw [hx] at h1
      cases h1
      exact h2.hand hS hm
  | v, .tup vs, h, hc => by
    rw [AV.ren] at hc ⊢
    rw [AV.high] at hc
    cases h with
    | tup c h1 h2 h3 =>
      obtain ⟨k1, k2⟩ := VRep.hands hS h3 hc
      exact .tup c (by rw [h1, k1]) (fun j b hb => by
        rcases Nat.lt_or_ge j vs.length with hj | hj
        · exact h2 j _ (List.getElem?_eq_getElem hj)
        · rw [List.getElem?_eq_none (by omega)] at hb; cases hb) k2
  | v, .any, h, _ => .any
theorem VRep.hands (hS : ∀ i b, 1000 ≤ oneTo id a0 i → S i = some b → S2 (oneTo id a0 i) = some b ∧ ι2 (oneTo id a0 i) = ι i) : ∀ {vs : List AV} {c : Nat → Value}, (∀ j b, vs[j]? = some b → VRep σ S ι (c j) b) → AV.highs (AV.rens (oneTo id a0) vs) = true → vs.length = (AV.rens (oneTo id a0) vs).length ∧ ∀ j b, (AV.rens (oneTo id a0) vs)[j]? = some b → VRep σ S2 ι2 (c j) b
  | [], c, h, _ => by simp [AV.rens]
  | x :: xs, c, h, hc => by
    rw [AV.rens, AV.highs, Bool.and_eq_true] at hc
    obtain ⟨m1, m2⟩ := VRep.hands hS (vs := xs) (c := fun j => c (j + 1)) (fun j b hb => h (j + 1) b (by simpa using hb)) hc.2
    refine ⟨by simp [AV.rens, ← m1], fun j b hb => ?_⟩
    cases j with
    | zero =>
      simp [AV.rens] at hb
      subst hb
      exact VRep.hand hS (h 0 x rfl) hc.1
    | succ j => exact m2 j b (by simpa [AV.rens] using hb)
end
end
theorem ARep.stay {S S2 : AStore} {ι2 : AHnd} (hS : ∀ i b, 1000 ≤ i → S i = some b → S2 i = some b ∧ ι2 i = ι i) {v : Value} {c : AC} (h : ARep σ S ι v c) (hc : c.high = true) : ARep σ S2 ι2 v c := by
  induction h with
  | st h => exact .st h
  | full h => exact .full h
  | row h1 h2 h3 h4 =>
    rw [AC.high] at hc
    obtain ⟨q1, q2⟩ := hS _ _ (of_decide_eq_true hc) h1
    exact .row q1 h2 h3 (fun hn => by rw [q2]; exact h4 hn)
  | part h1 h2 h3 h4 =>
    rw [AC.high] at hc
    obtain ⟨q1, q2⟩ := hS _ _ (of_decide_eq_true hc) h1
    exact .part q1 h2 h3 (fun hn => by rw [q2]; exact h4 hn)
  | rest h1 h2 h3 h4 =>
    rw [AC.high] at hc
    obtain ⟨q1, q2⟩ := hS _ _ (of_decide_eq_true hc) h1
    exact .rest q1 h2 h3 (fun hn => by rw [q2]; exact h4 hn)
  | ptr h1 h2 h3 h4 =>
    rw [AC.high] at hc
    obtain ⟨q1, q2⟩ := hS _ _ (of_decide_eq_true hc) h1
    exact .ptr q1 h2 h3 (fun hn => by rw [q2]; exact h4 hn)
  | mptr h1 h2 h3 h4 =>
    rw [AC.high] at hc
    obtain ⟨q1, q2⟩ := hS _ _ (of_decide_eq_true hc) h1
    exact .mptr q1 h2 h3 (fun hn => by rw [q2]; exact h4 hn)
  | yld h1 h2 h3 h4 =>
    rw [AC.high] at hc
    obtain ⟨q1, q2⟩ := hS _ _ (of_decide_eq_true hc) h1
    exact .yld q1 h2 h3 (fun hn => by rw [q2]; exact h4 hn)
  | ubool => exact .ubool
  | eptr c h1 h2 hh => exact .eptr c h1 h2 hh
  | fn c h1 h2 h3 ih =>
    rw [AC.high] at hc
    exact .fn c h1 h2 (fun j a ha => ih j a ha (highs_mem hc a (List.mem_of_getElem? ha)))
  | any h => exact .any h
theorem Refs.hand (R : Refs C σ ι s a w) (id a0 : Nat) {b0 : ABlk} (hid : id < 1000) (ha : 1000 ≤ a0) (hSa : s.S a0 = none) (hb0 : s.S id = some b0) (hbh : b0.high = true) (hb : ∀ i b, 1000 ≤ i → s.S i = some b → b.high = true) :
    Refs C σ (updE ι a0 (ι id)) ⟨fun i => (s.env i).hand id a0, updE (lowS s.S) a0 (some b0)⟩ a w ∧ ∀ i b, 1000 ≤ oneTo id a0 i → s.S i = some b → updE (lowS s.S) a0 (some b0) (oneTo id a0 i) = some b ∧ updE ι a0 (ι id) (oneTo id a0 i) = ι i := by
  have hlow : ∀ i, 1000 ≤ i → lowS s.S i = s.S i := fun i hi => by
    show (if i < 1000 then none else s.S i) = _
    rw [if_neg (by omega)]
  have hS : ∀ i b, 1000 ≤ oneTo id a0 i → s.S i = some b → updE (lowS s.S) a0 (some b0) (oneTo id a0 i) = some b ∧ updE ι a0 (ι id) (oneTo id a0 i) = ι i := fun i b hi h => by
    unfold oneTo at hi ⊢
    by_cases e : i = id
    · subst e
      rw [if_pos rfl, updE_same, updE_same, ← hb0, h]
      exact ⟨rfl, rfl⟩
    · rw [if_neg e] at hi ⊢
      have hne : i ≠ a0 := fun e => by subst e; rw [hSa] at h; cases h
      rw [updE_ne _ hne, updE_ne _ hne, hlow i hi]
      exact ⟨h, rfl⟩
  have hS' : ∀ i b, 1000 ≤ i → s.S i = some b → updE (lowS s.S) a0 (some b0) i = some b ∧ updE ι a0 (ι id) i = ι i := fun i b hi h => by
    have hne : i ≠ a0 := fun e => by subst e; rw [hSa] at h; cases h
    rw [updE_ne _ hne, updE_ne _ hne, hlow i hi]
    exact ⟨h, rfl⟩
  have hinv : ∀ i b, updE (lowS s.S) a0 (some b0) i = some b → (i = a0 ∧ b = b0) ∨ (i ≠ a0 ∧ 1000 ≤ i ∧ s.S i = some b) := fun i b h => by
    by_cases e : i = a0
    · subst e
      rw [updE_same] at h
      cases h
      exact .inl ⟨rfl, rfl⟩
    · rw [updE_ne _ e] at h
      have h' : (if i < 1000 then none else s.S i) = some b := h
      split at h'
      · cases h'
      · exact .inr ⟨e, by omega, h'⟩
  refine ⟨⟨R.size, fun i hi => ?_, R.nod, R.fit, fun i b h => ?_, fun i j b c g h1 h2 g1 g2 => ?_, fun i b g h hg => ?_, R.ext, R.old, R.os, R.grown, R.same, fun i b h => ?_⟩, hS⟩
  · show VRep σ (updE (lowS s.S) a0 (some b0)) _ _ ((s.env i).hand id a0)
    unfold AV.hand
    split
    · rename_i hh
      exact (R.env i hi).hand hS hh
    · exact .any
  · rcases hinv i b h with ⟨rfl, rfl⟩ | ⟨hne, h1, h2⟩
    · rw [updE_same]
      exact (R.blk id _ hb0).samecells (fun v c hv hc => hv.stay hS' hc) hbh
    · rw [updE_ne _ hne]
      exact (R.blk i b h2).samecells (fun v c hv hc => hv.stay hS' hc) (hb i b h1 h2)
  · rcases hinv i b h1 with ⟨rfl, rfl⟩ | ⟨hne, k1, k2⟩ <;> rcases hinv j c h2 with ⟨rfl, rfl⟩ | ⟨hne', k1', k2'⟩
    · rfl
    · rw [updE_same] at g1
      rw [updE_ne _ hne'] at g2
      have := R.inj _ _ _ _ g hb0 k2' g1 g2
      omega
    · rw [updE_same] at g2
      rw [updE_ne _ hne] at g1
      have := R.inj _ _ _ _ g k2 hb0 g1 g2
      omega
    · rw [updE_ne _ hne] at g1
      rw [updE_ne _ hne'] at g2
      exact R.inj _ _ _ _ g k2 k2' g1 g2
  · rcases hinv i b h with ⟨rfl, rfl⟩ | ⟨hne, k1, k2⟩
    · rw [updE_same] at hg
      exact R.base _ _ g hb0 hg
    · rw [updE_ne _ hne] at hg
      exact R.base _ _ g k2 hg
  · obtain ⟨b', h1, h2, h3⟩ := R.upd i b h
    obtain ⟨q1, q2⟩ := hS' i b' (C.clean i b h).1 h1
    exact ⟨b', q1, h2, fun hl => ⟨(h3 hl).1, by rw [q2]; exact (h3 hl).2⟩⟩
theorem Ghost.hand (id a0 : Nat) {b0 : ABlk} (hid : id < 1000) (ha : 1000 ≤ a0) (hSa : s.S a0 = none) (hb0 : s.S id = some b0) (hbh : b0.high = true) (hb : ∀ i b, 1000 ≤ i → s.S i = some b → b.high = true) : Ghost C s ⟨fun i => (s.env i).hand id a0, updE (lowS s.S) a0 (some b0)⟩ := fun a w ⟨σ, ι, R⟩ =>
  ⟨σ, _, (R.hand id a0 hid ha hSa hb0 hbh hb).1⟩
theorem finS_hand {C : Ctx} {rs : List RV} {S' : AStore} {e : AX} {s : AS} (he : match e with | .normal => True | .ret => True | _ => False) (id a0 : Nat) (r0 : AV) {b0 : ABlk} (hid : id < 1000) (ha : 1000 ≤ a0) (hSa : s.S a0 = none) (hb0 : s.S id = some b0) (hbh : b0.high = true) (hb : ∀ i b, 1000 ≤ i → s.S i = some b → b.high = true)
    (h1 : (resAll s rs).map tupV = some r0) (hh : (r0.ren (oneTo id a0)).high = true) (h3 : updE (lowS s.S) a0 (some b0) = S') (hc : Clean S') : FinS C rs (r0.ren (oneTo id a0)) S' e s :=
  ⟨he, s, ⟨fun i => (s.env i).hand id a0, updE (lowS s.S) a0 (some b0)⟩, r0, Ghost.refl _ _, h1, fun σ ι a w R => ⟨σ, _, (R.hand id a0 hid ha hSa hb0 hbh hb).1, fun v hv => hv.hand (R.hand id a0 hid ha hSa hb0 hbh hb).2 hh⟩, h3, hc⟩
theorem upS_up (S : AStore) (i : Nat) : upS S (up1 i) = (S i).map (ABlk.ren up1) := by
  show (if i + 1000 < 1000 then none else (S (i + 1000 - 1000)).map (ABlk.ren up1)) = _
  rw [if_neg (by omega), Nat.add_sub_cancel]
theorem dnS_upd (S : AStore) (i : Nat) (b : ABlk) : dnS (updE S (up1 i) (some b)) = updE (dnS S) i (some (b.ren dn1)) := by
  funext k
  show (updE S (up1 i) (some b) (up1 k)).map _ = updE (dnS S) i _ k
  by_cases h : k = i
  · subst h
    rw [updE_same, updE_same]
    rfl
  · have hne : up1 k ≠ up1 i := fun e => h (by have := congrArg dn1 e; rw [dn_up, dn_up] at this; exact this)
    rw [updE_ne _ hne, updE_ne _ h]
    rfl
theorem clean_upd {S : AStore} (h : Clean S) {i : Nat} (hi : 1000 ≤ i) {b : ABlk} (hb : b.high = true) : Clean (updE S i (some b)) := fun k c hk => by
  by_cases e : k = i
  · subst e
    rw [updE_same] at hk
    cases hk
    exact ⟨hi, hb⟩
  · rw [updE_ne _ e] at hk
    exact h k c hk
end
theorem IWP.loopD {P : Program} {C : Ctx} {mu : List Nat} {Q : AX → AS → Prop} {s : AS} {x : IR} (ds : List Nat) (Inv : Nat → AS → Prop) (m0 : Nat) (h0 : Inv m0 s) (h : ∀ m s, Inv m s → IWP P C mu x (AX.then (fun s' => ∃ m', m' < m ∧ Inv m' (s'.drop ds)) Q) s) (hds : ∀ d ∈ ds, d < 1000 := by decide) : IWP P C mu (.loop x) Q s := by
  refine IWP.loop (fun m s => ∃ s1, Ghost C s s1 ∧ Inv m s1) m0 ⟨s, Ghost.refl _ _, h0⟩ fun m s ⟨s1, hg, hi⟩ => ?_
  refine (IWP.ghost hg (h m s1 hi)).mono fun e s2 he => ?_
  cases e with
  | normal =>
    obtain ⟨m', h1, h2⟩ := he
    exact ⟨m', h1, _, Ghost.drop ds s2 hds, h2⟩
  | _ => exact he
theorem finS_low {C : Ctx} {rs : List RV} {r : AV} {S' : AStore} {e : AX} {s : AS} (he : match e with | .normal => True | .ret => True | _ => False) (r0 : AV) (h1 : (resAll s rs).map tupV = some r0) (h2 : outV s.S r0 = some r) (hb : ∀ i b, 1000 ≤ i → s.S i = some b → b.high = true) (h3 : lowS s.S = S') (hc : Clean S') : FinS C rs r S' e s := by
  refine ⟨he, s, ⟨fun i => (s.env i).low, lowS s.S⟩, r0, Ghost.refl _ _, h1, fun σ ι a w R => ?_, h3, hc⟩
  exact ⟨σ, ι, R.low hb, fun v hv => noS_upd (s := ⟨fun i => (s.env i).low, lowS s.S⟩) (R.outV hv h2)⟩
theorem finS_same {C : Ctx} {rs : List RV} {r : AV} {e : AX} {s : AS} {S : AStore} (r0 : AV) (hS : Clean S) (he : match e with | .normal => True | .ret => True | _ => False)
    (h1 : (resAll s rs).map tupV = some r0) (h2 : outV s.S r0 = some r) (h4 : ∀ i, 1000 ≤ i → s.S i = S i) : FinS C rs r S e s :=
  finS_low he r0 h1 h2 (fun i b hi hb => (hS i b (by rw [← h4 i hi]; exact hb)).2) (by
    funext i
    unfold lowS
    split
    · exact (clean_none hS (by omega)).symm
    · exact h4 i (by omega)) hS
theorem finS_ghost {C : Ctx} {rs : List RV} {r : AV} {S' : AStore} {e : AX} {s s1 : AS} (hg : Ghost C s s1) (h : FinS C rs r S' e s1) : FinS C rs r S' e s := by
  obtain ⟨he, s2, s3, r0, h1, h2⟩ := h
  exact ⟨he, s2, s3, r0, hg.trans h1, h2⟩
theorem finN {C : Ctx} {rs : List RV} {e : AX} {s : AS} {ty : TypeId} {w n : Nat} {ys : List (List SV)} {mu : Bool} (he : match e with | .normal => True | .ret => True | _ => False) (id : Nat) (hid : id < 1000) (hb0 : s.S id = some (rowB mu ty w ys)) (hlow : ∀ i, 1000 ≤ i → s.S i = none)
    (h1 : (resAll s rs).map tupV = some (.one (.row id n))) : FinS C rs (.one (.row 1000 n)) (fun i => if i = 1000 then some (rowB mu ty w ys) else noS i) e s := by
  have e1 : (AV.one (.row id n)).ren (oneTo id 1000) = .one (.row 1000 n) := by simp [AV.ren, AC.ren, oneTo]
  rw [← e1]
  refine finS_hand he id 1000 _ hid (by decide) (hlow 1000 (by decide)) hb0 (by cases mu <;> rfl) (fun i b hi hb => by rw [hlow i hi] at hb; cases hb) h1 (by rw [e1]; rfl) ?_ ?_
  · funext i
    unfold updE lowS noS
    by_cases h2 : i = 1000
    · rw [if_pos h2, if_pos h2]
    · rw [if_neg h2, if_neg h2]
      split
      · rfl
      · exact hlow i (by omega)
  · intro i b hb
    have hb : (if i = 1000 then some (rowB mu ty w ys) else noS i) = some b := hb
    split at hb
    · rename_i h2
      cases hb
      exact ⟨by omega, by cases mu <;> rfl⟩
    · cases hb

open Cod (wid dat)
inductive Tm where
  | mk (name : ByteArray) (args : List Tm)
def Tm.name : Tm → ByteArray | .mk n _ => n
def Tm.args : Tm → List Tm | .mk _ xs => xs
mutual
def Tm.dat : Tm → Dat
  | .mk n xs => .agg [.str n, .row 2 (Tm.dats xs)]
def Tm.dats : List Tm → List Dat
  | [] => []
  | t :: ts => t.dat :: Tm.dats ts
end
theorem Tm.dats_eq : ∀ xs : List Tm, Tm.dats xs = xs.map Tm.dat
  | [] => rfl
  | t :: ts => by rw [Tm.dats, Tm.dats_eq ts]; rfl
theorem Tm.dat_is {σ : Sto} {n : ByteArray} {xs : List Tm} {cs : List Value} (h : (Tm.dat (.mk n xs)).Is σ cs) :
    ∃ p len cap, cs = [.string n, .slice p len cap] ∧ n.size ≤ maxLen ∧ len = xs.length ∧ len ≤ cap ∧ cap ≤ maxLen ∧ (p = none → cap = 0) ∧ ∃ b o, (len ≠ 0 → p = some ⟨b, o, none⟩) ∧ Dat.RowIs σ 2 (xs.map Tm.dat) b o := by
  rw [Tm.dat, Tm.dats_eq] at h
  obtain ⟨x, y, rfl, ⟨rfl, hn⟩, x', y', rfl, ⟨p, len, cap, rfl, hl, r⟩, rfl⟩ := h
  exact ⟨p, len, cap, rfl, hn, by simpa using hl, r⟩
instance : Cod Tm := ⟨2, Tm.dat, fun σ t cs h => by
  cases t
  obtain ⟨p, len, cap, rfl, _⟩ := Tm.dat_is h
  rfl⟩
def TmV (σ : Sto) (v : Value) (t : Tm) : Prop := ∃ p len cap, v = .agg #[.string t.name, .slice p len cap] ∧ t.name.size ≤ maxLen ∧ Slc σ p len cap t.args
theorem TmV.ext {σ σ' : Sto} {N : Nat} {v : Value} {t : Tm} (h : TmV σ v t) (he : Ext N σ σ') : TmV σ' v t := by
  obtain ⟨p, len, cap, h1, h2, h3⟩ := h
  exact ⟨p, len, cap, h1, h2, h3.ext he⟩
theorem Slc.str {σ : Sto} {p : Option Addr} {len cap : Nat} {xs : List ByteArray} (h : Slc σ p len cap xs) (k : Nat) (hk : k < len) :
    ∃ b o a, p = some ⟨b, o, none⟩ ∧ Hid (xs[k]? = some a) ∧ σ ⟨b, o + k, none⟩ = some (.string a) ∧ a.size ≤ maxLen := by
  have hl := h.length
  obtain ⟨b, o, hp, cs, h1, h2, h3⟩ := h.get k (by omega)
  obtain ⟨rfl, h4⟩ := cells_str.1 h3
  have := h2 0 _ rfl
  exact ⟨b, o, xs[k], hp, Lib.hid (List.getElem?_eq_getElem (by omega)), by simpa [Cod.wid] using this, h4⟩
theorem wf_bounds {n : Int} (h : (Lit.int .i64 n).wf = true) : -9223372036854775808 ≤ n ∧ n ≤ 9223372036854775807 := by
  simpa [Lit.wf, IntKind.min, IntKind.max, IntKind.signed, IntKind.bits] using h
theorem Slc.int {σ : Sto} {p : Option Addr} {len cap : Nat} {xs : List Int} (h : Slc σ p len cap xs) (k : Nat) (hk : k < len) :
    ∃ b o a, p = some ⟨b, o, none⟩ ∧ Hid (xs[k]? = some a) ∧ σ ⟨b, o + k, none⟩ = some (.int .i64 a) ∧ -9223372036854775808 ≤ a ∧ a ≤ 9223372036854775807 := by
  have hl := h.length
  obtain ⟨b, o, hp, cs, h1, h2, h3⟩ := h.get k (by omega)
  obtain ⟨rfl, h4⟩ := cells_int.1 h3
  have := h2 0 _ rfl
  exact ⟨b, o, xs[k], hp, Lib.hid (List.getElem?_eq_getElem (by omega)), by simpa [Cod.wid] using this, wf_bounds h4⟩
theorem take_snoc {α : Type} {xs : List α} {k : Nat} {a : α} (h : xs[k]? = some a) : xs.take (k + 1) = xs.take k ++ [a] := by
  rw [List.take_add_one, h]; rfl
theorem lt_of_get {α : Type} {xs : List α} {k : Nat} {a : α} (h : xs[k]? = some a) : k < xs.length := by
  rcases Nat.lt_or_ge k xs.length with h' | h'
  · exact h'
  · rw [List.getElem?_eq_none h'] at h; cases h
theorem mem_of_get {α : Type} {xs : List α} {k : Nat} {a : α} (h : xs[k]? = some a) : a ∈ xs := List.mem_of_getElem? h
theorem Tm.lt_of_mem {a : Tm} {n : ByteArray} {xs : List Tm} (h : a ∈ xs) : SizeOf.sizeOf a < SizeOf.sizeOf (Tm.mk n xs) := by
  have := List.sizeOf_lt_of_mem h
  simp only [Tm.mk.sizeOf_spec]
  omega

theorem guard_ite (c P Q : Prop) [Decidable c] : ((c → P) ∧ (¬ c → Q)) = if c then P else Q := by
  by_cases h : c <;> simp [h]
theorem ite_conj {c A B : Prop} [Decidable c] (h : (c → A) ∧ (¬ c → B)) : if c then A else B := by
  by_cases hc : c
  · rw [if_pos hc]; exact h.1 hc
  · rw [if_neg hc]; exact h.2 hc
theorem pick_ite (b : Bool) (P Q : Prop) : ((b = true → P) ∧ (b = false → Q)) = if b = true then P else Q := by
  cases b <;> simp
attribute [congr] CallK.congr CallSK.congr
mutual
def encT : Tm → List SV
  | .mk n xs => [.str n, .list (encTs xs)]
def encTs : List Tm → List (List SV)
  | [] => []
  | t :: ts => encT t :: encTs ts
end
theorem encTs_eq : ∀ xs : List Tm, encTs xs = xs.map encT
  | [] => rfl
  | t :: ts => by rw [encTs, encTs_eq ts]; rfl
theorem encT_eq (t : Tm) : encT t = [.str t.name, .list (t.args.map encT)] := by
  cases t
  rw [encT, encTs_eq]
  rfl
class Lens {α : Type} (f : α → List SV) (n : outParam Nat) : Prop where
  ok : ∀ a, (f a).length = n
theorem lens {α : Type} {f : α → List SV} {n : Nat} [h : Lens f n] {ts : List α} : ∀ x ∈ ts.map f, x.length = n := fun x hx => by
  obtain ⟨a, _, rfl⟩ := List.mem_map.1 hx
  exact h.ok a
instance : Lens encT 2 := ⟨fun t => by rw [encT_eq]; rfl⟩
theorem Tm.args_mk (n : ByteArray) (xs : List Tm) : (Tm.mk n xs).args = xs := rfl
theorem Tm.name_mk (n : ByteArray) (xs : List Tm) : (Tm.mk n xs).name = n := rfl
abbrev aInt (n : Int) : AV := .one (.st (.int .i64 n))
abbrev aBool (b : Bool) : AV := .one (.st (.bool b))
abbrev aStr (s : ByteArray) : AV := .one (.st (.str s))
abbrev encI (n : Int) : List SV := [.int .i64 n]
abbrev encS (s : ByteArray) : List SV := [.str s]
abbrev aInts (l : List Int) : AV := .one (.st (.list (l.map encI)))
abbrev aStrs (l : List ByteArray) : AV := .one (.st (.list (l.map encS)))
theorem get_lt {α : Type} {xs : List α} {k : Nat} (h : k < xs.length) : ∃ a, xs[k]? = some a := ⟨xs[k], List.getElem?_eq_getElem h⟩
theorem inR_i64 (n : Int) : inR .i64 n ↔ -9223372036854775808 ≤ n ∧ n ≤ 9223372036854775807 := by
  simp [inR, IntKind.min, IntKind.max, IntKind.signed, IntKind.bits]
theorem known_ints {l : List Int} (h : (SV.list (l.map encI)).known) : l.length ≤ maxLen ∧ ∀ n ∈ l, inR .i64 n := by
  obtain ⟨h1, h2⟩ := h
  refine ⟨by simpa using h1, fun n hn => ?_⟩
  have := knownL_iff.1 (knownLL_iff.1 h2 (encI n) (List.mem_map.2 ⟨n, hn, rfl⟩)) (.int .i64 n) (by simp)
  exact this
theorem maxLen_eq : maxLen = 9223372036854775807 := by simp [maxLen]
theorem known_len {S : AStore} {xs : List (List SV)} (h : (AV.one (.st (.list xs))).known S) : xs.length ≤ 9223372036854775807 := by
  simp only [AV.known, AC.known, SV.known] at h
  rw [maxLen_eq] at h
  exact h.1

def Kd.isCall : Kd → Bool
  | .call _ _ => true
  | .callS _ _ => true
  | .callV _ _ => true
  | .callN _ _ => true
  | .callR _ _ => true
  | .callW _ _ => true
  | .callX _ _ => true
  | .callY _ _ => true
  | .buildFlat _ => false
  | .cutP _ _ _ => false
  | .indexP _ _ _ => false
  | .appP _ _ _ _ _ => false
  | .restP _ _ _ => false
  | .appS _ _ _ => false
  | .loadL _ _ _ => false
  | .indexL _ _ _ => false
  | .buildL _ _ => false
  | .fieldL _ _ => false
  | .lenL _ _ => false
  | .appF _ _ _ _ _ _ => false
  | .clearP _ _ _ _ => false
  | .mov _ => false
  | .pick _ _ _ => false
  | .alloc _ _ => false
  | .box _ _ => false
  | .build _ _ => false
  | .buildSlice _ _ _ _ => false
  | .load _ _ _ => false
  | .store _ _ _ => false
  | .fieldAddr _ _ => false
  | .field _ _ _ _ => false
  | .indexAddr _ _ _ => false
  | .indexArr _ _ _ _ => false
  | .indexStr _ _ => false
  | .bin _ _ _ => false
  | .eqB _ _ _ => false
  | .eqN _ _ => false
  | .eqE _ _ => false
  | .never => false
  | .pan _ => false
  | .iface _ _ => false
  | .strOf _ => false
  | .un _ _ => false
  | .sliceS _ _ _ => false
  | .sliceL _ _ _ _ => false
  | .sliceM _ _ _ _ => false
  | .extract _ _ => false
  | .len _ _ => false
  | .append _ _ _ _ _ _ => false
  | .conv _ _ => false
  | .nilCheck _ => false
  | .mm _ _ _ => false
  | .makeSlice _ _ _ _ _ _ => false
  | .makeFunc _ _ => false
  | .makeMap _ => false
  | .lookup _ _ _ _ _ => false
  | .mapSet _ _ _ _ => false
  | .mapEntry _ _ _ _ => false
  | .entrySet _ _ _ => false
  | .rangeM _ => false
  | .next _ => false
  | .entry _ => false
  | .lenM _ => false
  | .buildArr _ => false
  | .makeMemo => false
  | .memoGet _ _ _ _ => false
  | .memoSet _ _ _ => false
inductive CallG (P : Program) (f : FuncId) (vs : List AV) (d : Option Nat) (l : List Ins) (s : AS) (K : AS → Prop) : Prop
  | mk (r : AV) (h1 : ACalls P f vs r) (h2 : Run P l (s.put d r) K)
inductive CallSG (P : Program) (f : FuncId) (vs : List AV) (S : AStore) (ks : List Nat) (d : Option Nat) (l : List Ins) (env : Nat → AV) (K : AS → Prop) : Prop
  | mk (r : AV) (S' : AStore) (h1 : ACallsS P f vs (upS S) r S') (h2 : (∀ k ∈ ks, dnS S' k = S k) ∧ Run P l ((⟨env, dnS S'⟩ : AS).put d (r.ren dn1)) K)
inductive CallNG (P : Program) (f : FuncId) (vs : List AV) (ks : List Nat) (d : Option Nat) (l : List Ins) (s : AS) (K : AS → Prop) : Prop
  | mk (mu : Bool) (e : TypeId) (w : Nat) (ys : List (List SV)) (h1 : ACallsN P f vs e w ys mu) (h2 : s.S (d.getD 0) = none ∧ (∀ k ∈ ks, (s.set (d.getD 0) (rowB mu e w ys)).S k = s.S k) ∧ Run P l ((s.set (d.getD 0) (rowB mu e w ys)).put d (.one (.row (d.getD 0) ys.length))) K)
inductive CallRG (P : Program) (f : FuncId) (vs : List AV) (d : Option Nat) (l : List Ins) (s : AS) (K : AS → Prop) : Prop
  | mk (r : AV) (rows : List (Nat × ABlk)) (h0 : ∀ q ∈ rows, s.S q.1 = some q.2) (h1 : ∀ T : AStore, (∀ q ∈ rows, T q.1 = some q.2) → ACallsS P f vs (upS T) r (upS T)) (h2 : Run P l (s.put d (r.ren dn1)) K)
inductive CallWG (P : Program) (f : FuncId) (vs : List AV) (ks : List Nat) (d : Option Nat) (l : List Ins) (s : AS) (K : AS → Prop) : Prop
  | mk (r : AV) (rows : List (Nat × ABlk × ABlk)) (h0 : holdS s.S rows) (h1 : ∀ T : AStore, holdS T rows → ACallsS P f vs (upS T) r (upS (turnS T rows))) (h2 : (∀ k ∈ ks, turnS s.S rows k = s.S k) ∧ Run P l ((⟨s.env, turnS s.S rows⟩ : AS).put d (r.ren dn1)) K)
inductive CallXG (P : Program) (S : AStore) (hs : Bool) (G : AStore → (AV → AStore → Prop) → Prop) (d : Option Nat) (l : List Ins) (env : Nat → AV) (K : AS → Prop) : Prop
  | mk (T : AStore) (Post : AV → AStore → Prop) (h1 : Clean T) (h2 : ∀ i, 1000 ≤ i → S i = T i) (h3 : hs = true) (h4 : G T Post) (h5 : ∀ r S', Clean S' → Post r S' → Run P l ((⟨env, joinS S S'⟩ : AS).put d r) K)
def Kd.goC (P : Program) (d : Option Nat) (s : AS) (t : Tag) (l : List Ins) (K : AS → Prop) : Kd → Prop
  | .call f xs => match t with
    | .no => match outVs s.S (s.evs xs) with
      | some vs => CallG P f vs d l s K
      | none => False
    | _ => False
  | .callR f xs => match t with
    | .no => CallRG P f (AV.rens up1 (s.evs xs)) d l s K
    | _ => False
  | .callW f xs => match t with
    | .no => CallWG P f (AV.rens up1 (s.evs xs)) [] d l s K
    | .keeps ks => CallWG P f (AV.rens up1 (s.evs xs)) ks d l s K
    | .onb _ => False
  | .callX f xs => match t with
    | .no => CallXG P s.S (AV.highs ((s.evs xs).map (argX s.S))) (ACallsR P f ((s.evs xs).map (argX s.S))) d l s.env K
    | _ => False
  | .callY f xs => match t with
    | .no => CallXG P s.S ((s.ev f).high && AV.highs ((s.evs xs).map (argX s.S))) (AYields P (s.ev f) ((s.evs xs).map (argX s.S))) d l s.env K
    | _ => False
  | .callN f xs => match t with
    | .no => match outVs s.S (s.evs xs) with
      | some vs => CallNG P f vs [] d l s K
      | none => False
    | .keeps ks => match outVs s.S (s.evs xs) with
      | some vs => CallNG P f vs ks d l s K
      | none => False
    | .onb _ => False
  | .callS f xs => match t with
    | .no => CallSG P f (AV.rens up1 (s.evs xs)) s.S [] d l s.env K
    | .keeps ks => CallSG P f (AV.rens up1 (s.evs xs)) s.S ks d l s.env K
    | .onb _ => False
  | .callV f xs => match s.ev f with
    | .one (.fn g caps) => plainF P g = true ∧ match t with
      | .no => CallSG P g (AV.rens up1 (s.evs xs ++ caps.map .one)) s.S [] d l s.env K
      | .keeps ks => CallSG P g (AV.rens up1 (s.evs xs ++ caps.map .one)) s.S ks d l s.env K
      | .onb _ => False
    | _ => False
  | _ => False
def Run2 (P : Program) : List Ins → AS → (AS → Prop) → Prop
  | [], s, K => K s
  | i :: l, s, K => match i.kd.isCall with
    | false => match i.guard with
      | none => i.kd.goT P (i.dst.getD 0) s i.tag fun v s' => Run2 P l (s'.put i.dst v) K
      | some (g, want) => match s.env g with
        | .one (.st (.bool b)) => (b = want → i.kd.goT P (i.dst.getD 0) s i.tag fun v s' => Run2 P l (s'.put i.dst v) K) ∧ (¬ b = want → Run2 P l (s.put i.dst (.tup [])) K)
        | .tup [] => Run2 P l (s.put i.dst (.tup [])) K
        | _ => False
    | true => match i.guard with
      | none => i.kd.goC P i.dst s i.tag l K
      | some (g, want) => match s.env g with
        | .one (.st (.bool b)) => (b = want → i.kd.goC P i.dst s i.tag l K) ∧ (¬ b = want → Run2 P l (s.put i.dst (.tup [])) K)
        | .tup [] => Run2 P l (s.put i.dst (.tup [])) K
        | _ => False
section
variable {P : Program}
theorem goC_run {kd : Kd} {d : Option Nat} {s : AS} {t : Tag} {l : List Ins} {K : AS → Prop} (h : kd.goC P d s t l K) : kd.goT P (d.getD 0) s t fun v s' => Run P l (s'.put d v) K := by
  cases kd <;> simp only [Kd.goC] at h
  case call f xs =>
    cases t <;> simp only at h
    split at h
    · rename_i vs e
      obtain ⟨r, h1, h2⟩ := h
      simp only [Kd.goT, Kd.go, e]
      exact ⟨r, h1, trivial, h2⟩
    · exact h.elim
  case callN f xs =>
    cases t <;> simp only at h
    · split at h
      · rename_i vs e
        obtain ⟨mu, ty, w, ys, h1, h2, _, h3⟩ := h
        simp only [Kd.goT, Kd.go, e]
        exact ⟨mu, ty, w, ys, h1, h2, trivial, h3⟩
      · exact h.elim
    · split at h
      · rename_i vs e
        obtain ⟨mu, ty, w, ys, h1, h2, h4, h3⟩ := h
        simp only [Kd.goT, Kd.go, e]
        exact ⟨mu, ty, w, ys, h1, h2, h4, h3⟩
      · exact h.elim
  case callW f xs =>
    cases t <;> simp only at h
    · obtain ⟨r, rows, h0, h1, _, h2⟩ := h
      simp only [Kd.goT, Kd.go]
      exact ⟨r, rows, h0, h1, trivial, h2⟩
    · obtain ⟨r, rows, h0, h1, hk, h2⟩ := h
      simp only [Kd.goT, Kd.go]
      exact ⟨r, rows, h0, h1, hk, h2⟩
  case callX f xs =>
    cases t <;> simp only at h
    obtain ⟨T, Post, h1, h2, h3, h4, h5⟩ := h
    exact ⟨T, Post, h1, h2, h3, h4, fun r S' k1 k2 => ⟨trivial, h5 r S' k1 k2⟩⟩
  case callY f xs =>
    cases t <;> simp only at h
    obtain ⟨T, Post, h1, h2, h3, h4, h5⟩ := h
    exact ⟨T, Post, h1, h2, h3, h4, fun r S' k1 k2 => ⟨trivial, h5 r S' k1 k2⟩⟩
  case callR f xs =>
    cases t <;> simp only at h
    obtain ⟨r, rows, h0, h1, h2⟩ := h
    simp only [Kd.goT, Kd.go]
    exact ⟨r, rows, h0, h1, trivial, h2⟩
  case callS f xs =>
    cases t <;> simp only at h
    · obtain ⟨r, S', h1, h2, h3⟩ := h
      exact ⟨r, S', h1, trivial, h3⟩
    · obtain ⟨r, S', h1, h2, h3⟩ := h
      exact ⟨r, S', h1, h2, h3⟩
  case callV f xs =>
    split at h
    · rename_i g caps e
      obtain ⟨hp, h⟩ := h
      cases t <;> simp only at h
      · obtain ⟨r, S', h1, h2, h3⟩ := h
        simp only [Kd.goT, Kd.go, e]
        exact ⟨hp, r, S', h1, trivial, h3⟩
      · obtain ⟨r, S', h1, h2, h3⟩ := h
        simp only [Kd.goT, Kd.go, e]
        exact ⟨hp, r, S', h1, h2, h3⟩
    · exact h.elim
theorem run2_run : ∀ {l : List Ins} {s : AS} {K : AS → Prop}, Run2 P l s K → Run P l s K
  | [], s, K, h => h
  | i :: l, s, K, h => by
    unfold Run2 at h
    unfold Run
    split at h
    · split at h
      · rename_i e
        simp only [e]
        exact goT_mono h fun v s' _ h' => run2_run h'
      · rename_i g want e
        simp only [e]
        split at h
        · rename_i b e2
          simp only [e2]
          exact ⟨fun hb => goT_mono (h.1 hb) fun v s' _ h' => run2_run h', fun hb => run2_run (h.2 hb)⟩
        · rename_i e2
          simp only [e2]
          exact run2_run h
        · exact h.elim
    · split at h
      · rename_i e
        simp only [e]
        exact goC_run h
      · rename_i g want e
        simp only [e]
        split at h
        · rename_i b e2
          simp only [e2]
          exact ⟨fun hb => goC_run (h.1 hb), fun hb => run2_run (h.2 hb)⟩
        · rename_i e2
          simp only [e2]
          exact run2_run h
        · exact h.elim
theorem keep_run2 {l : List Ins} {s : AS} {K : AS → Prop} {A : Prop} (h : A ∧ Run2 P l s K) : A ∧ Run P l s K := ⟨h.1, run2_run h.2⟩
theorem IWP.ops2 {C : Ctx} {mu : List Nat} {Q : AX → AS → Prop} {s : AS} {l : List Ins} (h : ∀ K : AS → Prop, (∀ s, Q .normal s → K s) → Run2 P l s K) : IWP P C mu (.ops l) Q s := IWP.opsK fun K hK => run2_run (h K hK)
end
attribute [go_sem] Ins.i Ins.m Ins.L Ins.l Ins.f Ins.s Opd.n rowB turnS Run2 Kd.isCall Kd.goC Kd.goT Tag.ok Kd.ptrOpd ptrIs List.forall_mem_cons List.not_mem_nil Kd.go AS.ev AS.evs AS.put AS.set updE AV.cells fills elems elemsP stP stPs stC stCs outC outCs outV outVs flats blkCells idxK listOf cutOf lenOfA binI binS optI pack splice ABlk.len AS.start AS.startS noS List.getElem?_cons_zero List.getElem?_cons_succ List.getElem?_nil List.getElem?_map Option.isSome_none Option.isSome_some Option.map_some Option.map_none Option.getD_some Option.getD_none List.length_map List.length_cons List.length_nil List.length_append List.map_cons List.map_nil List.take_succ_cons List.take_zero List.take_nil List.drop_succ_cons List.drop_zero List.drop_nil List.nil_append List.cons_append List.append_nil Nat.zero_add Nat.add_zero Nat.le_refl Nat.zero_le if_true if_false Bool.false_eq_true true_and and_true Option.some.injEq Int.toNat_natCast Int.natCast_nonneg Int.ofNat_eq_natCast ite_self decide_true decide_false not_true_eq_false not_false_eq_true true_implies false_implies implies_true Bool.true_eq_false eq_self Bool.not_true Bool.not_false beq_self_eq_true Tm.args_mk Tm.name_mk AV.rens AV.ren AC.ren AC.rens ABlk.ren upS_up dn_up dnS_upd dn_upS
theorem upS_set (T : AStore) (i : Nat) (b : ABlk) : upS (updE T i (some b)) = updE (upS T) (up1 i) (some (b.ren up1)) := by
  funext k
  show (if k < 1000 then none else (updE T i (some b) (k - 1000)).map (ABlk.ren up1)) = _
  by_cases e : k = up1 i
  · subst e
    rw [updE_same, if_neg (by have := up1_le i; omega), show up1 i - 1000 = i from dn_up i, updE_same]
    rfl
  · rw [updE_ne _ e]
    by_cases hk : k < 1000
    · rw [if_pos hk]
      show none = if k < 1000 then none else _
      rw [if_pos hk]
    · rw [if_neg hk, updE_ne _ (fun h => e (by rw [← h]; exact (up_dn (by omega)).symm))]
      show _ = if k < 1000 then none else _
      rw [if_neg hk]
abbrev Wo := @IWP.ops2
abbrev Wp := @IWP.cond
abbrev Wq := @run2_run
abbrev Wr := @keep_run2
abbrev iC := @ite_conj
abbrev Cg := @CallG.mk
abbrev dT := @decide_eq_true_eq
abbrev dF := @decide_eq_false_iff_not
abbrev nL := @Int.ofNat_lt
abbrev eT := @encT_eq
abbrev iR := @inR_i64
attribute [go_sem ↓] guard_ite pick_ite
theorem Ai {a b : Prop} (k : b) (h : a := by first | omega | exact lens | (simp [maxLen_eq] <;> omega)) : a ∧ b := ⟨h, k⟩
theorem Wz0 {id id' : Nat} {Q : AX → AS → Prop} {s : AS} (h : Q (.exit id') s) (hne : id' ≠ id := by decide) : AX.inBlock id Q (.exit id') s := inBlock_away hne h
theorem fN {α : Type} (p : α → Prop) : ∀ x ∈ ([] : List α), p x := List.forall_mem_nil p
class Step (goal : Prop) (prev : outParam Prop) : Prop where
  imp : prev → goal
theorem W {goal prev : Prop} [s : Step goal prev] (h : prev) : goal := s.imp h
section
variable {P : Program} {C : Ctx} {mu : List Nat} {x y : IR} {Q : AX → AS → Prop} {s : AS} {id : Nat} {K : AS → Prop}
instance : Step (IWP P C mu (.seq x y) Q s) (IWP P C mu x (seqQ P C mu y Q) s) := ⟨IWP.seq⟩
instance : Step (seqQ P C mu y Q .normal s) (IWP P C mu y Q s) := ⟨seqQ_normal⟩
instance : Step (IWP P C mu (.block id x) Q s) (IWP P C mu x (AX.inBlock id Q) s) := ⟨IWP.block⟩
instance : Step (IWP P C mu .skip Q s) (Q .normal s) := ⟨IWP.skip⟩
instance : Step (IWP P C mu (.exit id) Q s) (Q (.exit id) s) := ⟨IWP.exit⟩
instance : Step (IWP P C mu .ret Q s) (Q .ret s) := ⟨IWP.ret⟩
instance : Step (seqQ P C mu y Q (.exit id) s) (Q (.exit id) s) := ⟨seqQ_exit⟩
instance : Step (seqQ P C mu y Q .ret s) (Q .ret s) := ⟨seqQ_ret⟩
instance : Step (AX.inBlock id Q .normal s) (Q .normal s) := ⟨inBlock_normal⟩
instance : Step (AX.inBlock id Q (.exit id) s) (Q .normal s) := ⟨inBlock_here⟩
instance : Step (AX.inBlock id Q .ret s) (Q .ret s) := ⟨inBlock_ret⟩
instance : Step (AX.then K Q (.exit id) s) (Q (.exit id) s) := ⟨then_exit⟩
instance : Step (AX.then K Q .ret s) (Q .ret s) := ⟨then_ret⟩
class StepC (goal : Prop) (prev : outParam Prop) : Prop where
  imp : prev → goal
class StepB (goal : Prop) (prev : outParam Prop) : Prop where
  imp : prev → goal
theorem U {goal prev : Prop} [s : StepC goal prev] (h : prev) : goal := s.imp h
instance {l : List Ins} : StepC (Run P l s K) (Run2 P l s K) := ⟨run2_run⟩
instance {l : List Ins} {A : Prop} : StepC (A ∧ Run P l s K) (A ∧ Run2 P l s K) := ⟨keep_run2⟩
instance {l : List Ins} : StepB (Run P l s K) (Run2 P l s K) := ⟨run2_run⟩
instance {l : List Ins} {A : Prop} : StepB (A ∧ Run P l s K) (A ∧ Run2 P l s K) := ⟨keep_run2⟩
instance {c0 : Opd} : StepB (IWP P C mu (.cond c0 x y) Q s) (match s.ev c0 with | .one (.st (.bool b)) => (b = true → IWP P C mu x Q s) ∧ (b = false → IWP P C mu y Q s) | .one .ubool => IWP P C mu x Q s ∧ IWP P C mu y Q s | _ => False) := ⟨IWP.cond⟩
end
theorem IWP.fresh {P : Program} {C : Ctx} {mu : List Nat} {x : IR} {Q : AX → AS → Prop} {s : AS} (h1000 : ∀ i, 1000 ≤ i → s.S i = none) (h : ∀ env' : Nat → AV, (∀ i v, s.env i = .one (.st v) → env' i = .one (.st v)) → IWP P C mu x Q ⟨env', noS⟩) : IWP P C mu x Q s := by
  refine IWP.ghost (Ghost.low (s := s) fun i b hi hb => by rw [h1000 i hi] at hb; cases hb) ?_
  have e : lowS s.S = noS := by
    funext i
    show (if i < 1000 then none else s.S i) = none
    split
    · rfl
    · exact h1000 i (by omega)
  rw [e]
  exact h _ fun i v hv => by rw [hv]; rfl

section
variable {P : Program} {C : Ctx} {a : Act} {w : World} {σ : Sto} {ι : AHnd} {s : AS} {Q : Exit → Act → World → Prop} {o : Oper}
end
section
variable {P : Program} {C : Ctx} {mu : List Nat} {Q : AX → AS → Prop} {s : AS}
end

set_option maxRecDepth 100000
def ir_metaprune_lambda_writer_write : IR :=
  (.seq (.ops [.i 4 (.box 24 (.t 1))]) (.seq (.ops [.f 9 0 4, .l 10 9, .i 11 (.bin .eql (.t 10) (.n 2)), .m 12 11, .mk (some 13) (some (12, true)) (.mov (.t 2)) .no, .mk (some 14) (some (12, true)) (.bin .gtr (.t 13) (.n 0)) .no, .i 15 (.pick (.t 12) (.t 14) (.c (.one (.st (.bool false))))), .m 16 15, .mk (some 17) (some (16, false)) (.fieldAddr 0 (.t 4)) .no, .mk (some 18) (some (16, false)) (.load false 1 (.t 17)) .no, .mk (some 19) (some (16, false)) (.bin .eql (.t 18) (.n 3)) .no, .mk (some 20) (some (16, false)) (.mov (.t 19)) .no, .mk (some 21) (some (20, true)) (.mov (.t 2)) .no, .mk (some 22) (some (20, true)) (.bin .gtr (.t 21) (.n 1)) .no, .mk (some 23) (some (16, false)) (.pick (.t 20) (.t 22) (.c (.one (.st (.bool false))))) .no, .i 24 (.pick (.t 16) (.c (.one (.st (.bool true)))) (.t 23)), .m 6 24]) (.seq (.seq (.ops [.m 25 6]) (.cond (.t 25) (.ops [.m 26 0, .i 27 (.nilCheck (.t 26)), .f 28 0 27, .i 29 (.callS 45 [.t 28, .c (.one (.st (.int .u8 40)))])]) .skip)) (.seq (.seq (.ops [.f 30 0 4, .l 31 30]) (.block 0 (.seq (.ops [.i 41 (.bin .eql (.t 31) (.n 1)), .m 40 41]) (.cond (.t 40) (.seq (.ops [.m 42 0, .i 43 (.nilCheck (.t 42)), .f 44 2 43, .l 45 44, .i 46 (.len false (.t 45)), .i 47 (.bin .sub (.t 46) (.n 1)), .f 48 1 4, .l 49 48, .i 50 (.bin .sub (.t 47) (.t 49)), .m 7 50]) (.seq (.ops [.m 51 7, .i 52 (.bin .geq (.t 51) (.n 0))]) (.cond (.t 52) (.ops [.m 53 0, .i 54 (.nilCheck (.t 53)), .f 55 0 54, .m 56 0, .i 57 (.nilCheck (.t 56)), .f 58 2 57, .l 59 58, .m 60 7, .i 61 (.indexAddr 1 (.t 59) (.t 60)), .l 62 61, .i 63 (.callS 46 [.t 55, .t 62])]) (.ops [.m 64 0, .i 65 (.nilCheck (.t 64)), .f 66 0 65, .m 67 7, .i 68 (.un .neg (.t 67)), .i 69 (.call 47 [.t 68]), .i 70 (.bin .add (.c (.one (.st (.str (ByteArray.mk (#[63])))))) (.t 69)), .i 71 (.callS 46 [.t 66, .t 70])])))) (.seq (.ops [.i 73 (.bin .eql (.t 31) (.n 2)), .m 72 73]) (.cond (.t 72) (.seq (.ops [.m 74 0, .i 75 (.nilCheck (.t 74)), .f 76 2 75, .l 77 76, .i 78 (.len false (.t 77)), .m 79 0, .i 80 (.nilCheck (.t 79)), .f 81 3 80, .l 82 81, .i 83 (.bin .sub (.t 78) (.t 82)), .i 84 (.call 47 [.t 83]), .i 85 (.bin .add (.c (.one (.st (.str (ByteArray.mk (#[120])))))) (.t 84)), .m 8 85]) (.seq (.ops [.m 86 0, .i 87 (.nilCheck (.t 86)), .f 88 0 87, .m 89 8, .i 90 (.bin .add (.c (.one (.st (.str (ByteArray.mk (#[92])))))) (.t 89)), .i 91 (.bin .add (.t 90) (.c (.one (.st (.str (ByteArray.mk (#[46]))))))), .i 92 (.callS 46 [.t 88, .t 91])]) (.seq (.ops [.m 93 0, .m 94 0, .i 95 (.nilCheck (.t 94)), .f 96 2 95, .l 97 96, .m 98 8, .i 99 (.buildFlat [.t 98]), .i 100 (.append true 9 1 16 (.t 97) (.t 99)), .i 101 (.nilCheck (.t 93)), .f 102 2 101, .s 1 102 100]) (.seq (.ops [.m 103 0, .f 104 2 4, .l 105 104, .i 106 (.indexAddr 3 (.t 105) (.n 0)), .L 107 3 106, .i 108 (.callS 30 [.t 103, .t 107, .n 0])]) (.ops [.m 109 0, .m 110 0, .i 111 (.nilCheck (.t 110)), .f 112 2 111, .l 113 112, .m 114 0, .i 115 (.nilCheck (.t 114)), .f 116 2 115, .l 117 116, .i 118 (.len false (.t 117)), .i 119 (.bin .sub (.t 118) (.n 1)), .i 120 (.cutP 1 (.t 113) (.t 119)), .i 121 (.nilCheck (.t 109)), .f 122 2 121, .s 1 122 120]))))) (.seq (.ops [.i 124 (.bin .eql (.t 31) (.n 3)), .m 123 124]) (.cond (.t 123) (.seq (.ops [.m 125 0, .f 126 2 4, .l 127 126, .i 128 (.indexAddr 3 (.t 127) (.n 0)), .L 129 3 128, .i 130 (.callS 30 [.t 125, .t 129, .n 1])]) (.seq (.ops [.m 131 0, .i 132 (.nilCheck (.t 131)), .f 133 0 132, .i 134 (.callS 45 [.t 133, .c (.one (.st (.int .u8 32)))])]) (.ops [.m 135 0, .f 136 2 4, .l 137 136, .i 138 (.indexAddr 3 (.t 137) (.n 1)), .L 139 3 138, .i 140 (.callS 30 [.t 135, .t 139, .n 2])]))) (.seq (.ops [.i 142 (.bin .eql (.t 31) (.n 4)), .m 141 142]) (.cond (.t 141) (.ops [.m 143 0, .i 144 (.nilCheck (.t 143)), .f 145 0 144, .f 146 1 4, .l 147 146, .i 148 (.call 47 [.t 147]), .i 149 (.bin .add (.c (.one (.st (.str (ByteArray.mk (#[99])))))) (.t 148)), .i 150 (.callS 46 [.t 145, .t 149])]) (.ops [.m 32 0, .i 33 (.nilCheck (.t 32)), .f 34 0 33, .f 35 1 4, .l 36 35, .i 37 (.call 47 [.t 36]), .i 38 (.bin .add (.c (.one (.st (.str (ByteArray.mk (#[35])))))) (.t 37)), .i 39 (.callS 46 [.t 34, .t 38])]))))))))))) (.seq (.ops [.m 151 6]) (.cond (.t 151) (.ops [.m 152 0, .i 153 (.nilCheck (.t 152)), .f 154 0 153, .i 155 (.callS 45 [.t 154, .c (.one (.st (.int .u8 41)))])]) .skip))))))
theorem ok_metaprune_lambda_writer_write : OkF Tryd.prog 30 156 [29, 63, 71, 92, 108, 134, 130, 140, 150, 39, 155, 100, 30000120] ir_metaprune_lambda_writer_write [] := .of Tryd.func30 rfl rfl (by kernel_rfl) rfl
def ir_slices_Clone_string_string : IR :=
  (.seq (.ops [.i 2 (.mov (.c (.one (.full []))))]) (.seq (.seq (.ops [.m 3 0, .i 4 (.eqN false (.t 3))]) (.cond (.t 4) (.seq (.ops [.i 2 (.mov (.c (.one (.full []))))]) .ret) .skip)) (.seq (.ops [.i 5 (.buildFlat []), .m 6 0, .i 7 (.append true 9 1 16 (.t 5) (.t 6)), .m 2 7]) .ret)))
theorem ok_slices_Clone_string_string : OkF Tryd.prog 29 8 [7] ir_slices_Clone_string_string [.t 2] := .of Tryd.func29 rfl rfl (by kernel_rfl) rfl
def ir_lambda_Show : IR :=
  (.seq (.ops [.i 2 (.box 24 (.t 0)), .i 4 (.mov (.c (.one (.st (.str (ByteArray.mk (#[])))))))]) (.seq (.ops [.m 6 1, .i 7 (.len false (.t 6)), .m 8 1, .i 9 (.callN 29 [.t 8]), .i 10 (.build [.st (.lit (.pointer none)), .full [], .full [], .st (.int .i64 0)] [(3, 1, .t 7), (2, 1, .t 9)]), .i 11 (.box 60 (.t 10)), .m 5 11]) (.seq (.ops [.m 12 5, .L 13 3 2, .i 14 (.callS 30 [.t 12, .t 13, .n 0])]) (.seq (.ops [.m 15 5, .i 16 (.nilCheck (.t 15)), .f 17 0 16, .i 18 (.callS 31 [.t 17]), .m 4 18]) .ret))))
theorem ok_lambda_Show : OkF Tryd.prog 20 19 [20000009, 14, 18] ir_lambda_Show [.t 4] := .of Tryd.func20 rfl rfl (by kernel_rfl) rfl
def ir_lambda_Text : IR :=
  (.seq (.ops [.i 2 (.box 24 (.t 0)), .i 4 (.mov (.c (.one (.st (.str (ByteArray.mk (#[]))))))), .i 5 (.mov (.n 0))]) (.seq (.ops [.m 7 1, .i 8 (.call 11 [.t 7]), .m 6 8]) (.seq (.seq (.ops [.m 9 6, .i 10 (.bin .eql (.t 9) (.n 0))]) (.cond (.t 10) (.ops [.L 11 3 2, .m 12 1, .i 13 (.len false (.t 12)), .i 14 (.call 10 [.t 11, .t 13]), .m 6 14]) .skip)) (.seq (.seq (.ops [.m 15 6, .i 16 (.bin .neq (.t 15) (.n 0))]) (.cond (.t 16) (.seq (.ops [.m 17 6, .i 4 (.mov (.c (.one (.st (.str (ByteArray.mk (#[]))))))), .m 5 17]) .ret) .skip)) (.seq (.ops [.L 18 3 2, .m 19 1, .i 20 (.call 20 [.t 18, .t 19]), .m 4 20, .i 5 (.mov (.n 0))]) .ret)))))
theorem ok_lambda_Text : OkF Tryd.prog 9 21 [] ir_lambda_Text [.t 4, .t 5] := .of Tryd.func9 rfl rfl (by kernel_rfl) rfl
def ir_R_LamText : IR :=
  (.seq (.ops [.i 3 (.box 24 (.t 0)), .i 6 (.mov (.c (.one (.st (.str (ByteArray.mk (#[])))))))]) (.seq (.seq (.ops [.f 10 0 3, .l 11 10]) (.block 0 (.seq (.ops [.i 13 (.bin .eql (.t 11) (.n 1)), .m 12 13]) (.cond (.t 12) (.seq (.ops [.m 14 1, .m 15 1, .i 16 (.len false (.t 15)), .i 17 (.bin .sub (.t 16) (.n 1)), .f 18 1 3, .l 19 18, .i 20 (.bin .sub (.t 17) (.t 19)), .i 21 (.indexAddr 1 (.t 14) (.t 20)), .l 22 21, .m 6 22]) .ret) (.seq (.ops [.i 24 (.bin .eql (.t 11) (.n 2)), .m 23 24]) (.cond (.t 23) (.seq (.ops [.m 25 1, .i 26 (.len false (.t 25)), .m 27 2, .i 28 (.bin .sub (.t 26) (.t 27)), .i 29 (.call 19 [.t 28]), .i 30 (.bin .add (.c (.one (.st (.str (ByteArray.mk (#[120])))))) (.t 29)), .m 7 30]) (.seq (.ops [.m 31 7, .i 32 (.bin .add (.c (.one (.st (.str (ByteArray.mk (#[92])))))) (.t 31)), .i 33 (.bin .add (.t 32) (.c (.one (.st (.str (ByteArray.mk (#[46]))))))), .mk (some 34) none (.fieldAddr 2 (.t 3)) (.onb 3), .mk (some 35) none (.load false 1 (.t 34)) (.onb 3), .i 36 (.indexL 3 (.t 35) (.n 0)), .i 37 (.loadL true 3 (.t 36)), .i 38 (.buildFlat []), .m 39 1, .mk (some 40) none (.append false 9 1 16 (.t 38) (.t 39)) (.keeps [3, 3]), .m 41 7, .i 42 (.buildFlat [.t 41]), .mk (some 43) none (.append false 9 1 16 (.t 40) (.t 42)) (.keeps [3, 3]), .m 44 2, .i 45 (.call 8 [.t 37, .t 43, .t 44]), .i 46 (.bin .add (.t 33) (.t 45)), .m 6 46]) .ret)) (.seq (.ops [.i 48 (.bin .eql (.t 11) (.n 3)), .m 47 48]) (.cond (.t 47) (.seq (.ops [.f 49 2 3, .l 50 49, .i 51 (.indexAddr 3 (.t 50) (.n 0)), .L 52 3 51, .m 53 1, .m 54 2, .i 55 (.call 8 [.t 52, .t 53, .t 54]), .m 8 55]) (.seq (.ops [.f 56 2 3, .l 57 56, .i 58 (.indexAddr 3 (.t 57) (.n 1)), .L 59 3 58, .m 60 1, .m 61 2, .i 62 (.call 8 [.t 59, .t 60, .t 61]), .m 9 62]) (.seq (.seq (.ops [.f 63 2 3, .l 64 63, .i 65 (.indexAddr 3 (.t 64) (.n 0)), .f 66 0 65, .l 67 66, .i 68 (.bin .eql (.t 67) (.n 2))]) (.cond (.t 68) (.ops [.m 69 8, .i 70 (.bin .add (.c (.one (.st (.str (ByteArray.mk (#[40])))))) (.t 69)), .i 71 (.bin .add (.t 70) (.c (.one (.st (.str (ByteArray.mk (#[41]))))))), .m 8 71]) .skip)) (.seq (.seq (.ops [.f 72 2 3, .l 73 72, .i 74 (.indexAddr 3 (.t 73) (.n 1)), .f 75 0 74, .l 76 75, .i 77 (.bin .eql (.t 76) (.n 2)), .m 78 77, .mk (some 79) (some (78, false)) (.fieldAddr 2 (.t 3)) .no, .mk (some 80) (some (78, false)) (.load false 1 (.t 79)) .no, .mk (some 81) (some (78, false)) (.indexAddr 3 (.t 80) (.n 1)) .no, .mk (some 82) (some (78, false)) (.fieldAddr 0 (.t 81)) .no, .mk (some 83) (some (78, false)) (.load false 1 (.t 82)) .no, .mk (some 84) (some (78, false)) (.bin .eql (.t 83) (.n 3)) .no, .i 85 (.pick (.t 78) (.c (.one (.st (.bool true)))) (.t 84))]) (.cond (.t 85) (.ops [.m 86 9, .i 87 (.bin .add (.c (.one (.st (.str (ByteArray.mk (#[40])))))) (.t 86)), .i 88 (.bin .add (.t 87) (.c (.one (.st (.str (ByteArray.mk (#[41]))))))), .m 9 88]) .skip)) (.seq (.ops [.m 89 8, .i 90 (.bin .add (.t 89) (.c (.one (.st (.str (ByteArray.mk (#[32]))))))), .m 91 9, .i 92 (.bin .add (.t 90) (.t 91)), .m 6 92]) .ret))))) (.seq (.ops [.i 94 (.bin .eql (.t 11) (.n 4)), .m 93 94]) (.cond (.t 93) (.seq (.ops [.f 95 1 3, .l 96 95, .i 97 (.call 19 [.t 96]), .i 98 (.bin .add (.c (.one (.st (.str (ByteArray.mk (#[99])))))) (.t 97)), .m 6 98]) .ret) .skip)))))))))) (.seq (.ops [.f 99 1 3, .l 100 99, .i 101 (.call 19 [.t 100]), .i 102 (.bin .add (.c (.one (.st (.str (ByteArray.mk (#[35])))))) (.t 101)), .m 6 102]) .ret)))
theorem ok_R_LamText : OkF Tryd.prog 8 103 [60000036, 60000037, 10030003, 10340003] ir_R_LamText [.t 6] := .of Tryd.func8 rfl rfl (by kernel_rfl) rfl
def ir_L_LambdaSays : IR :=
  (.seq (.ops [.i 3 (.box 24 (.t 0)), .i 6 (.mov (.c (.one (.st (.bool false)))))]) (.seq (.seq (.ops [.L 12 3 3, .i 13 (.call 5 [.t 12]), .m 14 13, .mk (some 15) (some (14, false)) (.mov (.t 2)) .no, .mk (some 16) (some (14, false)) (.len false (.t 15)) .no, .mk (some 17) (some (14, false)) (.bin .gtr (.t 16) (.n 100)) .no, .i 18 (.pick (.t 14) (.c (.one (.st (.bool true)))) (.t 17))]) (.cond (.t 18) (.seq (.ops [.i 6 (.mov (.c (.one (.st (.bool true)))))]) .ret) .skip)) (.seq (.ops [.m 19 2, .i 20 (.call 6 [.t 19]), .m 7 20]) (.seq (.ops [.m 21 7, .m 8 21]) (.seq (.ops [.i 9 (.mov (.c (.one (.st (.str (ByteArray.mk (#[])))))))]) (.seq (.seq (.ops [.m 22 8, .i 23 (.bin .eql (.t 22) (.n 0))]) (.cond (.t 23) (.ops [.L 24 3 3, .m 25 2, .i 26 (.len false (.t 25)), .i 27 (.call 7 [.t 24, .t 26, .n 0]), .m 8 27]) .skip)) (.seq (.seq (.ops [.m 28 8, .i 29 (.bin .eql (.t 28) (.n 0))]) (.cond (.t 29) (.ops [.L 30 3 3, .m 31 2, .m 32 2, .i 33 (.len false (.t 32)), .i 34 (.call 8 [.t 30, .t 31, .t 33]), .m 9 34]) .skip)) (.seq (.ops [.L 36 3 3, .m 37 2, .i 38 (.call 9 [.t 36, .t 37]), .m 35 38, .i 39 (.extract 0 (.t 35)), .i 40 (.extract 1 (.t 35)), .m 10 39, .m 11 40]) (.seq (.ops [.L 41 3 3, .m 42 1, .i 43 (.call 10 [.t 41, .t 42]), .L 44 3 3, .m 45 1, .i 46 (.call 7 [.t 44, .t 45, .n 0]), .i 47 (.bin .eql (.t 43) (.t 46)), .m 48 47, .mk (some 49) (some (48, true)) (.mov (.t 2)) .no, .mk (some 50) (some (48, true)) (.call 11 [.t 49]) .no, .mk (some 51) (some (48, true)) (.mov (.t 7)) .no, .mk (some 52) (some (48, true)) (.bin .eql (.t 50) (.t 51)) .no, .i 53 (.pick (.t 48) (.t 52) (.c (.one (.st (.bool false))))), .m 54 53, .mk (some 55) (some (54, true)) (.mov (.t 10)) .no, .mk (some 56) (some (54, true)) (.mov (.t 9)) .no, .mk (some 57) (some (54, true)) (.bin .eql (.t 55) (.t 56)) .no, .i 58 (.pick (.t 54) (.t 57) (.c (.one (.st (.bool false))))), .m 59 58, .mk (some 60) (some (59, true)) (.mov (.t 11)) .no, .mk (some 61) (some (59, true)) (.mov (.t 8)) .no, .mk (some 62) (some (59, true)) (.bin .eql (.t 60) (.t 61)) .no, .i 63 (.pick (.t 59) (.t 62) (.c (.one (.st (.bool false))))), .m 6 63]) .ret)))))))))
theorem ok_L_LambdaSays : OkF Tryd.prog 3 64 [] ir_L_LambdaSays [.t 6] := .of Tryd.func3 rfl rfl (by kernel_rfl) rfl
def ir_L_LambdaMade : IR :=
  (.seq (.ops [.i 8 (.mov (.c (.one (.st (.bool false)))))]) (.seq (.seq (.ops [.m 13 0, .i 14 (.len false (.t 13)), .i 15 (.bin .gtr (.t 14) (.n 256))]) (.cond (.t 15) (.seq (.ops [.i 8 (.mov (.c (.one (.st (.bool true)))))]) .ret) .skip)) (.seq (.ops [.m 16 2, .i 17 (.call 12 [.t 16, .n 4]), .m 9 17]) (.seq (.ops [.m 18 0, .m 19 1, .i 20 (.call 12 [.t 19, .n 25]), .m 21 9, .i 22 (.bin .add (.t 21) (.n 1)), .i 23 (.call 13 [.t 18, .n 0, .t 20, .t 22, .n 3]), .i 10 (.alloc 24 [.st (.int .i64 0), .st (.int .i64 0), .full []]), .s 3 10 23]) (.seq (.ops [.m 24 0, .m 25 3, .i 26 (.call 12 [.t 25, .n 12]), .m 27 9, .i 28 (.call 13 [.t 24, .n 70, .t 26, .t 27, .n 2]), .i 11 (.alloc 24 [.st (.int .i64 0), .st (.int .i64 0), .full []]), .s 3 11 28]) (.seq (.ops [.i 29 (.buildFlat [.c (.one (.st (.str (ByteArray.mk (#[121]))))), .c (.one (.st (.str (ByteArray.mk (#[122]))))), .c (.one (.st (.str (ByteArray.mk (#[119]))))), .c (.one (.st (.str (ByteArray.mk (#[117]))))), .c (.one (.st (.str (ByteArray.mk (#[118])))))]), .m 30 9, .i 31 (.bin .add (.t 30) (.n 1)), .i 32 (.sliceL 1 (.t 29) none (some (.t 31))), .m 12 32]) (.seq (.ops [.L 33 3 10, .m 34 9, .i 35 (.bin .add (.t 34) (.n 1)), .m 36 12, .i 37 (.call 3 [.t 33, .t 35, .t 36]), .m 38 37, .mk (some 39) (some (38, true)) (.load true 3 (.t 10)) .no, .mk (some 40) (some (38, true)) (.load true 3 (.t 11)) .no, .mk (some 41) (some (38, true)) (.mov (.t 9)) .no, .mk (some 42) (some (38, true)) (.call 14 [.t 39, .t 40, .t 41]) .no, .i 43 (.pick (.t 38) (.t 42) (.c (.one (.st (.bool false))))), .m 8 43]) .ret)))))))
theorem ok_L_LambdaMade : OkF Tryd.prog 4 44 [] ir_L_LambdaMade [.t 8] := .of Tryd.func4 rfl rfl (by kernel_rfl) rfl

def letterI (n : Int) : Bool := decide (97 ≤ n ∧ n ≤ 122) || decide (65 ≤ n ∧ n ≤ 90) || decide (48 ≤ n ∧ n ≤ 57)
def byteAt (s : ByteArray) (k : Nat) : Int := ((s.data.toList.getD k 0).toNat : Int)
theorem byteAt_range (s : ByteArray) (k : Nat) : 0 ≤ byteAt s k ∧ byteAt s k ≤ 255 := by
  unfold byteAt
  have := (s.data.toList.getD k 0).toNat_lt
  omega
def isVar (s : ByteArray) : Bool := decide (0 < s.size) && decide (65 ≤ byteAt s 0) && decide (byteAt s 0 ≤ 90)
def lettersTo (s : ByteArray) (k : Nat) : Bool := (s.data.toList.take k).all fun c => letterI c.toNat
def nameOk (s : ByteArray) : Bool := decide (1 ≤ s.size) && decide (s.size ≤ 8) && !(decide (48 ≤ byteAt s 0) && decide (byteAt s 0 ≤ 57)) && lettersTo s s.size
theorem lettersTo_succ (s : ByteArray) (k : Nat) (h : k < s.size) : lettersTo s (k + 1) = (lettersTo s k && letterI (byteAt s k)) := by
  unfold lettersTo byteAt
  have h2 : k < s.data.toList.length := by simpa using h
  rw [List.take_add_one, List.getD_eq_getElem?_getD, List.getElem?_eq_getElem h2]
  simp
theorem lettersTo_no (s : ByteArray) (k : Nat) (h : k < s.size) (hn : letterI (byteAt s k) = false) : lettersTo s s.size = false := by
  unfold lettersTo byteAt at *
  have h2 : k < s.data.toList.length := by simpa using h
  rw [List.getD_eq_getElem?_getD, List.getElem?_eq_getElem h2] at hn
  rw [List.all_eq_false]
  refine ⟨s.data.toList[k], ?_, by simpa using hn⟩
  rw [List.take_of_length_le (by simp)]
  exact List.getElem_mem h2
mutual
def Tm.size : Tm → Nat
  | .mk _ xs => 1 + Tm.sizes xs
def Tm.sizes : List Tm → Nat
  | [] => 0
  | t :: ts => t.size + Tm.sizes ts
end
theorem Tm.sizes_append (xs ys : List Tm) : Tm.sizes (xs ++ ys) = Tm.sizes xs + Tm.sizes ys := by
  induction xs with
  | nil => simp [Tm.sizes]
  | cons t ts ih => simp only [List.cons_append, Tm.sizes, ih]; omega
theorem Tm.sizes_take {xs : List Tm} {k : Nat} {a : Tm} (h : xs[k]? = some a) : Tm.sizes (xs.take (k+1)) = Tm.sizes (xs.take k) + a.size := by
  rw [take_snoc h, Tm.sizes_append]; simp [Tm.sizes]
theorem Tm.sizes_take_le (xs : List Tm) (k : Nat)  : Tm.sizes (xs.take k) ≤ Tm.sizes xs := by
  have := Tm.sizes_append (xs.take k) (xs.drop k)
  rw [List.take_append_drop] at this
  omega
theorem Tm.size_eq (t : Tm) : t.size = 1 + Tm.sizes t.args := by cases t; rfl
theorem Tm.size_pos (t : Tm) : 1 ≤ t.size := by rw [Tm.size_eq]; omega
theorem Tm.size_mem {a : Tm} {xs : List Tm} (h : a ∈ xs) : a.size ≤ Tm.sizes xs := by
  induction xs with
  | nil => simp at h
  | cons t ts ih =>
    rcases List.mem_cons.1 h with rfl | h
    · simp only [Tm.sizes]; omega
    · have := ih h; simp only [Tm.sizes]; omega
theorem Tm.length_le (xs : List Tm) : xs.length ≤ Tm.sizes xs := by
  induction xs with
  | nil => simp [Tm.sizes]
  | cons t ts ih => have := Tm.size_pos t; simp only [Tm.sizes, List.length_cons]; omega
def lessBy (s : Nat) (m : Int) : Int := if m < s then -1 else m - s
def capTo (s : Nat) (m : Int) : Int := if m < s then m + 1 else s
def chkOne (t : Tm) : Int := if nameOk t.name = true then (if isVar t.name = true ∧ 0 < t.args.length then 2 else 0) else 1
mutual
def Tm.chk : Tm → Int
  | .mk n xs => if chkOne (.mk n xs) = 0 then Tm.chkL xs else chkOne (.mk n xs)
def Tm.chkL : List Tm → Int
  | [] => 0
  | t :: ts => if t.chk = 0 then Tm.chkL ts else t.chk
end
theorem Tm.chk_eq (t : Tm) : t.chk = if chkOne t = 0 then Tm.chkL t.args else chkOne t := by cases t; rfl
def Tm.may (t : Tm) : Int := if 200 < t.size then 3 else t.chk
def isIn (x : ByteArray) (l : List ByteArray) : Bool := l.any fun y => decide (y = x)
theorem isIn_iff {x : ByteArray} {l : List ByteArray} : isIn x l = true ↔ x ∈ l := by simp [isIn]
theorem isIn_no {x : ByteArray} {l : List ByteArray} : isIn x l = false ↔ x ∉ l := by rw [← Bool.not_eq_true, isIn_iff]
mutual
def Tm.places : Tm → List (List Int)
  | .mk _ xs => [] :: Tm.placesFrom 0 xs
def Tm.placesFrom : Nat → List Tm → List (List Int)
  | _, [] => []
  | k, t :: ts => t.places.map (fun p => (k : Int) :: p) ++ Tm.placesFrom (k+1) ts
end
theorem lessBy_step {s z : Nat} {m : Int} (h : 0 ≤ lessBy s m) : lessBy z (lessBy s m) = lessBy (s + z) m := by
  unfold lessBy at *
  split at h
  · omega
  · rename_i h1
    rw [if_neg h1]
    split <;> split <;> omega
theorem lessBy_neg {s z : Nat} {m : Int} (h : lessBy s m < 0) (hz : s ≤ z) : lessBy s m = lessBy z m := by
  unfold lessBy at *
  split at h
  · rw [if_pos (by assumption), if_pos (by omega)]
  · omega
theorem lessBy_le (s : Nat) (m : Int) (h : 0 ≤ m) : -1 ≤ lessBy s m ∧ lessBy s m ≤ m := by unfold lessBy; split <;> omega
theorem capTo_step {s z : Nat} {m : Int} (h : (s : Int) ≤ m) : (s : Int) + capTo z (m - s) = capTo (s + z) m := by
  unfold capTo
  split <;> split <;> omega
theorem capTo_over {s z : Nat} {m : Int} (h : m < capTo s m) (hz : s ≤ z) : capTo z m = m + 1 := by
  unfold capTo at *
  split at h <;> split <;> omega
theorem capTo_le (s : Nat) (m : Int) (h : 0 ≤ m) : 0 ≤ capTo s m ∧ capTo s m ≤ m + 1 := by unfold capTo; split <;> omega
theorem capTo_in {s : Nat} {m : Int} (h : ¬ m < capTo s m) : capTo s m = s ∧ (s : Int) ≤ m := by
  unfold capTo at *
  split at h
  · omega
  · rename_i h2
    rw [if_neg h2]
    omega



abbrev Bd := ByteArray × Tm
def encB (b : Bd) : List SV := [.str b.1, .str b.2.name, .list (b.2.args.map encT)]
instance : Lens encB 3 := ⟨fun _ => rfl⟩
def lookup (l : List Bd) (n : ByteArray) : Option Tm := (l.find? fun b => decide (b.1 = n)).map (·.2)
mutual
def Tm.on (s : List Bd) : Tm → Tm
  | .mk n xs => match (if xs.isEmpty then lookup s n else none) with
    | some x => x
    | none => .mk n (Tm.onL s xs)
def Tm.onL (s : List Bd) : List Tm → List Tm
  | [] => []
  | t :: ts => t.on s :: Tm.onL s ts
end




def ir_term_letter : IR :=
  (.seq (.ops [.i 2 (.mov (.c (.one (.st (.bool false)))))]) (.seq (.ops [.m 3 0, .i 4 (.bin .geq (.t 3) (.c (.one (.st (.int .u8 97))))), .m 5 4, .mk (some 6) (some (5, true)) (.mov (.t 0)) .no, .mk (some 7) (some (5, true)) (.bin .leq (.t 6) (.c (.one (.st (.int .u8 122))))) .no, .i 8 (.pick (.t 5) (.t 7) (.c (.one (.st (.bool false))))), .m 9 8, .mk (some 10) (some (9, false)) (.mov (.t 0)) .no, .mk (some 11) (some (9, false)) (.bin .geq (.t 10) (.c (.one (.st (.int .u8 65))))) .no, .mk (some 12) (some (9, false)) (.mov (.t 11)) .no, .mk (some 13) (some (12, true)) (.mov (.t 0)) .no, .mk (some 14) (some (12, true)) (.bin .leq (.t 13) (.c (.one (.st (.int .u8 90))))) .no, .mk (some 15) (some (9, false)) (.pick (.t 12) (.t 14) (.c (.one (.st (.bool false))))) .no, .i 16 (.pick (.t 9) (.c (.one (.st (.bool true)))) (.t 15)), .m 17 16, .mk (some 18) (some (17, false)) (.mov (.t 0)) .no, .mk (some 19) (some (17, false)) (.bin .geq (.t 18) (.c (.one (.st (.int .u8 48))))) .no, .mk (some 20) (some (17, false)) (.mov (.t 19)) .no, .mk (some 21) (some (20, true)) (.mov (.t 0)) .no, .mk (some 22) (some (20, true)) (.bin .leq (.t 21) (.c (.one (.st (.int .u8 57))))) .no, .mk (some 23) (some (17, false)) (.pick (.t 20) (.t 22) (.c (.one (.st (.bool false))))) .no, .i 24 (.pick (.t 17) (.c (.one (.st (.bool true)))) (.t 23)), .m 2 24]) .ret))
theorem ok_term_letter : OkF Tryd.prog 34 25 [] ir_term_letter [.t 2] := .of Tryd.func34 rfl rfl (by kernel_rfl) rfl
def ir_R_IsLetter : IR :=
  (.seq (.ops [.i 2 (.mov (.c (.one (.st (.bool false)))))]) (.seq (.ops [.m 3 0, .i 4 (.bin .geq (.t 3) (.c (.one (.st (.int .u8 97))))), .m 5 4, .mk (some 6) (some (5, true)) (.mov (.t 0)) .no, .mk (some 7) (some (5, true)) (.bin .leq (.t 6) (.c (.one (.st (.int .u8 122))))) .no, .i 8 (.pick (.t 5) (.t 7) (.c (.one (.st (.bool false))))), .m 9 8, .mk (some 10) (some (9, false)) (.mov (.t 0)) .no, .mk (some 11) (some (9, false)) (.bin .geq (.t 10) (.c (.one (.st (.int .u8 65))))) .no, .mk (some 12) (some (9, false)) (.mov (.t 11)) .no, .mk (some 13) (some (12, true)) (.mov (.t 0)) .no, .mk (some 14) (some (12, true)) (.bin .leq (.t 13) (.c (.one (.st (.int .u8 90))))) .no, .mk (some 15) (some (9, false)) (.pick (.t 12) (.t 14) (.c (.one (.st (.bool false))))) .no, .i 16 (.pick (.t 9) (.c (.one (.st (.bool true)))) (.t 15)), .m 17 16, .mk (some 18) (some (17, false)) (.mov (.t 0)) .no, .mk (some 19) (some (17, false)) (.bin .geq (.t 18) (.c (.one (.st (.int .u8 48))))) .no, .mk (some 20) (some (17, false)) (.mov (.t 19)) .no, .mk (some 21) (some (20, true)) (.mov (.t 0)) .no, .mk (some 22) (some (20, true)) (.bin .leq (.t 21) (.c (.one (.st (.int .u8 57))))) .no, .mk (some 23) (some (17, false)) (.pick (.t 20) (.t 22) (.c (.one (.st (.bool false))))) .no, .i 24 (.pick (.t 17) (.c (.one (.st (.bool true)))) (.t 23)), .m 2 24]) .ret))
theorem ok_R_IsLetter : OkF Tryd.prog 28 25 [] ir_R_IsLetter [.t 2] := .of Tryd.func28 rfl rfl (by kernel_rfl) rfl
def ir_term_Name : IR :=
  (.seq (.ops [.i 2 (.mov (.c (.one (.st (.bool false)))))]) (.seq (.seq (.ops [.m 4 0, .i 5 (.len true (.t 4)), .i 6 (.bin .lss (.t 5) (.n 1)), .m 7 6, .mk (some 8) (some (7, false)) (.mov (.t 0)) .no, .mk (some 9) (some (7, false)) (.len true (.t 8)) .no, .mk (some 10) (some (7, false)) (.bin .gtr (.t 9) (.n 8)) .no, .i 11 (.pick (.t 7) (.c (.one (.st (.bool true)))) (.t 10)), .m 12 11, .mk (some 13) (some (12, false)) (.mov (.t 0)) .no, .mk (some 14) (some (12, false)) (.indexStr (.t 13) (.n 0)) .no, .mk (some 15) (some (12, false)) (.bin .geq (.t 14) (.c (.one (.st (.int .u8 48))))) .no, .mk (some 16) (some (12, false)) (.mov (.t 15)) .no, .mk (some 17) (some (16, true)) (.mov (.t 0)) .no, .mk (some 18) (some (16, true)) (.indexStr (.t 17) (.n 0)) .no, .mk (some 19) (some (16, true)) (.bin .leq (.t 18) (.c (.one (.st (.int .u8 57))))) .no, .mk (some 20) (some (12, false)) (.pick (.t 16) (.t 19) (.c (.one (.st (.bool false))))) .no, .i 21 (.pick (.t 12) (.c (.one (.st (.bool true)))) (.t 20))]) (.cond (.t 21) (.seq (.ops [.i 2 (.mov (.c (.one (.st (.bool false)))))]) .ret) .skip)) (.seq (.seq (.ops [.m 22 0, .i 23 (.len true (.t 22)), .i 24 (.mov (.n 0))]) (.block 0 (.loop (.seq (.ops [.i 25 (.bin .lss (.t 24) (.t 23))]) (.seq (.cond (.t 25) .skip (.exit 0)) (.seq (.block 1 (.seq (.ops [.m 26 24, .m 3 26]) (.seq (.ops [.m 27 0, .m 28 3, .i 29 (.indexStr (.t 27) (.t 28)), .i 30 (.call 34 [.t 29]), .i 31 (.un .not (.t 30))]) (.cond (.t 31) (.seq (.ops [.i 2 (.mov (.c (.one (.st (.bool false)))))]) .ret) .skip)))) (.ops [.i 32 (.bin .add (.t 24) (.n 1)), .m 24 32]))))))) (.seq (.ops [.i 2 (.mov (.c (.one (.st (.bool true)))))]) .ret))))
theorem ok_term_Name : OkF Tryd.prog 22 33 [] ir_term_Name [.t 2] := .of Tryd.func22 rfl rfl (by kernel_rfl) rfl
def ir_R_IsName : IR :=
  (.seq (.ops [.i 2 (.mov (.c (.one (.st (.bool false)))))]) (.seq (.seq (.ops [.m 4 0, .i 5 (.bin .eql (.t 4) (.c (.one (.st (.str (ByteArray.mk (#[]))))))), .m 6 5, .mk (some 7) (some (6, false)) (.mov (.t 0)) .no, .mk (some 8) (some (6, false)) (.len true (.t 7)) .no, .mk (some 9) (some (6, false)) (.bin .gtr (.t 8) (.n 8)) .no, .i 10 (.pick (.t 6) (.c (.one (.st (.bool true)))) (.t 9)), .m 11 10, .mk (some 12) (some (11, false)) (.mov (.t 0)) .no, .mk (some 13) (some (11, false)) (.indexStr (.t 12) (.n 0)) .no, .mk (some 14) (some (11, false)) (.bin .geq (.t 13) (.c (.one (.st (.int .u8 48))))) .no, .mk (some 15) (some (11, false)) (.mov (.t 14)) .no, .mk (some 16) (some (15, true)) (.mov (.t 0)) .no, .mk (some 17) (some (15, true)) (.indexStr (.t 16) (.n 0)) .no, .mk (some 18) (some (15, true)) (.bin .leq (.t 17) (.c (.one (.st (.int .u8 57))))) .no, .mk (some 19) (some (11, false)) (.pick (.t 15) (.t 18) (.c (.one (.st (.bool false))))) .no, .i 20 (.pick (.t 11) (.c (.one (.st (.bool true)))) (.t 19))]) (.cond (.t 20) (.seq (.ops [.i 2 (.mov (.c (.one (.st (.bool false)))))]) .ret) .skip)) (.seq (.seq (.ops [.i 3 (.mov (.n 0))]) (.block 0 (.loop (.seq (.seq (.ops [.m 21 3, .m 22 0, .i 23 (.len true (.t 22)), .i 24 (.bin .lss (.t 21) (.t 23))]) (.cond (.t 24) .skip (.exit 0))) (.seq (.block 1 (.seq (.ops [.m 27 0, .m 28 3, .i 29 (.indexStr (.t 27) (.t 28)), .i 30 (.call 28 [.t 29]), .i 31 (.un .not (.t 30))]) (.cond (.t 31) (.seq (.ops [.i 2 (.mov (.c (.one (.st (.bool false)))))]) .ret) .skip))) (.ops [.m 25 3, .i 26 (.bin .add (.t 25) (.n 1)), .m 3 26])))))) (.seq (.ops [.i 2 (.mov (.c (.one (.st (.bool true)))))]) .ret))))
theorem ok_R_IsName : OkF Tryd.prog 16 32 [] ir_R_IsName [.t 2] := .of Tryd.func16 rfl rfl (by kernel_rfl) rfl
def ir_R_In : IR :=
  (.seq (.ops [.i 4 (.mov (.c (.one (.st (.bool false)))))]) (.seq (.seq (.ops [.i 5 (.mov (.n 0))]) (.block 0 (.loop (.seq (.seq (.ops [.m 6 5, .m 7 1, .i 8 (.len false (.t 7)), .i 9 (.bin .lss (.t 6) (.t 8))]) (.cond (.t 9) .skip (.exit 0))) (.seq (.block 1 (.seq (.ops [.m 12 1, .m 13 5, .i 14 (.indexAddr 1 (.t 12) (.t 13)), .l 15 14, .m 16 0, .i 17 (.bin .eql (.t 15) (.t 16))]) (.cond (.t 17) (.seq (.ops [.i 4 (.mov (.c (.one (.st (.bool true)))))]) .ret) .skip))) (.ops [.m 10 5, .i 11 (.bin .add (.t 10) (.n 1)), .m 5 11])))))) (.seq (.ops [.i 4 (.mov (.c (.one (.st (.bool false)))))]) .ret)))
theorem ok_R_In : OkF Tryd.prog 17 18 [] ir_R_In [.t 4] := .of Tryd.func17 rfl rfl (by kernel_rfl) rfl
def ir_slices_Index_string_string : IR :=
  (.seq (.ops [.i 4 (.mov (.n 0))]) (.seq (.seq (.ops [.m 6 0, .i 7 (.len false (.t 6)), .i 8 (.mov (.n 0))]) (.block 0 (.loop (.seq (.ops [.i 9 (.bin .lss (.t 8) (.t 7))]) (.seq (.cond (.t 9) .skip (.exit 0)) (.seq (.block 1 (.seq (.ops [.m 10 8, .m 5 10]) (.seq (.ops [.m 11 1, .m 12 0, .m 13 5, .i 14 (.indexAddr 1 (.t 12) (.t 13)), .l 15 14, .i 16 (.bin .eql (.t 11) (.t 15))]) (.cond (.t 16) (.seq (.ops [.m 17 5, .m 4 17]) .ret) .skip)))) (.ops [.i 18 (.bin .add (.t 8) (.n 1)), .m 8 18]))))))) (.seq (.ops [.i 4 (.mov (.c (.one (.st (.int .i64 (-1))))))]) .ret)))
theorem ok_slices_Index_string_string : OkF Tryd.prog 35 19 [] ir_slices_Index_string_string [.t 4] := .of Tryd.func35 rfl rfl (by kernel_rfl) rfl
def ir_slices_Contains_string_string : IR :=
  (.seq (.ops [.i 4 (.mov (.c (.one (.st (.bool false)))))]) (.seq (.ops [.m 5 0, .m 6 1, .i 7 (.call 35 [.t 5, .t 6]), .i 8 (.bin .geq (.t 7) (.n 0)), .m 4 8]) .ret))
theorem ok_slices_Contains_string_string : OkF Tryd.prog 23 9 [] ir_slices_Contains_string_string [.t 4] := .of Tryd.func23 rfl rfl (by kernel_rfl) rfl

theorem byteN_eq (s : ByteArray) (k : Nat) : byteN s k = byteAt s k := rfl
theorem size_ne {s : ByteArray} (h : ¬ s.size = 0) : ¬ s = ⟨#[]⟩ := fun e => h (by rw [e]; rfl)
theorem size_eq0 {s : ByteArray} (h : s.size = 0) : s = ⟨#[]⟩ := by
  have := ByteArray.size_eq_zero_iff.1 h
  exact this
theorem letter_a (n : Int) (h0 : 0 ≤ n) : ACalls Tryd.prog 34 [.one (.st (.int .u8 n))] (aBool (letterI n)) := by
  refine ok_term_letter.ac fun C hC => ?_
  unfold ir_term_letter
  have hc : (97 ≤ n ∧ n ≤ 122) ∨ (122 < n) ∨ (n < 97 ∧ 65 ≤ n ∧ n ≤ 90) ∨ (n < 97 ∧ 90 < n) ∨ (n < 65 ∧ 48 ≤ n ∧ n ≤ 57) ∨ (n < 65 ∧ 57 < n) ∨ (n < 48) := by omega
  rcases hc with h | h | h | h | h | h | h
  · have h1 : 97 ≤ n := h.1
    have h2 : n ≤ 122 := h.2
    repeat' (first | (with_reducible first | refine W ?_ | refine Wz0 ?_) | ((with_reducible first | refine Wo (fun K hK => ?_) | refine Wq ?_ | refine Wr ?_); (try simp only [go_sem, fN, seval, eT, iR, h1, h2]); (repeat with_reducible refine Ai ?_); (try (refine hK _ ?_; clear hK K))))
    simp only [go_sem, fN, seval, FinQ, AS.result, resAll, resOne, tupV, letterI, h1, h2]
    try simp
  · have h1 : 97 ≤ n := by omega
    have h2 : ¬ n ≤ 122 := by omega
    have h3 : 65 ≤ n := by omega
    have h4 : ¬ n ≤ 90 := by omega
    have h5 : 48 ≤ n := by omega
    have h6 : ¬ n ≤ 57 := by omega
    repeat' (first | (with_reducible first | refine W ?_ | refine Wz0 ?_) | ((with_reducible first | refine Wo (fun K hK => ?_) | refine Wq ?_ | refine Wr ?_); (try simp only [go_sem, fN, seval, eT, iR, h1, h2, h3, h4, h5, h6]); (repeat with_reducible refine Ai ?_); (try (refine hK _ ?_; clear hK K))))
    simp only [go_sem, fN, seval, FinQ, AS.result, resAll, resOne, tupV, letterI, h1, h2, h3, h4, h5, h6]
    try simp
  · have h1 : ¬ 97 ≤ n := by omega
    have h3 : 65 ≤ n := by omega
    have h4 : n ≤ 90 := by omega
    repeat' (first | (with_reducible first | refine W ?_ | refine Wz0 ?_) | ((with_reducible first | refine Wo (fun K hK => ?_) | refine Wq ?_ | refine Wr ?_); (try simp only [go_sem, fN, seval, eT, iR, h1, h3, h4]); (repeat with_reducible refine Ai ?_); (try (refine hK _ ?_; clear hK K))))
    simp only [go_sem, fN, seval, FinQ, AS.result, resAll, resOne, tupV, letterI, h1, h3, h4]
    try simp
  · have h1 : ¬ 97 ≤ n := by omega
    have h3 : 65 ≤ n := by omega
    have h4 : ¬ n ≤ 90 := by omega
    have h5 : 48 ≤ n := by omega
    have h6 : ¬ n ≤ 57 := by omega
    repeat' (first | (with_reducible first | refine W ?_ | refine Wz0 ?_) | ((with_reducible first | refine Wo (fun K hK => ?_) | refine Wq ?_ | refine Wr ?_); (try simp only [go_sem, fN, seval, eT, iR, h1, h3, h4, h5, h6]); (repeat with_reducible refine Ai ?_); (try (refine hK _ ?_; clear hK K))))
    simp only [go_sem, fN, seval, FinQ, AS.result, resAll, resOne, tupV, letterI, h1, h3, h4, h5, h6]
    try simp
  · have h1 : ¬ 97 ≤ n := by omega
    have h3 : ¬ 65 ≤ n := by omega
    have h5 : 48 ≤ n := by omega
    have h6 : n ≤ 57 := by omega
    repeat' (first | (with_reducible first | refine W ?_ | refine Wz0 ?_) | ((with_reducible first | refine Wo (fun K hK => ?_) | refine Wq ?_ | refine Wr ?_); (try simp only [go_sem, fN, seval, eT, iR, h1, h3, h5, h6]); (repeat with_reducible refine Ai ?_); (try (refine hK _ ?_; clear hK K))))
    simp only [go_sem, fN, seval, FinQ, AS.result, resAll, resOne, tupV, letterI, h1, h3, h5, h6]
    try simp
  · have h1 : ¬ 97 ≤ n := by omega
    have h3 : ¬ 65 ≤ n := by omega
    have h5 : 48 ≤ n := by omega
    have h6 : ¬ n ≤ 57 := by omega
    repeat' (first | (with_reducible first | refine W ?_ | refine Wz0 ?_) | ((with_reducible first | refine Wo (fun K hK => ?_) | refine Wq ?_ | refine Wr ?_); (try simp only [go_sem, fN, seval, eT, iR, h1, h3, h5, h6]); (repeat with_reducible refine Ai ?_); (try (refine hK _ ?_; clear hK K))))
    simp only [go_sem, fN, seval, FinQ, AS.result, resAll, resOne, tupV, letterI, h1, h3, h5, h6]
    try simp
  · have h1 : ¬ 97 ≤ n := by omega
    have h3 : ¬ 65 ≤ n := by omega
    have h5 : ¬ 48 ≤ n := by omega
    repeat' (first | (with_reducible first | refine W ?_ | refine Wz0 ?_) | ((with_reducible first | refine Wo (fun K hK => ?_) | refine Wq ?_ | refine Wr ?_); (try simp only [go_sem, fN, seval, eT, iR, h1, h3, h5]); (repeat with_reducible refine Ai ?_); (try (refine hK _ ?_; clear hK K))))
    simp only [go_sem, fN, seval, FinQ, AS.result, resAll, resOne, tupV, letterI, h1, h3, h5]
    try simp
theorem isLetter_a (n : Int) (h0 : 0 ≤ n) : ACalls Tryd.prog 28 [.one (.st (.int .u8 n))] (aBool (letterI n)) := by
  refine ok_R_IsLetter.ac fun C hC => ?_
  unfold ir_R_IsLetter
  have hc : (97 ≤ n ∧ n ≤ 122) ∨ (122 < n) ∨ (n < 97 ∧ 65 ≤ n ∧ n ≤ 90) ∨ (n < 97 ∧ 90 < n) ∨ (n < 65 ∧ 48 ≤ n ∧ n ≤ 57) ∨ (n < 65 ∧ 57 < n) ∨ (n < 48) := by omega
  rcases hc with h | h | h | h | h | h | h
  · have h1 : 97 ≤ n := h.1
    have h2 : n ≤ 122 := h.2
    repeat' (first | (with_reducible first | refine W ?_ | refine Wz0 ?_) | ((with_reducible first | refine Wo (fun K hK => ?_) | refine Wq ?_ | refine Wr ?_); (try simp only [go_sem, fN, seval, eT, iR, h1, h2]); (repeat with_reducible refine Ai ?_); (try (refine hK _ ?_; clear hK K))))
    simp only [go_sem, fN, seval, FinQ, AS.result, resAll, resOne, tupV, letterI, h1, h2]
    try simp
  · have h1 : 97 ≤ n := by omega
    have h2 : ¬ n ≤ 122 := by omega
    have h3 : 65 ≤ n := by omega
    have h4 : ¬ n ≤ 90 := by omega
    have h5 : 48 ≤ n := by omega
    have h6 : ¬ n ≤ 57 := by omega
    repeat' (first | (with_reducible first | refine W ?_ | refine Wz0 ?_) | ((with_reducible first | refine Wo (fun K hK => ?_) | refine Wq ?_ | refine Wr ?_); (try simp only [go_sem, fN, seval, eT, iR, h1, h2, h3, h4, h5, h6]); (repeat with_reducible refine Ai ?_); (try (refine hK _ ?_; clear hK K))))
    simp only [go_sem, fN, seval, FinQ, AS.result, resAll, resOne, tupV, letterI, h1, h2, h3, h4, h5, h6]
    try simp
  · have h1 : ¬ 97 ≤ n := by omega
    have h3 : 65 ≤ n := by omega
    have h4 : n ≤ 90 := by omega
    repeat' (first | (with_reducible first | refine W ?_ | refine Wz0 ?_) | ((with_reducible first | refine Wo (fun K hK => ?_) | refine Wq ?_ | refine Wr ?_); (try simp only [go_sem, fN, seval, eT, iR, h1, h3, h4]); (repeat with_reducible refine Ai ?_); (try (refine hK _ ?_; clear hK K))))
    simp only [go_sem, fN, seval, FinQ, AS.result, resAll, resOne, tupV, letterI, h1, h3, h4]
    try simp
  · have h1 : ¬ 97 ≤ n := by omega
    have h3 : 65 ≤ n := by omega
    have h4 : ¬ n ≤ 90 := by omega
    have h5 : 48 ≤ n := by omega
    have h6 : ¬ n ≤ 57 := by omega
    repeat' (first | (with_reducible first | refine W ?_ | refine Wz0 ?_) | ((with_reducible first | refine Wo (fun K hK => ?_) | refine Wq ?_ | refine Wr ?_); (try simp only [go_sem, fN, seval, eT, iR, h1, h3, h4, h5, h6]); (repeat with_reducible refine Ai ?_); (try (refine hK _ ?_; clear hK K))))
    simp only [go_sem, fN, seval, FinQ, AS.result, resAll, resOne, tupV, letterI, h1, h3, h4, h5, h6]
    try simp
  · have h1 : ¬ 97 ≤ n := by omega
    have h3 : ¬ 65 ≤ n := by omega
    have h5 : 48 ≤ n := by omega
    have h6 : n ≤ 57 := by omega
    repeat' (first | (with_reducible first | refine W ?_ | refine Wz0 ?_) | ((with_reducible first | refine Wo (fun K hK => ?_) | refine Wq ?_ | refine Wr ?_); (try simp only [go_sem, fN, seval, eT, iR, h1, h3, h5, h6]); (repeat with_reducible refine Ai ?_); (try (refine hK _ ?_; clear hK K))))
    simp only [go_sem, fN, seval, FinQ, AS.result, resAll, resOne, tupV, letterI, h1, h3, h5, h6]
    try simp
  · have h1 : ¬ 97 ≤ n := by omega
    have h3 : ¬ 65 ≤ n := by omega
    have h5 : 48 ≤ n := by omega
    have h6 : ¬ n ≤ 57 := by omega
    repeat' (first | (with_reducible first | refine W ?_ | refine Wz0 ?_) | ((with_reducible first | refine Wo (fun K hK => ?_) | refine Wq ?_ | refine Wr ?_); (try simp only [go_sem, fN, seval, eT, iR, h1, h3, h5, h6]); (repeat with_reducible refine Ai ?_); (try (refine hK _ ?_; clear hK K))))
    simp only [go_sem, fN, seval, FinQ, AS.result, resAll, resOne, tupV, letterI, h1, h3, h5, h6]
    try simp
  · have h1 : ¬ 97 ≤ n := by omega
    have h3 : ¬ 65 ≤ n := by omega
    have h5 : ¬ 48 ≤ n := by omega
    repeat' (first | (with_reducible first | refine W ?_ | refine Wz0 ?_) | ((with_reducible first | refine Wo (fun K hK => ?_) | refine Wq ?_ | refine Wr ?_); (try simp only [go_sem, fN, seval, eT, iR, h1, h3, h5]); (repeat with_reducible refine Ai ?_); (try (refine hK _ ?_; clear hK K))))
    simp only [go_sem, fN, seval, FinQ, AS.result, resAll, resOne, tupV, letterI, h1, h3, h5]
    try simp
theorem nameOk_eq (s : ByteArray) (h1 : 1 ≤ s.size) (h8 : s.size ≤ 8) (hd : ¬ (48 ≤ byteAt s 0 ∧ byteAt s 0 ≤ 57)) : nameOk s = lettersTo s s.size := by
  unfold nameOk
  have : (decide (48 ≤ byteAt s 0) && decide (byteAt s 0 ≤ 57)) = false := by
    rw [Bool.and_eq_false_iff]
    simp
    omega
  rw [this]
  simp [h1, h8]
theorem name_a (s : ByteArray) : ACalls Tryd.prog 22 [aStr s] (aBool (nameOk s)) := by
  by_cases h0 : s.size < 1
  · have e : nameOk s = false := by simp [nameOk]; omega
    rw [e]
    have h0' : (s.size : Int) < 1 := by omega
    refine ok_term_Name.ac fun C hC => ?_
    unfold ir_term_Name
    repeat' (first | (with_reducible first | refine W ?_ | refine Wz0 ?_) | ((with_reducible first | refine Wo (fun K hK => ?_) | refine Wq ?_ | refine Wr ?_); (try simp only [go_sem, fN, seval, eT, iR, h0']); (repeat with_reducible refine Ai ?_); (try (refine hK _ ?_; clear hK K))))
    with_reducible refine Wp ?_
    simp only [go_sem, fN, seval, true_implies, false_implies, implies_true, dT, dF, nL, h0']
    (try with_reducible refine iC ?_)
    repeat' (first | (with_reducible first | refine W ?_ | refine Wz0 ?_) | ((with_reducible first | refine Wo (fun K hK => ?_) | refine Wq ?_ | refine Wr ?_); (try simp only [go_sem, fN, seval, eT, iR]); (repeat with_reducible refine Ai ?_); (try (refine hK _ ?_; clear hK K))))
    simp only [go_sem, fN, seval, FinQ, AS.result, resAll, resOne, tupV]
  have h0' : ¬ (s.size : Int) < 1 := by omega
  by_cases h8 : 8 < s.size
  · have e : nameOk s = false := by simp [nameOk]; omega
    rw [e]
    have h8' : (8 : Int) < s.size := by omega
    refine ok_term_Name.ac fun C hC => ?_
    unfold ir_term_Name
    repeat' (first | (with_reducible first | refine W ?_ | refine Wz0 ?_) | ((with_reducible first | refine Wo (fun K hK => ?_) | refine Wq ?_ | refine Wr ?_); (try simp only [go_sem, fN, seval, eT, iR, h0', h8']); (repeat with_reducible refine Ai ?_); (try (refine hK _ ?_; clear hK K))))
    with_reducible refine Wp ?_
    simp only [go_sem, fN, seval, true_implies, false_implies, implies_true, dT, dF, nL, h0']
    (try with_reducible refine iC ?_)
    repeat' (first | (with_reducible first | refine W ?_ | refine Wz0 ?_) | ((with_reducible first | refine Wo (fun K hK => ?_) | refine Wq ?_ | refine Wr ?_); (try simp only [go_sem, fN, seval, eT, iR]); (repeat with_reducible refine Ai ?_); (try (refine hK _ ?_; clear hK K))))
    simp only [go_sem, fN, seval, FinQ, AS.result, resAll, resOne, tupV]
  have h8' : ¬ (8 : Int) < s.size := by omega
  have hpos : 0 < s.size := by omega
  by_cases hd : 48 ≤ byteAt s 0 ∧ byteAt s 0 ≤ 57
  · have e : nameOk s = false := by simp [nameOk, hd.1, hd.2]
    rw [e]
    refine ok_term_Name.ac fun C hC => ?_
    unfold ir_term_Name
    repeat' (first | (with_reducible first | refine W ?_ | refine Wz0 ?_) | ((with_reducible first | refine Wo (fun K hK => ?_) | refine Wq ?_ | refine Wr ?_); (try simp only [go_sem, fN, seval, eT, iR, h0', h8', hpos, byteN_eq, hd.1, hd.2]); (repeat with_reducible refine Ai ?_); (try (refine hK _ ?_; clear hK K))))
    with_reducible refine Wp ?_
    simp only [go_sem, fN, seval, true_implies, false_implies, implies_true, dT, dF, nL, h0']
    (try with_reducible refine iC ?_)
    repeat' (first | (with_reducible first | refine W ?_ | refine Wz0 ?_) | ((with_reducible first | refine Wo (fun K hK => ?_) | refine Wq ?_ | refine Wr ?_); (try simp only [go_sem, fN, seval, eT, iR]); (repeat with_reducible refine Ai ?_); (try (refine hK _ ?_; clear hK K))))
    simp only [go_sem, fN, seval, FinQ, AS.result, resAll, resOne, tupV]
  rw [nameOk_eq s (by omega) (by omega) hd]
  have hd2 : (48 ≤ byteAt s 0 ∧ ¬ byteAt s 0 ≤ 57) ∨ (¬ 48 ≤ byteAt s 0) := by omega
  refine ok_term_Name.ac fun C hC => ?_
  unfold ir_term_Name
  have h57 : 48 ≤ byteAt s 0 → ¬ byteAt s 0 ≤ 57 := fun h h' => hd ⟨h, h'⟩
  by_cases h48 : 48 ≤ byteAt s 0
  all_goals
    simp only [h48, true_implies, false_implies] at h57
    repeat' (first | (with_reducible first | refine W ?_ | refine Wz0 ?_) | ((with_reducible first | refine Wo (fun K hK => ?_) | refine Wq ?_ | refine Wr ?_); (try simp only [go_sem, fN, seval, eT, iR, h0', h8', hpos, byteN_eq, h48, h57]); (repeat with_reducible refine Ai ?_); (try (refine hK _ ?_; clear hK K))))
    with_reducible refine Wp ?_
    simp only [go_sem, fN, seval, true_implies, false_implies, implies_true, dT, dF, nL, h0']
    (try with_reducible refine iC ?_)
    repeat' (first | (with_reducible first | refine W ?_ | refine Wz0 ?_) | ((with_reducible first | refine Wo (fun K hK => ?_) | refine Wq ?_ | refine Wr ?_); (try simp only [go_sem, fN, seval, eT, iR]); (repeat with_reducible refine Ai ?_); (try (refine hK _ ?_; clear hK K))))
    refine IWP.loop (fun m x => ∃ k, k ≤ s.size ∧ m = s.size - k ∧ lettersTo s k = true ∧ x.env 0 = aStr s ∧ x.env 23 = aInt s.size ∧ x.env 24 = aInt k) s.size ⟨0, Nat.zero_le _, rfl, rfl, rfl, rfl, rfl⟩ ?_
    rintro m ⟨env, S⟩ ⟨k, hk, rfl, hl, e0, e23, e24⟩
    simp only at e0 e23 e24
    repeat' (first | (with_reducible first | refine W ?_ | refine Wz0 ?_) | ((with_reducible first | refine Wo (fun K hK => ?_) | refine Wq ?_ | refine Wr ?_); (try simp only [go_sem, fN, seval, eT, iR, e0, e23, e24]); (repeat with_reducible refine Ai ?_); (try (refine hK _ ?_; clear hK K))))
    with_reducible refine Wp ?_
    simp only [go_sem, fN, seval, true_implies, false_implies, implies_true, dT, dF, nL, e0, e23, e24]
    (try with_reducible refine iC ?_)
    refine ⟨fun hlt => ?_, fun hge => ?_⟩
    · have hlt' : k < s.size := by omega
      repeat' (first | (with_reducible first | refine W ?_ | refine Wz0 ?_) | refine Cg _ (letter_a _ (byteAt_range s k).1) ?_ | ((with_reducible first | refine Wo (fun K hK => ?_) | refine Wq ?_ | refine Wr ?_); (try simp only [go_sem, fN, seval, eT, iR, e0, e23, e24, hlt', byteN_eq]); (repeat with_reducible refine Ai ?_); (try (refine hK _ ?_; clear hK K))))
      with_reducible refine Wp ?_
      simp only [go_sem, fN, seval, true_implies, false_implies, implies_true, dT, dF, nL]
      (try with_reducible refine iC ?_)
      refine ⟨fun hn => ?_, fun hn => ?_⟩
      · repeat' (first | (with_reducible first | refine W ?_ | refine Wz0 ?_) | ((with_reducible first | refine Wo (fun K hK => ?_) | refine Wq ?_ | refine Wr ?_); (try simp only [go_sem, fN, seval, eT, iR]); (repeat with_reducible refine Ai ?_); (try (refine hK _ ?_; clear hK K))))
        simp only [go_sem, fN, seval, FinQ, AS.result, resAll, resOne, tupV]
        rw [lettersTo_no s k hlt' (by simpa using hn)]
      · repeat' (first | (with_reducible first | refine W ?_ | refine Wz0 ?_) | ((with_reducible first | refine Wo (fun K hK => ?_) | refine Wq ?_ | refine Wr ?_); (try simp only [go_sem, fN, seval, eT, iR, e0, e23, e24]); (repeat with_reducible refine Ai ?_); (try (refine hK _ ?_; clear hK K))))
        refine then_normal ⟨s.size - (k + 1), by omega, k + 1, by omega, rfl, ?_, ?_⟩
        · rw [lettersTo_succ s k hlt', hl]
          simpa using hn
        · simp only [go_sem, fN, seval, eT, iR, e0, e23, e24]
          congr 3
    · repeat' (first | (with_reducible first | refine W ?_ | refine Wz0 ?_) | ((with_reducible first | refine Wo (fun K hK => ?_) | refine Wq ?_ | refine Wr ?_); (try simp only [go_sem, fN, seval, eT, iR]); (repeat with_reducible refine Ai ?_); (try (refine hK _ ?_; clear hK K))))
      simp only [go_sem, fN, seval, FinQ, AS.result, resAll, resOne, tupV]
      rw [show s.size = k by omega, hl]
theorem isName_a (s : ByteArray) : ACalls Tryd.prog 16 [aStr s] (aBool (nameOk s)) := by
  by_cases h0 : s.size < 1
  · have e : nameOk s = false := by simp [nameOk]; omega
    rw [e]
    have h0' : s = ⟨#[]⟩ := size_eq0 (by omega)
    subst h0'
    refine ok_R_IsName.ac fun C hC => ?_
    unfold ir_R_IsName
    repeat' (first | (with_reducible first | refine W ?_ | refine Wz0 ?_) | ((with_reducible first | refine Wo (fun K hK => ?_) | refine Wq ?_ | refine Wr ?_); (try simp only [go_sem, fN, seval, eT, iR]); (repeat with_reducible refine Ai ?_); (try (refine hK _ ?_; clear hK K))))
    with_reducible refine Wp ?_
    simp only [go_sem, fN, seval, true_implies, false_implies, implies_true, dT, dF, nL]
    (try with_reducible refine iC ?_)
    repeat' (first | (with_reducible first | refine W ?_ | refine Wz0 ?_) | ((with_reducible first | refine Wo (fun K hK => ?_) | refine Wq ?_ | refine Wr ?_); (try simp only [go_sem, fN, seval, eT, iR]); (repeat with_reducible refine Ai ?_); (try (refine hK _ ?_; clear hK K))))
    simp only [go_sem, fN, seval, FinQ, AS.result, resAll, resOne, tupV]
  have h0' : ¬ s = ⟨#[]⟩ := size_ne (by omega)
  by_cases h8 : 8 < s.size
  · have e : nameOk s = false := by simp [nameOk]; omega
    rw [e]
    have h8' : (8 : Int) < s.size := by omega
    refine ok_R_IsName.ac fun C hC => ?_
    unfold ir_R_IsName
    repeat' (first | (with_reducible first | refine W ?_ | refine Wz0 ?_) | ((with_reducible first | refine Wo (fun K hK => ?_) | refine Wq ?_ | refine Wr ?_); (try simp only [go_sem, fN, seval, eT, iR, h0', h8']); (repeat with_reducible refine Ai ?_); (try (refine hK _ ?_; clear hK K))))
    with_reducible refine Wp ?_
    simp only [go_sem, fN, seval, true_implies, false_implies, implies_true, dT, dF, nL, h0']
    (try with_reducible refine iC ?_)
    repeat' (first | (with_reducible first | refine W ?_ | refine Wz0 ?_) | ((with_reducible first | refine Wo (fun K hK => ?_) | refine Wq ?_ | refine Wr ?_); (try simp only [go_sem, fN, seval, eT, iR]); (repeat with_reducible refine Ai ?_); (try (refine hK _ ?_; clear hK K))))
    simp only [go_sem, fN, seval, FinQ, AS.result, resAll, resOne, tupV]
  have h8' : ¬ (8 : Int) < s.size := by omega
  have hpos : 0 < s.size := by omega
  by_cases hd : 48 ≤ byteAt s 0 ∧ byteAt s 0 ≤ 57
  · have e : nameOk s = false := by simp [nameOk, hd.1, hd.2]
    rw [e]
    refine ok_R_IsName.ac fun C hC => ?_
    unfold ir_R_IsName
    repeat' (first | (with_reducible first | refine W ?_ | refine Wz0 ?_) | ((with_reducible first | refine Wo (fun K hK => ?_) | refine Wq ?_ | refine Wr ?_); (try simp only [go_sem, fN, seval, eT, iR, h0', h8', hpos, byteN_eq, hd.1, hd.2]); (repeat with_reducible refine Ai ?_); (try (refine hK _ ?_; clear hK K))))
    with_reducible refine Wp ?_
    simp only [go_sem, fN, seval, true_implies, false_implies, implies_true, dT, dF, nL, h0']
    (try with_reducible refine iC ?_)
    repeat' (first | (with_reducible first | refine W ?_ | refine Wz0 ?_) | ((with_reducible first | refine Wo (fun K hK => ?_) | refine Wq ?_ | refine Wr ?_); (try simp only [go_sem, fN, seval, eT, iR]); (repeat with_reducible refine Ai ?_); (try (refine hK _ ?_; clear hK K))))
    simp only [go_sem, fN, seval, FinQ, AS.result, resAll, resOne, tupV]
  rw [nameOk_eq s (by omega) (by omega) hd]
  refine ok_R_IsName.ac fun C hC => ?_
  unfold ir_R_IsName
  have h57 : 48 ≤ byteAt s 0 → ¬ byteAt s 0 ≤ 57 := fun h h' => hd ⟨h, h'⟩
  by_cases h48 : 48 ≤ byteAt s 0
  all_goals
    simp only [h48, true_implies, false_implies] at h57
    repeat' (first | (with_reducible first | refine W ?_ | refine Wz0 ?_) | ((with_reducible first | refine Wo (fun K hK => ?_) | refine Wq ?_ | refine Wr ?_); (try simp only [go_sem, fN, seval, eT, iR, h0', h8', hpos, byteN_eq, h48, h57]); (repeat with_reducible refine Ai ?_); (try (refine hK _ ?_; clear hK K))))
    with_reducible refine Wp ?_
    simp only [go_sem, fN, seval, true_implies, false_implies, implies_true, dT, dF, nL, h0']
    (try with_reducible refine iC ?_)
    repeat' (first | (with_reducible first | refine W ?_ | refine Wz0 ?_) | ((with_reducible first | refine Wo (fun K hK => ?_) | refine Wq ?_ | refine Wr ?_); (try simp only [go_sem, fN, seval, eT, iR]); (repeat with_reducible refine Ai ?_); (try (refine hK _ ?_; clear hK K))))
    refine IWP.loop (fun m x => ∃ k, k ≤ s.size ∧ m = s.size - k ∧ lettersTo s k = true ∧ x.env 0 = aStr s ∧ x.env 3 = aInt k) s.size ⟨0, Nat.zero_le _, rfl, rfl, rfl, rfl⟩ ?_
    rintro m ⟨env, S⟩ ⟨k, hk, rfl, hl, e0, e3⟩
    simp only at e0 e3
    repeat' (first | (with_reducible first | refine W ?_ | refine Wz0 ?_) | ((with_reducible first | refine Wo (fun K hK => ?_) | refine Wq ?_ | refine Wr ?_); (try simp only [go_sem, fN, seval, eT, iR, e0, e3]); (repeat with_reducible refine Ai ?_); (try (refine hK _ ?_; clear hK K))))
    with_reducible refine Wp ?_
    simp only [go_sem, fN, seval, true_implies, false_implies, implies_true, dT, dF, nL, e0, e3]
    (try with_reducible refine iC ?_)
    refine ⟨fun hlt => ?_, fun hge => ?_⟩
    · have hlt' : k < s.size := by omega
      repeat' (first | (with_reducible first | refine W ?_ | refine Wz0 ?_) | refine Cg _ (isLetter_a _ (byteAt_range s k).1) ?_ | ((with_reducible first | refine Wo (fun K hK => ?_) | refine Wq ?_ | refine Wr ?_); (try simp only [go_sem, fN, seval, eT, iR, e0, e3, hlt', byteN_eq]); (repeat with_reducible refine Ai ?_); (try (refine hK _ ?_; clear hK K))))
      with_reducible refine Wp ?_
      simp only [go_sem, fN, seval, true_implies, false_implies, implies_true, dT, dF, nL]
      (try with_reducible refine iC ?_)
      refine ⟨fun hn => ?_, fun hn => ?_⟩
      · repeat' (first | (with_reducible first | refine W ?_ | refine Wz0 ?_) | ((with_reducible first | refine Wo (fun K hK => ?_) | refine Wq ?_ | refine Wr ?_); (try simp only [go_sem, fN, seval, eT, iR]); (repeat with_reducible refine Ai ?_); (try (refine hK _ ?_; clear hK K))))
        simp only [go_sem, fN, seval, FinQ, AS.result, resAll, resOne, tupV]
        rw [lettersTo_no s k hlt' (by simpa using hn)]
      · repeat' (first | (with_reducible first | refine W ?_ | refine Wz0 ?_) | ((with_reducible first | refine Wo (fun K hK => ?_) | refine Wq ?_ | refine Wr ?_); (try simp only [go_sem, fN, seval, eT, iR, e0, e3]); (repeat with_reducible refine Ai ?_); (try (refine hK _ ?_; clear hK K))))
        refine then_normal ⟨s.size - (k + 1), by omega, k + 1, by omega, rfl, ?_, ?_⟩
        · rw [lettersTo_succ s k hlt', hl]
          simpa using hn
        · simp only [go_sem, fN, seval, eT, iR, e0, e3]
          congr 3
    · repeat' (first | (with_reducible first | refine W ?_ | refine Wz0 ?_) | ((with_reducible first | refine Wo (fun K hK => ?_) | refine Wq ?_ | refine Wr ?_); (try simp only [go_sem, fN, seval, eT, iR]); (repeat with_reducible refine Ai ?_); (try (refine hK _ ?_; clear hK K))))
      simp only [go_sem, fN, seval, FinQ, AS.result, resAll, resOne, tupV]
      rw [show s.size = k by omega, hl]
theorem in_a (x : ByteArray) (l : List ByteArray) : ACalls Tryd.prog 17 [aStr x, aStrs l] (aBool (isIn x l)) := by
  refine ok_R_In.ac fun C hC => ?_
  unfold ir_R_In
  refine IWP.learn 1 (by omega) fun hkn => ?_
  have hkn := known_len hkn
  rw [List.length_map] at hkn
  repeat' (first | (with_reducible first | refine W ?_ | refine Wz0 ?_) | ((with_reducible first | refine Wo (fun K hK => ?_) | refine Wq ?_ | refine Wr ?_); (try simp only [go_sem, fN, seval, eT, iR]); (repeat with_reducible refine Ai ?_); (try (refine hK _ ?_; clear hK K))))
  refine IWP.loop (fun n s => ∃ k, k ≤ l.length ∧ n = l.length - k ∧ isIn x (l.take k) = false ∧ s.env 0 = aStr x ∧ s.env 1 = aStrs l ∧ s.env 5 = aInt k) l.length ⟨0, Nat.zero_le _, rfl, rfl, rfl, rfl, rfl⟩ ?_
  rintro n ⟨env, S⟩ ⟨k, hk, rfl, h0, e0, e1, e5⟩
  simp only at e0 e1 e5
  repeat' (first | (with_reducible first | refine W ?_ | refine Wz0 ?_) | ((with_reducible first | refine Wo (fun K hK => ?_) | refine Wq ?_ | refine Wr ?_); (try simp only [go_sem, fN, seval, eT, iR, e0, e1, e5]); (repeat with_reducible refine Ai ?_); (try (refine hK _ ?_; clear hK K))))
  with_reducible refine Wp ?_
  simp only [go_sem, fN, seval, true_implies, false_implies, implies_true, dT, dF, nL]
  (try with_reducible refine iC ?_)
  refine ⟨fun hlt => ?_, fun hge => ?_⟩
  · obtain ⟨a, ha⟩ := get_lt (show k < l.length by omega)
    repeat' (first | (with_reducible first | refine W ?_ | refine Wz0 ?_) | ((with_reducible first | refine Wo (fun K hK => ?_) | refine Wq ?_ | refine Wr ?_); (try simp only [go_sem, fN, seval, eT, iR, e0, e1, e5, ha]); (repeat with_reducible refine Ai ?_); (try (refine hK _ ?_; clear hK K))))
    with_reducible refine Wp ?_
    simp only [go_sem, fN, seval, true_implies, false_implies, implies_true, dT, dF, nL]
    (try with_reducible refine iC ?_)
    refine ⟨fun hb => ?_, fun hb => ?_⟩
    · repeat' (first | (with_reducible first | refine W ?_ | refine Wz0 ?_) | ((with_reducible first | refine Wo (fun K hK => ?_) | refine Wq ?_ | refine Wr ?_); (try simp only [go_sem, fN, seval, eT, iR]); (repeat with_reducible refine Ai ?_); (try (refine hK _ ?_; clear hK K))))
      simp only [go_sem, fN, seval, FinQ, AS.result, resAll, resOne, tupV]
      rw [isIn_iff.2 (by rw [← hb]; exact mem_of_get ha)]
    · repeat' (first | (with_reducible first | refine W ?_ | refine Wz0 ?_) | ((with_reducible first | refine Wo (fun K hK => ?_) | refine Wq ?_ | refine Wr ?_); (try simp only [go_sem, fN, seval, eT, iR, e0, e1, e5]); (repeat with_reducible refine Ai ?_); (try (refine hK _ ?_; clear hK K))))
      refine then_normal ⟨l.length - (k + 1), by omega, k + 1, by omega, rfl, ?_, ?_⟩
      · rw [take_snoc ha, isIn_no]
        rw [isIn_no] at h0
        simp only [List.mem_append, List.mem_singleton, not_or]
        exact ⟨h0, fun e => hb e.symm⟩
      · simp only [go_sem, fN, seval, eT, iR, e0, e1, e5]
        congr 3
  · repeat' (first | (with_reducible first | refine W ?_ | refine Wz0 ?_) | ((with_reducible first | refine Wo (fun K hK => ?_) | refine Wq ?_ | refine Wr ?_); (try simp only [go_sem, fN, seval, eT, iR]); (repeat with_reducible refine Ai ?_); (try (refine hK _ ?_; clear hK K))))
    simp only [go_sem, fN, seval, FinQ, AS.result, resAll, resOne, tupV]
    rw [List.take_of_length_le (by omega)] at h0
    rw [h0]
theorem index_a (l : List ByteArray) (x : ByteArray) : ∃ i : Int, ACalls Tryd.prog 35 [aStrs l, aStr x] (aInt i) ∧ (0 ≤ i ↔ isIn x l = true) := by
  by_cases hin : isIn x l = true
  · obtain ⟨k0, hk0, hmin⟩ : ∃ k, l[k]? = some x ∧ ∀ j, j < k → l[j]? ≠ some x := by
      have hx := isIn_iff.1 hin
      have ⟨k, hk⟩ := List.getElem?_of_mem hx
      induction k using Nat.strongRecOn with
      | _ k ih =>
        by_cases h : ∃ j, j < k ∧ l[j]? = some x
        · obtain ⟨j, hj, hjx⟩ := h
          exact ih j hj hjx
        · exact ⟨k, hk, fun j hj hjx => h ⟨j, hj, hjx⟩⟩
    have hlt0 := lt_of_get hk0
    refine ⟨k0, ?_, by simp [hin]⟩
    refine ok_slices_Index_string_string.ac fun C hC => ?_
    unfold ir_slices_Index_string_string
    refine IWP.learn 0 (by omega) fun hkn => ?_
    have hkn := known_len hkn
    rw [List.length_map] at hkn
    repeat' (first | (with_reducible first | refine W ?_ | refine Wz0 ?_) | ((with_reducible first | refine Wo (fun K hK => ?_) | refine Wq ?_ | refine Wr ?_); (try simp only [go_sem, fN, seval, eT, iR]); (repeat with_reducible refine Ai ?_); (try (refine hK _ ?_; clear hK K))))
    refine IWP.loop (fun n s => ∃ k, k ≤ k0 ∧ n = k0 - k ∧ s.env 0 = aStrs l ∧ s.env 1 = aStr x ∧ s.env 7 = aInt l.length ∧ s.env 8 = aInt k) k0 ⟨0, Nat.zero_le _, rfl, rfl, rfl, rfl, rfl⟩ ?_
    rintro n ⟨env, S⟩ ⟨k, hk, rfl, e0, e1, e7, e8⟩
    simp only at e0 e1 e7 e8
    have hlt : (k : Int) < l.length := by omega
    repeat' (first | (with_reducible first | refine W ?_ | refine Wz0 ?_) | ((with_reducible first | refine Wo (fun K hK => ?_) | refine Wq ?_ | refine Wr ?_); (try simp only [go_sem, fN, seval, eT, iR, e0, e1, e7, e8, hlt]); (repeat with_reducible refine Ai ?_); (try (refine hK _ ?_; clear hK K))))
    with_reducible refine Wp ?_
    simp only [go_sem, fN, seval, true_implies, false_implies, implies_true, dT, dF, nL, e0, e1, e7, e8, hlt]
    (try with_reducible refine iC ?_)
    obtain ⟨a, ha⟩ := get_lt (show k < l.length by omega)
    repeat' (first | (with_reducible first | refine W ?_ | refine Wz0 ?_) | ((with_reducible first | refine Wo (fun K hK => ?_) | refine Wq ?_ | refine Wr ?_); (try simp only [go_sem, fN, seval, eT, iR, e0, e1, e7, e8, ha]); (repeat with_reducible refine Ai ?_); (try (refine hK _ ?_; clear hK K))))
    by_cases he : k = k0
    · subst he
      rw [hk0] at ha
      cases ha
      with_reducible refine Wp ?_
      simp only [go_sem, fN, seval, true_implies, false_implies, implies_true, dT, dF, nL]
      (try with_reducible refine iC ?_)
      repeat' (first | (with_reducible first | refine W ?_ | refine Wz0 ?_) | ((with_reducible first | refine Wo (fun K hK => ?_) | refine Wq ?_ | refine Wr ?_); (try simp only [go_sem, fN, seval, eT, iR, e0, e1, e7, e8]); (repeat with_reducible refine Ai ?_); (try (refine hK _ ?_; clear hK K))))
      simp only [go_sem, fN, seval, FinQ, AS.result, resAll, resOne, tupV]
    · have hne : ¬ x = a := fun e => hmin k (by omega) (by rw [ha, e])
      with_reducible refine Wp ?_
      simp only [go_sem, fN, seval, true_implies, false_implies, implies_true, dT, dF, nL, hne]
      (try with_reducible refine iC ?_)
      repeat' (first | (with_reducible first | refine W ?_ | refine Wz0 ?_) | ((with_reducible first | refine Wo (fun K hK => ?_) | refine Wq ?_ | refine Wr ?_); (try simp only [go_sem, fN, seval, eT, iR, e0, e1, e7, e8]); (repeat with_reducible refine Ai ?_); (try (refine hK _ ?_; clear hK K))))
      refine then_normal ⟨k0 - (k + 1), by omega, k + 1, by omega, rfl, ?_⟩
      simp only [go_sem, fN, seval, eT, iR, e0, e1, e7, e8]
      congr 3
  · rw [Bool.not_eq_true] at hin
    refine ⟨-1, ?_, by simp [hin]⟩
    refine ok_slices_Index_string_string.ac fun C hC => ?_
    unfold ir_slices_Index_string_string
    refine IWP.learn 0 (by omega) fun hkn => ?_
    have hkn := known_len hkn
    rw [List.length_map] at hkn
    repeat' (first | (with_reducible first | refine W ?_ | refine Wz0 ?_) | ((with_reducible first | refine Wo (fun K hK => ?_) | refine Wq ?_ | refine Wr ?_); (try simp only [go_sem, fN, seval, eT, iR]); (repeat with_reducible refine Ai ?_); (try (refine hK _ ?_; clear hK K))))
    refine IWP.loop (fun n s => ∃ k, k ≤ l.length ∧ n = l.length - k ∧ s.env 0 = aStrs l ∧ s.env 1 = aStr x ∧ s.env 7 = aInt l.length ∧ s.env 8 = aInt k) l.length ⟨0, Nat.zero_le _, rfl, rfl, rfl, rfl, rfl⟩ ?_
    rintro n ⟨env, S⟩ ⟨k, hk, rfl, e0, e1, e7, e8⟩
    simp only at e0 e1 e7 e8
    by_cases hlt : (k : Int) < l.length
    · repeat' (first | (with_reducible first | refine W ?_ | refine Wz0 ?_) | ((with_reducible first | refine Wo (fun K hK => ?_) | refine Wq ?_ | refine Wr ?_); (try simp only [go_sem, fN, seval, eT, iR, e0, e1, e7, e8, hlt]); (repeat with_reducible refine Ai ?_); (try (refine hK _ ?_; clear hK K))))
      with_reducible refine Wp ?_
      simp only [go_sem, fN, seval, true_implies, false_implies, implies_true, dT, dF, nL, e0, e1, e7, e8, hlt]
      (try with_reducible refine iC ?_)
      obtain ⟨a, ha⟩ := get_lt (show k < l.length by omega)
      have hne : ¬ x = a := fun e => by
        rw [isIn_no] at hin
        exact hin (by rw [e]; exact mem_of_get ha)
      repeat' (first | (with_reducible first | refine W ?_ | refine Wz0 ?_) | ((with_reducible first | refine Wo (fun K hK => ?_) | refine Wq ?_ | refine Wr ?_); (try simp only [go_sem, fN, seval, eT, iR, e0, e1, e7, e8, ha]); (repeat with_reducible refine Ai ?_); (try (refine hK _ ?_; clear hK K))))
      with_reducible refine Wp ?_
      simp only [go_sem, fN, seval, true_implies, false_implies, implies_true, dT, dF, nL, hne]
      (try with_reducible refine iC ?_)
      repeat' (first | (with_reducible first | refine W ?_ | refine Wz0 ?_) | ((with_reducible first | refine Wo (fun K hK => ?_) | refine Wq ?_ | refine Wr ?_); (try simp only [go_sem, fN, seval, eT, iR, e0, e1, e7, e8]); (repeat with_reducible refine Ai ?_); (try (refine hK _ ?_; clear hK K))))
      refine then_normal ⟨l.length - (k + 1), by omega, k + 1, by omega, rfl, ?_⟩
      simp only [go_sem, fN, seval, eT, iR, e0, e1, e7, e8]
      congr 3
    · repeat' (first | (with_reducible first | refine W ?_ | refine Wz0 ?_) | ((with_reducible first | refine Wo (fun K hK => ?_) | refine Wq ?_ | refine Wr ?_); (try simp only [go_sem, fN, seval, eT, iR, e0, e1, e7, e8, hlt]); (repeat with_reducible refine Ai ?_); (try (refine hK _ ?_; clear hK K))))
      with_reducible refine Wp ?_
      simp only [go_sem, fN, seval, true_implies, false_implies, implies_true, dT, dF, nL, e0, e1, e7, e8, hlt]
      (try with_reducible refine iC ?_)
      repeat' (first | (with_reducible first | refine W ?_ | refine Wz0 ?_) | ((with_reducible first | refine Wo (fun K hK => ?_) | refine Wq ?_ | refine Wr ?_); (try simp only [go_sem, fN, seval, eT, iR]); (repeat with_reducible refine Ai ?_); (try (refine hK _ ?_; clear hK K))))
      simp only [go_sem, fN, seval, FinQ, AS.result, resAll, resOne, tupV]
theorem contains_a (l : List ByteArray) (x : ByteArray) : ACalls Tryd.prog 23 [aStrs l, aStr x] (aBool (isIn x l)) := by
  obtain ⟨i, h1, h2⟩ := index_a l x
  refine ok_slices_Contains_string_string.ac fun C hC => ?_
  unfold ir_slices_Contains_string_string
  repeat' (first | (with_reducible first | refine W ?_ | refine Wz0 ?_) | refine Cg _ (h1) ?_ | ((with_reducible first | refine Wo (fun K hK => ?_) | refine Wq ?_ | refine Wr ?_); (try simp only [go_sem, fN, seval, eT, iR]); (repeat with_reducible refine Ai ?_); (try (refine hK _ ?_; clear hK K))))
  simp only [go_sem, fN, seval, FinQ, AS.result, resAll, resOne, tupV]
  congr 4
  cases hi : isIn x l with
  | true => exact decide_eq_true (h2.2 hi)
  | false =>
    refine decide_eq_false fun h => ?_
    rw [h2.1 h] at hi
    cases hi
mutual
def Tm.beq : Tm → Tm → Bool
  | .mk n xs, .mk m ys => decide (n = m) && Tm.beqL xs ys
def Tm.beqL : List Tm → List Tm → Bool
  | [], [] => true
  | x :: xs, y :: ys => x.beq y && Tm.beqL xs ys
  | _, _ => false
end
def Tm.nil : Tm := .mk ⟨#[]⟩ []


abbrev Pr := Tm × Tm
def encP (p : Pr) : List SV := [.str p.1.name, .list (p.1.args.map encT), .str p.2.name, .list (p.2.args.map encT)]
instance : Lens encP 4 := ⟨fun _ => rfl⟩

def decS (n : Nat) : ByteArray := ⟨(Lib.decDigits n).toArray⟩
theorem decS_small {n : Nat} (h : n < 10) : decS n = ⟨#[UInt8.ofNat (48 + n)]⟩ := by unfold decS; rw [Lib.decDigits, dif_pos h]
theorem decS_big {n : Nat} (h : ¬ n < 10) : decS n = decS (n / 10) ++ decS (n % 10) := by
  rw [decS_small (n := n % 10) (Nat.mod_lt _ (by omega))]
  unfold decS
  conv => lhs; rw [Lib.decDigits, dif_neg h]
  apply ByteArray.ext
  simp
theorem nDig_le {u k : Nat} (h : u < 10 ^ k) (hk : 1 ≤ k) : Lib.nDigits u ≤ k := by
  induction k generalizing u with
  | zero => omega
  | succ k ih =>
    by_cases h1 : u < 10
    · rw [Lib.nDigits_small h1]; omega
    · rw [Lib.nDigits_big h1]
      have : 1 ≤ k := by
        rcases Nat.eq_zero_or_pos k with h0 | h0
        · subst h0; rw [Nat.zero_add, Nat.pow_one] at h; omega
        · exact h0
      have := ih (u := u / 10) (by rw [Nat.pow_succ] at h; omega) this
      omega
theorem decS_size (n : Nat) : (decS n).size = Lib.nDigits n := by
  show (Lib.decDigits n).toArray.size = _
  rw [List.size_toArray, Lib.decDigits_length]
theorem decS_size_le {n : Nat} (h : n < 1000000) : (decS n).size ≤ 6 := by rw [decS_size]; exact nDig_le (k := 6) (by omega) (by omega)
def headEq (n : ByteArray) (xs : List Tm) (b : Tm) : Prop := isVar n = false ∧ n = b.name ∧ xs.length = b.args.length
instance (n : ByteArray) (xs : List Tm) (b : Tm) : Decidable (headEq n xs b) := by unfold headEq; infer_instance
def Goes (l m : List Pr) : Prop := ∃ r, m = l ++ r
theorem Goes.refl (l : List Pr) : Goes l l := ⟨[], by simp⟩
theorem Goes.trans {a b c : List Pr} (h : Goes a b) (k : Goes b c) : Goes a c := by
  obtain ⟨r, rfl⟩ := h
  obtain ⟨q, rfl⟩ := k
  exact ⟨r ++ q, by simp⟩

def apS : ByteArray := ⟨#[97, 112]⟩
def ap2 (f x : Tm) : Tm := .mk apS [f, x]
mutual
def Tm.hd : Tm → Tm
  | .mk n xs => match Tm.hdL xs with | some h => h | none => .mk n xs
def Tm.hdL : List Tm → Option Tm
  | [] => none
  | f :: _ => some f.hd
end
mutual
def Tm.rw_ : Tm → List Tm
  | .mk n xs => match Tm.rwL xs, xs with
    | some l, _ :: x :: _ => l ++ [x]
    | _, _ => []
def Tm.rwL : List Tm → Option (List Tm)
  | [] => none
  | f :: _ => some f.rw_
end
def aps (h : Tm) (l : List Tm) : Tm := l.foldl ap2 h
def iS : ByteArray := ⟨#[105]⟩
def kS : ByteArray := ⟨#[107]⟩
def sS : ByteArray := ⟨#[115]⟩
def redOf (n : ByteArray) (l : List Tm) : Option (Tm × Nat) :=
  if n = iS then (match l with | x :: _ => some (x, 1) | _ => none)
  else if n = kS then (match l with | x :: _ :: _ => some (x, 2) | _ => none)
  else if n = sS then (match l with | x :: y :: z :: _ => some (ap2 (ap2 x z) (ap2 y z), 3) | _ => none)
  else none
def firstBy (f : Tm → Option Tm) : List Tm → Option (Nat × Tm)
  | [] => none
  | t :: ts => match f t with
    | some x => some (0, x)
    | none => (firstBy f ts).map fun p => (p.1 + 1, p.2)
def Tm.stepF : Nat → Tm → Option Tm
  | 0, _ => none
  | k + 1, t => match redOf t.hd.name t.rw_ with
    | some (y, u) => some (aps y (t.rw_.drop u))
    | none => (firstBy (Tm.stepF k) t.rw_).map fun p => aps t.hd (t.rw_.set p.1 p.2)
def Tm.step (t : Tm) : Option Tm := Tm.stepF t.size t
def Tm.run : Nat → Int → Tm → Tm × Int × Int
  | left, n, t => match t.step with
    | none => (t, n, 0)
    | some x => match left with
      | 0 => (.mk ⟨#[]⟩ [], 0, 9)
      | left + 1 => if 2000 < x.size then (.mk ⟨#[]⟩ [], 0, 8) else Tm.run left (n + 1) x

inductive Lm where
  | mk (kind idx : Int) (subs : List Lm)
def Lm.kind : Lm → Int | .mk k _ _ => k
def Lm.idx : Lm → Int | .mk _ i _ => i
def Lm.subs : Lm → List Lm | .mk _ _ xs => xs
theorem Lm.kind_mk (k i : Int) (xs : List Lm) : (Lm.mk k i xs).kind = k := rfl
theorem Lm.idx_mk (k i : Int) (xs : List Lm) : (Lm.mk k i xs).idx = i := rfl
theorem Lm.subs_mk (k i : Int) (xs : List Lm) : (Lm.mk k i xs).subs = xs := rfl
mutual
def encL : Lm → List SV
  | .mk k i xs => [.int .i64 k, .int .i64 i, .list (encLs xs)]
def encLs : List Lm → List (List SV)
  | [] => []
  | t :: ts => encL t :: encLs ts
end
theorem encLs_eq : ∀ xs : List Lm, encLs xs = xs.map encL
  | [] => rfl
  | t :: ts => by rw [encLs, encLs_eq ts]; rfl
theorem encL_eq (t : Lm) : encL t = [.int .i64 t.kind, .int .i64 t.idx, .list (t.subs.map encL)] := by
  cases t
  rw [encL, encLs_eq]
  rfl
theorem len_encL (t : Lm) : (encL t).length = 3 := by rw [encL_eq]; rfl
instance : Lens encL 3 := ⟨len_encL⟩
theorem lens_encL {ts : List Lm} : ∀ x ∈ ts.map encL, x.length = 3 := by
  intro x hx
  obtain ⟨a, _, rfl⟩ := List.mem_map.1 hx
  exact len_encL a
abbrev aLm (t : Lm) : AV := .agg [.st (.int .i64 t.kind), .st (.int .i64 t.idx), .st (.list (t.subs.map encL))]
theorem known_lm {S : AStore} {t : Lm} (h : (aLm t).known S) : (-9223372036854775808 ≤ t.kind ∧ t.kind ≤ 9223372036854775807) ∧ (-9223372036854775808 ≤ t.idx ∧ t.idx ≤ 9223372036854775807) ∧ t.subs.length ≤ 9223372036854775807 := by
  have h1 : inR .i64 t.kind := by
    have := h (.st (.int .i64 t.kind)) (by simp)
    simpa [AC.known, SV.known] using this
  have h2 : inR .i64 t.idx := by
    have := h (.st (.int .i64 t.idx)) (by simp)
    simpa [AC.known, SV.known] using this
  have h3 : t.subs.length ≤ maxLen := by
    have := h (.st (.list (t.subs.map encL))) (by simp)
    simp only [AC.known, SV.known, List.length_map] at this
    exact this.1
  rw [inR_i64] at h1 h2
  rw [maxLen_eq] at h3
  exact ⟨h1, h2, h3⟩
theorem Lm.lt_of_mem {a : Lm} {k i : Int} {xs : List Lm} (h : a ∈ xs) : SizeOf.sizeOf a < SizeOf.sizeOf (Lm.mk k i xs) := by
  have := List.sizeOf_lt_of_mem h
  simp only [Lm.mk.sizeOf_spec]
  omega
theorem Lm.lt_of_sub {a t : Lm} (h : a ∈ t.subs) : SizeOf.sizeOf a < SizeOf.sizeOf t := by
  cases t
  exact Lm.lt_of_mem h
attribute [go_sem] Lm.kind_mk Lm.idx_mk Lm.subs_mk encL_eq
mutual
def Lm.size : Lm → Nat
  | .mk _ _ xs => 1 + Lm.sizes xs
def Lm.sizes : List Lm → Nat
  | [] => 0
  | t :: ts => t.size + Lm.sizes ts
end
theorem Lm.sizes_append (xs ys : List Lm) : Lm.sizes (xs ++ ys) = Lm.sizes xs + Lm.sizes ys := by
  induction xs with
  | nil => simp [Lm.sizes]
  | cons t ts ih => simp only [List.cons_append, Lm.sizes, ih]; omega
theorem Lm.sizes_take {xs : List Lm} {k : Nat} {a : Lm} (h : xs[k]? = some a) : Lm.sizes (xs.take (k+1)) = Lm.sizes (xs.take k) + a.size := by
  rw [take_snoc h, Lm.sizes_append]; simp [Lm.sizes]
theorem Lm.sizes_take_le (xs : List Lm) (k : Nat)  : Lm.sizes (xs.take k) ≤ Lm.sizes xs := by
  have := Lm.sizes_append (xs.take k) (xs.drop k)
  rw [List.take_append_drop] at this
  omega
theorem Lm.size_eq (t : Lm) : t.size = 1 + Lm.sizes t.subs := by cases t; rfl
theorem Lm.size_pos (t : Lm) : 1 ≤ t.size := by rw [Lm.size_eq]; omega
theorem Lm.size_mem {a : Lm} {xs : List Lm} (h : a ∈ xs) : a.size ≤ Lm.sizes xs := by
  induction xs with
  | nil => simp at h
  | cons t ts ih =>
    rcases List.mem_cons.1 h with rfl | h
    · simp only [Lm.sizes]; omega
    · have := ih h; simp only [Lm.sizes]; omega
theorem Lm.length_le (xs : List Lm) : xs.length ≤ Lm.sizes xs := by
  induction xs with
  | nil => simp [Lm.sizes]
  | cons t ts ih => have := Lm.size_pos t; simp only [Lm.sizes, List.length_cons]; omega
def nSubs (k : Int) : Int := if k = 2 then 1 else if k = 3 then 2 else 0
def mostIdx (k u m : Int) : Int := if k = 1 then u else if k = 4 then 40 else if k = 5 then m else 1
def under (k u : Int) : Int := if k = 2 then u + 1 else u
mutual
def Lm.chk (m : Int) : Lm → Int → Int
  | .mk k i xs, u => if 1 ≤ k ∧ k ≤ 5 ∧ (xs.length : Int) = nSubs k then (if 0 ≤ i ∧ i < mostIdx k u m then Lm.chks m xs (under k u) else 15) else 2
def Lm.chks (m : Int) : List Lm → Int → Int
  | [], _ => 0
  | t :: ts, u => if t.chk m u = 0 then Lm.chks m ts u else t.chk m u
end
theorem Lm.chk_eq (m : Int) (t : Lm) (u : Int) : t.chk m u = if 1 ≤ t.kind ∧ t.kind ≤ 5 ∧ (t.subs.length : Int) = nSubs t.kind then (if 0 ≤ t.idx ∧ t.idx < mostIdx t.kind u m then Lm.chks m t.subs (under t.kind u) else 15) else 2 := by cases t; rfl
theorem Lm.chks_append (m u : Int) (xs ys : List Lm) : Lm.chks m (xs ++ ys) u = if Lm.chks m xs u = 0 then Lm.chks m ys u else Lm.chks m xs u := by
  induction xs with
  | nil => simp [Lm.chks]
  | cons t ts ih =>
    simp only [List.cons_append, Lm.chks]
    by_cases h : t.chk m u = 0
    · simp only [h, if_true, ih]
    · simp only [h, if_false]
theorem Lm.chks_take {m u : Int} {xs : List Lm} {k : Nat} {a : Lm} (h : xs[k]? = some a) (h0 : Lm.chks m (xs.take k) u = 0) : Lm.chks m (xs.take (k+1)) u = a.chk m u := by
  rw [take_snoc h, Lm.chks_append, if_pos h0]
  simp only [Lm.chks]
  split <;> simp_all
theorem Lm.chks_bad {m u : Int} {xs : List Lm} {k : Nat} (h0 : Lm.chks m (xs.take k) u ≠ 0) : Lm.chks m xs u = Lm.chks m (xs.take k) u := by
  have := Lm.chks_append m u (xs.take k) (xs.drop k)
  rw [List.take_append_drop, if_neg h0] at this
  exact this
mutual
def Lm.good (b : Int) : Lm → Prop
  | .mk k i xs => (k = 1 → xs = []) ∧ 0 ≤ i ∧ i ≤ b ∧ Lm.goods b xs
def Lm.goods (b : Int) : List Lm → Prop
  | [] => True
  | t :: ts => t.good b ∧ Lm.goods b ts
end
theorem Lm.good_eq (b : Int) (t : Lm) : t.good b ↔ ((t.kind = 1 → t.subs = []) ∧ 0 ≤ t.idx ∧ t.idx ≤ b ∧ Lm.goods b t.subs) := by cases t; exact Iff.rfl
theorem Lm.goods_mem {b : Int} {xs : List Lm} (h : Lm.goods b xs) : ∀ t ∈ xs, t.good b := by
  induction xs with
  | nil => intro t ht; simp at ht
  | cons x xs ih =>
    intro t ht
    rcases List.mem_cons.1 ht with rfl | ht
    · exact h.1
    · exact ih h.2 t ht
theorem Lm.good_sub {b : Int} {t a : Lm} (h : t.good b) (ha : a ∈ t.subs) : a.good b := Lm.goods_mem ((Lm.good_eq b t).1 h).2.2.2 a ha
mutual
theorem Lm.good_chk {m : Int} (h1 : m ≤ 40) : ∀ (t : Lm) (u b : Int), 0 ≤ u → u + t.size ≤ b → 40 ≤ b → t.chk m u = 0 → t.good b
  | .mk k i xs, u, b, hu, hb, hb4, h => by
    rw [Lm.chk] at h
    rw [Lm.size] at hb
    split at h
    · rename_i hk
      split at h
      · rename_i hi
        refine ⟨fun e => ?_, hi.1, ?_, ?_⟩
        · subst e
          have := hk.2.2
          simp [nSubs] at this
          exact this
        · have := hi.2
          simp only [mostIdx] at this
          split at this
          · omega
          · split at this
            · omega
            · split at this <;> omega
        · have hu2 : under k u ≤ u + 1 ∧ 0 ≤ under k u := by unfold under; split <;> omega
          exact Lm.goods_chk h1 xs (under k u) b hu2.2 (by omega) hb4 h
      · omega
    · omega
theorem Lm.goods_chk {m : Int} (h1 : m ≤ 40) : ∀ (xs : List Lm) (u b : Int), 0 ≤ u → u + Lm.sizes xs ≤ b → 40 ≤ b → Lm.chks m xs u = 0 → Lm.goods b xs
  | [], _, _, _, _, _, _ => trivial
  | t :: ts, u, b, hu, hb, hb4, h => by
    rw [Lm.chks] at h
    rw [Lm.sizes] at hb
    split at h
    · rename_i e
      exact ⟨Lm.good_chk h1 t u b hu (by omega) hb4 e, Lm.goods_chk h1 ts u b hu (by omega) hb4 h⟩
    · rename_i e
      exact absurd h e
end
mutual
def Lm.mv (by_ : Int) : Int → Lm → Lm
  | d, .mk k i xs => .mk k (if k = 1 ∧ d ≤ i then i + by_ else i) (Lm.mvs by_ (under k d) xs)
def Lm.mvs (by_ : Int) : Int → List Lm → List Lm
  | _, [] => []
  | d, t :: ts => Lm.mv by_ d t :: Lm.mvs by_ d ts
end
theorem Lm.mvs_eq (b d : Int) : ∀ xs : List Lm, Lm.mvs b d xs = xs.map (Lm.mv b d)
  | [] => rfl
  | t :: ts => by rw [Lm.mvs, Lm.mvs_eq b d ts]; rfl
theorem Lm.mv_eq (b d : Int) (t : Lm) : Lm.mv b d t = .mk t.kind (if t.kind = 1 ∧ d ≤ t.idx then t.idx + b else t.idx) (t.subs.map (Lm.mv b (under t.kind d))) := by
  cases t
  rw [Lm.mv, Lm.mvs_eq]
  rfl
mutual
theorem Lm.size_mv (b : Int) : ∀ (d : Int) (t : Lm), (Lm.mv b d t).size = t.size
  | d, .mk k i xs => by rw [Lm.mv, Lm.size, Lm.size, Lm.sizes_mv b _ xs]
theorem Lm.sizes_mv (b : Int) : ∀ (d : Int) (xs : List Lm), Lm.sizes (Lm.mvs b d xs) = Lm.sizes xs
  | _, [] => rfl
  | d, t :: ts => by rw [Lm.mvs, Lm.sizes, Lm.sizes, Lm.size_mv b d t, Lm.sizes_mv b d ts]
end
mutual
def Lm.put (x : Lm) : Int → Lm → Lm
  | d, .mk k i xs => if k = 1 then (if i = d then Lm.mv d 0 x else if d < i then .mk 1 (i - 1) [] else .mk 1 i []) else .mk k i (Lm.puts x (under k d) xs)
def Lm.puts (x : Lm) : Int → List Lm → List Lm
  | _, [] => []
  | d, t :: ts => Lm.put x d t :: Lm.puts x d ts
end
theorem Lm.puts_eq (x : Lm) (d : Int) : ∀ xs : List Lm, Lm.puts x d xs = xs.map (Lm.put x d)
  | [] => rfl
  | t :: ts => by rw [Lm.puts, Lm.puts_eq x d ts]; rfl
theorem Lm.put_eq (x : Lm) (d : Int) (t : Lm) : Lm.put x d t = if t.kind = 1 then (if t.idx = d then Lm.mv d 0 x else if d < t.idx then .mk 1 (t.idx - 1) [] else .mk 1 t.idx []) else .mk t.kind t.idx (t.subs.map (Lm.put x (under t.kind d))) := by
  cases t
  rw [Lm.put, Lm.puts_eq]
  rfl
theorem mul_succ_le {a b c : Nat} (h : a ≤ b * c) (hc : 1 ≤ c) : 1 + a ≤ (1 + b) * c := by
  rw [Nat.add_mul, Nat.one_mul]
  omega
mutual
theorem Lm.size_put (x : Lm) : ∀ (d : Int) (t : Lm), (Lm.put x d t).size ≤ t.size * x.size
  | d, .mk k i xs => by
    have hx := Lm.size_pos x
    have h1 : 1 ≤ (1 + Lm.sizes xs) * x.size := by
      rw [Nat.add_mul]; omega
    have h2 : x.size ≤ (1 + Lm.sizes xs) * x.size := by
      rw [Nat.add_mul]; omega
    rw [Lm.put, Lm.size]
    split
    · split
      · rw [Lm.size_mv]; exact h2
      · split
        · simpa only [Lm.size, Lm.sizes, Nat.add_zero] using h1
        · simpa only [Lm.size, Lm.sizes, Nat.add_zero] using h1
    · rw [Lm.size]
      exact mul_succ_le (Lm.sizes_put x _ xs) hx
theorem Lm.sizes_put (x : Lm) : ∀ (d : Int) (xs : List Lm), Lm.sizes (Lm.puts x d xs) ≤ Lm.sizes xs * x.size
  | _, [] => by simp [Lm.puts, Lm.sizes]
  | d, t :: ts => by
    have h1 := Lm.size_put x d t
    have h2 := Lm.sizes_put x d ts
    rw [Lm.puts, Lm.sizes, Lm.sizes, Nat.add_mul]
    omega
end
mutual
def Lm.same : Lm → Lm → Bool
  | .mk k i xs, .mk l j ys => decide (k = l) && decide (i = j) && Lm.sames xs ys
def Lm.sames : List Lm → List Lm → Bool
  | [], [] => true
  | x :: xs, y :: ys => x.same y && Lm.sames xs ys
  | [], _ :: _ => false
  | _ :: _, [] => false
end
def Lm.may (m u : Int) (t : Lm) : Int := if u < 0 ∨ 40 < u then 10 else if 200 < t.size then 3 else t.chk m u
theorem Lm.may_ok {m u : Int} {t : Lm} (h : Lm.may m u t = 0) : 0 ≤ u ∧ u ≤ 40 ∧ t.size ≤ 200 ∧ t.chk m u = 0 := by
  unfold Lm.may at h
  split at h
  · omega
  · split at h
    · omega
    · omega
def Lm.nil : Lm := .mk 0 0 []
mutual
def Lm.pure : Lm → Bool
  | .mk k _ xs => !decide (k = 4) && Lm.pures xs
def Lm.pures : List Lm → Bool
  | [] => true
  | t :: ts => t.pure && Lm.pures ts
end


mutual
def Lm.wf : Lm → Prop
  | .mk k i xs => (1 ≤ k ∧ k ≤ 5 ∧ (xs.length : Int) = nSubs k) ∧ Lm.wfs xs
def Lm.wfs : List Lm → Prop
  | [] => True
  | t :: ts => t.wf ∧ Lm.wfs ts
end
def Lm.top (k : Int) (xs : List Lm) : Option Lm := match xs with
  | f :: x :: _ => if k = 3 ∧ f.kind = 2 then (match f.subs with | b :: _ => some (Lm.put x 0 b) | [] => none) else none
  | _ => none
mutual
def Lm.outer : Lm → Option Lm
  | .mk k i xs => match Lm.top k xs with
    | some y => some y
    | none => match Lm.outers xs with
      | some ys => some (.mk k i ys)
      | none => none
def Lm.outers : List Lm → Option (List Lm)
  | [] => none
  | t :: ts => match t.outer with
    | some x => some (x :: ts)
    | none => match Lm.outers ts with
      | some ys => some (t :: ys)
      | none => none
end
def Lm.run : Nat → Int → Lm → Lm × Int × Int
  | left, n, t => match t.outer with
    | none => (t, n, 0)
    | some x => match left with
      | 0 => (Lm.nil, 0, 9)
      | left + 1 => if 2000 < x.size then (Lm.nil, 0, 8) else Lm.run left (n + 1) x

mutual
def Lm.known (m : Int) : Lm → Prop
  | .mk k i xs => (k = 5 → 0 ≤ i ∧ i < m) ∧ Lm.knowns m xs
def Lm.knowns (m : Int) : List Lm → Prop
  | [] => True
  | t :: ts => t.known m ∧ Lm.knowns m ts
end
mutual
def Lm.fill (ws : List Lm) : Lm → Lm
  | .mk k i xs => if k = 5 then ws.getD i.toNat Lm.nil else .mk k i (Lm.fills ws xs)
def Lm.fills (ws : List Lm) : List Lm → List Lm
  | [] => []
  | t :: ts => Lm.fill ws t :: Lm.fills ws ts
end
def Lm.v (i : Int) : Lm := .mk 1 i []
def Lm.l (t : Lm) : Lm := .mk 2 0 [t]
def Lm.a (f x : Lm) : Lm := .mk 3 0 [f, x]
def Lm.isOne (t : Lm) : Option Lm := match t.subs with
  | f :: x :: _ => if t.kind = 3 ∧ f.same (Lm.v 1) = true then some x else none
  | _ => none
def Lm.chain : Nat → Lm → Int × Lm
  | 0, t => (0, t)
  | n + 1, t => match t.isOne with
    | some x => ((Lm.chain n x).1 + 1, (Lm.chain n x).2)
    | none => (0, t)
def Lm.ch (t : Lm) : Int × Lm := Lm.chain t.size t
def Lm.val (t : Lm) : Int := if t.same (Lm.l (Lm.v 0)) = true then 1 else
  if t.kind = 2 then (match t.subs with
    | g :: _ => if g.kind = 2 then (match g.subs with
      | b :: _ => if b.ch.2.same (Lm.v 0) = true then b.ch.1 else -1
      | [] => -1) else -1
    | [] => -1) else -1

theorem nameOk_cases {s : ByteArray} (h : nameOk s = true) : 1 ≤ s.size ∧ s.size ≤ 8 ∧ lettersTo s s.size = true := by
  unfold nameOk at h
  simp only [Bool.and_eq_true, decide_eq_true_eq] at h
  exact ⟨h.1.1.1, h.1.1.2, h.2⟩

def lxName (p : UInt8) (k : Nat) : ByteArray := ⟨#[p]⟩ ++ decS k
def brk (b : Bool) (s : ByteArray) : ByteArray := if b = true then ⟨#[40]⟩ ++ s ++ ⟨#[41]⟩ else s
inductive LTx (p : UInt8) (o : Nat) : List ByteArray → Lm → ByteArray → Prop
  | v {ns : List ByteArray} {i : Nat} {n : ByteArray} (h : i < ns.length) (hn : ns[ns.length - 1 - i]? = some n) : LTx p o ns (.v i) n
  | c {ns : List ByteArray} {i : Nat} (h : i < 40) : LTx p o ns (.mk 4 i []) (⟨#[99]⟩ ++ decS i)
  | l {ns : List ByteArray} {b : Lm} {s : ByteArray} (ho : o ≤ ns.length) (h : LTx p o (ns ++ [lxName p (ns.length - o)]) b s) : LTx p o ns (.l b) (⟨#[92]⟩ ++ lxName p (ns.length - o) ++ ⟨#[46]⟩ ++ s)
  | a {ns : List ByteArray} {f x : Lm} {s t : ByteArray} (hf : LTx p o ns f s) (hx : LTx p o ns x t) : LTx p o ns (.a f x) (brk (decide (f.kind = 2)) s ++ ⟨#[32]⟩ ++ brk (decide (x.kind = 2 ∨ x.kind = 3)) t)
theorem one_of {α : Type} {l : List α} (h : (l.length : Int) = 1) : ∃ a, l = [a] := by
  match l, h with
  | [a], _ => exact ⟨a, rfl⟩
  | [], h => simp at h
  | _ :: _ :: _, h => simp at h; omega
theorem two_of {α : Type} {l : List α} (h : (l.length : Int) = 2) : ∃ a b, l = [a, b] := by
  match l, h with
  | [a, b], _ => exact ⟨a, b, rfl⟩
  | [], h => simp at h
  | [_], h => simp at h
  | _ :: _ :: _ :: _, h => simp at h; omega
theorem chk_forms {t : Lm} {u : Int} (h : t.chk 0 u = 0) : (∃ i : Nat, (i : Int) < u ∧ t = .v i) ∨ (∃ i : Nat, i < 40 ∧ t = .mk 4 i []) ∨ (∃ b, t = .l b ∧ b.chk 0 (u + 1) = 0) ∨ (∃ f x, t = .a f x ∧ f.chk 0 u = 0 ∧ x.chk 0 u = 0) := by
  obtain ⟨k, i, xs⟩ := t
  rw [Lm.chk] at h
  split at h
  case isFalse => omega
  rename_i hk
  obtain ⟨k1, k2, hl⟩ := hk
  split at h
  case isFalse => omega
  rename_i hi
  obtain ⟨i0, i1⟩ := hi
  obtain ⟨n, rfl⟩ : ∃ n : Nat, i = n := ⟨i.toNat, by omega⟩
  rcases (show k = 1 ∨ k = 2 ∨ k = 3 ∨ k = 4 ∨ k = 5 by omega) with rfl | rfl | rfl | rfl | rfl
  · have : xs = [] := by
      have h0 : (xs.length : Int) = 0 := hl
      exact List.eq_nil_of_length_eq_zero (by omega)
    subst this
    exact .inl ⟨n, by simpa [mostIdx] using i1, rfl⟩
  · obtain ⟨b, rfl⟩ := one_of (show (xs.length : Int) = 1 by simpa [nSubs] using hl)
    have hn0 : n = 0 := by simp [mostIdx] at i1; omega
    subst hn0
    refine .inr (.inr (.inl ⟨b, rfl, ?_⟩))
    have hu : under 2 u = u + 1 := rfl
    simp only [Lm.chks, hu] at h
    by_cases e : Lm.chk 0 b (u + 1) = 0
    · exact e
    · rw [if_neg e] at h
      exact h
  · obtain ⟨f, x, rfl⟩ := two_of (show (xs.length : Int) = 2 by simpa [nSubs] using hl)
    have hn0 : n = 0 := by simp [mostIdx] at i1; omega
    subst hn0
    refine .inr (.inr (.inr ⟨f, x, rfl, ?_⟩))
    have hu : under 3 u = u := rfl
    simp only [Lm.chks, hu] at h
    by_cases e : Lm.chk 0 f u = 0
    · rw [if_pos e] at h
      by_cases e2 : Lm.chk 0 x u = 0
      · exact ⟨e, e2⟩
      · rw [if_neg e2] at h
        exact absurd h e2
    · rw [if_neg e] at h
      exact absurd h e
  · have : xs = [] := by
      have h0 : (xs.length : Int) = 0 := hl
      exact List.eq_nil_of_length_eq_zero (by omega)
    subst this
    exact .inr (.inl ⟨n, by simp [mostIdx] at i1; omega, rfl⟩)
  · simp [mostIdx] at i1
    omega
theorem Lm.size_l (b : Lm) : (Lm.l b).size = 1 + b.size := by simp [Lm.l, Lm.size, Lm.sizes]
theorem Lm.size_a (f x : Lm) : (Lm.a f x).size = 1 + f.size + x.size := by simp [Lm.a, Lm.size, Lm.sizes]; omega
theorem brk_size (b : Bool) (s : ByteArray) : s.size ≤ (brk b s).size ∧ (brk b s).size ≤ s.size + 2 := by
  unfold brk
  split
  · simp only [ByteArray.size_append]
    have h1 : (⟨#[40]⟩ : ByteArray).size = 1 := rfl
    have h2 : (⟨#[41]⟩ : ByteArray).size = 1 := rfl
    omega
  · omega
theorem lxName_size {p : UInt8} {k : Nat} (h : k < 1000000) : (lxName p k).size ≤ 7 := by
  have := decS_size_le h
  unfold lxName
  rw [ByteArray.size_append]
  have h1 : (⟨#[p]⟩ : ByteArray).size = 1 := rfl
  omega
theorem ltx_ex (p : UInt8) (o : Nat) : ∀ (z : Nat) (t : Lm) (ns : List ByteArray), t.size ≤ z → t.chk 0 ns.length = 0 → o ≤ ns.length → ns.length + z ≤ 900000 → (∀ n ∈ ns, n.size ≤ 8) → ∃ s, LTx p o ns t s ∧ s.size ≤ 20 * t.size
  | 0, t, ns, hz, _, _, _, _ => by have := Lm.size_pos t; omega
  | z + 1, t, ns, hz, h, ho, hn, hns => by
    rcases chk_forms h with ⟨i, hi, rfl⟩ | ⟨i, hi, rfl⟩ | ⟨b, rfl, hb⟩ | ⟨f, x, rfl, hf, hx⟩
    · have hi' : i < ns.length := by omega
      have hlt : ns.length - 1 - i < ns.length := by omega
      refine ⟨ns[ns.length - 1 - i], .v hi' (List.getElem?_eq_getElem hlt), ?_⟩
      have := hns _ (List.getElem_mem hlt)
      have := Lm.size_pos (.v i)
      omega
    · refine ⟨_, .c hi, ?_⟩
      have := decS_size_le (n := i) (by omega)
      have := Lm.size_pos (.mk 4 i [])
      rw [ByteArray.size_append]
      have h1 : (⟨#[99]⟩ : ByteArray).size = 1 := rfl
      omega
    · rw [Lm.size_l] at hz
      have hx := lxName_size (p := p) (k := ns.length - o) (by omega)
      obtain ⟨s, hs, hl⟩ := ltx_ex p o z b (ns ++ [lxName p (ns.length - o)]) (by omega) (by rw [List.length_append]; simpa using hb) (by simp; omega) (by simp; omega) fun n hn => by
        rcases List.mem_append.1 hn with hn | hn
        · exact hns n hn
        · rw [List.mem_singleton.1 hn]
          omega
      refine ⟨_, .l ho hs, ?_⟩
      rw [Lm.size_l]
      simp only [ByteArray.size_append]
      have h1 : (⟨#[92]⟩ : ByteArray).size = 1 := rfl
      have h2 : (⟨#[46]⟩ : ByteArray).size = 1 := rfl
      omega
    · rw [Lm.size_a] at hz
      obtain ⟨s, hs, hl⟩ := ltx_ex p o z f ns (by omega) hf ho (by omega) hns
      obtain ⟨r, hr, hk⟩ := ltx_ex p o z x ns (by omega) hx ho (by omega) hns
      refine ⟨_, .a hs hr, ?_⟩
      rw [Lm.size_a]
      simp only [ByteArray.size_append]
      have h1 := (brk_size (decide (f.kind = 2)) s).2
      have h2 := (brk_size (decide (x.kind = 2 ∨ x.kind = 3)) r).2
      have h3 : (⟨#[32]⟩ : ByteArray).size = 1 := rfl
      have := Lm.size_pos f
      omega

theorem finS_two {C : Ctx} {rs : List RV} {r : AV} {e : AX} {s : AS} {S : AStore} {a0 b0 : Nat} {b c : ABlk} (r0 : AV) (hS : Clean S) (ha : 1000 ≤ a0) (hb0 : 1000 ≤ b0) (hne : b0 ≠ a0) (hb : b.high = true) (hc : c.high = true) (he : match e with | .normal => True | .ret => True | _ => False)
    (h1 : (resAll s rs).map tupV = some r0) (h2 : outV s.S r0 = some r) (h3 : s.S a0 = some b) (h3' : s.S b0 = some c) (h4 : ∀ i, 1000 ≤ i → i ≠ a0 → i ≠ b0 → s.S i = S i) : FinS C rs r (updE (updE S a0 (some b)) b0 (some c)) e s :=
  finS_low he r0 h1 h2 (fun i x hi hx => by
    by_cases e1 : i = a0
    · subst e1; rw [h3] at hx; cases hx; exact hb
    · by_cases e2 : i = b0
      · subst e2; rw [h3'] at hx; cases hx; exact hc
      · rw [h4 i hi e1 e2] at hx; exact (hS i x hx).2) (by
    funext i
    show (if i < 1000 then none else s.S i) = _
    by_cases e2 : i = b0
    · subst e2
      rw [updE_same, if_neg (by omega), h3']
    · rw [updE_ne _ e2]
      by_cases e1 : i = a0
      · subst e1
        rw [updE_same, if_neg (by omega), h3]
      · rw [updE_ne _ e1]
        by_cases hi : i < 1000
        · rw [if_pos hi, clean_none hS hi]
        · rw [if_neg hi, h4 i (by omega) e1 e2]) (clean_upd (clean_upd hS ha hb) hb0 hc)

end Go.Proofs.YtfiegbokcabhhaaDoor
