/-
  Part 4 of the texts: AbsH. Conditions: none.
-/
import Derived.Test.YtohgkbgpcnmdpaaNon3
namespace Go.Proofs.Ytohgkbgpcnmdpaa
open Go Go.RowKit
set_option linter.unusedVariables false
set_option maxHeartbeats 400000
section
variable {P : Program} {C : Ctx} {o : Oper} {a : Act} {w : World} {K : AV → AS → Prop} {σ : Sto} {ι : AHnd} {s : AS} {d : Nat} {S : AStore}
theorem Refs.src (R : Refs C σ ι s a w) {v : Value} {cy : AC} {ys : List (List SV)} {wd : Nat} (hv : ARep σ s.S ι v cy) (h : listOf s.S cy = some ys) (hw : ∀ y ∈ ys, y.length = wd) (hpos : 0 < wd) :
    ∃ p cap news, v = .slice p ys.length cap ∧ news.length = ys.length * wd ∧ Laid σ news wd ys ∧ (∀ u ∈ news, u.oneCell' = true) ∧ (ys ≠ [] → ∃ b o, p = some ⟨b, o, none⟩ ∧ ∀ j u, news[j]? = some u → w.cell? ⟨b, o + j, none⟩ = some u) := by
  have stay : SRep σ v (.list ys) → ∃ p cap news, v = .slice p ys.length cap ∧ news.length = ys.length * wd ∧ Laid σ news wd ys ∧ (∀ u ∈ news, u.oneCell' = true) ∧ (ys ≠ [] → ∃ b o, p = some ⟨b, o, none⟩ ∧ ∀ j u, news[j]? = some u → w.cell? ⟨b, o + j, none⟩ = some u) := fun hr => by
    obtain ⟨p, cap, vs, h1, h2, h3, h4, h5, h6, h7, b, o, h8, h9⟩ := srep_laid hr hw hpos
    exact ⟨p, cap, vs, h1, h5, h6, h7, fun hne => ⟨b, o, h8 hne, fun j u hu => R.fit _ _ (h9 j u hu)⟩⟩
  unfold listOf at h
  split at h
  · cases h; exact stay (arep_st hv)
  · cases h; exact stay (arep_full hv)
  · rename_i id n
    split at h
    · rename_i e wd' xs hS
      split at h
      · rename_i hn
        cases h
        exact stay (R.row_srep hv hS hn)
      · cases h
    · rename_i e wd' xs hS
      split at h
      · rename_i hn
        cases h
        obtain ⟨b, k1, k2, k3⟩ := arep_row hv
        rw [hS] at k1
        cases k1
        have hv' := k3 hn
        have hb := R.blk _ _ hS
        cases hb with
        | mnil m1 m2 => exact ⟨(ι id).p, (ι id).cap, [], by rw [hv', hn], by simp, Laid.nil, by simp, fun h => absurd rfl h⟩
        | @mrow _ _ _ g vs m1 m2 m3 m4 m5 m6 m7 m8 m9 =>
          by_cases h0 : ys = []
          · subst h0
            exact ⟨(ι id).p, (ι id).cap, [], by rw [hv', hn], by simp, Laid.nil, by simp, fun h => absurd rfl h⟩
          · have hwd : wd' = wd := by
              obtain ⟨y, hy⟩ := List.exists_mem_of_ne_nil _ h0
              exact (m7 y hy).symm.trans (hw y hy)
            subst hwd
            have hcap : ys.length * wd' ≤ (ι id).cap * wd' := Nat.mul_le_mul_right _ m4
            refine ⟨(ι id).p, (ι id).cap, vs.toList.take (ys.length * wd'), by rw [hv', hn], by simp; omega, ⟨m7, fun k x j y hx hy => ?_⟩, fun u hu => ?_, fun _ => ⟨g, 0, m2, fun j u hu => ?_⟩⟩
            · obtain ⟨v, v1, v2⟩ := m8 k x j y hx hy
              have hk := (List.getElem?_eq_some_iff.1 hx).1
              have hj : j < wd' := by
                rw [← m7 x (List.mem_of_getElem? hx)]
                exact (List.getElem?_eq_some_iff.1 hy).1
              have hlt : k * wd' + j < ys.length * wd' := by
                have : (k + 1) * wd' ≤ ys.length * wd' := Nat.mul_le_mul_right _ hk
                rw [Nat.add_mul] at this
                omega
              exact ⟨v, by rw [List.getElem?_take, if_pos hlt]; simpa using v1, v2⟩
            · obtain ⟨i, hi, rfl⟩ := List.getElem_of_mem hu
              have hi' : i < ys.length * wd' := by simp at hi; omega
              have hk : i / wd' < ys.length := by rw [Nat.div_lt_iff_lt_mul hpos]; exact hi'
              have hl : ys[i / wd'].length = wd' := m7 _ (List.getElem_mem hk)
              have hj : i % wd' < ys[i / wd'].length := by rw [hl]; exact Nat.mod_lt _ hpos
              obtain ⟨v, v1, v2⟩ := m8 (i / wd') _ (i % wd') _ (List.getElem?_eq_getElem hk) (List.getElem?_eq_getElem hj)
              rw [Nat.mul_comm, Nat.div_add_mod] at v1
              have e : (vs.toList.take (ys.length * wd'))[i]? = some v := by rw [List.getElem?_take, if_pos hi']; simpa using v1
              rw [List.getElem?_eq_getElem hi] at e
              cases e
              exact v2.one
            · rw [List.getElem?_take] at hu
              split at hu
              · rw [Nat.zero_add, cell_of_row w g _ _ _ _ m3]
                simpa using hu
              · cases hu
      · cases h
    · cases h
  · cases h
theorem run_grown {t ty e : TypeId} {i : TypeInfo} {z : Value} (ht : P.underlying t = some (.slice e)) (hi : P.info? e = some i) (hz : i.zero = some z) (hzs : z.cells.size = i.size) {p : Option Addr} {n cap : Nat} {olds : List Value} (hlo : olds.length = n * i.size) (hpn : p = none → cap = 0) (hnc : n ≤ cap)
    (hold : n ≠ 0 → ∃ b o, p = some ⟨b, o, none⟩ ∧ ∀ j u, olds[j]? = some u → w.cell? ⟨b, o + j, none⟩ = some u) {q : Option Addr} {m c : Nat} {news : List Value} (hl : news.length = m * i.size) (hm : 0 < m) (hq : ∃ b o, q = some ⟨b, o, none⟩ ∧ ∀ j u, news[j]? = some u → w.cell? ⟨b, o + j, none⟩ = some u)
    (hg : cap < n + m) (h63 : n + m ≤ maxLen) (hbytes : (n + m) * i.bytes ≤ 140737488355328) :
    ∃ (c' : Nat) (rest : Array Value), (Builtin.append_ #[t, t] ty #[.slice p n cap, .slice q m c]).run P w = .ok (.slice (some ⟨w.heap.size, 0, none⟩) (n + m) c') (w.drew.alloc (.cells (olds.toArray ++ news.toArray ++ rest) e)) ∧ n + m ≤ c' ∧ c' ≤ maxLen ∧ rest.size = (c' - (n + m)) * i.size := by
  have hsmall : n + m ≤ 9223372036854775807 := by simp only [maxLen] at h63; omega
  obtain ⟨b', o', rfl, hq⟩ := hq
  refine ⟨grownCap w (n + m) cap e, Builtin.zeroCells z.cells (grownCap w (n + m) cap e - (n + m)), ?_, grownCap_ge _ _ _ _, grownCap_le_maxLen _ _ _ _ h63, by rw [size_zeroCells, hzs]⟩
  cases p with
  | none =>
    have hc := hpn rfl
    subst hc
    obtain rfl : n = 0 := by omega
    have ho : olds = [] := List.eq_nil_of_length_eq_zero (by simpa using hlo)
    subst ho
    have hr := run_append_nil (P := P) w t ty e i z ht hi hz ⟨b', o', none⟩ m c news hl (fun j u hu => by rw [addr_add]; exact hq j u hu) hm (by omega) (by simp only [Nat.zero_add] at hbytes; omega)
    rw [hr]
    simp
  | some ad =>
    have hr := run_append_grow (P := P) w t ty e i z ht hi hz ad n cap olds hlo (fun j u hu => by
      by_cases h0 : n = 0
      · subst h0
        have ho : olds = [] := List.eq_nil_of_length_eq_zero (by simpa using hlo)
        subst ho
        simp at hu
      · obtain ⟨b, o, hb, hc⟩ := hold h0
        cases hb
        rw [addr_add]
        exact hc j u hu) ⟨b', o', none⟩ m c news hl (fun j u hu => by rw [addr_add]; exact hq j u hu) hg (by omega) (growslice_fits hg hbytes)
    exact hr
theorem run_append_zero {t ty e : TypeId} {i : TypeInfo} (ht : P.underlying t = some (.slice e)) (hi : P.info? e = some i) {p : Option Addr} {n cap : Nat} (hnc : n ≤ cap) (q : Option Addr) (c : Nat) :
    (Builtin.append_ #[t, t] ty #[.slice p n cap, .slice q 0 c]).run P w = .ok (.slice p n cap) w := by
  cases q <;> cases p <;> simp [Builtin.append_, run_underlying ht, sizeOf, typeInfo, hi, Builtin.lenOf, Builtin.firstCells, hnc, loadCells, loadCellsFrom, storeCells]
theorem laid_rep {vs : List Value} {wd : Nat} {xs : List (List SV)} (h : Laid σ vs wd xs) {A : Array Value} (hA : ∀ (j : Nat) (v : Value), vs[j]? = some v → A[j]? = some v) : ∀ k x j y, xs[k]? = some x → x[j]? = some y → ∃ v, A[k * wd + j]? = some v ∧ SRep σ v y := fun k x j y hx hy => by
  obtain ⟨v, v1, v2⟩ := h.2 k x j y hx hy
  exact ⟨v, hA _ _ v1, v2⟩
theorem brep_arow {S' : AStore} {ι' : AHnd} {w' : World} {g cap wd : Nat} {e : TypeId} {vs : Array Value} {xs : List (List SV)} {p : Option Addr} (hp : p = some ⟨g, 0, none⟩) (hw : w'.heap[g]? = some (.cells vs e (0, 0))) (hn : xs.length ≤ cap) (hc : cap ≤ maxLen) (hsz : vs.size = cap * wd) {σ1 : Sto}
    (hl : Laid σ1 vs.toList wd xs) (hs : ∀ p x, σ1 p = some x → layS σ w' g (xs.length * wd) p = some x) (hfree : ∀ p : Addr, p.block = g → σ p ≠ none → p.off < xs.length * wd) : BRep (layS σ w' g (xs.length * wd)) S' ι' w' ⟨p, cap, some g⟩ (.arow e wd xs) := by
  refine .arow rfl hp hw hn hc hsz hl.1 (fun k x j y hx hy => ?_) (fun p hp hne => ?_) (fun _ q2 q3 => by rw [layS_hard (Nat.mul_pos (List.length_pos_iff.2 q3) (by omega)), look_hard hw])
  · obtain ⟨v, v1, v2⟩ := hl.2 k x j y hx hy
    have hk := (List.getElem?_eq_some_iff.1 hx).1
    have hj : j < wd := by
      rw [← hl.1 x (List.mem_of_getElem? hx)]
      exact (List.getElem?_eq_some_iff.1 hy).1
    have hlt : k * wd + j < xs.length * wd := by
      have : (k + 1) * wd ≤ xs.length * wd := Nat.mul_le_mul_right _ hk
      rw [Nat.add_mul] at this
      omega
    refine ⟨v, by simpa using v1, v2.mono hs, ?_⟩
    rw [layS_in hlt, cell_of_row w' g _ _ _ _ hw]
    simpa using v1
  · unfold layS at hne
    split at hne
    · rename_i h; exact h.2.2
    · exact hfree p hp hne
theorem snd_append {t e : TypeId} {i : TypeInfo} {z : Value} {x y : Operand} {x' y' : Opd} {mu : Bool} (ho : o.op = .call { callee := .builtin .append, args := #[x, y], argTypes := #[t, t] }) (hx : trOpd C.n x = some x') (hy : trOpd C.n y = some y')
    (ht : P.underlying t = some (.slice e)) (hi : P.info? e = some i) (hz : i.zero = some z) (hzs : z.cells.size = i.size) (hpos : 0 < i.size) (R : Refs C σ ι s a w) (h : Kd.go P d s K (.append mu e i.size i.bytes x' y')) : Good P C o a w K := by
  have rx := R.ev hx
  have ry := R.ev hy
  have hex : ∀ v w', (Builtin.append_ #[t, t] o.type #[a.eval x, a.eval y]).run P w = .ok v w' → (execOp a.eval o).run P w = .ok (.value v) w' := fun v w' hr => by
    simp only [execOp, ho, resolve, invoke, builtin, Sem.run_bind, Sem.run_pure, Result.andThen_ok, List.map_toArray, List.map_cons, List.map_nil, hr]
  simp only [Kd.go] at h
  split at h
  · rename_i cx cy e1 e2
    rw [e1] at rx
    rw [e2] at ry
    replace rx := vrep_one rx
    replace ry := vrep_one ry
    split at h
    · rename_i ys hys
      obtain ⟨hyw, h⟩ := h
      obtain ⟨q, c, news, hvy, hnl, hnlaid, hn1, hncell⟩ := R.src ry hys hyw hpos
      have fresh : ∀ (p : Option Addr) (xs : List (List SV)) (cap : Nat) (olds : List Value), a.eval x = .slice p xs.length cap → olds.length = xs.length * i.size → (p = none → cap = 0) → xs.length ≤ cap → (xs.length ≠ 0 → ∃ b o, p = some ⟨b, o, none⟩ ∧ ∀ j u, olds[j]? = some u → w.cell? ⟨b, o + j, none⟩ = some u) → Laid σ olds i.size xs → ys ≠ [] → cap < xs.length + ys.length →
          xs.length + ys.length ≤ maxLen → (xs.length + ys.length) * i.bytes ≤ 140737488355328 →
          ∃ c' A, (execOp a.eval o).run P w = .ok (.value (.slice (some ⟨w.heap.size, 0, none⟩) (xs ++ ys).length c')) (w.drew.alloc (.cells A e)) ∧ (xs ++ ys).length ≤ c' ∧ c' ≤ maxLen ∧ A.size = c' * i.size ∧ Laid σ A.toList i.size (xs ++ ys) :=
        fun p xs cap olds hv hol hpn hnc hold hlaid hne hg h63 hby => by
          have hm : 0 < ys.length := List.length_pos_iff.2 hne
          obtain ⟨b, oo, hq, hq2⟩ := hncell hne
          obtain ⟨c', rest, r1, r2, r3, r4⟩ := run_grown (P := P) (ty := o.type) (w := w) ht hi hz hzs hol hpn hnc hold (q := q) (m := ys.length) (c := c) hnl hm ⟨b, oo, hq, hq2⟩ hg h63 hby
          refine ⟨c', _, hex _ _ (by rw [hv, hvy, r1, List.length_append]), by simpa using r2, r3, ?_, ?_⟩
          · simp only [Array.size_append, List.size_toArray, hol, hnl, r4, ← Nat.add_mul]
            congr 1
            omega
          · have := (hlaid.append hnlaid hol).more rest.toList
            simpa using this
      split at h
      · -- nothing owned yet
        rename_i xs
        obtain ⟨hid, hnil, hxw, h63, hby, hK⟩ := h
        have hr := arep_full rx
        obtain ⟨p, cap, olds, k1, k2, k3, k4, k5, k6, k7, b, oo, k8, k9⟩ := srep_laid hr hxw hpos
        have hcap : cap = xs.length := by
          generalize a.eval x = v at rx k1
          subst k1
          cases rx with | full _ => rfl
        by_cases hne : ys = []
        · subst hne
          subst hcap
          have hrun := hex _ _ (by rw [k1, hvy]; exact run_append_zero (P := P) (w := w) (ty := o.type) ht hi (p := p) (n := xs.length) (cap := xs.length) (Nat.le_refl _) q c)
          cases mu with
          | true =>
            have hxs := hnil rfl rfl
            subst hxs
            simp only [if_true] at hK
            obtain ⟨hu, R'⟩ := R.fresh (w' := w) hid (.mrow e i.size ([] ++ [])) ⟨p, 0, none⟩ (Ext.refl _ _) R.fit (Below.refl _ _) (by simp) (fun S' ι' hu => .mnil rfl rfl)
            exact ⟨_, _, _, σ, _, w, .inl hrun, hK, R', .one (.row (b := .mrow e i.size ([] ++ [])) (by simp [AS.set, updE_same]) (Nat.le_refl _) rfl fun _ => by simp [updE_same])⟩
          | false =>
            simp only [Bool.false_eq_true, if_false, List.append_nil] at hK
            rw [k1] at hr
            obtain ⟨hu, R'⟩ := R.fresh (w' := w) hid (.arow e i.size xs) ⟨p, xs.length, none⟩ (Ext.refl _ _) R.fit (Below.refl _ _) (by simp) (fun S' ι' hu => .afull rfl rfl hxw hr)
            exact ⟨_, _, _, σ, _, w, .inl hrun, hK, R', .one (.row (b := .arow e i.size xs) (by simp [AS.set, updE_same]) (Nat.le_refl _) rfl fun _ => by simp [updE_same])⟩
        · have hm : 0 < ys.length := List.length_pos_iff.2 hne
          obtain ⟨c', A, r1, r2, r3, r4, r5⟩ := fresh p xs cap olds k1 k5 k4 k2 (fun h0 => ⟨b, oo, k8 (by intro e; subst e; simp at h0), fun j u hu => R.fit _ _ (k9 j u hu)⟩) k6 hne (by omega) h63 hby
          have hheap : (w.drew.alloc (.cells A e)).heap[w.heap.size]? = some (.cells A e (0, 0)) := heap_alloc_new w.drew _
          have hmore : More w (w.drew.alloc (.cells A e)) := (Below.refl _ _).drew.alloc (Nat.le_refl _) _
          cases mu with
          | true =>
            simp only [if_true] at hK
            obtain ⟨hu, R'⟩ := R.fresh (w' := w.drew.alloc (.cells A e)) hid (.mrow e i.size (xs ++ ys)) ⟨some ⟨w.heap.size, 0, none⟩, c', some w.heap.size⟩ (Ext.refl _ _) (R.fit.below hmore) hmore (by simp) (fun S' ι' hu => .mrow rfl rfl hheap r2 r3 r4 r5.1 (laid_rep r5 fun j v hv => by simpa using hv) (fun p hp => R.fit.no (by omega)))
            exact ⟨_, _, _, σ, _, _, .inl r1, hK, R', .one (.row (b := .mrow e i.size (xs ++ ys)) (by simp [AS.set, updE_same]) (Nat.le_refl _) rfl fun _ => by simp [updE_same])⟩
          | false =>
            simp only [Bool.false_eq_true, if_false] at hK
            obtain ⟨hu, R'⟩ := R.fresh (w' := w.drew.alloc (.cells A e)) hid (.arow e i.size (xs ++ ys)) ⟨some ⟨w.heap.size, 0, none⟩, c', some w.heap.size⟩ (Ext.lay (k := (xs ++ ys).length * i.size) R.fit (Nat.le_refl _)) (layS_fit (R.fit.below hmore)) hmore (by simp)
              (fun S' ι' hu => brep_arow rfl hheap r2 r3 r4 r5 (Ext.lay R.fit (Nat.le_refl _)).keep (fun p hp hne => absurd (R.fit.no (by omega)) hne))
            exact ⟨_, _, _, _, _, _, .inl r1, hK, R', .one (.row (b := .arow e i.size (xs ++ ys)) (by simp [AS.set, updE_same]) (Nat.le_refl _) rfl fun _ => by simp [updE_same])⟩
      · rename_i id m
        obtain ⟨b, hb1, hb2, hb3⟩ := arep_row rx
        split at h
        · -- a row that only grows
          rename_i e' wd' xs hS
          obtain ⟨⟨rfl, rfl, rfl⟩, h63, hby, hK⟩ := h
          rw [hS] at hb1
          cases hb1
          have hv := hb3 rfl
          have hb := R.blk _ _ hS
          by_cases hne : ys = []
          · subst hne
            have hnc : xs.length ≤ (ι id).cap := by cases hb <;> first | exact Nat.zero_le _ | assumption | omega
            have hrun := hex _ _ (by rw [hv, hvy]; exact run_append_zero (P := P) (w := w) (ty := o.type) ht hi (p := (ι id).p) hnc q c)
            have hset : s.set id (.arow e' i.size (xs ++ [])) = s := by
              rw [List.append_nil]
              obtain ⟨env, S⟩ := s
              simp only [AS.set, AS.mk.injEq, true_and]
              funext k
              unfold updE
              split
              · rename_i hk; subst hk; exact hS.symm
              · rfl
            rw [hset] at hK
            refine ⟨_, _, s, σ, ι, w, .inl hrun, hK, R, ?_⟩
            rw [List.append_nil]
            exact .one (.row hS (Nat.le_refl _) rfl fun _ => rfl)
          · have hm : 0 < ys.length := List.length_pos_iff.2 hne
            have grow : ∀ (olds : List Value), olds.length = xs.length * i.size → ((ι id).p = none → (ι id).cap = 0) → xs.length ≤ (ι id).cap → (xs.length ≠ 0 → ∃ b o, (ι id).p = some ⟨b, o, none⟩ ∧ ∀ j u, olds[j]? = some u → w.cell? ⟨b, o + j, none⟩ = some u) → Laid σ olds i.size xs → (ι id).cap < xs.length + ys.length → Good P C o a w K := fun olds ho1 ho2 ho3 ho4 ho5 ho6 => by
              obtain ⟨c', A, r1, r2, r3, r4, r5⟩ := fresh _ xs _ olds hv ho1 ho2 ho3 ho4 ho5 hne ho6 h63 hby
              have hheap : (w.drew.alloc (.cells A e')).heap[w.heap.size]? = some (.cells A e' (0, 0)) := heap_alloc_new w.drew _
              have hmore : More w (w.drew.alloc (.cells A e')) := (Below.refl _ _).drew.alloc (Nat.le_refl _) _
              obtain ⟨hu, R'⟩ := R.turn (w' := w.drew.alloc (.cells A e')) hS (.arow e' i.size (xs ++ ys)) ⟨some ⟨w.heap.size, 0, none⟩, c', some w.heap.size⟩ (σ' := layS σ (w.drew.alloc (.cells A e')) w.heap.size ((xs ++ ys).length * i.size)) (Ext.lay R.fit (Nat.le_refl _)).keep
                (fun p hp hlt => layS_out (by omega)) (layS_fit (R.fit.below hmore)) (by simp [ABlk.len]) (fun he => absurd (by simpa [ABlk.len] using he) hne) ⟨rfl, rfl, rfl⟩ hmore.size (fun g hg _ => hmore.block g hg) (fun g hg => .inr (by simp at hg; omega))
                (fun hu => brep_arow rfl hheap r2 r3 r4 r5 (Ext.lay R.fit (Nat.le_refl _)).keep (fun p hp hne => absurd (R.fit.no (by omega)) hne))
              exact ⟨_, _, _, _, _, _, .inl r1, hK, R', .one (.row (b := .arow e' i.size (xs ++ ys)) (by simp [AS.set, updE_same]) (Nat.le_refl _) rfl fun _ => by simp [updE_same])⟩
            cases hb with
            | afull k1 k2 k3 k4 =>
              obtain ⟨p, cap, olds, j1, j2, j3, j4, j5, j6, j7, b, oo, j8, j9⟩ := srep_laid k4 k3 hpos
              simp only [Value.slice.injEq] at j1
              obtain ⟨rfl, -, rfl⟩ := j1
              exact grow olds j5 j4 j2 (fun h0 => ⟨b, oo, j8 (by intro e; subst e; simp at h0), fun j u hu => R.fit _ _ (j9 j u hu)⟩) j6 (by omega)
            | @arow _ _ _ g vs k1 k2 k3 k4 k5 k6 k7 k8 k9 kh =>
              have hlaid : Laid σ (vs.toList.take (xs.length * i.size)) i.size xs := ⟨k7, fun k x j y hx hy => by
                obtain ⟨v, v1, v2, v3⟩ := k8 k x j y hx hy
                have hlt := k9 _ rfl (by rw [v3]; simp)
                exact ⟨v, by rw [List.getElem?_take, if_pos hlt]; simpa using v1, v2⟩⟩
              have hcapw : xs.length * i.size ≤ (ι id).cap * i.size := Nat.mul_le_mul_right _ k4
              have htl : (vs.toList.take (xs.length * i.size)).length = xs.length * i.size := by simp; omega
              by_cases hroom : xs.length + ys.length ≤ (ι id).cap
              · have hcapw2 : (xs.length + ys.length) * i.size ≤ (ι id).cap * i.size := Nat.mul_le_mul_right _ hroom
                rw [Nat.add_mul] at hcapw2
                obtain ⟨bq, oq, hq, hq2⟩ := hncell hne
                have hr := run_append_room (P := P) w t o.type e' i ht hi g xs.length (ι id).cap vs k3 ⟨bq, oq, none⟩ ys.length c news hnl (fun j u hu => by rw [addr_add]; exact hq2 j u hu) hn1 hroom (by omega)
                have hrun := hex _ _ (by rw [hv, hvy, k2, hq]; exact hr)
                generalize hA : (vs.toList.take (xs.length * i.size) ++ news ++ vs.toList.drop (xs.length * i.size + news.length)).toArray = A at hrun
                have hAl : A.toList = vs.toList.take (xs.length * i.size) ++ news ++ vs.toList.drop (xs.length * i.size + news.length) := by rw [← hA]
                have hAs : A.size = (ι id).cap * i.size := by
                  rw [← hA]
                  simp only [List.size_toArray, List.length_append, htl, List.length_drop, Array.length_toList]
                  omega
                have hheap : (w.setRow g A).heap[g]? = some (.cells A e' (0, 0)) := setRow_heap w _ _ _ _ _ k3
                have hl : Laid σ A.toList i.size (xs ++ ys) := by
                  rw [hAl]
                  exact (hlaid.append hnlaid htl).more _
                have hkeepc : ∀ j u, σ ⟨g, j, none⟩ = some u → (w.setRow g A).cell? ⟨g, j, none⟩ = some u := fun j u hu => by
                  have hlt := k9 ⟨g, j, none⟩ rfl (by rw [hu]; simp)
                  have h1 := R.fit _ _ hu
                  rw [look_none rfl] at h1
                  rw [cell_of_row w g _ _ _ _ k3] at h1
                  rw [cell_of_row _ g _ _ _ _ hheap]
                  have : A.toList[j]? = some u := by
                    rw [hAl, List.append_assoc, List.getElem?_append_left (by rw [htl]; exact hlt), List.getElem?_take, if_pos hlt]
                    simpa using h1
                  simpa using this
                have hkeepg : ∀ (p : Addr) (u : Value), p.block = g → σ p = some u → look (w.setRow g A) p = some u := fun p u hb hp => by
                  obtain ⟨pb, po, ps⟩ := p
                  have hb' : pb = g := hb
                  clear hb
                  rw [hb'] at hp ⊢
                  match ps, hp with
                  | none, hp => rw [look_none rfl]; exact hkeepc _ _ hp
                  | some 0, hp =>
                    exfalso
                    have h1 := R.fit _ _ hp
                    have h2 := k9 ⟨g, po, some 0⟩ rfl (by rw [hp]; simp)
                    unfold look at h1
                    simp only [k3] at h1
                    split at h1
                    · have h3 : xs.length * i.size ≤ (ι id).cap * i.size := Nat.mul_le_mul_right _ (by assumption)
                      have h4 : vs.size = (ι id).cap * i.size := by assumption
                      simp only at h2
                      omega
                    · cases h1
                  | some (n + 1), hp =>
                    obtain ⟨_, _, _, rfl⟩ := look_hardIs (R.fit _ _ hp)
                    exact look_hard hheap
                have hfit0 : Fit σ (w.setRow g A) := fun p u hp => by
                  by_cases hb : p.block = g
                  · exact hkeepg p u hb hp
                  · exact (look_of_block (setRow_other _ _ _ _ hb)).trans (R.fit _ _ hp)
                have hkeep := layS_keep (w' := w.setRow g A) (g := g) (k := (xs ++ ys).length * i.size) hkeepg
                obtain ⟨hu, R'⟩ := R.turn (w' := w.setRow g A) hS (.arow e' i.size (xs ++ ys)) ⟨(ι id).p, (ι id).cap, some g⟩ (σ' := layS σ (w.setRow g A) g ((xs ++ ys).length * i.size)) hkeep
                  (fun p hp _ => layS_out (fun e => hp (by rw [e]; exact k1))) (layS_fit hfit0) (by simp [ABlk.len]) (fun he => absurd (by simpa [ABlk.len] using he) hne) (setRow_frame _ _) (by simp) (fun k hk hne => setRow_other _ _ _ _ (fun e => hne (by rw [e]; exact k1))) (fun g' hg' => .inl (by simp at hg'; subst hg'; exact k1))
                  (fun hu => brep_arow k2 hheap (by simpa using hroom) k5 hAs hl hkeep (fun p hp hne => by have := k9 p hp hne; simp [Nat.add_mul]; omega))
                exact ⟨_, _, _, _, _, _, .inl hrun, hK, R', .one (.row (b := .arow e' i.size (xs ++ ys)) (by simp [AS.set, updE_same]) (Nat.le_refl _) rfl fun _ => by simp [updE_same, k2])⟩
              · exact grow _ htl (by rw [k2]; simp) k4 (fun _ => ⟨g, 0, k2, fun j u hu => by
                  rw [List.getElem?_take] at hu
                  split at hu
                  · rw [Nat.zero_add, cell_of_row w g _ _ _ _ k3]
                    simpa using hu
                  · cases hu⟩) hlaid (by omega)
        · -- a row that is written
          rename_i e' wd' xs hS
          obtain ⟨⟨rfl, rfl, rfl⟩, h63, hby, hK⟩ := h
          rw [hS] at hb1
          cases hb1
          have hv := hb3 rfl
          have hb := R.blk _ _ hS
          by_cases hne : ys = []
          · subst hne
            have hnc : xs.length ≤ (ι id).cap := by cases hb <;> first | exact Nat.zero_le _ | assumption | omega
            have hrun := hex _ _ (by rw [hv, hvy]; exact run_append_zero (P := P) (w := w) (ty := o.type) ht hi (p := (ι id).p) hnc q c)
            have hset : s.set id (.mrow e' i.size (xs ++ [])) = s := by
              rw [List.append_nil]
              obtain ⟨env, S⟩ := s
              simp only [AS.set, AS.mk.injEq, true_and]
              funext k
              unfold updE
              split
              · rename_i hk; subst hk; exact hS.symm
              · rfl
            rw [hset] at hK
            refine ⟨_, _, s, σ, ι, w, .inl hrun, hK, R, ?_⟩
            rw [List.append_nil]
            exact .one (.row hS (Nat.le_refl _) rfl fun _ => rfl)
          · have hm : 0 < ys.length := List.length_pos_iff.2 hne
            have grow : ∀ (olds : List Value), olds.length = xs.length * i.size → ((ι id).p = none → (ι id).cap = 0) → xs.length ≤ (ι id).cap → (xs.length ≠ 0 → ∃ b o, (ι id).p = some ⟨b, o, none⟩ ∧ ∀ j u, olds[j]? = some u → w.cell? ⟨b, o + j, none⟩ = some u) → Laid σ olds i.size xs → (ι id).cap < xs.length + ys.length → Good P C o a w K := fun olds ho1 ho2 ho3 ho4 ho5 ho6 => by
              obtain ⟨c', A, r1, r2, r3, r4, r5⟩ := fresh _ xs _ olds hv ho1 ho2 ho3 ho4 ho5 hne ho6 h63 hby
              have hheap : (w.drew.alloc (.cells A e')).heap[w.heap.size]? = some (.cells A e' (0, 0)) := heap_alloc_new w.drew _
              have hmore : More w (w.drew.alloc (.cells A e')) := (Below.refl _ _).drew.alloc (Nat.le_refl _) _
              obtain ⟨hu, R'⟩ := R.turn (w' := w.drew.alloc (.cells A e')) hS (.mrow e' i.size (xs ++ ys)) ⟨some ⟨w.heap.size, 0, none⟩, c', some w.heap.size⟩ (σ' := σ) (fun _ _ h => h)
                (fun _ _ _ => rfl) (R.fit.below hmore) (by simp [ABlk.len]) (fun he => absurd (by simpa [ABlk.len] using he) hne) ⟨rfl, rfl, rfl⟩ hmore.size (fun g hg _ => hmore.block g hg) (fun g hg => .inr (by simp at hg; omega))
                (fun hu => .mrow rfl rfl hheap r2 r3 r4 r5.1 (laid_rep r5 fun j v hv => by simpa using hv) (fun p hp => R.fit.no (by omega)))
              exact ⟨_, _, _, _, _, _, .inl r1, hK, R', .one (.row (b := .mrow e' i.size (xs ++ ys)) (by simp [AS.set, updE_same]) (Nat.le_refl _) rfl fun _ => by simp [updE_same])⟩
            cases hb with
            | mnil k1 k2 => exact grow [] (by simp) (fun _ => k2) (Nat.zero_le _) (by simp) Laid.nil (by rw [k2]; simpa using hm)
            | @mrow _ _ _ g vs k1 k2 k3 k4 k5 k6 k7 k8 k9 =>
              have hlaid : Laid σ (vs.toList.take (xs.length * i.size)) i.size xs := ⟨k7, fun k x j y hx hy => by
                obtain ⟨v, v1, v2⟩ := k8 k x j y hx hy
                have hk := (List.getElem?_eq_some_iff.1 hx).1
                have hj : j < i.size := by
                  rw [← k7 x (List.mem_of_getElem? hx)]
                  exact (List.getElem?_eq_some_iff.1 hy).1
                have hlt : k * i.size + j < xs.length * i.size := by
                  have : (k + 1) * i.size ≤ xs.length * i.size := Nat.mul_le_mul_right _ hk
                  rw [Nat.add_mul] at this
                  omega
                exact ⟨v, by rw [List.getElem?_take, if_pos hlt]; simpa using v1, v2⟩⟩
              have hcapw : xs.length * i.size ≤ (ι id).cap * i.size := Nat.mul_le_mul_right _ k4
              have htl : (vs.toList.take (xs.length * i.size)).length = xs.length * i.size := by simp; omega
              by_cases hroom : xs.length + ys.length ≤ (ι id).cap
              · have hcapw2 : (xs.length + ys.length) * i.size ≤ (ι id).cap * i.size := Nat.mul_le_mul_right _ hroom
                rw [Nat.add_mul] at hcapw2
                obtain ⟨bq, oq, hq, hq2⟩ := hncell hne
                have hr := run_append_room (P := P) w t o.type e' i ht hi g xs.length (ι id).cap vs k3 ⟨bq, oq, none⟩ ys.length c news hnl (fun j u hu => by rw [addr_add]; exact hq2 j u hu) hn1 hroom (by omega)
                have hrun := hex _ _ (by rw [hv, hvy, k2, hq]; exact hr)
                generalize hA : (vs.toList.take (xs.length * i.size) ++ news ++ vs.toList.drop (xs.length * i.size + news.length)).toArray = A at hrun
                have hAl : A.toList = vs.toList.take (xs.length * i.size) ++ news ++ vs.toList.drop (xs.length * i.size + news.length) := by rw [← hA]
                have hAs : A.size = (ι id).cap * i.size := by
                  rw [← hA]
                  simp only [List.size_toArray, List.length_append, htl, List.length_drop, Array.length_toList]
                  omega
                have hheap : (w.setRow g A).heap[g]? = some (.cells A e' (0, 0)) := setRow_heap w _ _ _ _ _ k3
                have hl : Laid σ A.toList i.size (xs ++ ys) := by
                  rw [hAl]
                  exact (hlaid.append hnlaid htl).more _
                obtain ⟨hu, R'⟩ := R.turn (w' := w.setRow g A) hS (.mrow e' i.size (xs ++ ys)) ⟨(ι id).p, (ι id).cap, some g⟩ (σ' := σ) (fun _ _ h => h)
                  (fun _ _ _ => rfl) (R.fit.row k9 fun k hk => setRow_other _ _ _ _ hk) (by simp [ABlk.len]) (fun he => absurd (by simpa [ABlk.len] using he) hne) (setRow_frame _ _) (by simp) (fun k hk hne => setRow_other _ _ _ _ (fun e => hne (by rw [e]; exact k1))) (fun g' hg' => .inl (by simp at hg'; subst hg'; exact k1))
                  (fun hu => .mrow rfl k2 hheap (by simpa using hroom) k5 hAs hl.1 (laid_rep hl fun j v hv => by simpa using hv) k9)
                exact ⟨_, _, _, _, _, _, .inl hrun, hK, R', .one (.row (b := .mrow e' i.size (xs ++ ys)) (by simp [AS.set, updE_same]) (Nat.le_refl _) rfl fun _ => by simp [updE_same, k2])⟩
              · exact grow _ htl (by rw [k2]; simp) k4 (fun _ => ⟨g, 0, k2, fun j u hu => by
                  rw [List.getElem?_take] at hu
                  split at hu
                  · rw [Nat.zero_add, cell_of_row w g _ _ _ _ k3]
                    simpa using hu
                  · cases hu⟩) hlaid (by omega)
        · exact h.elim
      · exact h.elim
    · exact h.elim
  · exact h.elim
theorem laid_take {vs : List Value} {wd : Nat} {xs : List (List SV)} (h : Laid σ vs wd xs) (k : Nat) : Laid σ (vs.take (k * wd)) wd (xs.take k) := by
  refine ⟨fun x hx => h.1 x (List.mem_of_mem_take hx), fun kk x j y hx hy => ?_⟩
  rw [List.getElem?_take] at hx
  split at hx
  · rename_i hlt
    obtain ⟨v, v1, v2⟩ := h.2 kk x j y hx hy
    have hj : j < wd := by
      rw [← h.1 x (List.mem_of_getElem? hx)]
      exact (List.getElem?_eq_some_iff.1 hy).1
    have hlt2 : kk * wd + j < k * wd := by
      have : (kk + 1) * wd ≤ k * wd := Nat.mul_le_mul_right _ hlt
      rw [Nat.add_mul] at this
      omega
    exact ⟨v, by rw [List.getElem?_take, if_pos hlt2]; exact v1, v2⟩
  · cases hx
theorem laid_drop {vs : List Value} {wd : Nat} {xs : List (List SV)} (h : Laid σ vs wd xs) (k : Nat) : Laid σ (vs.drop (k * wd)) wd (xs.drop k) := by
  refine ⟨fun x hx => h.1 x (List.mem_of_mem_drop hx), fun kk x j y hx hy => ?_⟩
  rw [List.getElem?_drop] at hx
  obtain ⟨v, v1, v2⟩ := h.2 _ x j y hx hy
  refine ⟨v, ?_, v2⟩
  rw [List.getElem?_drop, ← v1]
  congr 1
  rw [Nat.add_mul]
  omega
theorem snd_appP {t e : TypeId} {i : TypeInfo} {z : Value} {x y : Operand} {x' y' : Opd} (ho : o.op = .call { callee := .builtin .append, args := #[x, y], argTypes := #[t, t] }) (hx : trOpd C.n x = some x') (hy : trOpd C.n y = some y')
    (ht : P.underlying t = some (.slice e)) (hi : P.info? e = some i) (hz : i.zero = some z) (hzs : z.cells.size = i.size) (hpos : 0 < i.size) (R : Refs C σ ι s a w) (h : Kd.go P d s K (.appP e i.size i.bytes x' y')) : Good P C o a w K := by
  have rx := R.ev hx
  have ry := R.ev hy
  have hex : ∀ v w', (Builtin.append_ #[t, t] o.type #[a.eval x, a.eval y]).run P w = .ok v w' → (execOp a.eval o).run P w = .ok (.value v) w' := fun v w' hr => by
    simp only [execOp, ho, resolve, invoke, builtin, Sem.run_bind, Sem.run_pure, Result.andThen_ok, List.map_toArray, List.map_cons, List.map_nil, hr]
  simp only [Kd.go] at h
  split at h
  · rename_i id k m cy e1 e2
    rw [e1] at rx
    rw [e2] at ry
    replace rx := vrep_one rx
    replace ry := vrep_one ry
    split at h
    · rename_i e' wd' xs ys hS hys
      obtain ⟨⟨hm, rfl, rfl⟩, hyw, h63, hby, hK⟩ := h
      subst hm
      obtain ⟨q, c, news, hvy, hnl, hnlaid, hn1, hncell⟩ := R.src ry hys hyw hpos
      obtain ⟨b, hb1, hb2, hb3⟩ := arep_part rx
      rw [hS] at hb1
      cases hb1
      obtain ⟨hkm, hv⟩ := hb3 rfl
      have hb := R.blk _ _ hS
      have hnlen : (xs.take k ++ ys ++ xs.drop (k + ys.length)).length = if xs.length ≤ k + ys.length then k + ys.length else xs.length := by
        simp only [List.length_append, List.length_take, List.length_drop]
        split <;> omega
      by_cases hne : ys = []
      · subst hne
        have hnc : xs.length ≤ (ι id).cap := by cases hb <;> first | exact Nat.zero_le _ | assumption
        have hrun := hex _ _ (by rw [hv, hvy]; exact run_append_zero (P := P) (w := w) (ty := o.type) ht hi (p := (ι id).p) (n := k) (cap := (ι id).cap) (by omega) q c)
        have hset : s.set id (.mrow e' i.size (xs.take k ++ [] ++ xs.drop (k + ([] : List (List SV)).length))) = s := by
          rw [List.append_nil, List.length_nil, Nat.add_zero, List.take_append_drop]
          obtain ⟨env, S⟩ := s
          simp only [AS.set, AS.mk.injEq, true_and]
          funext k
          unfold updE
          split
          · rename_i hk; subst hk; exact hS.symm
          · rfl
        have hlen : (if xs.length ≤ k + ([] : List (List SV)).length then k + ([] : List (List SV)).length else xs.length) = xs.length := by
          simp only [List.length_nil, Nat.add_zero]
          split <;> omega
        rw [hset, hlen] at hK
        refine ⟨_, _, s, σ, ι, w, .inl hrun, hK, R, ?_⟩
        exact .one (.part hS (Nat.le_refl _) rfl fun _ => ⟨by simpa using hkm, by simp⟩)
      · have hm : 0 < ys.length := List.length_pos_iff.2 hne
        have grow : ∀ (olds : List Value), olds.length = k * i.size → ((ι id).p = none → (ι id).cap = 0) → xs.length ≤ (ι id).cap → (k ≠ 0 → ∃ b o, (ι id).p = some ⟨b, o, none⟩ ∧ ∀ j u, olds[j]? = some u → w.cell? ⟨b, o + j, none⟩ = some u) → Laid σ olds i.size (xs.take k) → (ι id).cap < k + ys.length → Good P C o a w K := fun olds ho1 ho2 ho3 ho4 ho5 ho6 => by
          obtain ⟨bq, oo, hq, hq2⟩ := hncell hne
          obtain ⟨c', rest, r1, r2, r3, r4⟩ := run_grown (P := P) (ty := o.type) (w := w) ht hi hz hzs ho1 ho2 (n := k) (by omega) ho4 (q := q) (m := ys.length) (c := c) hnl hm ⟨bq, oo, hq, hq2⟩ ho6 h63 hby
          have hrun := hex _ _ (by rw [hv, hvy]; exact r1)
          have hdrop : xs.drop (k + ys.length) = [] := List.drop_eq_nil_of_le (by omega)
          have hge : xs.length ≤ k + ys.length := by omega
          rw [hdrop, List.append_nil, if_pos hge] at hK
          rw [hdrop, List.append_nil, if_pos hge] at hnlen
          have hl : Laid σ (olds.toArray ++ news.toArray ++ rest).toList i.size (xs.take k ++ ys) := by
            have := (ho5.append hnlaid (by rw [ho1, List.length_take, Nat.min_eq_left hkm])).more rest.toList
            simpa using this
          have hsz : (olds.toArray ++ news.toArray ++ rest).size = c' * i.size := by
            simp only [Array.size_append, List.size_toArray, ho1, hnl, r4, ← Nat.add_mul]
            congr 1
            omega
          generalize hA : olds.toArray ++ news.toArray ++ rest = A at hrun hl hsz
          have hheap : (w.drew.alloc (.cells A e')).heap[w.heap.size]? = some (.cells A e' (0, 0)) := heap_alloc_new w.drew _
          have hmore : More w (w.drew.alloc (.cells A e')) := (Below.refl _ _).drew.alloc (Nat.le_refl _) _
          obtain ⟨hu, R'⟩ := R.turn (w' := w.drew.alloc (.cells A e')) hS (.mrow e' i.size (xs.take k ++ ys)) ⟨some ⟨w.heap.size, 0, none⟩, c', some w.heap.size⟩ (σ' := σ) (fun _ _ h => h)
            (fun _ _ _ => rfl) (R.fit.below hmore) (by simp only [ABlk.len]; omega) (fun he => absurd he (by simp only [ABlk.len]; omega)) ⟨rfl, rfl, rfl⟩ hmore.size (fun g hg _ => hmore.block g hg) (fun g hg => .inr (by simp at hg; omega))
            (fun hu => .mrow rfl rfl hheap (by rw [hnlen]; exact r2) r3 hsz hl.1 (laid_rep hl fun j v hv => by simpa using hv) (fun p hp => R.fit.no (by omega)))
          exact ⟨_, _, _, _, _, _, .inl hrun, hK, R', .one (.part (b := .mrow e' i.size (xs.take k ++ ys)) (by simp [AS.set, updE_same]) (by simp only [ABlk.len]; omega) rfl fun _ => ⟨Nat.le_refl _, by simp [updE_same]⟩)⟩
        cases hb with
        | mnil k1 k2 =>
          obtain rfl : k = 0 := by simpa using hkm
          exact grow [] (by simp) (fun _ => k2) (Nat.zero_le _) (by simp) (by simpa using Laid.nil) (by omega)
        | @mrow _ _ _ g vs k1 k2 k3 k4 k5 k6 k7 k8 k9 =>
          have hcapw : xs.length * i.size ≤ (ι id).cap * i.size := Nat.mul_le_mul_right _ k4
          have hlaidAll : Laid σ vs.toList i.size xs := ⟨k7, fun kk x j y hx hy => by
            obtain ⟨v, v1, v2⟩ := k8 kk x j y hx hy
            exact ⟨v, by simpa using v1, v2⟩⟩
          have hlaid := laid_take hlaidAll k
          have hkw : k * i.size ≤ xs.length * i.size := Nat.mul_le_mul_right _ hkm
          have htl : (vs.toList.take (k * i.size)).length = k * i.size := by simp; omega
          by_cases hroom : k + ys.length ≤ (ι id).cap
          · have hcapw2 : (k + ys.length) * i.size ≤ (ι id).cap * i.size := Nat.mul_le_mul_right _ hroom
            rw [Nat.add_mul] at hcapw2
            obtain ⟨bq, oq, hq, hq2⟩ := hncell hne
            have hr := run_append_room (P := P) w t o.type e' i ht hi g k (ι id).cap vs k3 ⟨bq, oq, none⟩ ys.length c news hnl (fun j u hu => by rw [addr_add]; exact hq2 j u hu) hn1 hroom (by omega)
            have hrun := hex _ _ (by rw [hv, hvy, k2, hq]; exact hr)
            generalize hA : (vs.toList.take (k * i.size) ++ news ++ vs.toList.drop (k * i.size + news.length)).toArray = A at hrun
            have hAl : A.toList = vs.toList.take (k * i.size) ++ news ++ vs.toList.drop (k * i.size + news.length) := by rw [← hA]
            have hAs : A.size = (ι id).cap * i.size := by
              rw [← hA]
              simp only [List.size_toArray, List.length_append, htl, List.length_drop, Array.length_toList]
              omega
            have hheap : (w.setRow g A).heap[g]? = some (.cells A e' (0, 0)) := setRow_heap w _ _ _ _ _ k3
            have hl : Laid σ A.toList i.size (xs.take k ++ ys ++ xs.drop (k + ys.length)) := by
              rw [hAl]
              have h1 := hlaid.append hnlaid (by rw [htl, List.length_take, Nat.min_eq_left hkm])
              have h2 := laid_drop hlaidAll (k + ys.length)
              have h3 := h1.append h2 (by simp only [List.length_append, htl, hnl, List.length_take, Nat.min_eq_left hkm, Nat.add_mul])
              rw [Nat.add_mul, ← hnl] at h3
              exact h3
            have hlen2 : (xs.take k ++ ys ++ xs.drop (k + ys.length)).length ≤ (ι id).cap := by rw [hnlen]; split <;> omega
            obtain ⟨hu, R'⟩ := R.turn (w' := w.setRow g A) hS (.mrow e' i.size (xs.take k ++ ys ++ xs.drop (k + ys.length))) ⟨(ι id).p, (ι id).cap, some g⟩ (σ' := σ) (fun _ _ h => h)
              (fun _ _ _ => rfl) (R.fit.row k9 fun k hk => setRow_other _ _ _ _ hk) (by simp only [ABlk.len, hnlen]; split <;> omega) (fun he => ⟨rfl, by rw [← k1]⟩) (setRow_frame _ _) (by simp) (fun k hk hne => setRow_other _ _ _ _ (fun e => hne (by rw [e]; exact k1))) (fun g' hg' => .inl (by simp at hg'; subst hg'; exact k1))
              (fun hu => .mrow rfl k2 hheap hlen2 k5 hAs hl.1 (laid_rep hl fun j v hv => by simpa using hv) k9)
            exact ⟨_, _, _, _, _, _, .inl hrun, hK, R', .one (.part (b := .mrow e' i.size (xs.take k ++ ys ++ xs.drop (k + ys.length))) (by simp [AS.set, updE_same]) (by simp only [ABlk.len, hnlen]; exact Nat.le_refl _) rfl fun _ => ⟨by split <;> omega, by simp [updE_same, k2]⟩)⟩
          · exact grow _ htl (by rw [k2]; simp) k4 (fun _ => ⟨g, 0, k2, fun j u hu => by
              rw [List.getElem?_take] at hu
              split at hu
              · rw [Nat.zero_add, cell_of_row w g _ _ _ _ k3]
                simpa using hu
              · cases hu⟩) hlaid (by omega)
    · exact h.elim
  · exact h.elim
end
end Go.Proofs.Ytohgkbgpcnmdpaa
