/-
  Each operation does to a frame and a world what its abstract word says: slice literals, stores, append.
  Conditions: none.
-/
import Derived.Test.YtpajlfdhmjgpnaaAbsF
namespace Go.Proofs.Ytpajlfdhmjgpnaa
open Go Go.RowKit
set_option linter.unusedVariables false
set_option maxHeartbeats 400000
section
variable {P : Program} {C : Ctx} {o : Oper} {a : Act} {w : World} {K : AV → AS → Prop} {σ : Sto} {ι : AHnd} {s : AS} {d : Nat} {S : AStore}

/-! ### slice literals -/
def trEls (n : Nat) : Nat → List (Nat × Operand) → Option (List Opd)
  | _, [] => some []
  | k, (i, x) :: ps => if i = k then match trOpd n x, trEls n (k + 1) ps with
    | some x', some xs' => some (x' :: xs')
    | _, _ => none
    else none
theorem splice_take {α : Type} {L A : List α} {k : Nat} (hk : k ≤ L.length) : (splice L k A).take (k + A.length) = L.take k ++ A := by
  unfold splice
  exact List.take_left' (by simp; omega)
theorem splice_drop {α : Type} {L A : List α} {k m : Nat} (hk : k ≤ L.length) : (splice L k A).drop (k + A.length + m) = L.drop (k + A.length + m) := by
  unfold splice
  have e : (L.take k ++ A).length = k + A.length := by simp; omega
  rw [List.drop_append, e, List.drop_of_length_le (by omega), List.nil_append, List.drop_drop]
  congr 1
  omega
theorem elems_sound (R : Refs C σ ι s a w) {wd : Nat} : ∀ {ps : List (Nat × Operand)} {k : Nat} {xs : List Opd} {es : List (List SV)} {cells : Array Value}, trEls C.n k ps = some xs → elems s wd xs = some es → k * wd + ps.length * wd ≤ cells.size →
    ∃ cells' vs, Instr.fill (fun i => some (i * wd, wd)) cells (ps.map fun x => (x.1, a.eval x.2)) = some cells' ∧ cells'.toList = cells.toList.take (k * wd) ++ vs ++ cells.toList.drop (k * wd + ps.length * wd) ∧ vs.length = ps.length * wd ∧ ps.length = es.length ∧ Laid σ vs wd es
  | [], k, xs, es, cells, h1, h2, h3 => by
    simp only [trEls, Option.some.injEq] at h1
    subst h1
    simp only [elems, Option.some.injEq] at h2
    subst h2
    exact ⟨cells, [], rfl, by simp, by simp, rfl, Laid.nil⟩
  | (i, x) :: ps, k, xs, es, cells, h1, h2, h3 => by
    simp only [trEls] at h1
    split at h1
    · rename_i hik
      subst hik
      split at h1
      · rename_i x' xs' e1 e2
        cases h1
        simp only [elems] at h2
        split at h2
        · rename_i c e3
          split at h2
          · rename_i c' es' e4 e5
            split at h2
            · rename_i hw
              cases h2
              have rx := R.stCs ((R.ev e1).cells e3) e4
              have hl := rx.len
              simp only [List.length_cons, Nat.add_mul, Nat.one_mul] at h3
              obtain ⟨cells1, f1, f2⟩ := fill_one (place := fun i => some (i * wd, wd)) (cells := cells) (i := i) (v := a.eval x) (rest := ps.map fun x => (x.1, a.eval x.2)) (off := i * wd) (size := wd) rfl (by simp at hl; omega) (by omega)
              have hsz : cells1.size = cells.size := by
                have := congrArg List.length f2
                simp [splice] at this
                simp at hl
                omega
              obtain ⟨cells2, vs, g1, g2, g3, g4, g5⟩ := elems_sound R (cells := cells1) e2 e5 (by rw [Nat.add_mul]; omega)
              refine ⟨cells2, (a.eval x).cells.toList ++ vs, by rw [List.map_cons, f1, g1], ?_, by simp at hl ⊢; rw [g3, Nat.add_mul]; omega, by simp [g4], Laid.cons rx hw g5⟩
              rw [g2, f2]
              have hlen : (a.eval x).cells.toList.length = wd := by omega
              have e6 : (i + 1) * wd = i * wd + (a.eval x).cells.toList.length := by rw [Nat.add_mul]; omega
              rw [e6, splice_take (by simp; omega), splice_drop (by simp; omega), hlen]
              simp only [List.length_cons, Nat.add_mul, Nat.one_mul]
              rw [show i * wd + wd + ps.length * wd = i * wd + (ps.length * wd + wd) by omega]
              simp
            · cases h2
          · cases h2
        · cases h2
      · cases h1
    · cases h1
theorem flats_elems : ∀ {xs : List Opd} {es : List (List SV)}, flats s xs = some es → elems s 1 xs = some es
  | [], es, h => h
  | x :: xs, es, h => by
    simp only [flats] at h
    split at h
    · rename_i c es' e1 e2
      cases h
      simp only [elems, e1, AV.cells, stCs, stC, flats_elems e2, List.length_cons, List.length_nil, if_true]
    · cases h
theorem flat_go {xs : List Opd} {e : Nat} (h : Kd.go P d s K (.buildFlat xs)) : Kd.go P d s K (.buildSlice false e 1 xs) := by
  simp only [Kd.go] at h ⊢
  split at h
  · rename_i es e1
    rw [flats_elems e1]
    exact h
  · exact h.elim
theorem snd_buildSlice {t e : TypeId} {len : Nat} {ps : Array (Nat × Operand)} {ie : TypeInfo} {z : Value} {xs : List Opd} {mu : Bool} (ho : o.op = .buildSlice t len ps) (hu : P.underlying t = some (.slice e)) (hie : P.info? e = some ie) (hz : ie.zero = some z) (hsmall : len * ie.size ≤ 2 ^ 24) (hwp : 0 < ie.size) (hlen : ps.size = len)
    (hps : trEls C.n 0 ps.toList = some xs) (R : Refs C σ ι s a w) (h : Kd.go P d s K (.buildSlice mu e ie.size xs)) : Good P C o a w K := by
  simp only [Kd.go] at h
  split at h
  · rename_i es e1
    obtain ⟨cells', vs, f1, f2, f3, f4, f5⟩ := elems_sound R (cells := (Array.range (len * ie.size)).map (z.cells[· % z.cells.size]!)) hps e1 (by simp [hlen])
    have hpl : ps.toList.length = len := by simpa using hlen
    have f2' : cells'.toList = vs := by
      rw [f2, hpl]
      rw [List.drop_of_length_le (by simp)]
      simp
    have hrun : (execOp a.eval o).run P w = .ok (.value (.slice (some ⟨w.heap.size, 0, none⟩) len len)) (w.alloc (.cells cells' e)) := by
      by_cases h0 : len = 0
      · subst h0
        have hp0 : ps = #[] := Array.eq_empty_of_size_eq_zero hlen
        subst hp0
        have hc : cells' = #[] := by
          apply Array.ext'
          rw [f2']
          simpa using f3
        subst hc
        have e0 : Array.range 0 = #[] := rfl
        simp [execOp, ho, Instr.buildSlice, run_underlying hu, sizeOf, typeInfo, hie, Instr.fill, newRow, e0]
      · have hrb := run_buildSlice (P := P) w t e len (ps.map fun x => (x.1, a.eval x.2)) cells' ie z hu hie hz (by omega) (by
          have := Nat.mul_pos (show 0 < len by omega) hwp
          omega) (by simpa using f1)
        simp only [execOp, ho, Sem.run_bind, hrb, Result.andThen_ok]
        rfl
    have hle : len = es.length := by rw [← hpl, f4]
    have hmax : len ≤ maxLen := by
      have : len * 1 ≤ len * ie.size := Nat.mul_le_mul_left _ hwp
      simp [maxLen]
      omega
    have f5' : Laid σ cells'.toList ie.size es := by rw [f2']; exact f5
    cases mu with
    | false =>
      simp only [Bool.false_eq_true, if_false] at h
      have hs := srep_lay (w := w) (w' := w.alloc (.cells cells' e)) R.fit (Nat.le_refl _) (heap_alloc_new w _) f5' hle (Nat.le_refl _) hmax
      exact ⟨_, _, s, _, ι, _, .inl hrun, h, R.more (Ext.lay R.fit (Nat.le_refl _)) (layS_fit (R.fit.alloc _)) (More.alloc _ _), .one (.full hs)⟩
    | true =>
      simp only [if_true] at h
      obtain ⟨hid, hK⟩ := h
      obtain ⟨hu', R'⟩ := R.fresh (w' := w.alloc (.cells cells' e)) hid (.mrow e ie.size es) ⟨some ⟨w.heap.size, 0, none⟩, len, some w.heap.size⟩ (Ext.refl _ _) (R.fit.alloc _) (More.alloc _ _) (by simp)
        (fun S' ι' hu => .mrow rfl rfl (heap_alloc_new w _) (show es.length ≤ len by omega) hmax (by
          have := congrArg List.length f2'
          simp at this
          rw [this, f3, hpl]) f5'.1 (fun k x j y hx hy => by simpa using f5'.2 k x j y hx hy) (fun p hp => R.fit.no (by omega)))
      exact ⟨_, _, _, σ, _, _, .inl hrun, hK, R', .one (.row (b := .mrow e ie.size es) (by simp [AS.set, updE_same]) (Nat.le_refl _) rfl fun _ => by simp [updE_same, hle])⟩
  · exact h.elim

/-! ### stores -/
theorem run_storeAt {t : TypeId} {i : TypeInfo} (hi : P.info? t = some i) {g off : Nat} {v : Value} {cur : Array Value} {e : TypeId} (hg : w.heap[g]? = some (.cells cur e (0, 0))) (hv : v.cells.size = i.size) (hle : off + i.size ≤ cur.size) (h1 : ∀ u ∈ v.cells.toList, u.oneCell' = true) :
    (Instr.storeAt t (.pointer (some ⟨g, off, none⟩)) v).run P w = .ok () (w.setRow g (splice cur.toList off v.cells.toList).toArray) := by
  have hst := run_storeCells_at P g off e v.cells.toList 0 cur w hg (by simp; omega) h1
  have hst' : (storeCells ⟨g, off, none⟩ v.cells.toList).run P w = .ok () (w.setRow g (splice cur.toList off v.cells.toList).toArray) := by
    have e1 : (storeCells ⟨g, off, none⟩ v.cells.toList 0).run P w = _ := hst
    rw [e1]
    simp [splice]
  simp [Instr.storeAt, Instr.sureAddr, storeVar, sizeOf, typeInfo, hi, hv, hst']
theorem setRow_frame (g : Nat) (cs : Array Value) : (w.setRow g cs).os = w.os ∧ (w.setRow g cs).tape = w.tape ∧ (w.setRow g cs).output = w.output := ⟨rfl, rfl, rfl⟩
theorem All2.oneA {vs : List Value} {cs : List AC} (h : All2 (ARep σ S ι) vs cs) : ∀ u ∈ vs, u.oneCell' = true := by
  intro u hu
  obtain ⟨i, hi, rfl⟩ := List.getElem_of_mem hu
  obtain ⟨b, _, hb⟩ := h.get' (List.getElem?_eq_getElem hi)
  exact hb.one
theorem Fit.row {w' : World} (hf : Fit σ w) {g : Nat} (hn : ∀ p : Addr, p.block = g → σ p = none) (hw : ∀ k, k ≠ g → w'.heap[k]? = w.heap[k]?) : Fit σ w' := fun p x hp => by
  have hne : p.block ≠ g := fun e => by rw [hn p e] at hp; cases hp
  exact (look_of_block (hw _ hne)).trans (hf p x hp)
theorem snd_store {t : TypeId} {i : TypeInfo} {x v : Operand} {x' v' : Opd} (ho : o.op = .store t x v) (hx : trOpd C.n x = some x') (hv : trOpd C.n v = some v') (hi : P.info? t = some i) (R : Refs C σ ι s a w) (h : Kd.go P d s K (.store i.size x' v')) : Good P C o a w K := by
  have rx := R.ev hx
  have rv := R.ev hv
  simp only [Kd.go] at h
  split at h
  · rename_i id m k off c e1 e2
    rw [e1] at rx
    have rc := rv.cells e2
    have hlc := rc.len
    obtain ⟨b, hb1, hb2, hb3⟩ := arep_ptr (vrep_one rx)
    split at h
    · rename_i e cs hS
      obtain ⟨⟨rfl, rfl⟩, hcn, hle, hK⟩ := h
      rw [hS] at hb1
      cases hb1
      obtain ⟨g, g1, g2⟩ := hb3 rfl
      simp only [ABlk.wid, Nat.zero_mul, Nat.zero_add] at g2
      have hb := R.blk _ _ hS
      cases hb with
      | @box _ _ g' vs k1 k2 k3 k4 k5 =>
      rw [k1] at g1
      cases g1
      have hlv := k4.len
      have hrun := run_storeAt (P := P) (off := off) (v := a.eval v) hi k3 (by simp at hlc; omega) (by simp at hlv; omega) (All2.oneA rc)
      obtain ⟨hu, R'⟩ := R.turn (w' := w.setRow g (splice vs.toList off (a.eval v).cells.toList).toArray) hS (.box e (splice cs off c)) (ι id) (σ' := σ) (fun _ _ h => h) (fun _ _ _ => rfl) (R.fit.row k5 fun k hk => setRow_other _ _ _ _ hk) (Nat.le_refl _) (fun _ => ⟨rfl, rfl⟩) (setRow_frame _ _) (by simp)
        (fun k hk hne => setRow_other _ _ _ _ (fun e => hne (by rw [e]; exact k1))) (fun g h => .inl h) (fun hu => .box k1 k2 (setRow_heap w _ _ _ _ _ k3) (by simpa using (k4.splice rc off).mono fun _ _ x => x.mono (fun _ _ h => h) hu) k5)
      exact ⟨undef, .any, _, σ, _, _, .inr ⟨rfl, by simp only [execOp, ho, g2, Sem.run_bind, hrun, Result.andThen_ok]; rfl⟩, hK, R', .any⟩
    · rename_i e wd xs hS
      split at h
      · rename_i c' x1 e3 e4
        obtain ⟨hm, hcn, hle, hK⟩ := h
        rw [hS] at hb1
        cases hb1
        obtain ⟨g, g1, g2⟩ := hb3 hm
        simp only [ABlk.wid] at g2
        have rc' := R.stCs rc e3
        have hlc' := rc'.len
        have hb := R.blk _ _ hS
        cases hb with
        | mnil k1 => rw [k1] at g1; cases g1
        | @mrow _ _ _ g' vs k1 k2 k3 k4 k5 k6 k7 k8 k9 =>
        rw [k1] at g1
        cases g1
        have hx1m := List.mem_of_getElem? e4
        have hx1 := k7 x1 hx1m
        have hk := (List.getElem?_eq_some_iff.1 e4).1
        have hkw : k * wd + wd ≤ xs.length * wd := by
          have : (k + 1) * wd ≤ xs.length * wd := Nat.mul_le_mul_right _ hk
          rw [Nat.add_mul] at this
          omega
        have hcap : xs.length * wd ≤ (ι id).cap * wd := Nat.mul_le_mul_right _ k4
        have hrun := run_storeAt (P := P) (off := k * wd + off) (v := a.eval v) hi k3 (by simp at hlc'; omega) (by omega) (All2.oneA rc)
        have hsl : (a.eval v).cells.toList.length = i.size := by omega
        have hget : ∀ q, (splice vs.toList (k * wd + off) (a.eval v).cells.toList)[q]? = if k * wd + off ≤ q ∧ q < k * wd + off + i.size then (a.eval v).cells.toList[q - (k * wd + off)]? else vs.toList[q]? := fun q => by
          unfold splice
          have ht : (vs.toList.take (k * wd + off)).length = k * wd + off := by simp; omega
          by_cases h1 : q < k * wd + off
          · rw [if_neg (by omega), List.append_assoc, List.getElem?_append_left (by omega), List.getElem?_take, if_pos h1]
          · by_cases h2 : q < k * wd + off + i.size
            · rw [if_pos ⟨by omega, h2⟩, List.append_assoc, List.getElem?_append_right (by omega), List.getElem?_append_left (by omega), ht]
            · rw [if_neg (by omega), List.getElem?_append_right (by rw [List.length_append, ht, hsl]; omega), List.getElem?_drop]
              congr 1
              simp only [List.length_append, ht, hsl]
              omega
        obtain ⟨hu, R'⟩ := R.turn (w' := w.setRow g (splice vs.toList (k * wd + off) (a.eval v).cells.toList).toArray) hS (.mrow e wd (xs.set k (splice x1 off c'))) (ι id) (σ' := σ) (fun _ _ h => h) (fun _ _ _ => rfl) (R.fit.row k9 fun k hk => setRow_other _ _ _ _ hk) (by simp [ABlk.len]) (fun _ => ⟨rfl, rfl⟩) (setRow_frame _ _) (by simp)
          (fun k hk hne => setRow_other _ _ _ _ (fun e => hne (by rw [e]; exact k1))) (fun g h => .inl h) (fun hu => by
            have hspl : (splice x1 off c').length = wd := by simp [splice]; omega
            refine .mrow k1 k2 (setRow_heap w _ _ _ _ _ k3) (by simpa using k4) k5 (by rw [List.size_toArray, splice, List.length_append, List.length_append, List.length_drop, List.length_take, hsl, Array.length_toList]; omega) (fun y hy => ?_) (fun k' y j z hy hz => ?_) k9
            · rcases List.mem_or_eq_of_mem_set hy with hy | rfl
              · exact k7 y hy
              · exact hspl
            · simp only [List.getElem?_toArray]
              rw [hget]
              by_cases hkk : k' = k
              · subst hkk
                rw [List.getElem?_set_self hk] at hy
                cases hy
                have hj : j < wd := by rw [← hspl]; exact (List.getElem?_eq_some_iff.1 hz).1
                unfold splice at hz
                have ht : (x1.take off).length = off := by simp; omega
                by_cases h1 : j < off
                · rw [if_neg (by omega)]
                  rw [List.append_assoc, List.getElem?_append_left (by omega), List.getElem?_take, if_pos h1] at hz
                  simpa using k8 k' x1 j z e4 hz
                · by_cases h2 : j < off + i.size
                  · rw [if_pos ⟨by omega, by omega⟩]
                    rw [List.append_assoc, List.getElem?_append_right (by omega), List.getElem?_append_left (by omega), ht] at hz
                    rw [show k' * wd + j - (k' * wd + off) = j - off by omega]
                    exact rc'.get hz
                  · rw [if_neg (by omega)]
                    rw [List.getElem?_append_right (by simp; omega), List.getElem?_drop] at hz
                    rw [show off + c'.length + (j - (List.take off x1 ++ c').length) = j by simp; omega] at hz
                    simpa using k8 k' x1 j z e4 hz
              · rw [List.getElem?_set_ne (fun e => hkk e.symm)] at hy
                have hk' := (List.getElem?_eq_some_iff.1 hy).1
                have hj : j < wd := by
                  rw [← k7 y (List.mem_of_getElem? hy)]
                  exact (List.getElem?_eq_some_iff.1 hz).1
                rw [if_neg]
                · simpa using k8 k' y j z hy hz
                · rintro ⟨q1, q2⟩
                  rcases Nat.lt_or_gt_of_ne hkk with hl | hl
                  · have : (k' + 1) * wd ≤ k * wd := Nat.mul_le_mul_right _ hl
                    rw [Nat.add_mul] at this
                    omega
                  · have : (k + 1) * wd ≤ k' * wd := Nat.mul_le_mul_right _ hl
                    rw [Nat.add_mul] at this
                    omega)
        exact ⟨undef, .any, _, σ, _, _, .inr ⟨rfl, by simp only [execOp, ho, g2, Sem.run_bind, hrun, Result.andThen_ok]; rfl⟩, hK, R', .any⟩
      · exact h.elim
    · exact h.elim
  · exact h.elim
end
end Go.Proofs.Ytpajlfdhmjgpnaa
