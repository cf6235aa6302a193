/-
  Part 3 of the texts: AbsG; AbsH. Conditions: none.
-/
import Derived.Test.YtehnjhkndbcmgaaGreatDoorInM2
import Derived.Lib.AppendStr
namespace Go.Proofs.YtehnjhkndbcmgaaGreatDoor
open Go Go.RowKit
set_option linter.unusedVariables false
set_option maxHeartbeats 400000
section
variable {P : Program} {C : Ctx} {o : Oper} {a : Act} {w : World} {K : AV → AS → Prop} {σ : Sto} {ι : AHnd} {s : AS} {d : Nat} {S : AStore}
def trEls (n : Nat) : Nat → List (Nat × Operand) → Option (List Opd)
  | _, [] => some []
  | k, (i, x) :: ps => if i = k then match trOpd n x, trEls n (k + 1) ps with
    | some x', some xs' => some (x' :: xs')
    | _, _ => none
    else none
theorem splice_take {α : Type} {L A : List α} {k : Nat} (hk : k ≤ L.length) : (splice L k A).take (k + A.length) = L.take k ++ A := by
  unfold splice
  exact List.take_left' (by simp; omega)
theorem splice_drop {α : Type} {L A : List α} {k m : Nat} (hk : k ≤ L.length) : (splice L k A).drop (k + A.length + m) = L.drop (k + A.length + m) := by
  unfold splice
  have e : (L.take k ++ A).length = k + A.length := by simp; omega
  rw [List.drop_append, e, List.drop_of_length_le (by omega), List.nil_append, List.drop_drop]
  congr 1
  omega
theorem elems_sound (R : Refs C σ ι s a w) {wd : Nat} : ∀ {ps : List (Nat × Operand)} {k : Nat} {xs : List Opd} {es : List (List SV)} {cells : Array Value}, trEls C.n k ps = some xs → elems s wd xs = some es → k * wd + ps.length * wd ≤ cells.size →
    ∃ cells' vs, Instr.fill (fun i => some (i * wd, wd)) cells (ps.map fun x => (x.1, a.eval x.2)) = some cells' ∧ cells'.toList = cells.toList.take (k * wd) ++ vs ++ cells.toList.drop (k * wd + ps.length * wd) ∧ vs.length = ps.length * wd ∧ ps.length = es.length ∧ Laid σ vs wd es
  | [], k, xs, es, cells, h1, h2, h3 => by
    simp only [trEls, Option.some.injEq] at h1
    subst h1
    simp only [elems, Option.some.injEq] at h2
    subst h2
    exact ⟨cells, [], rfl, by simp, by simp, rfl, Laid.nil⟩
  | (i, x) :: ps, k, xs, es, cells, h1, h2, h3 => by
    simp only [trEls] at h1
    split at h1
    · rename_i hik
      subst hik
      split at h1
      · rename_i x' xs' e1 e2
        cases h1
        simp only [elems] at h2
        split at h2
        · rename_i c e3
          split at h2
          · rename_i c' es' e4 e5
            split at h2
            · rename_i hw
              cases h2
              have rx := R.stCs ((R.ev e1).cells e3) e4
              have hl := rx.len
              simp only [List.length_cons, Nat.add_mul, Nat.one_mul] at h3
              obtain ⟨cells1, f1, f2⟩ := fill_one (place := fun i => some (i * wd, wd)) (cells := cells) (i := i) (v := a.eval x) (rest := ps.map fun x => (x.1, a.eval x.2)) (off := i * wd) (size := wd) rfl (by simp at hl; omega) (by omega)
              have hsz : cells1.size = cells.size := by
                have := congrArg List.length f2
                simp [splice] at this
                simp at hl
                omega
              obtain ⟨cells2, vs, g1, g2, g3, g4, g5⟩ := elems_sound R (cells := cells1) e2 e5 (by rw [Nat.add_mul]; omega)
              refine ⟨cells2, (a.eval x).cells.toList ++ vs, by rw [List.map_cons, f1, g1], ?_, by simp at hl ⊢; rw [g3, Nat.add_mul]; omega, by simp [g4], Laid.cons rx hw g5⟩
              rw [g2, f2]
              have hlen : (a.eval x).cells.toList.length = wd := by omega
              have e6 : (i + 1) * wd = i * wd + (a.eval x).cells.toList.length := by rw [Nat.add_mul]; omega
              rw [e6, splice_take (by simp; omega), splice_drop (by simp; omega), hlen]
              simp only [List.length_cons, Nat.add_mul, Nat.one_mul]
              rw [show i * wd + wd + ps.length * wd = i * wd + (ps.length * wd + wd) by omega]
              simp
            · cases h2
          · cases h2
        · cases h2
      · cases h1
    · cases h1
theorem flats_elems : ∀ {xs : List Opd} {es : List (List SV)}, flats s xs = some es → elems s 1 xs = some es
  | [], es, h => h
  | x :: xs, es, h => by
    simp only [flats] at h
    split at h
    · rename_i c es' e1 e2
      cases h
      simp only [elems, e1, AV.cells, stCs, stC, flats_elems e2, List.length_cons, List.length_nil, if_true]
    · cases h
theorem flat_go {xs : List Opd} {e : Nat} (h : Kd.go P d s K (.buildFlat xs)) : Kd.go P d s K (.buildSlice false e 1 xs) := by
  simp only [Kd.go] at h ⊢
  split at h
  · rename_i es e1
    rw [flats_elems e1]
    exact h
  · exact h.elim
theorem snd_buildSlice {t e : TypeId} {len : Nat} {ps : Array (Nat × Operand)} {ie : TypeInfo} {z : Value} {xs : List Opd} {mu : Bool} (ho : o.op = .buildSlice t len ps) (hu : P.underlying t = some (.slice e)) (hie : P.info? e = some ie) (hz : ie.zero = some z) (hsmall : len * ie.size ≤ 2 ^ 24) (hwp : 0 < ie.size) (hlen : ps.size = len)
    (hps : trEls C.n 0 ps.toList = some xs) (R : Refs C σ ι s a w) (h : Kd.go P d s K (.buildSlice mu e ie.size xs)) : Good P C o a w K := by
  simp only [Kd.go] at h
  split at h
  · rename_i es e1
    obtain ⟨cells', vs, f1, f2, f3, f4, f5⟩ := elems_sound R (cells := (Array.range (len * ie.size)).map (z.cells[· % z.cells.size]!)) hps e1 (by simp [hlen])
    have hpl : ps.toList.length = len := by simpa using hlen
    have f2' : cells'.toList = vs := by
      rw [f2, hpl]
      rw [List.drop_of_length_le (by simp)]
      simp
    have hrun : (execOp a.eval o).run P w = .ok (.value (.slice (some ⟨w.heap.size, 0, none⟩) len len)) (w.alloc (.cells cells' e)) := by
      by_cases h0 : len = 0
      · subst h0
        have hp0 : ps = #[] := Array.eq_empty_of_size_eq_zero hlen
        subst hp0
        have hc : cells' = #[] := by
          apply Array.ext'
          rw [f2']
          simpa using f3
        subst hc
        have e0 : Array.range 0 = #[] := rfl
        simp [execOp, ho, Instr.buildSlice, run_underlying hu, sizeOf, typeInfo, hie, Instr.fill, newRow, e0]
      · have hrb := run_buildSlice (P := P) w t e len (ps.map fun x => (x.1, a.eval x.2)) cells' ie z hu hie hz (by omega) (by
          have := Nat.mul_pos (show 0 < len by omega) hwp
          omega) (by simpa using f1)
        simp only [execOp, ho, Sem.run_bind, hrb, Result.andThen_ok]
        rfl
    have hle : len = es.length := by rw [← hpl, f4]
    have hmax : len ≤ maxLen := by
      have : len * 1 ≤ len * ie.size := Nat.mul_le_mul_left _ hwp
      simp [maxLen]
      omega
    have f5' : Laid σ cells'.toList ie.size es := by rw [f2']; exact f5
    cases mu with
    | false =>
      simp only [Bool.false_eq_true, if_false] at h
      have hs := srep_lay (w := w) (w' := w.alloc (.cells cells' e)) R.fit (Nat.le_refl _) (heap_alloc_new w _) f5' hle (Nat.le_refl _) hmax
      exact ⟨_, _, s, _, ι, _, .inl hrun, h, R.more (Ext.lay R.fit (Nat.le_refl _)) (layS_fit (R.fit.alloc _)) (More.alloc _ _), .one (.full hs)⟩
    | true =>
      simp only [if_true] at h
      obtain ⟨hid, hK⟩ := h
      obtain ⟨hu', R'⟩ := R.fresh (w' := w.alloc (.cells cells' e)) hid (.mrow e ie.size es) ⟨some ⟨w.heap.size, 0, none⟩, len, some w.heap.size⟩ (Ext.refl _ _) (R.fit.alloc _) (More.alloc _ _) (by simp)
        (fun S' ι' hu => .mrow rfl rfl (heap_alloc_new w _) (show es.length ≤ len by omega) hmax (by
          have := congrArg List.length f2'
          simp at this
          rw [this, f3, hpl]) f5'.1 (fun k x j y hx hy => by simpa using f5'.2 k x j y hx hy) (fun p hp => R.fit.no (by omega)))
      exact ⟨_, _, _, σ, _, _, .inl hrun, hK, R', .one (.row (b := .mrow e ie.size es) (by simp [AS.set, updE_same]) (Nat.le_refl _) rfl fun _ => by simp [updE_same, hle])⟩
  · exact h.elim
theorem run_storeAt {t : TypeId} {i : TypeInfo} (hi : P.info? t = some i) {g off : Nat} {v : Value} {cur : Array Value} {e : TypeId} (hg : w.heap[g]? = some (.cells cur e (0, 0))) (hv : v.cells.size = i.size) (hle : off + i.size ≤ cur.size) (h1 : ∀ u ∈ v.cells.toList, u.oneCell' = true) :
    (Instr.storeAt t (.pointer (some ⟨g, off, none⟩)) v).run P w = .ok () (w.setRow g (splice cur.toList off v.cells.toList).toArray) := by
  have hst := run_storeCells_at P g off e v.cells.toList 0 cur w hg (by simp; omega) h1
  have hst' : (storeCells ⟨g, off, none⟩ v.cells.toList).run P w = .ok () (w.setRow g (splice cur.toList off v.cells.toList).toArray) := by
    have e1 : (storeCells ⟨g, off, none⟩ v.cells.toList 0).run P w = _ := hst
    rw [e1]
    simp [splice]
  simp [Instr.storeAt, Instr.sureAddr, storeVar, sizeOf, typeInfo, hi, hv, hst']
theorem setRow_frame (g : Nat) (cs : Array Value) : (w.setRow g cs).os = w.os ∧ (w.setRow g cs).tape = w.tape ∧ (w.setRow g cs).output = w.output := ⟨rfl, rfl, rfl⟩
theorem All2.oneA {vs : List Value} {cs : List AC} (h : All2 (ARep σ S ι) vs cs) : ∀ u ∈ vs, u.oneCell' = true := by
  intro u hu
  obtain ⟨i, hi, rfl⟩ := List.getElem_of_mem hu
  obtain ⟨b, _, hb⟩ := h.get' (List.getElem?_eq_getElem hi)
  exact hb.one
theorem Fit.row {w' : World} (hf : Fit σ w) {g : Nat} (hn : ∀ p : Addr, p.block = g → σ p = none) (hw : ∀ k, k ≠ g → w'.heap[k]? = w.heap[k]?) : Fit σ w' := fun p x hp => by
  have hne : p.block ≠ g := fun e => by rw [hn p e] at hp; cases hp
  exact (look_of_block (hw _ hne)).trans (hf p x hp)
theorem snd_store {t : TypeId} {i : TypeInfo} {x v : Operand} {x' v' : Opd} (ho : o.op = .store t x v) (hx : trOpd C.n x = some x') (hv : trOpd C.n v = some v') (hi : P.info? t = some i) (R : Refs C σ ι s a w) (h : Kd.go P d s K (.store i.size x' v')) : Good P C o a w K := by
  have rx := R.ev hx
  have rv := R.ev hv
  simp only [Kd.go] at h
  split at h
  · rename_i id m k off c e1 e2
    rw [e1] at rx
    have rc := rv.cells e2
    have hlc := rc.len
    obtain ⟨b, hb1, hb2, hb3⟩ := arep_ptr (vrep_one rx)
    split at h
    · rename_i e cs hS
      obtain ⟨⟨rfl, rfl⟩, hcn, hle, hK⟩ := h
      rw [hS] at hb1
      cases hb1
      obtain ⟨g, g1, g2⟩ := hb3 rfl
      simp only [ABlk.wid, Nat.zero_mul, Nat.zero_add] at g2
      have hb := R.blk _ _ hS
      cases hb with
      | @box _ _ g' vs k1 k2 k3 k4 k5 =>
      rw [k1] at g1
      cases g1
      have hlv := k4.len
      have hrun := run_storeAt (P := P) (off := off) (v := a.eval v) hi k3 (by simp at hlc; omega) (by simp at hlv; omega) (All2.oneA rc)
      obtain ⟨hu, R'⟩ := R.turn (w' := w.setRow g (splice vs.toList off (a.eval v).cells.toList).toArray) hS (.box e (splice cs off c)) (ι id) (σ' := σ) (fun _ _ h => h) (fun _ _ _ => rfl) (R.fit.row k5 fun k hk => setRow_other _ _ _ _ hk) (Nat.le_refl _) (fun _ => ⟨rfl, rfl⟩) (setRow_frame _ _) (by simp)
        (fun k hk hne => setRow_other _ _ _ _ (fun e => hne (by rw [e]; exact k1))) (fun g h => .inl h) (fun hu => .box k1 k2 (setRow_heap w _ _ _ _ _ k3) (by simpa using (k4.splice rc off).mono fun _ _ x => x.mono (fun _ _ h => h) hu) k5)
      exact ⟨undef, .any, _, σ, _, _, .inr ⟨rfl, by simp only [execOp, ho, g2, Sem.run_bind, hrun, Result.andThen_ok]; rfl⟩, hK, R', .any⟩
    · rename_i e wd xs hS
      split at h
      · rename_i c' x1 e3 e4
        obtain ⟨hm, hcn, hle, hK⟩ := h
        rw [hS] at hb1
        cases hb1
        obtain ⟨g, g1, g2⟩ := hb3 hm
        simp only [ABlk.wid] at g2
        have rc' := R.stCs rc e3
        have hlc' := rc'.len
        have hb := R.blk _ _ hS
        cases hb with
        | mnil k1 => rw [k1] at g1; cases g1
        | @mrow _ _ _ g' vs k1 k2 k3 k4 k5 k6 k7 k8 k9 =>
        rw [k1] at g1
        cases g1
        have hx1m := List.mem_of_getElem? e4
        have hx1 := k7 x1 hx1m
        have hk := (List.getElem?_eq_some_iff.1 e4).1
        have hkw : k * wd + wd ≤ xs.length * wd := by
          have : (k + 1) * wd ≤ xs.length * wd := Nat.mul_le_mul_right _ hk
          rw [Nat.add_mul] at this
          omega
        have hcap : xs.length * wd ≤ (ι id).cap * wd := Nat.mul_le_mul_right _ k4
        have hrun := run_storeAt (P := P) (off := k * wd + off) (v := a.eval v) hi k3 (by simp at hlc'; omega) (by omega) (All2.oneA rc)
        have hsl : (a.eval v).cells.toList.length = i.size := by omega
        have hget : ∀ q, (splice vs.toList (k * wd + off) (a.eval v).cells.toList)[q]? = if k * wd + off ≤ q ∧ q < k * wd + off + i.size then (a.eval v).cells.toList[q - (k * wd + off)]? else vs.toList[q]? := fun q => by
          unfold splice
          have ht : (vs.toList.take (k * wd + off)).length = k * wd + off := by simp; omega
          by_cases h1 : q < k * wd + off
          · rw [if_neg (by omega), List.append_assoc, List.getElem?_append_left (by omega), List.getElem?_take, if_pos h1]
          · by_cases h2 : q < k * wd + off + i.size
            · rw [if_pos ⟨by omega, h2⟩, List.append_assoc, List.getElem?_append_right (by omega), List.getElem?_append_left (by omega), ht]
            · rw [if_neg (by omega), List.getElem?_append_right (by rw [List.length_append, ht, hsl]; omega), List.getElem?_drop]
              congr 1
              simp only [List.length_append, ht, hsl]
              omega
        obtain ⟨hu, R'⟩ := R.turn (w' := w.setRow g (splice vs.toList (k * wd + off) (a.eval v).cells.toList).toArray) hS (.mrow e wd (xs.set k (splice x1 off c'))) (ι id) (σ' := σ) (fun _ _ h => h) (fun _ _ _ => rfl) (R.fit.row k9 fun k hk => setRow_other _ _ _ _ hk) (by simp [ABlk.len]) (fun _ => ⟨rfl, rfl⟩) (setRow_frame _ _) (by simp)
          (fun k hk hne => setRow_other _ _ _ _ (fun e => hne (by rw [e]; exact k1))) (fun g h => .inl h) (fun hu => by
            have hspl : (splice x1 off c').length = wd := by simp [splice]; omega
            refine .mrow k1 k2 (setRow_heap w _ _ _ _ _ k3) (by simpa using k4) k5 (by rw [List.size_toArray, splice, List.length_append, List.length_append, List.length_drop, List.length_take, hsl, Array.length_toList]; omega) (fun y hy => ?_) (fun k' y j z hy hz => ?_) k9
            · rcases List.mem_or_eq_of_mem_set hy with hy | rfl
              · exact k7 y hy
              · exact hspl
            · simp only [List.getElem?_toArray]
              rw [hget]
              by_cases hkk : k' = k
              · subst hkk
                rw [List.getElem?_set_self hk] at hy
                cases hy
                have hj : j < wd := by rw [← hspl]; exact (List.getElem?_eq_some_iff.1 hz).1
                unfold splice at hz
                have ht : (x1.take off).length = off := by simp; omega
                by_cases h1 : j < off
                · rw [if_neg (by omega)]
                  rw [List.append_assoc, List.getElem?_append_left (by omega), List.getElem?_take, if_pos h1] at hz
                  simpa using k8 k' x1 j z e4 hz
                · by_cases h2 : j < off + i.size
                  · rw [if_pos ⟨by omega, by omega⟩]
                    rw [List.append_assoc, List.getElem?_append_right (by omega), List.getElem?_append_left (by omega), ht] at hz
                    rw [show k' * wd + j - (k' * wd + off) = j - off by omega]
                    exact rc'.get hz
                  · rw [if_neg (by omega)]
                    rw [List.getElem?_append_right (by simp; omega), List.getElem?_drop] at hz
                    rw [show off + c'.length + (j - (List.take off x1 ++ c').length) = j by simp; omega] at hz
                    simpa using k8 k' x1 j z e4 hz
              · rw [List.getElem?_set_ne (fun e => hkk e.symm)] at hy
                have hk' := (List.getElem?_eq_some_iff.1 hy).1
                have hj : j < wd := by
                  rw [← k7 y (List.mem_of_getElem? hy)]
                  exact (List.getElem?_eq_some_iff.1 hz).1
                rw [if_neg]
                · simpa using k8 k' y j z hy hz
                · rintro ⟨q1, q2⟩
                  rcases Nat.lt_or_gt_of_ne hkk with hl | hl
                  · have : (k' + 1) * wd ≤ k * wd := Nat.mul_le_mul_right _ hl
                    rw [Nat.add_mul] at this
                    omega
                  · have : (k + 1) * wd ≤ k' * wd := Nat.mul_le_mul_right _ hl
                    rw [Nat.add_mul] at this
                    omega)
        exact ⟨undef, .any, _, σ, _, _, .inr ⟨rfl, by simp only [execOp, ho, g2, Sem.run_bind, hrun, Result.andThen_ok]; rfl⟩, hK, R', .any⟩
      · exact h.elim
    · exact h.elim
  · exact h.elim
end
end Go.Proofs.YtehnjhkndbcmgaaGreatDoor

namespace Go.Proofs.YtehnjhkndbcmgaaGreatDoor
open Go Go.RowKit
set_option linter.unusedVariables false
set_option maxHeartbeats 400000
section
variable {P : Program} {C : Ctx} {o : Oper} {a : Act} {w : World} {K : AV → AS → Prop} {σ : Sto} {ι : AHnd} {s : AS} {d : Nat} {S : AStore}
theorem Refs.src (R : Refs C σ ι s a w) {v : Value} {cy : AC} {ys : List (List SV)} {wd : Nat} (hv : ARep σ s.S ι v cy) (h : listOf s.S cy = some ys) (hw : ∀ y ∈ ys, y.length = wd) (hpos : 0 < wd) :
    ∃ p cap news, v = .slice p ys.length cap ∧ news.length = ys.length * wd ∧ Laid σ news wd ys ∧ (∀ u ∈ news, u.oneCell' = true) ∧ (ys ≠ [] → ∃ b o, p = some ⟨b, o, none⟩ ∧ ∀ j u, news[j]? = some u → w.cell? ⟨b, o + j, none⟩ = some u) := by
  have stay : SRep σ v (.list ys) → ∃ p cap news, v = .slice p ys.length cap ∧ news.length = ys.length * wd ∧ Laid σ news wd ys ∧ (∀ u ∈ news, u.oneCell' = true) ∧ (ys ≠ [] → ∃ b o, p = some ⟨b, o, none⟩ ∧ ∀ j u, news[j]? = some u → w.cell? ⟨b, o + j, none⟩ = some u) := fun hr => by
    obtain ⟨p, cap, vs, h1, h2, h3, h4, h5, h6, h7, b, o, h8, h9⟩ := srep_laid hr hw hpos
    exact ⟨p, cap, vs, h1, h5, h6, h7, fun hne => ⟨b, o, h8 hne, fun j u hu => R.fit _ _ (h9 j u hu)⟩⟩
  unfold listOf at h
  split at h
  · cases h; exact stay (arep_st hv)
  · cases h; exact stay (arep_full hv)
  · rename_i id n
    split at h
    · rename_i e wd' xs hS
      split at h
      · rename_i hn
        cases h
        exact stay (R.row_srep hv hS hn)
      · cases h
    · rename_i e wd' xs hS
      split at h
      · rename_i hn
        cases h
        obtain ⟨b, k1, k2, k3⟩ := arep_row hv
        rw [hS] at k1
        cases k1
        have hv' := k3 hn
        have hb := R.blk _ _ hS
        cases hb with
        | mnil m1 m2 => exact ⟨(ι id).p, (ι id).cap, [], by rw [hv', hn], by simp, Laid.nil, by simp, fun h => absurd rfl h⟩
        | @mrow _ _ _ g vs m1 m2 m3 m4 m5 m6 m7 m8 m9 =>
          by_cases h0 : ys = []
          · subst h0
            exact ⟨(ι id).p, (ι id).cap, [], by rw [hv', hn], by simp, Laid.nil, by simp, fun h => absurd rfl h⟩
          · have hwd : wd' = wd := by
              obtain ⟨y, hy⟩ := List.exists_mem_of_ne_nil _ h0
              exact (m7 y hy).symm.trans (hw y hy)
            subst hwd
            have hcap : ys.length * wd' ≤ (ι id).cap * wd' := Nat.mul_le_mul_right _ m4
            refine ⟨(ι id).p, (ι id).cap, vs.toList.take (ys.length * wd'), by rw [hv', hn], by simp; omega, ⟨m7, fun k x j y hx hy => ?_⟩, fun u hu => ?_, fun _ => ⟨g, 0, m2, fun j u hu => ?_⟩⟩
            · obtain ⟨v, v1, v2⟩ := m8 k x j y hx hy
              have hk := (List.getElem?_eq_some_iff.1 hx).1
              have hj : j < wd' := by
                rw [← m7 x (List.mem_of_getElem? hx)]
                exact (List.getElem?_eq_some_iff.1 hy).1
              have hlt : k * wd' + j < ys.length * wd' := by
                have : (k + 1) * wd' ≤ ys.length * wd' := Nat.mul_le_mul_right _ hk
                rw [Nat.add_mul] at this
                omega
              exact ⟨v, by rw [List.getElem?_take, if_pos hlt]; simpa using v1, v2⟩
            · obtain ⟨i, hi, rfl⟩ := List.getElem_of_mem hu
              have hi' : i < ys.length * wd' := by simp at hi; omega
              have hk : i / wd' < ys.length := by rw [Nat.div_lt_iff_lt_mul hpos]; exact hi'
              have hl : ys[i / wd'].length = wd' := m7 _ (List.getElem_mem hk)
              have hj : i % wd' < ys[i / wd'].length := by rw [hl]; exact Nat.mod_lt _ hpos
              obtain ⟨v, v1, v2⟩ := m8 (i / wd') _ (i % wd') _ (List.getElem?_eq_getElem hk) (List.getElem?_eq_getElem hj)
              rw [Nat.mul_comm, Nat.div_add_mod] at v1
              have e : (vs.toList.take (ys.length * wd'))[i]? = some v := by rw [List.getElem?_take, if_pos hi']; simpa using v1
              rw [List.getElem?_eq_getElem hi] at e
              cases e
              exact v2.one
            · rw [List.getElem?_take] at hu
              split at hu
              · rw [Nat.zero_add, cell_of_row w g _ _ _ _ m3]
                simpa using hu
              · cases hu
      · cases h
    · cases h
  · cases h
theorem run_grown {t ty e : TypeId} {i : TypeInfo} {z : Value} (ht : P.underlying t = some (.slice e)) (hi : P.info? e = some i) (hz : i.zero = some z) (hzs : z.cells.size = i.size) {p : Option Addr} {n cap : Nat} {olds : List Value} (hlo : olds.length = n * i.size) (hpn : p = none → cap = 0) (hnc : n ≤ cap)
    (hold : n ≠ 0 → ∃ b o, p = some ⟨b, o, none⟩ ∧ ∀ j u, olds[j]? = some u → w.cell? ⟨b, o + j, none⟩ = some u) {q : Option Addr} {m c : Nat} {news : List Value} (hl : news.length = m * i.size) (hm : 0 < m) (hq : ∃ b o, q = some ⟨b, o, none⟩ ∧ ∀ j u, news[j]? = some u → w.cell? ⟨b, o + j, none⟩ = some u)
    (hg : cap < n + m) (h63 : n + m ≤ maxLen) (hbytes : (n + m) * i.bytes ≤ 140737488355328) :
    ∃ (c' : Nat) (rest : Array Value), (Builtin.append_ #[t, t] ty #[.slice p n cap, .slice q m c]).run P w = .ok (.slice (some ⟨w.heap.size, 0, none⟩) (n + m) c') (w.drew.alloc (.cells (olds.toArray ++ news.toArray ++ rest) e)) ∧ n + m ≤ c' ∧ c' ≤ maxLen ∧ rest.size = (c' - (n + m)) * i.size := by
  have hsmall : n + m ≤ 9223372036854775807 := by simp only [maxLen] at h63; omega
  obtain ⟨b', o', rfl, hq⟩ := hq
  refine ⟨grownCap w (n + m) cap e, Builtin.zeroCells z.cells (grownCap w (n + m) cap e - (n + m)), ?_, grownCap_ge _ _ _ _, grownCap_le_maxLen _ _ _ _ h63, by rw [size_zeroCells, hzs]⟩
  cases p with
  | none =>
    have hc := hpn rfl
    subst hc
    obtain rfl : n = 0 := by omega
    have ho : olds = [] := List.eq_nil_of_length_eq_zero (by simpa using hlo)
    subst ho
    have hr := run_append_nil (P := P) w t ty e i z ht hi hz ⟨b', o', none⟩ m c news hl (fun j u hu => by rw [addr_add]; exact hq j u hu) hm (by omega) (by simp only [Nat.zero_add] at hbytes; omega)
    rw [hr]
    simp
  | some ad =>
    have hr := run_append_grow (P := P) w t ty e i z ht hi hz ad n cap olds hlo (fun j u hu => by
      by_cases h0 : n = 0
      · subst h0
        have ho : olds = [] := List.eq_nil_of_length_eq_zero (by simpa using hlo)
        subst ho
        simp at hu
      · obtain ⟨b, o, hb, hc⟩ := hold h0
        cases hb
        rw [addr_add]
        exact hc j u hu) ⟨b', o', none⟩ m c news hl (fun j u hu => by rw [addr_add]; exact hq j u hu) hg (by omega) (growslice_fits hg hbytes)
    exact hr
theorem run_append_zero {t ty e : TypeId} {i : TypeInfo} (ht : P.underlying t = some (.slice e)) (hi : P.info? e = some i) {p : Option Addr} {n cap : Nat} (hnc : n ≤ cap) (q : Option Addr) (c : Nat) :
    (Builtin.append_ #[t, t] ty #[.slice p n cap, .slice q 0 c]).run P w = .ok (.slice p n cap) w := by
  cases q <;> cases p <;> simp [Builtin.append_, run_underlying ht, sizeOf, typeInfo, hi, Builtin.lenOf, Builtin.firstCells, hnc, loadCells, loadCellsFrom, storeCells]
theorem laid_rep {vs : List Value} {wd : Nat} {xs : List (List SV)} (h : Laid σ vs wd xs) {A : Array Value} (hA : ∀ (j : Nat) (v : Value), vs[j]? = some v → A[j]? = some v) : ∀ k x j y, xs[k]? = some x → x[j]? = some y → ∃ v, A[k * wd + j]? = some v ∧ SRep σ v y := fun k x j y hx hy => by
  obtain ⟨v, v1, v2⟩ := h.2 k x j y hx hy
  exact ⟨v, hA _ _ v1, v2⟩
theorem brep_arow {S' : AStore} {ι' : AHnd} {w' : World} {g cap wd : Nat} {e : TypeId} {vs : Array Value} {xs : List (List SV)} {p : Option Addr} (hp : p = some ⟨g, 0, none⟩) (hw : w'.heap[g]? = some (.cells vs e (0, 0))) (hn : xs.length ≤ cap) (hc : cap ≤ maxLen) (hsz : vs.size = cap * wd) {σ1 : Sto}
    (hl : Laid σ1 vs.toList wd xs) (hs : ∀ p x, σ1 p = some x → layS σ w' g (xs.length * wd) p = some x) (hfree : ∀ p : Addr, p.block = g → σ p ≠ none → p.off < xs.length * wd) : BRep (layS σ w' g (xs.length * wd)) S' ι' w' ⟨p, cap, some g⟩ (.arow e wd xs) := by
  refine .arow rfl hp hw hn hc hsz hl.1 (fun k x j y hx hy => ?_) (fun p hp hne => ?_) (fun _ q2 q3 => by rw [layS_hard (Nat.mul_pos (List.length_pos_iff.2 q3) (by omega)), look_hard hw])
  · obtain ⟨v, v1, v2⟩ := hl.2 k x j y hx hy
    have hk := (List.getElem?_eq_some_iff.1 hx).1
    have hj : j < wd := by
      rw [← hl.1 x (List.mem_of_getElem? hx)]
      exact (List.getElem?_eq_some_iff.1 hy).1
    have hlt : k * wd + j < xs.length * wd := by
      have : (k + 1) * wd ≤ xs.length * wd := Nat.mul_le_mul_right _ hk
      rw [Nat.add_mul] at this
      omega
    refine ⟨v, by simpa using v1, v2.mono hs, ?_⟩
    rw [layS_in hlt, cell_of_row w' g _ _ _ _ hw]
    simpa using v1
  · unfold layS at hne
    split at hne
    · rename_i h; exact h.2.2
    · exact hfree p hp hne
theorem snd_append {t e : TypeId} {i : TypeInfo} {z : Value} {x y : Operand} {x' y' : Opd} {mu : Bool} (ho : o.op = .call { callee := .builtin .append, args := #[x, y], argTypes := #[t, t] }) (hx : trOpd C.n x = some x') (hy : trOpd C.n y = some y')
    (ht : P.underlying t = some (.slice e)) (hi : P.info? e = some i) (hz : i.zero = some z) (hzs : z.cells.size = i.size) (hpos : 0 < i.size) (R : Refs C σ ι s a w) (h : Kd.go P d s K (.append mu e i.size i.bytes x' y')) : Good P C o a w K := by
  have rx := R.ev hx
  have ry := R.ev hy
  have hex : ∀ v w', (Builtin.append_ #[t, t] o.type #[a.eval x, a.eval y]).run P w = .ok v w' → (execOp a.eval o).run P w = .ok (.value v) w' := fun v w' hr => by
    simp only [execOp, ho, resolve, invoke, builtin, Sem.run_bind, Sem.run_pure, Result.andThen_ok, List.map_toArray, List.map_cons, List.map_nil, hr]
  simp only [Kd.go] at h
  split at h
  · rename_i cx cy e1 e2
    rw [e1] at rx
    rw [e2] at ry
    replace rx := vrep_one rx
    replace ry := vrep_one ry
    split at h
    · rename_i ys hys
      obtain ⟨hyw, h⟩ := h
      obtain ⟨q, c, news, hvy, hnl, hnlaid, hn1, hncell⟩ := R.src ry hys hyw hpos
      have fresh : ∀ (p : Option Addr) (xs : List (List SV)) (cap : Nat) (olds : List Value), a.eval x = .slice p xs.length cap → olds.length = xs.length * i.size → (p = none → cap = 0) → xs.length ≤ cap → (xs.length ≠ 0 → ∃ b o, p = some ⟨b, o, none⟩ ∧ ∀ j u, olds[j]? = some u → w.cell? ⟨b, o + j, none⟩ = some u) → Laid σ olds i.size xs → ys ≠ [] → cap < xs.length + ys.length →
          xs.length + ys.length ≤ maxLen → (xs.length + ys.length) * i.bytes ≤ 140737488355328 →
          ∃ c' A, (execOp a.eval o).run P w = .ok (.value (.slice (some ⟨w.heap.size, 0, none⟩) (xs ++ ys).length c')) (w.drew.alloc (.cells A e)) ∧ (xs ++ ys).length ≤ c' ∧ c' ≤ maxLen ∧ A.size = c' * i.size ∧ Laid σ A.toList i.size (xs ++ ys) :=
        fun p xs cap olds hv hol hpn hnc hold hlaid hne hg h63 hby => by
          have hm : 0 < ys.length := List.length_pos_iff.2 hne
          obtain ⟨b, oo, hq, hq2⟩ := hncell hne
          obtain ⟨c', rest, r1, r2, r3, r4⟩ := run_grown (P := P) (ty := o.type) (w := w) ht hi hz hzs hol hpn hnc hold (q := q) (m := ys.length) (c := c) hnl hm ⟨b, oo, hq, hq2⟩ hg h63 hby
          refine ⟨c', _, hex _ _ (by rw [hv, hvy, r1, List.length_append]), by simpa using r2, r3, ?_, ?_⟩
          · simp only [Array.size_append, List.size_toArray, hol, hnl, r4, ← Nat.add_mul]
            congr 1
            omega
          · have := (hlaid.append hnlaid hol).more rest.toList
            simpa using this
      split at h
      · -- nothing owned yet
        rename_i xs
        obtain ⟨hid, hnil, hxw, h63, hby, hK⟩ := h
        have hr := arep_full rx
        obtain ⟨p, cap, olds, k1, k2, k3, k4, k5, k6, k7, b, oo, k8, k9⟩ := srep_laid hr hxw hpos
        have hcap : cap = xs.length := by
          generalize a.eval x = v at rx k1
          subst k1
          cases rx with | full _ => rfl
        by_cases hne : ys = []
        · subst hne
          subst hcap
          have hrun := hex _ _ (by rw [k1, hvy]; exact run_append_zero (P := P) (w := w) (ty := o.type) ht hi (p := p) (n := xs.length) (cap := xs.length) (Nat.le_refl _) q c)
          cases mu with
          | true =>
            have hxs := hnil rfl rfl
            subst hxs
            simp only [if_true] at hK
            obtain ⟨hu, R'⟩ := R.fresh (w' := w) hid (.mrow e i.size ([] ++ [])) ⟨p, 0, none⟩ (Ext.refl _ _) R.fit (Below.refl _ _) (by simp) (fun S' ι' hu => .mnil rfl rfl)
            exact ⟨_, _, _, σ, _, w, .inl hrun, hK, R', .one (.row (b := .mrow e i.size ([] ++ [])) (by simp [AS.set, updE_same]) (Nat.le_refl _) rfl fun _ => by simp [updE_same])⟩
          | false =>
            simp only [Bool.false_eq_true, if_false, List.append_nil] at hK
            rw [k1] at hr
            obtain ⟨hu, R'⟩ := R.fresh (w' := w) hid (.arow e i.size xs) ⟨p, xs.length, none⟩ (Ext.refl _ _) R.fit (Below.refl _ _) (by simp) (fun S' ι' hu => .afull rfl rfl hxw hr)
            exact ⟨_, _, _, σ, _, w, .inl hrun, hK, R', .one (.row (b := .arow e i.size xs) (by simp [AS.set, updE_same]) (Nat.le_refl _) rfl fun _ => by simp [updE_same])⟩
        · have hm : 0 < ys.length := List.length_pos_iff.2 hne
          obtain ⟨c', A, r1, r2, r3, r4, r5⟩ := fresh p xs cap olds k1 k5 k4 k2 (fun h0 => ⟨b, oo, k8 (by intro e; subst e; simp at h0), fun j u hu => R.fit _ _ (k9 j u hu)⟩) k6 hne (by omega) h63 hby
          have hheap : (w.drew.alloc (.cells A e)).heap[w.heap.size]? = some (.cells A e (0, 0)) := heap_alloc_new w.drew _
          have hmore : More w (w.drew.alloc (.cells A e)) := (Below.refl _ _).drew.alloc (Nat.le_refl _) _
          cases mu with
          | true =>
            simp only [if_true] at hK
            obtain ⟨hu, R'⟩ := R.fresh (w' := w.drew.alloc (.cells A e)) hid (.mrow e i.size (xs ++ ys)) ⟨some ⟨w.heap.size, 0, none⟩, c', some w.heap.size⟩ (Ext.refl _ _) (R.fit.below hmore) hmore (by simp) (fun S' ι' hu => .mrow rfl rfl hheap r2 r3 r4 r5.1 (laid_rep r5 fun j v hv => by simpa using hv) (fun p hp => R.fit.no (by omega)))
            exact ⟨_, _, _, σ, _, _, .inl r1, hK, R', .one (.row (b := .mrow e i.size (xs ++ ys)) (by simp [AS.set, updE_same]) (Nat.le_refl _) rfl fun _ => by simp [updE_same])⟩
          | false =>
            simp only [Bool.false_eq_true, if_false] at hK
            obtain ⟨hu, R'⟩ := R.fresh (w' := w.drew.alloc (.cells A e)) hid (.arow e i.size (xs ++ ys)) ⟨some ⟨w.heap.size, 0, none⟩, c', some w.heap.size⟩ (Ext.lay (k := (xs ++ ys).length * i.size) R.fit (Nat.le_refl _)) (layS_fit (R.fit.below hmore)) hmore (by simp)
              (fun S' ι' hu => brep_arow rfl hheap r2 r3 r4 r5 (Ext.lay R.fit (Nat.le_refl _)).keep (fun p hp hne => absurd (R.fit.no (by omega)) hne))
            exact ⟨_, _, _, _, _, _, .inl r1, hK, R', .one (.row (b := .arow e i.size (xs ++ ys)) (by simp [AS.set, updE_same]) (Nat.le_refl _) rfl fun _ => by simp [updE_same])⟩
      · rename_i id m
        obtain ⟨b, hb1, hb2, hb3⟩ := arep_row rx
        split at h
        · -- a row that only grows
          rename_i e' wd' xs hS
          obtain ⟨⟨rfl, rfl, rfl⟩, h63, hby, hK⟩ := h
          rw [hS] at hb1
          cases hb1
          have hv := hb3 rfl
          have hb := R.blk _ _ hS
          by_cases hne : ys = []
          · subst hne
            have hnc : xs.length ≤ (ι id).cap := by cases hb <;> first | exact Nat.zero_le _ | assumption | omega
            have hrun := hex _ _ (by rw [hv, hvy]; exact run_append_zero (P := P) (w := w) (ty := o.type) ht hi (p := (ι id).p) hnc q c)
            have hset : s.set id (.arow e' i.size (xs ++ [])) = s := by
              rw [List.append_nil]
              obtain ⟨env, S⟩ := s
              simp only [AS.set, AS.mk.injEq, true_and]
              funext k
              unfold updE
              split
              · rename_i hk; subst hk; exact hS.symm
              · rfl
            rw [hset] at hK
            refine ⟨_, _, s, σ, ι, w, .inl hrun, hK, R, ?_⟩
            rw [List.append_nil]
            exact .one (.row hS (Nat.le_refl _) rfl fun _ => rfl)
          · have hm : 0 < ys.length := List.length_pos_iff.2 hne
            have grow : ∀ (olds : List Value), olds.length = xs.length * i.size → ((ι id).p = none → (ι id).cap = 0) → xs.length ≤ (ι id).cap → (xs.length ≠ 0 → ∃ b o, (ι id).p = some ⟨b, o, none⟩ ∧ ∀ j u, olds[j]? = some u → w.cell? ⟨b, o + j, none⟩ = some u) → Laid σ olds i.size xs → (ι id).cap < xs.length + ys.length → Good P C o a w K := fun olds ho1 ho2 ho3 ho4 ho5 ho6 => by
              obtain ⟨c', A, r1, r2, r3, r4, r5⟩ := fresh _ xs _ olds hv ho1 ho2 ho3 ho4 ho5 hne ho6 h63 hby
              have hheap : (w.drew.alloc (.cells A e')).heap[w.heap.size]? = some (.cells A e' (0, 0)) := heap_alloc_new w.drew _
              have hmore : More w (w.drew.alloc (.cells A e')) := (Below.refl _ _).drew.alloc (Nat.le_refl _) _
              obtain ⟨hu, R'⟩ := R.turn (w' := w.drew.alloc (.cells A e')) hS (.arow e' i.size (xs ++ ys)) ⟨some ⟨w.heap.size, 0, none⟩, c', some w.heap.size⟩ (σ' := layS σ (w.drew.alloc (.cells A e')) w.heap.size ((xs ++ ys).length * i.size)) (Ext.lay R.fit (Nat.le_refl _)).keep
                (fun p hp hlt => layS_out (by omega)) (layS_fit (R.fit.below hmore)) (by simp [ABlk.len]) (fun he => absurd (by simpa [ABlk.len] using he) hne) ⟨rfl, rfl, rfl⟩ hmore.size (fun g hg _ => hmore.block g hg) (fun g hg => .inr (by simp at hg; omega))
                (fun hu => brep_arow rfl hheap r2 r3 r4 r5 (Ext.lay R.fit (Nat.le_refl _)).keep (fun p hp hne => absurd (R.fit.no (by omega)) hne))
              exact ⟨_, _, _, _, _, _, .inl r1, hK, R', .one (.row (b := .arow e' i.size (xs ++ ys)) (by simp [AS.set, updE_same]) (Nat.le_refl _) rfl fun _ => by simp [updE_same])⟩
            cases hb with
            | afull k1 k2 k3 k4 =>
              obtain ⟨p, cap, olds, j1, j2, j3, j4, j5, j6, j7, b, oo, j8, j9⟩ := srep_laid k4 k3 hpos
              simp only [Value.slice.injEq] at j1
              obtain ⟨rfl, -, rfl⟩ := j1
              exact grow olds j5 j4 j2 (fun h0 => ⟨b, oo, j8 (by intro e; subst e; simp at h0), fun j u hu => R.fit _ _ (j9 j u hu)⟩) j6 (by omega)
            | @arow _ _ _ g vs k1 k2 k3 k4 k5 k6 k7 k8 k9 kh =>
              have hlaid : Laid σ (vs.toList.take (xs.length * i.size)) i.size xs := ⟨k7, fun k x j y hx hy => by
                obtain ⟨v, v1, v2, v3⟩ := k8 k x j y hx hy
                have hlt := k9 _ rfl (by rw [v3]; simp)
                exact ⟨v, by rw [List.getElem?_take, if_pos hlt]; simpa using v1, v2⟩⟩
              have hcapw : xs.length * i.size ≤ (ι id).cap * i.size := Nat.mul_le_mul_right _ k4
              have htl : (vs.toList.take (xs.length * i.size)).length = xs.length * i.size := by simp; omega
              by_cases hroom : xs.length + ys.length ≤ (ι id).cap
              · have hcapw2 : (xs.length + ys.length) * i.size ≤ (ι id).cap * i.size := Nat.mul_le_mul_right _ hroom
                rw [Nat.add_mul] at hcapw2
                obtain ⟨bq, oq, hq, hq2⟩ := hncell hne
                have hr := run_append_room (P := P) w t o.type e' i ht hi g xs.length (ι id).cap vs k3 ⟨bq, oq, none⟩ ys.length c news hnl (fun j u hu => by rw [addr_add]; exact hq2 j u hu) hn1 hroom (by omega)
                have hrun := hex _ _ (by rw [hv, hvy, k2, hq]; exact hr)
                generalize hA : (vs.toList.take (xs.length * i.size) ++ news ++ vs.toList.drop (xs.length * i.size + news.length)).toArray = A at hrun
                have hAl : A.toList = vs.toList.take (xs.length * i.size) ++ news ++ vs.toList.drop (xs.length * i.size + news.length) := by rw [← hA]
                have hAs : A.size = (ι id).cap * i.size := by
                  rw [← hA]
                  simp only [List.size_toArray, List.length_append, htl, List.length_drop, Array.length_toList]
                  omega
                have hheap : (w.setRow g A).heap[g]? = some (.cells A e' (0, 0)) := setRow_heap w _ _ _ _ _ k3
                have hl : Laid σ A.toList i.size (xs ++ ys) := by
                  rw [hAl]
                  exact (hlaid.append hnlaid htl).more _
                have hkeepc : ∀ j u, σ ⟨g, j, none⟩ = some u → (w.setRow g A).cell? ⟨g, j, none⟩ = some u := fun j u hu => by
                  have hlt := k9 ⟨g, j, none⟩ rfl (by rw [hu]; simp)
                  have h1 := R.fit _ _ hu
                  rw [look_none rfl] at h1
                  rw [cell_of_row w g _ _ _ _ k3] at h1
                  rw [cell_of_row _ g _ _ _ _ hheap]
                  have : A.toList[j]? = some u := by
                    rw [hAl, List.append_assoc, List.getElem?_append_left (by rw [htl]; exact hlt), List.getElem?_take, if_pos hlt]
                    simpa using h1
                  simpa using this
                have hkeepg : ∀ (p : Addr) (u : Value), p.block = g → σ p = some u → look (w.setRow g A) p = some u := fun p u hb hp => by
                  obtain ⟨pb, po, ps⟩ := p
                  have hb' : pb = g := hb
                  clear hb
                  rw [hb'] at hp ⊢
                  match ps, hp with
                  | none, hp => rw [look_none rfl]; exact hkeepc _ _ hp
                  | some 0, hp =>
                    exfalso
                    have h1 := R.fit _ _ hp
                    have h2 := k9 ⟨g, po, some 0⟩ rfl (by rw [hp]; simp)
                    unfold look at h1
                    simp only [k3] at h1
                    split at h1
                    · have h3 : xs.length * i.size ≤ (ι id).cap * i.size := Nat.mul_le_mul_right _ (by assumption)
                      have h4 : vs.size = (ι id).cap * i.size := by assumption
                      simp only at h2
                      omega
                    · cases h1
                  | some (n + 1), hp =>
                    obtain ⟨_, _, _, rfl⟩ := look_hardIs (R.fit _ _ hp)
                    exact look_hard hheap
                have hfit0 : Fit σ (w.setRow g A) := fun p u hp => by
                  by_cases hb : p.block = g
                  · exact hkeepg p u hb hp
                  · exact (look_of_block (setRow_other _ _ _ _ hb)).trans (R.fit _ _ hp)
                have hkeep := layS_keep (w' := w.setRow g A) (g := g) (k := (xs ++ ys).length * i.size) hkeepg
                obtain ⟨hu, R'⟩ := R.turn (w' := w.setRow g A) hS (.arow e' i.size (xs ++ ys)) ⟨(ι id).p, (ι id).cap, some g⟩ (σ' := layS σ (w.setRow g A) g ((xs ++ ys).length * i.size)) hkeep
                  (fun p hp _ => layS_out (fun e => hp (by rw [e]; exact k1))) (layS_fit hfit0) (by simp [ABlk.len]) (fun he => absurd (by simpa [ABlk.len] using he) hne) (setRow_frame _ _) (by simp) (fun k hk hne => setRow_other _ _ _ _ (fun e => hne (by rw [e]; exact k1))) (fun g' hg' => .inl (by simp at hg'; subst hg'; exact k1))
                  (fun hu => brep_arow k2 hheap (by simpa using hroom) k5 hAs hl hkeep (fun p hp hne => by have := k9 p hp hne; simp [Nat.add_mul]; omega))
                exact ⟨_, _, _, _, _, _, .inl hrun, hK, R', .one (.row (b := .arow e' i.size (xs ++ ys)) (by simp [AS.set, updE_same]) (Nat.le_refl _) rfl fun _ => by simp [updE_same, k2])⟩
              · exact grow _ htl (by rw [k2]; simp) k4 (fun _ => ⟨g, 0, k2, fun j u hu => by
                  rw [List.getElem?_take] at hu
                  split at hu
                  · rw [Nat.zero_add, cell_of_row w g _ _ _ _ k3]
                    simpa using hu
                  · cases hu⟩) hlaid (by omega)
        · -- a row that is written
          rename_i e' wd' xs hS
          obtain ⟨⟨rfl, rfl, rfl⟩, h63, hby, hK⟩ := h
          rw [hS] at hb1
          cases hb1
          have hv := hb3 rfl
          have hb := R.blk _ _ hS
          by_cases hne : ys = []
          · subst hne
            have hnc : xs.length ≤ (ι id).cap := by cases hb <;> first | exact Nat.zero_le _ | assumption | omega
            have hrun := hex _ _ (by rw [hv, hvy]; exact run_append_zero (P := P) (w := w) (ty := o.type) ht hi (p := (ι id).p) hnc q c)
            have hset : s.set id (.mrow e' i.size (xs ++ [])) = s := by
              rw [List.append_nil]
              obtain ⟨env, S⟩ := s
              simp only [AS.set, AS.mk.injEq, true_and]
              funext k
              unfold updE
              split
              · rename_i hk; subst hk; exact hS.symm
              · rfl
            rw [hset] at hK
            refine ⟨_, _, s, σ, ι, w, .inl hrun, hK, R, ?_⟩
            rw [List.append_nil]
            exact .one (.row hS (Nat.le_refl _) rfl fun _ => rfl)
          · have hm : 0 < ys.length := List.length_pos_iff.2 hne
            have grow : ∀ (olds : List Value), olds.length = xs.length * i.size → ((ι id).p = none → (ι id).cap = 0) → xs.length ≤ (ι id).cap → (xs.length ≠ 0 → ∃ b o, (ι id).p = some ⟨b, o, none⟩ ∧ ∀ j u, olds[j]? = some u → w.cell? ⟨b, o + j, none⟩ = some u) → Laid σ olds i.size xs → (ι id).cap < xs.length + ys.length → Good P C o a w K := fun olds ho1 ho2 ho3 ho4 ho5 ho6 => by
              obtain ⟨c', A, r1, r2, r3, r4, r5⟩ := fresh _ xs _ olds hv ho1 ho2 ho3 ho4 ho5 hne ho6 h63 hby
              have hheap : (w.drew.alloc (.cells A e')).heap[w.heap.size]? = some (.cells A e' (0, 0)) := heap_alloc_new w.drew _
              have hmore : More w (w.drew.alloc (.cells A e')) := (Below.refl _ _).drew.alloc (Nat.le_refl _) _
              obtain ⟨hu, R'⟩ := R.turn (w' := w.drew.alloc (.cells A e')) hS (.mrow e' i.size (xs ++ ys)) ⟨some ⟨w.heap.size, 0, none⟩, c', some w.heap.size⟩ (σ' := σ) (fun _ _ h => h)
                (fun _ _ _ => rfl) (R.fit.below hmore) (by simp [ABlk.len]) (fun he => absurd (by simpa [ABlk.len] using he) hne) ⟨rfl, rfl, rfl⟩ hmore.size (fun g hg _ => hmore.block g hg) (fun g hg => .inr (by simp at hg; omega))
                (fun hu => .mrow rfl rfl hheap r2 r3 r4 r5.1 (laid_rep r5 fun j v hv => by simpa using hv) (fun p hp => R.fit.no (by omega)))
              exact ⟨_, _, _, _, _, _, .inl r1, hK, R', .one (.row (b := .mrow e' i.size (xs ++ ys)) (by simp [AS.set, updE_same]) (Nat.le_refl _) rfl fun _ => by simp [updE_same])⟩
            cases hb with
            | mnil k1 k2 => exact grow [] (by simp) (fun _ => k2) (Nat.zero_le _) (by simp) Laid.nil (by rw [k2]; simpa using hm)
            | @mrow _ _ _ g vs k1 k2 k3 k4 k5 k6 k7 k8 k9 =>
              have hlaid : Laid σ (vs.toList.take (xs.length * i.size)) i.size xs := ⟨k7, fun k x j y hx hy => by
                obtain ⟨v, v1, v2⟩ := k8 k x j y hx hy
                have hk := (List.getElem?_eq_some_iff.1 hx).1
                have hj : j < i.size := by
                  rw [← k7 x (List.mem_of_getElem? hx)]
                  exact (List.getElem?_eq_some_iff.1 hy).1
                have hlt : k * i.size + j < xs.length * i.size := by
                  have : (k + 1) * i.size ≤ xs.length * i.size := Nat.mul_le_mul_right _ hk
                  rw [Nat.add_mul] at this
                  omega
                exact ⟨v, by rw [List.getElem?_take, if_pos hlt]; simpa using v1, v2⟩⟩
              have hcapw : xs.length * i.size ≤ (ι id).cap * i.size := Nat.mul_le_mul_right _ k4
              have htl : (vs.toList.take (xs.length * i.size)).length = xs.length * i.size := by simp; omega
              by_cases hroom : xs.length + ys.length ≤ (ι id).cap
              · have hcapw2 : (xs.length + ys.length) * i.size ≤ (ι id).cap * i.size := Nat.mul_le_mul_right _ hroom
                rw [Nat.add_mul] at hcapw2
                obtain ⟨bq, oq, hq, hq2⟩ := hncell hne
                have hr := run_append_room (P := P) w t o.type e' i ht hi g xs.length (ι id).cap vs k3 ⟨bq, oq, none⟩ ys.length c news hnl (fun j u hu => by rw [addr_add]; exact hq2 j u hu) hn1 hroom (by omega)
                have hrun := hex _ _ (by rw [hv, hvy, k2, hq]; exact hr)
                generalize hA : (vs.toList.take (xs.length * i.size) ++ news ++ vs.toList.drop (xs.length * i.size + news.length)).toArray = A at hrun
                have hAl : A.toList = vs.toList.take (xs.length * i.size) ++ news ++ vs.toList.drop (xs.length * i.size + news.length) := by rw [← hA]
                have hAs : A.size = (ι id).cap * i.size := by
                  rw [← hA]
                  simp only [List.size_toArray, List.length_append, htl, List.length_drop, Array.length_toList]
                  omega
                have hheap : (w.setRow g A).heap[g]? = some (.cells A e' (0, 0)) := setRow_heap w _ _ _ _ _ k3
                have hl : Laid σ A.toList i.size (xs ++ ys) := by
                  rw [hAl]
                  exact (hlaid.append hnlaid htl).more _
                obtain ⟨hu, R'⟩ := R.turn (w' := w.setRow g A) hS (.mrow e' i.size (xs ++ ys)) ⟨(ι id).p, (ι id).cap, some g⟩ (σ' := σ) (fun _ _ h => h)
                  (fun _ _ _ => rfl) (R.fit.row k9 fun k hk => setRow_other _ _ _ _ hk) (by simp [ABlk.len]) (fun he => absurd (by simpa [ABlk.len] using he) hne) (setRow_frame _ _) (by simp) (fun k hk hne => setRow_other _ _ _ _ (fun e => hne (by rw [e]; exact k1))) (fun g' hg' => .inl (by simp at hg'; subst hg'; exact k1))
                  (fun hu => .mrow rfl k2 hheap (by simpa using hroom) k5 hAs hl.1 (laid_rep hl fun j v hv => by simpa using hv) k9)
                exact ⟨_, _, _, _, _, _, .inl hrun, hK, R', .one (.row (b := .mrow e' i.size (xs ++ ys)) (by simp [AS.set, updE_same]) (Nat.le_refl _) rfl fun _ => by simp [updE_same, k2])⟩
              · exact grow _ htl (by rw [k2]; simp) k4 (fun _ => ⟨g, 0, k2, fun j u hu => by
                  rw [List.getElem?_take] at hu
                  split at hu
                  · rw [Nat.zero_add, cell_of_row w g _ _ _ _ k3]
                    simpa using hu
                  · cases hu⟩) hlaid (by omega)
        · exact h.elim
      · exact h.elim
    · exact h.elim
  · exact h.elim
theorem laid_take {vs : List Value} {wd : Nat} {xs : List (List SV)} (h : Laid σ vs wd xs) (k : Nat) : Laid σ (vs.take (k * wd)) wd (xs.take k) := by
  refine ⟨fun x hx => h.1 x (List.mem_of_mem_take hx), fun kk x j y hx hy => ?_⟩
  rw [List.getElem?_take] at hx
  split at hx
  · rename_i hlt
    obtain ⟨v, v1, v2⟩ := h.2 kk x j y hx hy
    have hj : j < wd := by
      rw [← h.1 x (List.mem_of_getElem? hx)]
      exact (List.getElem?_eq_some_iff.1 hy).1
    have hlt2 : kk * wd + j < k * wd := by
      have : (kk + 1) * wd ≤ k * wd := Nat.mul_le_mul_right _ hlt
      rw [Nat.add_mul] at this
      omega
    exact ⟨v, by rw [List.getElem?_take, if_pos hlt2]; exact v1, v2⟩
  · cases hx
theorem laid_drop {vs : List Value} {wd : Nat} {xs : List (List SV)} (h : Laid σ vs wd xs) (k : Nat) : Laid σ (vs.drop (k * wd)) wd (xs.drop k) := by
  refine ⟨fun x hx => h.1 x (List.mem_of_mem_drop hx), fun kk x j y hx hy => ?_⟩
  rw [List.getElem?_drop] at hx
  obtain ⟨v, v1, v2⟩ := h.2 _ x j y hx hy
  refine ⟨v, ?_, v2⟩
  rw [List.getElem?_drop, ← v1]
  congr 1
  rw [Nat.add_mul]
  omega
theorem strCells_laid (b : ByteArray) : Laid σ (Lib.strCells b) 1 (byteRow b) := by
  refine ⟨fun x hx => ?_, fun k x j y hx hy => ?_⟩
  · unfold byteRow at hx
    obtain ⟨c, _, rfl⟩ := List.mem_map.1 hx
    rfl
  · unfold byteRow at hx
    rw [List.getElem?_map, Option.map_eq_some_iff] at hx
    obtain ⟨c, hc, rfl⟩ := hx
    cases j with
    | succ j => simp at hy
    | zero =>
      simp only [List.getElem?_cons_zero, Option.some.injEq] at hy
      subst hy
      refine ⟨.int .u8 (c.toNat : Int), ?_, .int ?_⟩
      · unfold Lib.strCells
        rw [Nat.mul_one, Nat.add_zero, List.getElem?_map, hc]
        rfl
      · have := c.toNat_lt
        simp only [inR, IntKind.min, IntKind.max, IntKind.signed, IntKind.bits]
        constructor <;> simp <;> omega
theorem run_appS_zero {t u ty e : TypeId} {i : TypeInfo} (ht : P.underlying t = some (.slice e)) (hu : P.underlying u = some .string) (hi : P.info? e = some i) {p : Option Addr} {n cap : Nat} (hnc : n ≤ cap) {b : ByteArray} (hb : b.size = 0) :
    (Builtin.append_ #[t, u] ty #[.slice p n cap, .string b]).run P w = .ok (.slice p n cap) w := by
  have hbd : b.data = #[] := Array.eq_empty_of_size_eq_zero hb
  cases p <;> simp [Builtin.append_, run_underlying ht, run_underlying hu, sizeOf, typeInfo, hi, Builtin.lenOf, Builtin.firstCells, hnc, storeCells, hb, hbd]
theorem run_appS_grown {t u ty e : TypeId} {i : TypeInfo} (ht : P.underlying t = some (.slice e)) (hu : P.underlying u = some .string) (hi : P.info? e = some i) (hz : i.zero = some (.int .u8 0)) (hs1 : i.size = 1) (hb1 : i.bytes = 1) {p : Option Addr} {n cap : Nat} {olds : List Value} (hlo : olds.length = n * 1) (hpn : p = none → cap = 0) (hnc : n ≤ cap)
    (hold : n ≠ 0 → ∃ b o, p = some ⟨b, o, none⟩ ∧ ∀ j u, olds[j]? = some u → w.cell? ⟨b, o + j, none⟩ = some u) {b : ByteArray} (hm : 0 < b.size)
    (hg : cap < n + b.size) (h63 : n + b.size ≤ 140737488355328) :
    ∃ (c' : Nat) (rest : Array Value), (Builtin.append_ #[t, u] ty #[.slice p n cap, .string b]).run P w = .ok (.slice (some ⟨w.heap.size, 0, none⟩) (n + b.size) c') (w.drew.alloc (.cells (olds.toArray ++ (Lib.strCells b).toArray ++ rest) e)) ∧ n + b.size ≤ c' ∧ c' ≤ maxLen ∧ rest.size = c' - (n + b.size) := by
  have h63' : n + b.size ≤ maxLen := by simp only [maxLen]; omega
  refine ⟨grownCap w (n + b.size) cap e, Builtin.zeroCells #[.int .u8 0] (grownCap w (n + b.size) cap e - (n + b.size)), ?_, grownCap_ge _ _ _ _, grownCap_le_maxLen _ _ _ _ h63', by rw [size_zeroCells]; simp⟩
  have hzc : (Value.int .u8 0).cells = #[.int .u8 0] := rfl
  cases p with
  | none =>
    have hc := hpn rfl
    subst hc
    obtain rfl : n = 0 := by omega
    have ho : olds = [] := List.eq_nil_of_length_eq_zero (by simpa using hlo)
    subst ho
    have hr := run_append_nil_string (P := P) w t u ty e i _ ht hu hi hz b hm (by omega) (by rw [hb1]; omega)
    rw [hr, hzc]
    simp only [Nat.zero_add, List.toArray, Array.append_assoc, Result.ok.injEq, true_and]
    congr 2
    apply Array.ext'
    simp [Lib.strCells]
  | some ad =>
    have hr := Lib.run_append_grow_string (P := P) w t u ty e i _ ht hu hi hz ad n cap olds (by rw [hs1]; exact hlo) (fun j u hu => by
      by_cases h0 : n = 0
      · subst h0
        have ho : olds = [] := List.eq_nil_of_length_eq_zero (by simpa using hlo)
        subst ho
        simp at hu
      · obtain ⟨b, o, hb, hc⟩ := hold h0
        cases hb
        rw [addr_add]
        exact hc j u hu) b hg (by omega) (growslice_fits hg (by rw [hb1]; omega))
    rw [hr, hzc]
theorem snd_appS {t u e : TypeId} {i : TypeInfo} {x y : Operand} {x' y' : Opd} (ho : o.op = .call { callee := .builtin .append, args := #[x, y], argTypes := #[t, u] }) (hx : trOpd C.n x = some x') (hy : trOpd C.n y = some y')
    (ht : P.underlying t = some (.slice e)) (hu : P.underlying u = some .string) (hi : P.info? e = some i) (hz : i.zero = some (.int .u8 0)) (hs1 : i.size = 1) (hb1 : i.bytes = 1) (R : Refs C σ ι s a w) (h : Kd.go P d s K (.appS e x' y')) : Good P C o a w K := by
  have rx := R.ev hx
  have ry := R.ev hy
  have hex : ∀ v w', (Builtin.append_ #[t, u] o.type #[a.eval x, a.eval y]).run P w = .ok v w' → (execOp a.eval o).run P w = .ok (.value v) w' := fun v w' hr => by
    simp only [execOp, ho, resolve, invoke, builtin, Sem.run_bind, Sem.run_pure, Result.andThen_ok, List.map_toArray, List.map_cons, List.map_nil, hr]
  simp only [Kd.go] at h
  split at h
  · rename_i cx bs e1 e2
    rw [e1] at rx
    rw [e2] at ry
    replace rx := vrep_one rx
    have hvy : a.eval y = .string bs := by
      have := arep_st (vrep_one ry)
      generalize a.eval y = v at this
      cases this with
      | str _ => rfl
    have hnlaid : Laid σ (Lib.strCells bs) 1 (byteRow bs) := strCells_laid bs
    have hbl := byteRow_len bs
    have hnl : (Lib.strCells bs).length = bs.size := Lib.strCells_length bs
    have hnil : bs.size = 0 → byteRow bs = [] := fun h0 => List.eq_nil_of_length_eq_zero (by rw [hbl, h0])
    have fresh : ∀ (p : Option Addr) (xs : List (List SV)) (cap : Nat) (olds : List Value), a.eval x = .slice p xs.length cap → olds.length = xs.length * 1 → (p = none → cap = 0) → xs.length ≤ cap → (xs.length ≠ 0 → ∃ b o, p = some ⟨b, o, none⟩ ∧ ∀ j u, olds[j]? = some u → w.cell? ⟨b, o + j, none⟩ = some u) → Laid σ olds 1 xs → 0 < bs.size → cap < xs.length + bs.size →
        xs.length + bs.size ≤ 140737488355328 →
        ∃ c' A, (execOp a.eval o).run P w = .ok (.value (.slice (some ⟨w.heap.size, 0, none⟩) (xs ++ byteRow bs).length c')) (w.drew.alloc (.cells A e)) ∧ (xs ++ byteRow bs).length ≤ c' ∧ c' ≤ maxLen ∧ A.size = c' * 1 ∧ Laid σ A.toList 1 (xs ++ byteRow bs) :=
      fun p xs cap olds hv hol hpn hnc hold hlaid hm hg h63 => by
        obtain ⟨c', rest, r1, r2, r3, r4⟩ := run_appS_grown (P := P) (ty := o.type) (w := w) ht hu hi hz hs1 hb1 hol hpn hnc hold hm hg h63
        refine ⟨c', _, hex _ _ (by rw [hv, hvy, r1, List.length_append, hbl]), by rw [List.length_append, hbl]; exact r2, r3, ?_, ?_⟩
        · simp only [Array.size_append, List.size_toArray, hol, hnl, r4]
          omega
        · have := (hlaid.append hnlaid hol).more rest.toList
          simpa using this
    split at h
    · -- nothing owned yet
      rename_i xs
      obtain ⟨⟨hid, rfl⟩, h63, hK⟩ := h
      have hr := arep_full rx
      obtain ⟨p, cap, olds, k1, k2, k3, k4, k5, k6, k7, b, oo, k8, k9⟩ := srep_laid (wd := 1) hr (by simp) (by decide)
      have hcap : cap = 0 := by
        generalize a.eval x = v at rx k1
        subst k1
        cases rx with | full _ => rfl
      subst hcap
      by_cases hne : bs.size = 0
      · have hrun := hex _ _ (by rw [k1, hvy]; exact run_appS_zero (P := P) (w := w) (ty := o.type) ht hu hi (p := p) (n := 0) (cap := 0) (Nat.le_refl _) hne)
        rw [hnil hne, hne] at hK
        obtain ⟨hu', R'⟩ := R.fresh (w' := w) hid (.mrow e 1 []) ⟨p, 0, none⟩ (Ext.refl _ _) R.fit (Below.refl _ _) (by simp) (fun S' ι' hu => .mnil rfl rfl)
        exact ⟨_, _, _, σ, _, w, .inl hrun, hK, R', .one (.row (b := .mrow e 1 []) (by simp [AS.set, updE_same]) (Nat.le_refl _) rfl fun _ => by simp [updE_same])⟩
      · have hm : 0 < bs.size := by omega
        obtain ⟨c', A, r1, r2, r3, r4, r5⟩ := fresh p [] 0 olds k1 k5 (fun _ => rfl) (Nat.le_refl _) (by simp) k6 hm (by simpa using hm) (by simpa using h63)
        have hheap : (w.drew.alloc (.cells A e)).heap[w.heap.size]? = some (.cells A e (0, 0)) := heap_alloc_new w.drew _
        have hmore : More w (w.drew.alloc (.cells A e)) := (Below.refl _ _).drew.alloc (Nat.le_refl _) _
        rw [List.nil_append] at r1 r2 r5
        rw [← hbl] at hK
        obtain ⟨hu', R'⟩ := R.fresh (w' := w.drew.alloc (.cells A e)) hid (.mrow e 1 (byteRow bs)) ⟨some ⟨w.heap.size, 0, none⟩, c', some w.heap.size⟩ (Ext.refl _ _) (R.fit.below hmore) hmore (by simp)
          (fun S' ι' hu => .mrow rfl rfl hheap r2 r3 r4 r5.1 (laid_rep r5 fun j v hv => by simpa using hv) (fun p hp => R.fit.no (by omega)))
        exact ⟨_, _, _, σ, _, _, .inl r1, hK, R', .one (.row (b := .mrow e 1 (byteRow bs)) (by simp [AS.set, updE_same]) (Nat.le_refl _) rfl fun _ => by simp [updE_same])⟩
    · rename_i id m
      obtain ⟨b, hb1', hb2, hb3⟩ := arep_row rx
      split at h
      · rename_i e' wd' xs hS
        obtain ⟨⟨rfl, rfl, rfl⟩, h63, hK⟩ := h
        rw [hS] at hb1'
        cases hb1'
        have hv := hb3 rfl
        have hb := R.blk _ _ hS
        by_cases hne : bs.size = 0
        · have hnc : xs.length ≤ (ι id).cap := by cases hb <;> first | exact Nat.zero_le _ | assumption | omega
          have hrun := hex _ _ (by rw [hv, hvy]; exact run_appS_zero (P := P) (w := w) (ty := o.type) ht hu hi (p := (ι id).p) hnc hne)
          have hset : s.set id (.mrow e' 1 (xs ++ byteRow bs)) = s := by
            rw [hnil hne, List.append_nil]
            obtain ⟨env, S⟩ := s
            simp only [AS.set, AS.mk.injEq, true_and]
            funext k
            unfold updE
            split
            · rename_i hk; subst hk; exact hS.symm
            · rfl
          rw [hset, hne, Nat.add_zero] at hK
          exact ⟨_, _, s, σ, ι, w, .inl hrun, hK, R, .one (.row hS (Nat.le_refl _) rfl fun _ => rfl)⟩
        · have hm : 0 < bs.size := by omega
          have hne' : byteRow bs ≠ [] := fun h0 => by rw [h0] at hbl; simp at hbl; omega
          rw [show xs.length + bs.size = (xs ++ byteRow bs).length by rw [List.length_append, hbl]] at hK
          have grow : ∀ (olds : List Value), olds.length = xs.length * 1 → ((ι id).p = none → (ι id).cap = 0) → xs.length ≤ (ι id).cap → (xs.length ≠ 0 → ∃ b o, (ι id).p = some ⟨b, o, none⟩ ∧ ∀ j u, olds[j]? = some u → w.cell? ⟨b, o + j, none⟩ = some u) → Laid σ olds 1 xs → (ι id).cap < xs.length + bs.size → Good P C o a w K := fun olds ho1 ho2 ho3 ho4 ho5 ho6 => by
            obtain ⟨c', A, r1, r2, r3, r4, r5⟩ := fresh _ xs _ olds hv ho1 ho2 ho3 ho4 ho5 hm ho6 h63
            have hheap : (w.drew.alloc (.cells A e')).heap[w.heap.size]? = some (.cells A e' (0, 0)) := heap_alloc_new w.drew _
            have hmore : More w (w.drew.alloc (.cells A e')) := (Below.refl _ _).drew.alloc (Nat.le_refl _) _
            obtain ⟨hu', R'⟩ := R.turn (w' := w.drew.alloc (.cells A e')) hS (.mrow e' 1 (xs ++ byteRow bs)) ⟨some ⟨w.heap.size, 0, none⟩, c', some w.heap.size⟩ (σ' := σ) (fun _ _ h => h)
              (fun _ _ _ => rfl) (R.fit.below hmore) (by simp [ABlk.len]) (fun he => absurd (by simpa [ABlk.len] using he) hne') ⟨rfl, rfl, rfl⟩ hmore.size (fun g hg _ => hmore.block g hg) (fun g hg => .inr (by simp at hg; omega))
              (fun hu => .mrow rfl rfl hheap r2 r3 r4 r5.1 (laid_rep r5 fun j v hv => by simpa using hv) (fun p hp => R.fit.no (by omega)))
            exact ⟨_, _, _, _, _, _, .inl r1, hK, R', .one (.row (b := .mrow e' 1 (xs ++ byteRow bs)) (by simp [AS.set, updE_same]) (Nat.le_refl _) rfl fun _ => by simp [updE_same])⟩
          cases hb with
          | mnil k1 k2 => exact grow [] (by simp) (fun _ => k2) (Nat.zero_le _) (by simp) Laid.nil (by rw [k2]; simpa using hm)
          | @mrow _ _ _ g vs k1 k2 k3 k4 k5 k6 k7 k8 k9 =>
            have hlaid : Laid σ (vs.toList.take (xs.length * 1)) 1 xs := ⟨k7, fun k x j y hx hy => by
              obtain ⟨v, v1, v2⟩ := k8 k x j y hx hy
              have hk := (List.getElem?_eq_some_iff.1 hx).1
              have hj : j < 1 := by
                rw [← k7 x (List.mem_of_getElem? hx)]
                exact (List.getElem?_eq_some_iff.1 hy).1
              exact ⟨v, by rw [List.getElem?_take, if_pos (by omega)]; simpa using v1, v2⟩⟩
            have htl : (vs.toList.take (xs.length * 1)).length = xs.length * 1 := by simp; omega
            by_cases hroom : xs.length + bs.size ≤ (ι id).cap
            · have hr := Lib.run_append_room_string (P := P) w t u o.type e' i ht hu hi hs1 g xs.length (ι id).cap vs k3 bs hroom (by omega)
              have hrun := hex _ _ (by rw [hv, hvy, k2]; exact hr)
              rw [show xs.length + bs.size = (xs ++ byteRow bs).length by rw [List.length_append, hbl]] at hrun
              generalize hA : (vs.toList.take xs.length ++ Lib.strCells bs ++ vs.toList.drop (xs ++ byteRow bs).length).toArray = A at hrun
              have hAl : A.toList = vs.toList.take (xs.length * 1) ++ Lib.strCells bs ++ vs.toList.drop (xs ++ byteRow bs).length := by rw [← hA, Nat.mul_one]
              have hAs : A.size = (ι id).cap * 1 := by
                rw [← hA]
                simp only [List.size_toArray, List.length_append, List.length_take, List.length_drop, Array.length_toList, hnl, hbl]
                omega
              have hheap : (w.setRow g A).heap[g]? = some (.cells A e' (0, 0)) := setRow_heap w _ _ _ _ _ k3
              have hl : Laid σ A.toList 1 (xs ++ byteRow bs) := by
                rw [hAl]
                exact (hlaid.append hnlaid htl).more _
              obtain ⟨hu', R'⟩ := R.turn (w' := w.setRow g A) hS (.mrow e' 1 (xs ++ byteRow bs)) ⟨(ι id).p, (ι id).cap, some g⟩ (σ' := σ) (fun _ _ h => h)
                (fun _ _ _ => rfl) (R.fit.row k9 fun k hk => setRow_other _ _ _ _ hk) (by simp [ABlk.len]) (fun he => absurd (by simpa [ABlk.len] using he) hne') (setRow_frame _ _) (by simp) (fun k hk hne => setRow_other _ _ _ _ (fun e => hne (by rw [e]; exact k1))) (fun g' hg' => .inl (by simp at hg'; subst hg'; exact k1))
                (fun hu => .mrow rfl k2 hheap (by rw [List.length_append, hbl]; exact hroom) k5 hAs hl.1 (laid_rep hl fun j v hv => by simpa using hv) k9)
              exact ⟨_, _, _, _, _, _, .inl hrun, hK, R', .one (.row (b := .mrow e' 1 (xs ++ byteRow bs)) (by simp [AS.set, updE_same]) (Nat.le_refl _) rfl fun _ => by simp [updE_same, k2])⟩
            · exact grow _ htl (by rw [k2]; simp) k4 (fun _ => ⟨g, 0, k2, fun j u hu => by
                rw [List.getElem?_take] at hu
                split at hu
                · rw [Nat.zero_add, cell_of_row w g _ _ _ _ k3]
                  simpa using hu
                · cases hu⟩) hlaid (by omega)
      · exact h.elim
    · exact h.elim
  · exact h.elim
theorem snd_appP {t e : TypeId} {i : TypeInfo} {z : Value} {x y : Operand} {x' y' : Opd} (ho : o.op = .call { callee := .builtin .append, args := #[x, y], argTypes := #[t, t] }) (hx : trOpd C.n x = some x') (hy : trOpd C.n y = some y')
    (ht : P.underlying t = some (.slice e)) (hi : P.info? e = some i) (hz : i.zero = some z) (hzs : z.cells.size = i.size) (hpos : 0 < i.size) (R : Refs C σ ι s a w) (h : Kd.go P d s K (.appP e i.size i.bytes x' y')) : Good P C o a w K := by
  have rx := R.ev hx
  have ry := R.ev hy
  have hex : ∀ v w', (Builtin.append_ #[t, t] o.type #[a.eval x, a.eval y]).run P w = .ok v w' → (execOp a.eval o).run P w = .ok (.value v) w' := fun v w' hr => by
    simp only [execOp, ho, resolve, invoke, builtin, Sem.run_bind, Sem.run_pure, Result.andThen_ok, List.map_toArray, List.map_cons, List.map_nil, hr]
  simp only [Kd.go] at h
  split at h
  · rename_i id k m cy e1 e2
    rw [e1] at rx
    rw [e2] at ry
    replace rx := vrep_one rx
    replace ry := vrep_one ry
    split at h
    · rename_i e' wd' xs ys hS hys
      obtain ⟨⟨hm, rfl, rfl⟩, hyw, h63, hby, hK⟩ := h
      subst hm
      obtain ⟨q, c, news, hvy, hnl, hnlaid, hn1, hncell⟩ := R.src ry hys hyw hpos
      obtain ⟨b, hb1, hb2, hb3⟩ := arep_part rx
      rw [hS] at hb1
      cases hb1
      obtain ⟨hkm, hv⟩ := hb3 rfl
      have hb := R.blk _ _ hS
      have hnlen : (xs.take k ++ ys ++ xs.drop (k + ys.length)).length = if xs.length ≤ k + ys.length then k + ys.length else xs.length := by
        simp only [List.length_append, List.length_take, List.length_drop]
        split <;> omega
      by_cases hne : ys = []
      · subst hne
        have hnc : xs.length ≤ (ι id).cap := by cases hb <;> first | exact Nat.zero_le _ | assumption
        have hrun := hex _ _ (by rw [hv, hvy]; exact run_append_zero (P := P) (w := w) (ty := o.type) ht hi (p := (ι id).p) (n := k) (cap := (ι id).cap) (by omega) q c)
        have hset : s.set id (.mrow e' i.size (xs.take k ++ [] ++ xs.drop (k + ([] : List (List SV)).length))) = s := by
          rw [List.append_nil, List.length_nil, Nat.add_zero, List.take_append_drop]
          obtain ⟨env, S⟩ := s
          simp only [AS.set, AS.mk.injEq, true_and]
          funext k
          unfold updE
          split
          · rename_i hk; subst hk; exact hS.symm
          · rfl
        have hlen : (if xs.length ≤ k + ([] : List (List SV)).length then k + ([] : List (List SV)).length else xs.length) = xs.length := by
          simp only [List.length_nil, Nat.add_zero]
          split <;> omega
        rw [hset, hlen] at hK
        refine ⟨_, _, s, σ, ι, w, .inl hrun, hK, R, ?_⟩
        exact .one (.part hS (Nat.le_refl _) rfl fun _ => ⟨by simpa using hkm, by simp⟩)
      · have hm : 0 < ys.length := List.length_pos_iff.2 hne
        have grow : ∀ (olds : List Value), olds.length = k * i.size → ((ι id).p = none → (ι id).cap = 0) → xs.length ≤ (ι id).cap → (k ≠ 0 → ∃ b o, (ι id).p = some ⟨b, o, none⟩ ∧ ∀ j u, olds[j]? = some u → w.cell? ⟨b, o + j, none⟩ = some u) → Laid σ olds i.size (xs.take k) → (ι id).cap < k + ys.length → Good P C o a w K := fun olds ho1 ho2 ho3 ho4 ho5 ho6 => by
          obtain ⟨bq, oo, hq, hq2⟩ := hncell hne
          obtain ⟨c', rest, r1, r2, r3, r4⟩ := run_grown (P := P) (ty := o.type) (w := w) ht hi hz hzs ho1 ho2 (n := k) (by omega) ho4 (q := q) (m := ys.length) (c := c) hnl hm ⟨bq, oo, hq, hq2⟩ ho6 h63 hby
          have hrun := hex _ _ (by rw [hv, hvy]; exact r1)
          have hdrop : xs.drop (k + ys.length) = [] := List.drop_eq_nil_of_le (by omega)
          have hge : xs.length ≤ k + ys.length := by omega
          rw [hdrop, List.append_nil, if_pos hge] at hK
          rw [hdrop, List.append_nil, if_pos hge] at hnlen
          have hl : Laid σ (olds.toArray ++ news.toArray ++ rest).toList i.size (xs.take k ++ ys) := by
            have := (ho5.append hnlaid (by rw [ho1, List.length_take, Nat.min_eq_left hkm])).more rest.toList
            simpa using this
          have hsz : (olds.toArray ++ news.toArray ++ rest).size = c' * i.size := by
            simp only [Array.size_append, List.size_toArray, ho1, hnl, r4, ← Nat.add_mul]
            congr 1
            omega
          generalize hA : olds.toArray ++ news.toArray ++ rest = A at hrun hl hsz
          have hheap : (w.drew.alloc (.cells A e')).heap[w.heap.size]? = some (.cells A e' (0, 0)) := heap_alloc_new w.drew _
          have hmore : More w (w.drew.alloc (.cells A e')) := (Below.refl _ _).drew.alloc (Nat.le_refl _) _
          obtain ⟨hu, R'⟩ := R.turn (w' := w.drew.alloc (.cells A e')) hS (.mrow e' i.size (xs.take k ++ ys)) ⟨some ⟨w.heap.size, 0, none⟩, c', some w.heap.size⟩ (σ' := σ) (fun _ _ h => h)
            (fun _ _ _ => rfl) (R.fit.below hmore) (by simp only [ABlk.len]; omega) (fun he => absurd he (by simp only [ABlk.len]; omega)) ⟨rfl, rfl, rfl⟩ hmore.size (fun g hg _ => hmore.block g hg) (fun g hg => .inr (by simp at hg; omega))
            (fun hu => .mrow rfl rfl hheap (by rw [hnlen]; exact r2) r3 hsz hl.1 (laid_rep hl fun j v hv => by simpa using hv) (fun p hp => R.fit.no (by omega)))
          exact ⟨_, _, _, _, _, _, .inl hrun, hK, R', .one (.part (b := .mrow e' i.size (xs.take k ++ ys)) (by simp [AS.set, updE_same]) (by simp only [ABlk.len]; omega) rfl fun _ => ⟨Nat.le_refl _, by simp [updE_same]⟩)⟩
        cases hb with
        | mnil k1 k2 =>
          obtain rfl : k = 0 := by simpa using hkm
          exact grow [] (by simp) (fun _ => k2) (Nat.zero_le _) (by simp) (by simpa using Laid.nil) (by omega)
        | @mrow _ _ _ g vs k1 k2 k3 k4 k5 k6 k7 k8 k9 =>
          have hcapw : xs.length * i.size ≤ (ι id).cap * i.size := Nat.mul_le_mul_right _ k4
          have hlaidAll : Laid σ vs.toList i.size xs := ⟨k7, fun kk x j y hx hy => by
            obtain ⟨v, v1, v2⟩ := k8 kk x j y hx hy
            exact ⟨v, by simpa using v1, v2⟩⟩
          have hlaid := laid_take hlaidAll k
          have hkw : k * i.size ≤ xs.length * i.size := Nat.mul_le_mul_right _ hkm
          have htl : (vs.toList.take (k * i.size)).length = k * i.size := by simp; omega
          by_cases hroom : k + ys.length ≤ (ι id).cap
          · have hcapw2 : (k + ys.length) * i.size ≤ (ι id).cap * i.size := Nat.mul_le_mul_right _ hroom
            rw [Nat.add_mul] at hcapw2
            obtain ⟨bq, oq, hq, hq2⟩ := hncell hne
            have hr := run_append_room (P := P) w t o.type e' i ht hi g k (ι id).cap vs k3 ⟨bq, oq, none⟩ ys.length c news hnl (fun j u hu => by rw [addr_add]; exact hq2 j u hu) hn1 hroom (by omega)
            have hrun := hex _ _ (by rw [hv, hvy, k2, hq]; exact hr)
            generalize hA : (vs.toList.take (k * i.size) ++ news ++ vs.toList.drop (k * i.size + news.length)).toArray = A at hrun
            have hAl : A.toList = vs.toList.take (k * i.size) ++ news ++ vs.toList.drop (k * i.size + news.length) := by rw [← hA]
            have hAs : A.size = (ι id).cap * i.size := by
              rw [← hA]
              simp only [List.size_toArray, List.length_append, htl, List.length_drop, Array.length_toList]
              omega
            have hheap : (w.setRow g A).heap[g]? = some (.cells A e' (0, 0)) := setRow_heap w _ _ _ _ _ k3
            have hl : Laid σ A.toList i.size (xs.take k ++ ys ++ xs.drop (k + ys.length)) := by
              rw [hAl]
              have h1 := hlaid.append hnlaid (by rw [htl, List.length_take, Nat.min_eq_left hkm])
              have h2 := laid_drop hlaidAll (k + ys.length)
              have h3 := h1.append h2 (by simp only [List.length_append, htl, hnl, List.length_take, Nat.min_eq_left hkm, Nat.add_mul])
              rw [Nat.add_mul, ← hnl] at h3
              exact h3
            have hlen2 : (xs.take k ++ ys ++ xs.drop (k + ys.length)).length ≤ (ι id).cap := by rw [hnlen]; split <;> omega
            obtain ⟨hu, R'⟩ := R.turn (w' := w.setRow g A) hS (.mrow e' i.size (xs.take k ++ ys ++ xs.drop (k + ys.length))) ⟨(ι id).p, (ι id).cap, some g⟩ (σ' := σ) (fun _ _ h => h)
              (fun _ _ _ => rfl) (R.fit.row k9 fun k hk => setRow_other _ _ _ _ hk) (by simp only [ABlk.len, hnlen]; split <;> omega) (fun he => ⟨rfl, by rw [← k1]⟩) (setRow_frame _ _) (by simp) (fun k hk hne => setRow_other _ _ _ _ (fun e => hne (by rw [e]; exact k1))) (fun g' hg' => .inl (by simp at hg'; subst hg'; exact k1))
              (fun hu => .mrow rfl k2 hheap hlen2 k5 hAs hl.1 (laid_rep hl fun j v hv => by simpa using hv) k9)
            exact ⟨_, _, _, _, _, _, .inl hrun, hK, R', .one (.part (b := .mrow e' i.size (xs.take k ++ ys ++ xs.drop (k + ys.length))) (by simp [AS.set, updE_same]) (by simp only [ABlk.len, hnlen]; exact Nat.le_refl _) rfl fun _ => ⟨by split <;> omega, by simp [updE_same, k2]⟩)⟩
          · exact grow _ htl (by rw [k2]; simp) k4 (fun _ => ⟨g, 0, k2, fun j u hu => by
              rw [List.getElem?_take] at hu
              split at hu
              · rw [Nat.zero_add, cell_of_row w g _ _ _ _ k3]
                simpa using hu
              · cases hu⟩) hlaid (by omega)
    · exact h.elim
  · exact h.elim
end
end Go.Proofs.YtehnjhkndbcmgaaGreatDoor
