/-
  Each operation does to a frame and a world what its abstract word says.
  Conditions: none.
-/
import Derived.Test.YtpajlfdhmjgpnaaAbsC
namespace Go.Proofs.Ytpajlfdhmjgpnaa
open Go Go.RowKit
set_option linter.unusedVariables false
set_option maxHeartbeats 400000

theorem inR_wrap {k : IntKind} {n : Int} (h : inR k n) : k.wrap n = n := by
  cases k <;> simp [inR, IntKind.min, IntKind.max, IntKind.wrap, IntKind.signed, IntKind.bits] at h ⊢ <;> omega
instance (k : IntKind) (n : Int) : Decidable (inR k n) := by unfold inR; exact inferInstance

/-! ### what an operation must do -/
def Good (P : Program) (C : Ctx) (o : Oper) (a : Act) (w : World) (K : AV → AS → Prop) : Prop :=
  ∃ v av s' σ' ι' w', ((execOp a.eval o).run P w = .ok (.value v) w' ∨ (v = undef ∧ (execOp a.eval o).run P w = .ok .skip w')) ∧ K av s' ∧ Refs C σ' ι' s' a w' ∧ VRep σ' s'.S ι' v av

section
variable {P : Program} {C : Ctx} {o : Oper} {a : Act} {w : World} {K : AV → AS → Prop} {σ : Sto} {ι : AHnd} {s : AS} {d : Nat} {S : AStore}
/-- An operation that only computes. -/
theorem good_val (R : Refs C σ ι s a w) (v : Value) (av : AV) (hr : (execOp a.eval o).run P w = .ok (.value v) w) (hK : K av s) (hv : VRep σ s.S ι v av) : Good P C o a w K :=
  ⟨v, av, s, σ, ι, w, .inl hr, hK, R, hv⟩
theorem Good.wp (h : Good P C o a w K) {Q : Exit → Act → World → Prop} {next : Act → World → Prop} (hn : ∀ av s' σ' ι' a' w', K av s' → Refs C σ' ι' (s'.put o.dst av) a' w' → next a' w') : o.wp P a w next Q := by
  obtain ⟨v, av, s', σ', ι', w', hr, hK, R, hv⟩ := h
  unfold Oper.wp
  rcases hr with hr | ⟨rfl, hr⟩
  · rw [hr]
    exact hn _ _ _ _ _ _ hK (R.put hv)
  · rw [hr]
    exact hn _ _ _ _ _ _ hK (R.put hv)
end

/-! ### operands -/
def ofCell : Value → Option AC
  | .int k n => if inR k n then some (.st (.int k n)) else none
  | .string b => if b.size ≤ maxLen then some (.st (.str b)) else none
  | .bool b => some (.st (.bool b))
  | .slice none 0 0 => some (.full [])
  | .func (.func f) x y => if x.size = 0 ∧ y.size = 0 then some (.fn f []) else none
  | v => if v.oneCell' then some (.st (.lit v)) else none
def ofCells : List Value → Option (List AC)
  | [] => some []
  | v :: vs => match ofCell v, ofCells vs with
    | some c, some cs => some (c :: cs)
    | _, _ => none
def ofVal (v : Value) : Option AV := match v with
  | .agg cs => (ofCells cs.toList).map .agg
  | .tuple cs => if cs.size = 0 then some (.tup []) else none
  | v => (ofCell v).map .one
def trOpd (n : Nat) : Operand → Option Opd
  | .tmp t => if t < n then some (.t t) else none
  | .const v => (ofVal v).map .c
  | .func f => some (.c (.one (.fn f [])))
  | .global g => some (.c (.one (match globOf g with | some cs => .eptr cs | none => .st (.lit (.pointer (some ⟨g, 0, none⟩))))))
def trOpds (n : Nat) : List Operand → Option (List Opd)
  | [] => some []
  | x :: xs => match trOpd n x, trOpds n xs with
    | some c, some cs => some (c :: cs)
    | _, _ => none

section
variable {σ : Sto} {S : AStore} {ι : AHnd}
theorem srep_nil : SRep σ (.slice none 0 0) (.list []) := .list (b := 0) (o := 0) (w := 0) (fun _ _ => undef) rfl (Nat.le_refl _) (by simp [maxLen]) (fun _ => rfl) (by simp) (by simp) (by simp) (by simp)
theorem ofCell_rep {v : Value} {c : AC} (h : ofCell v = some c) : ARep σ S ι v c := by
  unfold ofCell at h
  split at h
  · split at h
    · cases h; exact .st (.int ‹_›)
    · cases h
  · split at h
    · cases h; exact .st (.str ‹_›)
    · cases h
  · cases h; exact .st .bool
  · cases h; exact .full srep_nil
  · split at h
    · rename_i x y hxy
      cases h
      have e1 : x = #[] := Array.eq_empty_of_size_eq_zero hxy.1
      have e2 : y = #[] := Array.eq_empty_of_size_eq_zero hxy.2
      subst e1 e2
      exact .fn (fun _ => undef) rfl (by simp) (by simp)
    · cases h
  · split at h
    · cases h; exact .st (.lit ‹_›)
    · cases h
theorem ofCells_rep : ∀ {vs : List Value} {cs : List AC}, ofCells vs = some cs → All2 (ARep σ S ι) vs cs
  | [], cs, h => by simp only [ofCells, Option.some.injEq] at h; subst h; exact .nil
  | v :: vs, cs, h => by
    simp only [ofCells] at h
    split at h
    · rename_i k1 k2
      cases h
      exact .cons (ofCell_rep k1) (ofCells_rep k2)
    · cases h
theorem ofVal_rep {v : Value} {c : AV} (h : ofVal v = some c) : VRep σ S ι v c := by
  unfold ofVal at h
  split at h
  · rw [Option.map_eq_some_iff] at h
    obtain ⟨x, h1, rfl⟩ := h
    exact .agg (ofCells_rep h1)
  · split at h
    · rename_i cs hcs
      cases h
      have e1 : cs = #[] := Array.eq_empty_of_size_eq_zero hcs
      subst e1
      exact .tup (fun _ => undef) rfl (by simp) (by simp)
    · cases h
  · rw [Option.map_eq_some_iff] at h
    obtain ⟨x, h1, rfl⟩ := h
    exact .one (ofCell_rep h1)
end
section
variable {P : Program} {C : Ctx} {o : Oper} {a : Act} {w : World} {K : AV → AS → Prop} {σ : Sto} {ι : AHnd} {s : AS} {d : Nat} {S : AStore}
theorem Refs.ev (R : Refs C σ ι s a w) {x : Operand} {x' : Opd} (h : trOpd C.n x = some x') : VRep σ s.S ι (a.eval x) (s.ev x') := by
  unfold trOpd at h
  split at h
  · split at h
    · cases h; exact R.env _ ‹_›
    · cases h
  · rw [Option.map_eq_some_iff] at h
    obtain ⟨c, h1, rfl⟩ := h
    exact ofVal_rep h1
  · cases h
    exact .one (.fn (fun _ => undef) rfl (by simp) (by simp))
  · rename_i g
    cases h
    refine .one ?_
    show ARep σ s.S ι (.pointer (some ⟨g, 0, none⟩)) (match globOf g with | some cs => .eptr cs | none => .st (.lit (.pointer (some ⟨g, 0, none⟩))))
    split
    · rename_i cs hcs
      exact (C.glob.mono R.ext).of hcs
    · exact .st (.lit rfl)
theorem Refs.evs (R : Refs C σ ι s a w) : ∀ {xs : List Operand} {xs' : List Opd}, trOpds C.n xs = some xs' → All2 (VRep σ s.S ι) (xs.map a.eval) (s.evs xs')
  | [], xs', h => by simp only [trOpds, Option.some.injEq] at h; subst h; exact .nil
  | x :: xs, xs', h => by
    simp only [trOpds] at h
    split at h
    · rename_i k1 k2
      cases h
      exact .cons (R.ev k1) (R.evs k2)
    · cases h

theorem vrep_one {v : Value} {c : AC} (h : VRep σ S ι v (.one c)) : ARep σ S ι v c := by cases h; assumption
theorem arep_eptr {v : Value} {cs : List SV} (h : ARep σ S ι v (.eptr cs)) : ∃ b oo, v = .pointer (some ⟨b, oo, none⟩) ∧ ∃ c : Nat → Value, (∀ j x, cs[j]? = some x → σ ⟨b, oo + j, none⟩ = some (c j)) ∧ (∀ j x, cs[j]? = some x → SRep σ (c j) x) := by
  cases h with | eptr c h1 h2 => exact ⟨_, _, rfl, c, h1, h2⟩
theorem arep_ptr {v : Value} {id m k off : Nat} (h : ARep σ S ι v (.ptr id m k off)) : ∃ b, S id = some b ∧ m ≤ b.len ∧ (m = b.len → ∃ g, (ι id).g = some g ∧ v = .pointer (some ⟨g, k * b.wid + off, none⟩)) := by
  cases h with | ptr h1 h2 h3 h4 => exact ⟨_, h1, h2, h4⟩
theorem arep_row {v : Value} {id m : Nat} (h : ARep σ S ι v (.row id m)) : ∃ b, S id = some b ∧ m ≤ b.len ∧ (m = b.len → v = .slice (ι id).p m (ι id).cap) := by
  cases h with | row h1 h2 h3 h4 => exact ⟨_, h1, h2, h4⟩
theorem arep_part {v : Value} {id k m : Nat} (h : ARep σ S ι v (.part id k m)) : ∃ b, S id = some b ∧ m ≤ b.len ∧ (m = b.len → k ≤ m ∧ v = .slice (ι id).p k (ι id).cap) := by
  cases h with | part h1 h2 h3 h4 => exact ⟨_, h1, h2, h4⟩
theorem arep_rest {v : Value} {id o m : Nat} (h : ARep σ S ι v (.rest id o m)) : ∃ b, S id = some b ∧ m ≤ b.len ∧ (m = b.len → o ≤ m ∧ v = .slice (if (ι id).cap = o then (ι id).p else (ι id).p.map (·.add (o * b.wid))) (m - o) ((ι id).cap - o)) := by
  cases h with | rest h1 h2 h3 h4 => exact ⟨_, h1, h2, h4⟩
theorem arep_st {v : Value} {c : SV} (h : ARep σ S ι v (.st c)) : SRep σ v c := by cases h; assumption
def isAggD : TypeDesc → Bool
  | .struct _ | .array _ _ => true
  | _ => false

/-! ### pieces of memory -/
theorem addr_add (b o j : Nat) : (⟨b, o, none⟩ : Addr).add j = ⟨b, o + j, none⟩ := by unfold Addr.add; split <;> simp_all
theorem run_loadCellsL {b o : Nat} {cs : List Value} (h : ∀ j v, cs[j]? = some v → w.cell? ⟨b, o + j, none⟩ = some v) : (loadCells ⟨b, o, none⟩ cs.length).run P w = .ok cs.toArray w :=
  run_loadCells_list w ⟨b, o, none⟩ cs fun j v hj => by rw [addr_add]; exact h j v hj
/-- A thing of type t at an address: its cells. -/
theorem run_loadAt {t : TypeId} {d : TypeDesc} {i : TypeInfo} (hd : P.underlying t = some d) (hi : P.info? t = some i) {b o : Nat} {cs : List Value} (h : ∀ j v, cs[j]? = some v → w.cell? ⟨b, o + j, none⟩ = some v)
    (g : Bool) (hg : g = isAggD d) (hn : cs.length = if g then i.size else 1) :
    ∃ v, (Instr.loadAt t (.pointer (some ⟨b, o, none⟩))).run P w = .ok v w ∧ (if g then v = .agg cs.toArray else cs = [v]) := by
  cases g with
  | true =>
    refine ⟨.agg cs.toArray, ?_, rfl⟩
    have hl := run_loadCellsL (P := P) h
    simp only [if_true] at hn
    rw [hn] at hl
    have ha : (isAgg t).run P w = .ok true w := by
      simp only [isAgg, Sem.run_bind, run_underlying hd, Result.andThen_ok]
      cases d <;> first | rfl | simp [isAggD] at hg
    simp [Instr.loadAt, Instr.sureAddr, loadVar, ha, sizeOf, typeInfo, hi, hl]
  | false =>
    simp only [Bool.false_eq_true, if_false] at hn ⊢
    obtain ⟨v, rfl⟩ : ∃ v, cs = [v] := by
      match cs, hn with
      | [v], _ => exact ⟨v, rfl⟩
    refine ⟨v, ?_, rfl⟩
    have ha : (isAgg t).run P w = .ok false w := by
      simp only [isAgg, Sem.run_bind, run_underlying hd, Result.andThen_ok]
      cases d <;> first | rfl | simp [isAggD] at hg
    have h0 := h 0 v rfl
    simp only [Nat.add_zero] at h0
    simp [Instr.loadAt, Instr.sureAddr, loadVar, ha, load, Sem.run, h0]
theorem vrep_pack {g : Bool} {v : Value} {cs : List Value} {xs : List AC} (h : All2 (ARep σ s.S ι) cs xs) (hv : if g then v = .agg cs.toArray else cs = [v]) : VRep σ s.S ι v (pack g xs) := by
  cases g with
  | true =>
    simp only [if_true] at hv
    subst hv
    exact .agg (by simpa using h)
  | false =>
    simp only [Bool.false_eq_true, if_false] at hv
    subst hv
    cases h with
    | cons h1 h2 => cases h2; exact .one h1
/-- Cells of memory that stays. -/
theorem eptr_cells (hf : Fit σ w) {b o : Nat} {cs : List SV} {c : Nat → Value} (h1 : ∀ j x, cs[j]? = some x → σ ⟨b, o + j, none⟩ = some (c j)) (h2 : ∀ j x, cs[j]? = some x → SRep σ (c j) x) (n : Nat) (hn : n ≤ cs.length) :
    ∃ vs : List Value, vs.length = n ∧ (∀ j v, vs[j]? = some v → w.cell? ⟨b, o + j, none⟩ = some v) ∧ All2 (ARep σ S ι) vs ((cs.take n).map .st) := by
  refine ⟨(List.range n).map c, by simp, fun j v hj => ?_, ?_⟩
  · rw [List.getElem?_map] at hj
    by_cases hlt : j < n
    · rw [List.getElem?_range hlt] at hj
      simp only [Option.map_some, Option.some.injEq] at hj
      subst hj
      exact hf _ _ (h1 j _ (List.getElem?_eq_getElem (by omega)))
    · rw [List.getElem?_eq_none (by simp; omega)] at hj
      simp at hj
  · refine All2.of_get (by simp; omega) fun j v x hv hx => ?_
    have hlt : j < n := by
      rcases Nat.lt_or_ge j n with h | h
      · exact h
      · rw [List.getElem?_eq_none (by simp; omega)] at hv; cases hv
    rw [List.getElem?_map, List.getElem?_range hlt] at hv
    simp only [Option.map_some, Option.some.injEq] at hv
    subst hv
    rw [List.getElem?_map, List.getElem?_take, if_pos hlt, List.getElem?_eq_getElem (by omega)] at hx
    simp only [Option.map_some, Option.some.injEq] at hx
    subst hx
    exact .st (h2 j _ (List.getElem?_eq_getElem (by omega)))
/-- Cells of a block of the call's own. -/
theorem Refs.ptr_cells (R : Refs C σ ι s a w) {v : Value} {id m k off : Nat} (hv : ARep σ s.S ι v (.ptr id m k off)) {cs : List AC} (h : blkCells s.S id m k = some cs) :
    ∃ b o, v = .pointer (some ⟨b, o + off, none⟩) ∧ ∃ vs : List Value, (∀ j v, vs[j]? = some v → w.cell? ⟨b, o + j, none⟩ = some v) ∧ All2 (ARep σ s.S ι) vs cs := by
  cases hv with
  | ptr h1 h2 h3 h4 =>
  unfold blkCells at h
  rw [h1] at h
  have hb := R.blk _ _ h1
  split at h
  · rename_i heq
    cases heq
    split at h
    · rename_i hk
      cases h
      obtain ⟨g, g1, rfl⟩ := h4 hk.2
      cases hb with
      | box k1 k2 k3 k4 k5 =>
        rename_i vs
        rw [k1] at g1
        cases g1
        refine ⟨g, 0, by simp [ABlk.wid], vs.toList, fun j v hj => ?_, k4⟩
        rw [Nat.zero_add, cell_of_row w g j _ _ _ k3]
        simpa using hj
    · cases h
  · rename_i heq
    cases heq
    split at h
    · rename_i hk
      rw [Option.map_eq_some_iff] at h
      obtain ⟨x, hx, rfl⟩ := h
      obtain ⟨g, g1, rfl⟩ := h4 hk
      cases hb with
      | mnil k1 => simp at hx
      | mrow k1 k2 k3 k4 k5 k6 k7 k8 k9 =>
        rename_i wd xs g' vs
        rw [k1] at g1
        cases g1
        have hxm := k7 x (List.mem_of_getElem? hx)
        have key : ∀ j c, x[j]? = some c → vs[k * wd + j]? = some ((vs[k * wd + j]?).getD undef) ∧ SRep σ ((vs[k * wd + j]?).getD undef) c := fun j c hc => by
          obtain ⟨v, v1, v2⟩ := k8 k x j c hx hc
          rw [v1]
          exact ⟨rfl, v2⟩
        refine ⟨g, k * wd, rfl, (List.range x.length).map (fun j => (vs[k * wd + j]?).getD undef), fun j v hj => ?_, ?_⟩
        · rw [List.getElem?_map] at hj
          by_cases hlt : j < x.length
          · rw [List.getElem?_range hlt] at hj
            simp only [Option.map_some, Option.some.injEq] at hj
            subst hj
            rw [cell_of_row w g _ _ _ _ k3]
            exact (key j _ (List.getElem?_eq_getElem hlt)).1
          · rw [List.getElem?_eq_none (by simp; omega)] at hj
            simp at hj
        · refine All2.of_get (by simp) fun j v c hv hc => ?_
          rw [List.getElem?_map, Option.map_eq_some_iff] at hc
          obtain ⟨c', hc', rfl⟩ := hc
          have hlt : j < x.length := (List.getElem?_eq_some_iff.1 hc').1
          rw [List.getElem?_map, List.getElem?_range hlt] at hv
          simp only [Option.map_some, Option.some.injEq] at hv
          subst hv
          exact .st (key j _ hc').2
    · cases h
  · cases h

/-! ### reading operations -/
theorem snd_mov {x : Operand} {x' : Opd} (ho : o.op = .move x ∨ o.op = .assign x) (hx : trOpd C.n x = some x') (R : Refs C σ ι s a w) (h : Kd.go P d s K (.mov x')) : Good P C o a w K :=
  good_val R _ _ (by rcases ho with ho | ho <;> simp [execOp, ho]) h (R.ev hx)
theorem vrep_bool {v : Value} {b : Bool} (h : VRep σ S ι v (.one (.st (.bool b)))) : v = .bool b := by
  cases h with | one h => cases h with | st h => cases h; rfl
theorem vrep_ubool {v : Value} (h : VRep σ S ι v (.one .ubool)) : ∃ b, v = .bool b := by
  cases h with
  | one h =>
    cases h
    exact ⟨_, rfl⟩
theorem vrep_int {v : Value} {k : IntKind} {n : Int} (h : VRep σ S ι v (.one (.st (.int k n)))) : v = .int k n ∧ inR k n := by
  cases h with | one h => cases h with | st h => cases h with | int h => exact ⟨rfl, h⟩
theorem vrep_str {v : Value} {b : ByteArray} (h : VRep σ S ι v (.one (.st (.str b)))) : v = .string b ∧ b.size ≤ maxLen := by
  cases h with | one h => cases h with | st h => cases h with | str h => exact ⟨rfl, h⟩
theorem snd_pick {c x y : Operand} {c' x' y' : Opd} (ho : o.op = .pick c x y) (hc : trOpd C.n c = some c') (hx : trOpd C.n x = some x') (hy : trOpd C.n y = some y') (R : Refs C σ ι s a w) (h : Kd.go P d s K (.pick c' x' y')) : Good P C o a w K := by
  have rc := R.ev hc
  simp only [Kd.go] at h
  split at h
  · rename_i t heq
    rw [heq] at rc
    have := vrep_bool rc
    cases t with
    | true => exact good_val R _ _ (by simp [execOp, ho, this, asBool]) (h.1 rfl) (R.ev hx)
    | false => exact good_val R _ _ (by simp [execOp, ho, this, asBool]) (h.2 rfl) (R.ev hy)
  · exact h.elim
theorem snd_load {t : TypeId} {x : Operand} {x' : Opd} {dd : TypeDesc} {i : TypeInfo} (ho : o.op = .load t x) (hx : trOpd C.n x = some x') (hd : P.underlying t = some dd) (hi : P.info? t = some i)
    (g : Bool) (hg : g = isAggD dd) (n : Nat) (hn : n = if g then i.size else 1) (R : Refs C σ ι s a w) (h : Kd.go P d s K (.load g n x')) : Good P C o a w K := by
  have rx := R.ev hx
  simp only [Kd.go] at h
  split at h
  · rename_i cs heq
    obtain ⟨hle, hK⟩ := h
    rw [heq] at rx
    obtain ⟨b, oo, hex, c, h1, h2⟩ := arep_eptr (vrep_one rx)
    obtain ⟨vs, v1, v2, v3⟩ := eptr_cells (w := w) (S := s.S) (ι := ι) R.fit h1 h2 n hle
    obtain ⟨v, r1, r2⟩ := run_loadAt (P := P) hd hi v2 g hg (by rw [v1, hn])
    exact good_val R v _ (by simp [execOp, ho, hex, r1]) hK (vrep_pack v3 r2)
  · rename_i id m k off heq
    split at h
    · rename_i cs hb
      obtain ⟨hle, hK⟩ := h
      rw [heq] at rx
      obtain ⟨b, oo, hex, vs, v2, v3⟩ := R.ptr_cells (vrep_one rx) hb
      have hlen := v3.len
      have v4 : All2 (ARep σ s.S ι) ((vs.drop off).take n) ((cs.drop off).take n) := (v3.drop off).take n
      obtain ⟨v, r1, r2⟩ := run_loadAt (P := P) (w := w) (b := b) (o := oo + off) (cs := (vs.drop off).take n) hd hi (fun j v hj => by
        rw [List.getElem?_take] at hj
        split at hj
        · rw [List.getElem?_drop] at hj
          rw [Nat.add_assoc]
          exact v2 _ _ hj
        · cases hj) g hg (by simp; omega)
      exact good_val R v _ (by simp [execOp, ho, hex, r1]) hK (vrep_pack v4 r2)
    · exact h.elim
  · exact h.elim
theorem snd_fieldAddr {t f : TypeId} {x : Operand} {x' : Opd} {fs : Array Field} {fd : Field} {i : TypeInfo} (ho : o.op = .fieldAddr t x f) (hx : trOpd C.n x = some x') (hd : P.underlying t = some (.struct fs)) (hf : fs[f]? = some fd) (hi : P.info? fd.type = some i) (hz : i.size ≠ 0)
    (R : Refs C σ ι s a w) (h : Kd.go P d s K (.fieldAddr fd.offset x')) : Good P C o a w K := by
  have rx := R.ev hx
  have run : ∀ b oo, a.eval x = .pointer (some ⟨b, oo, none⟩) → (execOp a.eval o).run P w = .ok (.value (.pointer (some ⟨b, oo + fd.offset, none⟩))) w := fun b oo he => by
    simp [execOp, ho, he, Instr.fieldAt, run_underlying hd, hf, Instr.sureAddr, fieldPlace, sizeOf, typeInfo, hi, hz, addr_add]
  simp only [Kd.go] at h
  split at h
  · rename_i cs heq
    rw [heq] at rx
    obtain ⟨b, oo, hex, c, h1, h2⟩ := arep_eptr (vrep_one rx)
    refine good_val R _ _ (run _ _ hex) h (.one (.eptr (fun j => c (fd.offset + j)) (fun j y hy => ?_) (fun j y hy => ?_)))
    · rw [Nat.add_assoc]; exact h1 _ _ (by rw [← List.getElem?_drop]; exact hy)
    · exact h2 _ _ (by rw [← List.getElem?_drop]; exact hy)
  · rename_i id m k off heq
    rw [heq] at rx
    obtain ⟨b, h1, h2, h4⟩ := arep_ptr (vrep_one rx)
    · rw [h1] at h
      obtain ⟨hm, h⟩ := h
      obtain ⟨g, g1, g2⟩ := h4 hm
      exact good_val R _ _ (run _ _ g2) h (.one (.ptr h1 h2 rfl fun _ => ⟨g, g1, by rw [Nat.add_assoc]⟩))
  · exact h.elim
end
end Go.Proofs.Ytpajlfdhmjgpnaa
