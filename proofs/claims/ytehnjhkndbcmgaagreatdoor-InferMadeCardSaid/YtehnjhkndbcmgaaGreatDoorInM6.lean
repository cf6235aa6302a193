/-
  Part 6 of the texts: PtrKey; AbsQ; AbsK. Conditions: none.
-/
import Derived.Test.YtehnjhkndbcmgaaGreatDoorInM5
import Derived.DeepKeys3
import Derived.LaidEql
import Derived.MapKept
import Derived.Laws.MakeOwn
namespace Go.Proofs.YtehnjhkndbcmgaaGreatDoor
open Go Go.RowKit Go.MapKept
set_option linter.unusedVariables false
set_option linter.unusedSimpArgs false
def pairV (a b : Addr) : Value := .agg #[.pointer (some a), .pointer (some b)]
def Plain (w : World) (a : Addr) : Prop := ∃ cs t, w.heap[a.block]? = some (.cells cs t (0, 0))
structure PairKey (P : Program) (k e el : TypeId) (i j : TypeInfo) : Prop where
  arr : P.underlying k = some (.array 2 e)
  ptr : P.underlying e = some (.pointer el)
  info : P.info? e = some i
  size : i.size = 1
  elem : P.info? el = some j
  some : j.size ≠ 0
section
variable {P : Program} {k e el : TypeId} {i j : TypeInfo} (w : World)
theorem run_partPtr (A : PairKey P k e el i j) {xs : Array Value} {off : Nat} {v : Value} (hx : xs[off]? = some v) : (part e xs off).run P w = .ok v w := by
  simp [part, isAgg, run_underlying A.ptr, hx]
theorem run_part0 (A : PairKey P k e el i j) (x y : Value) : (part e #[x, y] 0).run P w = .ok x w := run_partPtr w A rfl
theorem run_part1 (A : PairKey P k e el i j) (x y : Value) : (part e #[x, y] 1).run P w = .ok y w := run_partPtr w A rfl
theorem run_eqPtr (A : PairKey P k e el i j) (d : Nat) {a b : Addr} (ha : Plain w a) (hb : Plain w b) : (Op.equalIn (d + 1) e (.pointer (some a)) (.pointer (some b))).run P w = .ok (decide (a = b)) w := by
  have h0 : (Op.equalIn (d + 1) e (.pointer (some a)) (.pointer (some b))).run P w = (sameAddr a b).run P w := by
    simp [Op.equalIn, run_underlying A.ptr, sizeOf, typeInfo, A.elem, A.some]
  rw [h0]
  by_cases hne : a = b
  · subst hne
    rw [run_sameAddr_same]
    simp
  · obtain ⟨ca, ta, ha⟩ := ha
    obtain ⟨cb, tb, hb⟩ := hb
    rw [run_sameAddr_other w hne ha hb]
    simp [hne]
theorem run_eqPair (A : PairKey P k e el i j) {a b a' b' : Addr} (ha : Plain w a) (hb : Plain w b) (ha' : Plain w a') (hb' : Plain w b') :
    (Op.equal k (pairV a b) (pairV a' b')).run P w = .ok (decide (a = a' ∧ b = b')) w := by
  have hc : P.cellsOf e = 1 := by simp [Program.cellsOf, A.info, A.size]
  have e1 : (Op.equalIn 9999 e (.pointer (some a)) (.pointer (some a'))).run P w = .ok (decide (a = a')) w := run_eqPtr w A 9998 ha ha'
  have e2 : (Op.equalIn 9999 e (.pointer (some b)) (.pointer (some b'))).run P w = .ok (decide (b = b')) w := run_eqPtr w A 9998 hb hb'
  unfold Op.equal pairV
  rw [show Op.maxDepth = 9999 + 1 from rfl, run_equalIn_array w 9999 _ _ A.arr A.info, hc]
  rw [show List.range 2 = [0, 1] from rfl]
  simp only [Op.eqItems, Nat.zero_mul, Nat.one_mul, Sem.run_bind, run_part0 w A, run_part1 w A, Result.andThen_ok, e1, e2]
  by_cases h1 : a = a'
  · have e3 : decide (a = a') = true := by simp [h1]
    rw [e3]
    simp only [h1, true_and]
    by_cases h2 : b = b'
    · subst h2
      simp [run_part1 w A, e2, Result.andThen]
    · simp [run_part1 w A, e2, h2, Result.andThen]
  · simp [h1]
theorem run_checkPair (A : PairKey P k e el i j) (em : Bool) (a b : Addr) : (Instr.checkKey em 10000 k (pairV a b)).run P w = .ok () w := by
  have hc : P.cellsOf e = 1 := by simp [Program.cellsOf, A.info, A.size]
  have e0 : ∀ a : Addr, (Instr.checkKey em 9999 e (.pointer (some a))).run P w = .ok () w := fun a => by
    rw [show (9999 : Nat) = 9998 + 1 from rfl, Instr.checkKey]
    simp [run_underlying A.ptr]
  unfold pairV
  rw [show (10000 : Nat) = 9999 + 1 from rfl, Instr.checkKey]
  simp only [Sem.run_bind, run_underlying A.arr, Result.andThen_ok]
  simp only [Std.Legacy.Range.forIn_eq_forIn_range', Std.Legacy.Range.size, Nat.sub_zero, Nat.add_one_sub_one, Nat.div_one]
  rw [show List.range' 0 2 = [0, 1] from rfl]
  simp only [List.forIn_cons, List.forIn_nil, Sem.run_bind, run_sizeOf w A.info, hc, Nat.zero_mul, Nat.one_mul, Result.andThen_ok, run_part0 w A, run_part1 w A, e0, Sem.run_pure]
theorem run_findPair (A : PairKey P k e el i j) {a b : Addr} (ha : Plain w a) (hb : Plain w b) : ∀ (es : List MapEntry) (n : Nat), (∀ x ∈ es, ∃ a' b', x.key = pairV a' b' ∧ Plain w a' ∧ Plain w b') →
    (Instr.findAsking k (pairV a b) es n).run P w = .ok none w ∨ ∃ m x, (Instr.findAsking k (pairV a b) es n).run P w = .ok (some (n + m, x.val)) w ∧ es[m]? = some x ∧ x.key = pairV a b
  | [], n, _ => .inl (by simp [Instr.findAsking])
  | x :: es, n, h => by
    obtain ⟨a', b', hk, pa, pb⟩ := h x (by simp)
    have he := run_eqPair w A ha hb pa pb
    by_cases hab : a = a' ∧ b = b'
    · obtain ⟨rfl, rfl⟩ := hab
      exact .inr ⟨0, x, by simp [Instr.findAsking, hk, he, Result.andThen], rfl, hk⟩
    · rcases run_findPair A ha hb es (n + 1) (fun y hy => h y (by simp [hy])) with h1 | ⟨m, y, h1, h2, h3⟩
      · exact .inl (by simp [Instr.findAsking, hk, he, hab, h1, Result.andThen])
      · exact .inr ⟨m + 1, y, by simp [Instr.findAsking, hk, he, hab, h1, Nat.add_assoc, Nat.add_comm 1 m, Result.andThen], by simpa using h2, h3⟩
theorem run_findPairKey (A : PairKey P k e el i j) {a b : Addr} (ha : Plain w a) (hb : Plain w b) (es : List MapEntry) (h : ∀ x ∈ es, ∃ a' b', x.key = pairV a' b' ∧ Plain w a' ∧ Plain w b') :
    (Instr.findKey k (pairV a b) es).run P w = .ok none w ∨ ∃ m x, (Instr.findKey k (pairV a b) es).run P w = .ok (some (m, x.val)) w ∧ es[m]? = some x ∧ x.key = pairV a b := by
  rw [run_findKey_eq w (by rw [A.arr]) (pairV a b) es]
  rcases run_findPair w A ha hb es 0 h with h1 | ⟨m, x, h1, h2, h3⟩
  · exact .inl h1
  · exact .inr ⟨m, x, by rw [h1, Nat.zero_add], h2, h3⟩
theorem run_pairStays (a b : Addr) : (Instr.keyThatStays (pairV a b) (pairV a b)).run P w = .ok (pairV a b) w := by
  have h : Instr.sameBits 10000 (pairV a b) (pairV a b) = true := by
    unfold pairV
    rw [show (10000 : Nat) = 9999 + 1 from rfl, Instr.sameBits]
    simp [Instr.sameBits]
  simp [Instr.keyThatStays, h]
end
end Go.Proofs.YtehnjhkndbcmgaaGreatDoor

namespace Go.Proofs.YtehnjhkndbcmgaaGreatDoor
open Go Go.RowKit Go.MapKept
open Go.ChangeMaps (setBlock)
set_option linter.unusedVariables false
set_option maxHeartbeats 400000
set_option linter.unusedSimpArgs false
section
variable {P : Program} {C : Ctx} {o : Oper} {a : Act} {w : World} {K : AV → AS → Prop} {σ : Sto} {ι : AHnd} {s : AS} {d : Nat}
theorem memoOf_inv {S : AStore} {v : AV} {id : Nat} {f : List SV → List SV → SV → Prop} (h : memoOf S v = some (id, f)) : v = .one (.mptr id) ∧ S id = some (.memo f) := by
  unfold memoOf at h
  split at h
  · split at h
    · rename_i e1
      cases h
      exact ⟨rfl, e1⟩
    · cases h
  · cases h
theorem pairOf_inv {v : Value} {S : AStore} {av : AV} {cs ds : List SV} (hv : VRep σ S ι v av) (h : pairOf av = some (cs, ds)) : ∃ v1 v2, v = .agg #[v1, v2] ∧ ARep σ noS noH v1 (.eptr cs) ∧ ARep σ noS noH v2 (.eptr ds) ∧ 2 ≤ cs.length ∧ 2 ≤ ds.length := by
  unfold pairOf at h
  split at h
  · split at h
    · rename_i hl
      cases h
      cases hv with
      | @agg xs _ h1 =>
        have hsz := h1.len
        obtain ⟨v1, e1, r1⟩ := h1.get (j := 0) rfl
        obtain ⟨v2, e2, r2⟩ := h1.get (j := 1) rfl
        refine ⟨v1, v2, ?_, ?_, ?_, hl.1, hl.2⟩
        · congr 1
          apply Array.ext'
          match hx : xs.toList, hsz, e1, e2 with
          | [a, b], _, e1, e2 =>
            simp at e1 e2
            rw [e1, e2]
        · cases r1 with | eptr c k1 k2 k3 => exact .eptr c k1 k2 k3
        · cases r2 with | eptr c k1 k2 k3 => exact .eptr c k1 k2 k3
    · cases h
  · cases h
theorem eptr_plain (hh : hardRows = true) (hf : Fit σ w) {v : Value} {cs : List SV} (h : ARep σ noS noH v (.eptr cs)) (h2 : 2 ≤ cs.length) : ∃ p : Addr, v = .pointer (some p) ∧ Plain w p := by
  obtain ⟨b, oo, hv, c, k1, k2, k3⟩ := arep_eptrH h
  obtain ⟨cc, t, e, _⟩ := look_hardIs (hf _ _ (k3 hh h2))
  exact ⟨_, hv, cc, t, e⟩
theorem eptr_twin {v : Value} {cs cs' : List SV} (h : ARep σ noS noH v (.eptr cs)) (h' : ARep σ noS noH v (.eptr cs')) : Twin cs cs' := by
  obtain ⟨b, oo, hv, c, k1, k2⟩ := arep_eptr h
  obtain ⟨b', oo', hv', c', q1, q2⟩ := arep_eptr h'
  rw [hv] at hv'
  cases hv'
  refine ⟨σ, fun j => (σ ⟨b, oo + j, none⟩).getD undef, fun j x hx => ?_, fun j x hx => ?_⟩
  · simp only [k1 j x hx, Option.getD_some]
    exact k2 j x hx
  · simp only [q1 j x hx, Option.getD_some]
    exact q2 j x hx
structure HasMemo (σ : Sto) (s : AS) (ι : AHnd) (w : World) (v : Value) (id g : Nat) (ents : Array MapEntry) (f : List SV → List SV → SV → Prop) : Prop where
  val : v = .map (some g)
  hnd : (ι id).g = some g
  heap : w.heap[g]? = some (.map ents ents.size)
  rep : MemoRep σ f ents.toList
  blk : s.S id = some (.memo f)
  no : ∀ p : Addr, p.block = g → σ p = none
theorem Refs.hasMemo (R : Refs C σ ι s a w) {v : Value} {av : AV} {id : Nat} {f : List SV → List SV → SV → Prop} (hv : VRep σ s.S ι v av) (h : memoOf s.S av = some (id, f)) : ∃ g ents, HasMemo σ s ι w v id g ents f := by
  obtain ⟨rfl, hS⟩ := memoOf_inv h
  have hb := R.blk _ _ hS
  cases hb with
  | @memo _ g ents h1 h2 h3 h4 =>
  cases vrep_one hv with
  | mptr k1 k2 k3 k4 =>
  rw [hS] at k1
  cases k1
  obtain ⟨g', q1, q2⟩ := k4 rfl
  rw [h1] at q1
  cases q1
  exact ⟨g, ents, q2, h1, h2, h3, hS, h4⟩
theorem HasMemo.keys {v : Value} {id g : Nat} {ents : Array MapEntry} {f : List SV → List SV → SV → Prop} (H : HasMemo σ s ι w v id g ents f) (hh : hardRows = true) (hf : Fit σ w) : ∀ x ∈ ents.toList, ∃ a' b', x.key = pairV a' b' ∧ Plain w a' ∧ Plain w b' := fun x hx => by
  obtain ⟨v1, v2, cs, ds, y, h1, h2, h3, h4, h5, h6, h7⟩ := H.rep x hx
  obtain ⟨p, rfl, hp⟩ := eptr_plain hh hf h2 h4
  obtain ⟨q, rfl, hq⟩ := eptr_plain hh hf h3 h5
  exact ⟨p, q, h1, hp, hq⟩
theorem snd_makeMemo {t : TypeId} (ho : o.op = .makeMap t none) (R : Refs C σ ι s a w) (h : Kd.go P d s K .makeMemo) : Good P C o a w K := by
  simp only [Kd.go] at h
  obtain ⟨hid, hK⟩ := h
  obtain ⟨hu, R'⟩ := R.fresh (w' := w.alloc (.map #[] 0)) hid (.memo fun _ _ _ => False) ⟨none, 0, some w.heap.size⟩ (Ext.refl _ _) (R.fit.alloc _) (More.alloc _ _) (by simp) (fun S' ι' hu => .memo (ents := #[]) rfl (heap_alloc_new w _) (fun e he => by simp at he) (fun p hp => R.fit.no (by omega)))
  refine ⟨.map (some w.heap.size), _, _, σ, _, _, .inl (by simp [execOp, ho, Instr.makeMap, newObj, Sem.run]), hK, R', .one (.mptr (b := .memo fun _ _ _ => False) (by simp [AS.set, updE_same]) (Nat.le_refl _) rfl fun _ => ⟨w.heap.size, by simp [updE_same], rfl⟩)⟩
theorem snd_memoGet {t key elem e el : TypeId} {i j i1 : TypeInfo} {z : Value} {zv : AV} {x k : Operand} {x' k' : Opd} {ok : Bool} (ho : o.op = .lookup t x k ok) (hx : trOpd C.n x = some x') (hk : trOpd C.n k = some k') (ht : P.underlying t = some (.map key elem)) (A : PairKey P key e el i1 j) (hi : P.info? elem = some i) (hz : i.zero = some z) (hzv : ofVal z = some zv)
    (R : Refs C σ ι s a w) (h : Kd.go P d s K (.memoGet ok zv x' k')) : Good P C o a w K := by
  have rx := R.ev hx
  have rk := R.ev hk
  simp only [Kd.go] at h
  split at h
  · rename_i id f cs ds e1 e2
    obtain ⟨hh, hmiss, hhit⟩ := h
    obtain ⟨g, ents, H⟩ := R.hasMemo rx e1
    obtain ⟨v1, v2, hv, r1, r2, l1, l2⟩ := pairOf_inv rk e2
    obtain ⟨p, rfl, hp⟩ := eptr_plain hh R.fit r1 l1
    obtain ⟨q, rfl, hq⟩ := eptr_plain hh R.fit r2 l2
    have hv' : a.eval k = pairV p q := hv
    have hck := fun em => run_checkPair w A em p q
    rcases run_findPairKey w A hp hq ents.toList (H.keys hh R.fit) with hf | ⟨m, y, hf, hy, hyk⟩
    · refine good_val R (if ok then .tuple #[z, .bool false] else z) _ ?_ hmiss ?_
      · simp [execOp, ho, Instr.lookup, run_underlying ht, H.val, MapKept.run_getObj_map H.heap, hv', hck, hf, zeroValue, typeInfo, hi, hz, Result.andThen]
      · cases ok with
        | false => exact ofVal_rep hzv
        | true => exact .tup (fun j => if j = 0 then z else .bool false) rfl (fun j b hb => by
            match j, hb with
            | 0, hb => rfl
            | 1, hb => rfl) (fun j b hb => by
            match j, hb with
            | 0, hb => cases hb; exact ofVal_rep hzv
            | 1, hb => cases hb; exact .one (.st .bool))
    · obtain ⟨u1, u2, cs', ds', x1, q1, q2, q3, q4, q5, q6, q7⟩ := H.rep y (List.mem_of_getElem? hy)
      rw [hyk] at q1
      obtain ⟨rfl, rfl⟩ : Value.pointer (some p) = u1 ∧ Value.pointer (some q) = u2 := by
        unfold pairV at q1
        simpa using q1
      have hK := hhit cs' ds' x1 (eptr_twin r1 q2) (eptr_twin r2 q3) q7
      refine good_val R (if ok then .tuple #[y.val, .bool true] else y.val) _ ?_ hK ?_
      · simp [execOp, ho, Instr.lookup, run_underlying ht, H.val, MapKept.run_getObj_map H.heap, hv', hck, hf, Result.andThen]
      · cases ok with
        | false => exact .one (.st q6)
        | true => exact .tup (fun j => if j = 0 then y.val else .bool true) rfl (fun j b hb => by
            match j, hb with
            | 0, hb => rfl
            | 1, hb => rfl) (fun j b hb => by
            match j, hb with
            | 0, hb => cases hb; exact .one (.st q6)
            | 1, hb => cases hb; exact .one (.st .bool))
  · exact h.elim
theorem MemoRep.put {f : List SV → List SV → SV → Prop} {ents : Array MapEntry} (h : MemoRep σ f ents.toList) {e : MapEntry} (he : ∃ v1 v2 cs ds x, e.key = .agg #[v1, v2] ∧ ARep σ noS noH v1 (.eptr cs) ∧ ARep σ noS noH v2 (.eptr ds) ∧ 2 ≤ cs.length ∧ 2 ≤ ds.length ∧ SRep σ e.val x ∧ f cs ds x) : MemoRep σ f (ents.push e).toList := fun y hy => by
  rw [Array.toList_push, List.mem_append, List.mem_singleton] at hy
  rcases hy with hy | rfl
  · exact h y hy
  · exact he
theorem mem_modify {α : Type} {g : α → α} {x : α} : ∀ {l : List α} {m : Nat}, x ∈ l.modify m g → x ∈ l ∨ ∃ y, l[m]? = some y ∧ x = g y
  | [], m, h => by simp at h
  | y :: l, 0, h => by
    simp only [List.modify_zero_cons, List.mem_cons] at h
    rcases h with rfl | h
    · exact .inr ⟨y, rfl, rfl⟩
    · exact .inl (by simp [h])
  | y :: l, m + 1, h => by
    simp only [List.modify_succ_cons, List.mem_cons] at h
    rcases h with rfl | h
    · exact .inl (by simp)
    · rcases mem_modify h with h | ⟨u, h1, h2⟩
      · exact .inl (by simp [h])
      · exact .inr ⟨u, by simpa using h1, h2⟩
theorem snd_memoSet {t key elem e el : TypeId} {i1 j : TypeInfo} {x k v : Operand} {x' k' v' : Opd} (ho : o.op = .mapUpdate t x k v ∨ o.op = .insert t x k v) (hx : trOpd C.n x = some x') (hk : trOpd C.n k = some k') (hv : trOpd C.n v = some v') (ht : P.underlying t = some (.map key elem)) (A : PairKey P key e el i1 j)
    (R : Refs C σ ι s a w) (h : Kd.go P d s K (.memoSet x' k' v')) : Good P C o a w K := by
  have rx := R.ev hx
  have rk := R.ev hk
  have rv := R.ev hv
  simp only [Kd.go] at h
  split at h
  · rename_i id f cs ds x1 e1 e2 e3
    obtain ⟨hh, hfx, hK⟩ := h
    obtain ⟨g, ents, H⟩ := R.hasMemo rx e1
    obtain ⟨v1, v2, hkv, r1, r2, l1, l2⟩ := pairOf_inv rk e2
    obtain ⟨p, rfl, hp⟩ := eptr_plain hh R.fit r1 l1
    obtain ⟨q, rfl, hq⟩ := eptr_plain hh R.fit r2 l2
    have hv' : a.eval k = pairV p q := hkv
    rw [e3] at rv
    have hr : SRep σ (a.eval v) x1 := arep_st (vrep_one rv)
    have hck := fun em => run_checkPair w A em p q
    have hex : execOp a.eval o = (do Instr.mapUpdate t (a.eval x) (a.eval k) (a.eval v); pure .skip) := by
      rcases ho with ho | ho <;> simp [execOp, ho]
    have hrun : ∃ ents', (execOp a.eval o).run P w = .ok .skip (setBlock w g (.map ents' ents'.size)) ∧ MemoRep σ f ents'.toList := by
      rcases run_findPairKey w A hp hq ents.toList (H.keys hh R.fit) with hf | ⟨m, y, hf, hy, hyk⟩
      · refine ⟨ents.push { key := a.eval k, val := a.eval v, born := ents.size }, ?_, H.rep.put ⟨_, _, cs, ds, x1, hkv, r1, r2, l1, l2, hr, hfx⟩⟩
        rw [hex]
        simp [Instr.mapUpdate, run_underlying ht, H.val, MapKept.run_getObj_map H.heap, hv', hck, hf, Result.andThen, run_setObj_map _ H.heap, setBlock]
      · have hj : ents[m]? = some y := by simpa using hy
        refine ⟨ents.modify m fun e => { e with key := a.eval k, val := a.eval v }, ?_, fun u hu => ?_⟩
        · rw [hex]
          simp [Instr.mapUpdate, run_underlying ht, H.val, MapKept.run_getObj_map H.heap, hv', hck, hf, Result.andThen, hj, hyk, run_pairStays w p q, run_setObj_map _ H.heap, setBlock]
        · rw [Array.toList_modify] at hu
          rcases mem_modify hu with hu | ⟨y', h1, rfl⟩
          · exact H.rep u hu
          · exact ⟨_, _, cs, ds, x1, hkv, r1, r2, l1, l2, hr, hfx⟩
    obtain ⟨ents', q1, q2⟩ := hrun
    obtain ⟨ι', R', hu⟩ := R.setBlk (b' := .memo f) (o' := .map ents' ents'.size) H.blk H.hnd H.heap H.no rfl rfl (fun S' ι' hu => .memo H.hnd (set_heap H.heap).1 q2 H.no)
    have hs : s.set id (.memo f) = s := by
      unfold AS.set
      congr 1
      funext i
      unfold updE
      split
      · rename_i e4; rw [e4, H.blk]
      · rfl
    rw [hs] at R'
    exact ⟨undef, .any, _, σ, ι', _, .inr ⟨rfl, q1⟩, hK, R', .any⟩
  · exact h.elim
end
end Go.Proofs.YtehnjhkndbcmgaaGreatDoor

namespace Go.Proofs.YtehnjhkndbcmgaaGreatDoor
open Go Go.RowKit
set_option linter.unusedVariables false
set_option maxHeartbeats 400000
def sizeG (P : Program) (t : TypeId) : Option (Bool × Nat) := match P.underlying t, P.info? t with
  | some d, some i => some (isAggD d, if isAggD d then i.size else 1)
  | _, _ => none
def svOne (v : Value) : Option SV := match ofCell v with
  | some (.st c) => some c
  | some (.full xs) => some (.list xs)
  | _ => none
def svAll : List Value → Option (List SV)
  | [] => some []
  | v :: vs => match svOne v, svAll vs with
    | some c, some cs => some (c :: cs)
    | _, _ => none
def isP (mu : List Nat) : Option Nat → Bool
  | some d => mu.contains (30000000 + d)
  | none => false
def isStrT (P : Program) (t : TypeId) : Bool := match P.underlying t with
  | some .string => true
  | _ => false
theorem isStrT_inv {P : Program} {t : TypeId} (h : isStrT P t = true) : P.underlying t = some .string := by
  unfold isStrT at h
  split at h
  · assumption
  · cases h
def isZ8 : Value → Bool
  | .int .u8 n => decide (n = 0)
  | _ => false
theorem isZ8_inv {v : Value} (h : isZ8 v = true) : v = .int .u8 0 := by
  unfold isZ8 at h
  split at h
  · rw [of_decide_eq_true h]
  · cases h
def trCall (P : Program) (n : Nat) (mu : List Nat) (dst : Option Nat) (c : Call) : Option Kd := match c.callee with
  | .builtin .len => match c.args.toList, c.argTypes.toList with
    | [x], [t] => match trOpd n x, P.underlying t with
      | some x', some .string => some (.len true x')
      | some x', some (.slice _) => some (.len false x')
      | some x', some (.map _ _) => some (.lenM x')
      | _, _ => none
    | _, _ => none
  | .builtin .append => match c.args.toList, c.argTypes.toList with
    | [x, y], [t, t'] => match trOpd n x, trOpd n y, P.underlying t with
      | some x', some y', some (.slice e) => match P.info? e with
        | some i => match i.zero with
          | some z => if t = t' ∧ z.cells.size = i.size ∧ 0 < i.size then if isP mu dst then some (.appP e i.size i.bytes x' y') else some (.append (match dst with | some d => mu.contains d | none => false) e i.size i.bytes x' y') else if isStrT P t' = true ∧ i.size = 1 ∧ i.bytes = 1 ∧ isZ8 z = true then some (.appS e x' y') else none
          | none => none
        | none => none
      | _, _, _ => none
    | _, _ => none
  | .builtin .clear => match c.args.toList, c.argTypes.toList with
    | [x], [t] => match trOpd n x, P.underlying t with
      | some x', some (.slice e) => match P.info? e with
        | some i => match i.zero with
          | some z => match svAll z.cells.toList with
            | some zs => if z.cells.size = i.size ∧ 0 < i.size then some (.clearP e i.size zs x') else none
            | none => none
          | none => none
        | none => none
      | _, _ => none
    | _, _ => none
  | .builtin .min => match c.args.toList with
    | [x, y] => match trOpd n x, trOpd n y with
      | some x', some y' => some (.mm false x' y')
      | _, _ => none
    | _ => none
  | .builtin .max => match c.args.toList with
    | [x, y] => match trOpd n x, trOpd n y with
      | some x', some y' => some (.mm true x' y')
      | _, _ => none
    | _ => none
  | .value (.func f) => if plainF P f then (trOpds n c.args.toList).map (fun xs => match dst with
    | some d => if mu.contains d then .callS f xs else if mu.contains (20000000 + d) then .callN f xs else if mu.contains (40000000 + d) then .callR f xs else if mu.contains (50000000 + d) then .callW f xs else .call f xs
    | none => .callS f xs) else none
  | .value (.tmp t) => match trOpd n (.tmp t), trOpds n c.args.toList with
    | some f', some xs => some (.callV f' xs)
    | _, _ => none
  | _ => none
def plainT (P : Program) (t : TypeId) : Bool := match P.underlying t with
  | some (.int _) => true
  | some .string => true
  | some .bool => true
  | _ => false
def mapTy (P : Program) (t : TypeId) : Option (TypeId × Option IntKind) := match P.underlying t with
  | some (.map k e) => match P.underlying k with
    | some td => (ktOf td).map fun kt => (e, kt)
    | none => none
  | _ => none
theorem mapTy_inv {P : Program} {t e : TypeId} {kt : Option IntKind} (h : mapTy P t = some (e, kt)) : ∃ k td, P.underlying t = some (.map k e) ∧ P.underlying k = some td ∧ ktOf td = some kt := by
  unfold mapTy at h
  split at h
  · rename_i k e' e1
    split at h
    · rename_i td e2
      rw [Option.map_eq_some_iff] at h
      obtain ⟨q, h1, h2⟩ := h
      cases h2
      exact ⟨k, td, e1, e2, h1⟩
    · cases h
  · cases h
def zeroOf (P : Program) (e : TypeId) : Option AV := match P.info? e with
  | some i => match i.zero with
    | some z => ofVal z
    | none => none
  | none => none
theorem zeroOf_inv {P : Program} {e : TypeId} {zv : AV} (h : zeroOf P e = some zv) : ∃ i z, P.info? e = some i ∧ i.zero = some z ∧ ofVal z = some zv := by
  unfold zeroOf at h
  split at h
  · rename_i i e1
    split at h
    · rename_i z e2
      exact ⟨i, z, e1, e2, h⟩
    · cases h
  · cases h
def trKd0 (P : Program) (n : Nat) (mu : List Nat) (dst : Option Nat) : Op → Option Kd
  | .move x => (trOpd n x).map .mov
  | .assign x => (trOpd n x).map .mov
  | .pick c x y => match trOpd n c, trOpd n x, trOpd n y with
    | some c', some x', some y' => some (.pick c' x' y')
    | _, _, _ => none
  | .alloc e => match P.info? e with
    | some i => match i.zero with
      | some z => (ofCells z.cells.toList).map (.alloc e)
      | none => none
    | none => none
  | .box e x => (trOpd n x).map (.box e)
  | .build t ps => match P.info? t, P.underlying t with
    | some it, some (.struct fs) => match it.zero, fs.toList.mapM (fun f => (P.info? f.type).map fun i => (f.offset, i.size)) with
      | some z, some places => match trParts n places ps.toList, ofCells z.cells.toList with
        | some ps', some cs => some (.build cs ps')
        | _, _ => none
      | _, _ => none
    | _, _ => none
  | .buildSlice t len ps => match P.underlying t with
    | some (.slice e) => match P.info? e with
      | some ie => match ie.zero, trEls n 0 ps.toList with
        | some z, some xs => if len * ie.size ≤ 2 ^ 24 ∧ 0 < ie.size ∧ ps.size = len then (if plainT P e && ie.size == 1 && !(match dst with | some d => mu.contains d | none => false) then some (.buildFlat xs) else some (.buildSlice (match dst with | some d => mu.contains d | none => false) e ie.size xs)) else none
        | _, _ => none
      | none => none
    | _ => none
  | .load t x => match sizeG P t, trOpd n x with
    | some (g, k), some x' => some (.load g k x')
    | _, _ => none
  | .store t x v => match P.info? t, trOpd n x, trOpd n v with
    | some i, some x', some v' => some (.store i.size x' v')
    | _, _, _ => none
  | .fieldAddr t x f => match P.underlying t, trOpd n x with
    | some (.struct fs), some x' => match fs[f]? with
      | some fd => match P.info? fd.type with
        | some i => if i.size ≠ 0 then some (.fieldAddr fd.offset x') else none
        | none => none
      | none => none
    | _, _ => none
  | .field t x f => match P.underlying t, trOpd n x with
    | some (.struct fs), some x' => match fs[f]? with
      | some fd => match sizeG P fd.type with
        | some (g, k) => some (.field g fd.offset k x')
        | none => none
      | none => none
    | _, _ => none
  | .indexAddr t x y => match P.underlying t, trOpd n x, trOpd n y with
    | some (.slice e), some x', some y' => match P.info? e with
      | some i => if isP mu dst then some (.indexP i.size x' y') else some (.indexAddr i.size x' y')
      | none => none
    | some (.array len e), some x', some y' => match P.info? e with
      | some i => some (.indexArr len i.size x' y')
      | none => none
    | _, _, _ => none
  | .index t x y => match P.underlying t, trOpd n x, trOpd n y with
    | some .string, some x', some y' => some (.indexStr x' y')
    | _, _, _ => none
  | .binOp op t x y _ => match trOpd n x, trOpd n y with
    | some x', some y' => match P.underlying t, op, y with
      | some .bool, .eql, _ => some (.eqB false x' y')
      | some .bool, .neq, _ => some (.eqB true x' y')
      | some (.slice _), .eql, .const (.slice none 0 0) => some (.eqN false x')
      | some (.slice _), .neq, .const (.slice none 0 0) => some (.eqN true x')
      | some (.interface _), .eql, .const .nilIface => some (.eqE false x')
      | some (.interface _), .neq, .const .nilIface => some (.eqE true x')
      | _, _, _ => some (.bin op x' y')
    | _, _ => none
  | .unOp op _ x => (trOpd n x).map (.un op)
  | .convert src dst x => match P.underlying src, P.underlying dst, trOpd n x with
    | some _, some (.int k), some x' => some (.conv k x')
    | some (.slice e), some .string, some x' => match P.underlying e with
      | some (.int .u8) => some (.strOf x')
      | _ => none
    | _, _, _ => none
  | .slice t x lo hi none => match P.underlying t, trOpd n x, trOptOpd n lo, trOptOpd n hi with
    | some .string, some x', some lo', some hi' => some (.sliceS x' lo' hi')
    | some (.slice e), some x', some lo', some hi' => match P.info? e with
      | some i => if isP mu dst then (match lo', hi' with | none, some h' => some (.cutP i.size x' h') | some l', none => some (.restP i.size x' l') | _, _ => none) else some (.sliceL i.size x' lo' hi')
      | none => none
    | _, _, _, _ => none
  | .extract x i => (trOpd n x).map (.extract i)
  | .nilCheck x => (trOpd n x).map .nilCheck
  | .call c => trCall P n mu dst c
  | .makeSlice t x y => match P.underlying t, trOpd n x, trOpd n y with
    | some (.slice e), some x', some y' => match P.info? e with
      | some i => match i.zero with
        | some z => match svAll z.cells.toList with
          | some zs => if z.cells.size = i.size ∧ 0 < i.size then some (.makeSlice e i.size i.bytes zs x' y') else none
          | none => none
        | none => none
      | none => none
    | _, _, _ => none
  | .makeMap t none => (mapTy P t).map fun q => .makeMap q.2
  | .lookup t x k ok => match mapTy P t, trOpd n x, trOpd n k with
    | some (e, kt), some x', some k' => (zeroOf P e).map fun z => .lookup kt ok z x' k'
    | _, _, _ => none
  | .mapUpdate t x k v => match mapTy P t, trOpd n x, trOpd n k, trOpd n v with
    | some (_, kt), some x', some k', some v' => some (.mapSet kt x' k' v')
    | _, _, _, _ => none
  | .insert t x k v => match mapTy P t, trOpd n x, trOpd n k, trOpd n v with
    | some (_, kt), some x', some k', some v' => some (.mapSet kt x' k' v')
    | _, _, _, _ => none
  | .mapEntry t x k => match mapTy P t, trOpd n x, trOpd n k with
    | some (e, kt), some x', some k' => (zeroOf P e).map fun z => .mapEntry kt z x' k'
    | _, _, _ => none
  | .entryStore _ x k v => match trOpd n x, trOpd n k, trOpd n v with
    | some x', some k', some v' => some (.entrySet x' k' v')
    | _, _, _ => none
  | .range t x => match P.underlying t, trOpd n x with
    | some (.map _ _), some x' => some (.rangeM x')
    | _, _ => none
  | .next x false => (trOpd n x).map .next
  | .entry x => (trOpd n x).map .entry
  | .makeInterface t x => match P.underlying t, trOpd n x with
    | some (.int _), some x' => some (.iface t x')
    | _, _ => none
  | .makeFunc (.func g) first caps => if first.size = 0 then (trOpds n caps.toList).map (.makeFunc g) else none
  | _ => none
def trGuard (n : Nat) (ops : List Oper) : Option (Nat × Bool) → Option (Option (Nat × Bool))
  | none => some none
  | some (j, want) => match ops[j]? with
    | some o => match o.dst with
      | some t => if t < n then some (some (t, want)) else none
      | none => none
    | none => none
def pairTy (P : Program) (k : TypeId) : Bool := match P.underlying k with
  | some (.array 2 e) => match P.underlying e, P.info? e with
    | some (.pointer el), some i => match P.info? el with
      | some j => i.size == 1 && j.size != 0
      | none => false
    | _, _ => false
  | _ => false
theorem pairTy_inv {P : Program} {k : TypeId} (h : pairTy P k = true) : ∃ e el i j, PairKey P k e el i j := by
  unfold pairTy at h
  split at h
  · rename_i e e1
    split at h
    · rename_i el i e2 e3
      split at h
      · rename_i j e4
        simp at h
        exact ⟨e, el, i, j, e1, e2, e3, h.1, e4, h.2⟩
      · cases h
    · cases h
  · cases h
def trMemo (P : Program) (n : Nat) : Op → Option Kd
  | .makeMap t none => match P.underlying t with
    | some (.map k _) => if pairTy P k = true then some .makeMemo else none
    | _ => none
  | .lookup t x k ok => match P.underlying t, trOpd n x, trOpd n k with
    | some (.map key e), some x', some k' => if pairTy P key = true then (zeroOf P e).map fun z => .memoGet ok z x' k' else none
    | _, _, _ => none
  | .mapUpdate t x k v => match P.underlying t, trOpd n x, trOpd n k, trOpd n v with
    | some (.map key _), some x', some k', some v' => if pairTy P key = true then some (.memoSet x' k' v') else none
    | _, _, _, _ => none
  | .insert t x k v => match P.underlying t, trOpd n x, trOpd n k, trOpd n v with
    | some (.map key _), some x', some k', some v' => if pairTy P key = true then some (.memoSet x' k' v') else none
    | _, _, _, _ => none
  | .build t ps => match ps.toList, P.info? t with
    | [(0, x), (1, y)], some it => match it.zero, trOpds n [x, y] with
      | some z, some xs => if pairTy P t = true ∧ z.cells.size = 2 then some (.buildArr xs) else none
      | _, _ => none
    | _, _ => none
  | _ => none
def isStill (mu : List Nat) : Option Nat → Bool
  | some d => mu.contains (60000000 + d)
  | none => false
def Kd.stillIf (b : Bool) (k : Kd) : Kd := match b with
  | true => k.stillOf
  | false => k
theorem stillIf_go {P : Program} {d : Nat} {s : AS} {K : AV → AS → Prop} {b : Bool} {kd : Kd} (h : (kd.stillIf b).go P d s K) : kd.go P d s K := by
  cases b with
  | true => exact stillOf_go h
  | false => exact h
def trKd (P : Program) (n : Nat) (mu : List Nat) (dst : Option Nat) (op : Op) : Option Kd := match trKd0 P n mu dst op with
  | some k => some (k.stillIf (isStill mu dst))
  | none => match trMemo P n op with
    | some k => some k
    | none => match op with
      | .panic x => (trOpd n x).map .pan
      | _ => some .never
def trIns (P : Program) (n : Nat) (mu : List Nat) (ops : List Oper) (o : Oper) : Option Ins := match trGuard n ops o.guard, trKd P n mu o.dst o.op with
  | some g, some k => some ⟨o.dst, g, k, .no⟩
  | _, _ => none
def trAll (P : Program) (n : Nat) (mu : List Nat) (ops : List Oper) : List Oper → Option (List Ins)
  | [] => some []
  | o :: os => match trIns P n mu ops o, trAll P n mu ops os with
    | some i, some is => some (i :: is)
    | _, _ => none
section
variable {P : Program} {C : Ctx} {o : Oper} {a : Act} {w : World} {σ : Sto} {ι : AHnd} {s : AS} {d : Nat}
def Holds (C : Ctx) (s : AS) (a : Act) (w : World) : Prop := ∃ σ ι, Refs C σ ι s a w
theorem sizeG_spec {t : TypeId} {g : Bool} {k : Nat} (h : sizeG P t = some (g, k)) : ∃ dd i, P.underlying t = some dd ∧ P.info? t = some i ∧ g = isAggD dd ∧ k = if g then i.size else 1 := by
  unfold sizeG at h
  split at h
  · rename_i dd i e1 e2
    simp only [Option.some.injEq, Prod.mk.injEq] at h
    obtain ⟨rfl, rfl⟩ := h
    exact ⟨dd, i, e1, e2, rfl, rfl⟩
  · cases h
theorem snd_call {f : FuncId} {xs : Array Operand} {ts : Array TypeId} {xs' : List Opd} {K : AV → AS → Prop} {next : Act → World → Prop} {Q : Exit → Act → World → Prop} (ho : o.op = .call { callee := .value (.func f), args := xs, argTypes := ts }) (hf : plainF P f = true) (hx : trOpds C.n xs.toList = some xs')
    (R : Refs C σ ι s a w) (h : Kd.go P d s K (.call f xs')) (hn : ∀ av s' a' w', K av s' → Holds C (s'.put o.dst av) a' w' → next a' w') : o.wp P a w next Q := by
  simp only [Kd.go] at h
  split at h
  · rename_i vs e1
    obtain ⟨r, hc, hK⟩ := h
    have rxs := R.evs hx
    have hrun : (execOp a.eval o).run P w = .ok (.enter f (xs.map a.eval)) w := by
      unfold plainF at hf
      split at hf
      · rename_i fn hfn
        simp only [Bool.and_eq_true, Bool.not_eq_true', beq_eq_false_iff_ne, Option.isSome_iff_exists] at hf
        obtain ⟨hname, c, hbody⟩ := hf
        simp [execOp, ho, resolve, Deferred.ofValue, Act.eval, invoke, callFunc, hfn, hname, hbody]
      · cases hf
    have hvs : All2 (VRep σ noS noH) (xs.map a.eval).toList vs := by
      have := rxs
      rw [← Array.toList_map] at this
      have hlen := this.len
      obtain ⟨q1, q2⟩ := Refs.outVs R (cs := s.evs xs') (cs' := vs) (c := fun j => ((xs.map a.eval).toList[j]?).getD undef) (fun j b hb => by
        obtain ⟨v, v1, v2⟩ := this.get hb
        rw [v1]
        exact v2) e1
      refine All2.of_get (by omega) fun j v b hv hb => ?_
      have := q2 j b hb
      rw [hv] at this
      exact this
    unfold Oper.wp
    rw [hrun, Oper.upon_enter]
    have hcall := hc σ w _ (C.glob.mono R.ext) R.fit hvs
    rw [Array.toArray_toList] at hcall
    refine hcall.mono fun e w' he => ?_
    obtain ⟨v, σ', rfl, hv, hf', hext, hb⟩ := he
    exact hn _ _ _ _ hK ⟨σ', ι, (R.more hext hf' hb).put (hv.mono (fun _ _ h => h) (upd_noS _ _))⟩
  · exact h.elim
theorem snd_mm {mx : Bool} {x y : Operand} {ts : Array TypeId} {x' y' : Opd} {K : AV → AS → Prop} (ho : o.op = .call { callee := .builtin (if mx then .max else .min), args := #[x, y], argTypes := ts }) (hx : trOpd C.n x = some x') (hy : trOpd C.n y = some y') (R : Refs C σ ι s a w) (h : Kd.go P d s K (.mm mx x' y')) : Good P C o a w K := by
  have rx := R.ev hx
  have ry := R.ev hy
  simp only [Kd.go] at h
  split at h
  · rename_i k m k' n e1 e2
    rw [e1] at rx
    rw [e2] at ry
    obtain ⟨hex, h1⟩ := vrep_int rx
    obtain ⟨hey, h2⟩ := vrep_int ry
    obtain ⟨rfl, h⟩ := h
    cases mx with
    | true =>
      simp only [if_true] at h ho
      by_cases hlt : m < n
      · rw [if_pos hlt] at h
        exact good_val R (.int k n) _ (by simp [execOp, ho, resolve, invoke, builtin, Builtin.max_, Builtin.max2, hex, hey, hlt]) h (.one (.st (.int h2)))
      · rw [if_neg hlt] at h
        exact good_val R (.int k m) _ (by simp [execOp, ho, resolve, invoke, builtin, Builtin.max_, Builtin.max2, hex, hey, hlt]) h (.one (.st (.int h1)))
    | false =>
      simp only [Bool.false_eq_true, if_false] at h ho
      by_cases hlt : n < m
      · rw [if_pos hlt] at h
        exact good_val R (.int k n) _ (by simp [execOp, ho, resolve, invoke, builtin, Builtin.min_, Builtin.min2, hex, hey, hlt]) h (.one (.st (.int h2)))
      · rw [if_neg hlt] at h
        exact good_val R (.int k m) _ (by simp [execOp, ho, resolve, invoke, builtin, Builtin.min_, Builtin.min2, hex, hey, hlt]) h (.one (.st (.int h1)))
  · exact h.elim
theorem svOne_rep {v : Value} {c : SV} (h : svOne v = some c) : SRep σ v c := by
  unfold svOne at h
  split at h
  · rename_i e
    cases h
    have := ofCell_rep (σ := σ) (S := noS) (ι := noH) e
    exact arep_st this
  · rename_i e
    cases h
    have := ofCell_rep (σ := σ) (S := noS) (ι := noH) e
    exact arep_full this
  · cases h
theorem svAll_rep : ∀ {vs : List Value} {cs : List SV}, svAll vs = some cs → All2 (SRep σ) vs cs
  | [], cs, h => by simp only [svAll, Option.some.injEq] at h; subst h; exact .nil
  | v :: vs, cs, h => by
    simp only [svAll] at h
    split at h
    · rename_i k1 k2
      cases h
      exact .cons (svOne_rep k1) (svAll_rep k2)
    · cases h
theorem laid_zero {z : Array Value} {zs : List SV} (hzs : svAll z.toList = some zs) (hpos : 0 < z.size) (n : Nat) : Laid σ (Builtin.zeroCells z n).toList z.size (List.replicate n zs) := by
  have rz := svAll_rep (σ := σ) hzs
  have hzl := rz.len
  simp only [Array.length_toList] at hzl
  refine ⟨fun x hx => by rw [(List.mem_replicate.1 hx).2]; exact hzl.symm, fun k x j y hx hy => ?_⟩
  obtain ⟨hk1, hk2⟩ := List.getElem?_eq_some_iff.1 hx
  simp only [List.length_replicate] at hk1
  rw [List.getElem_replicate] at hk2
  subst hk2
  have hj : j < z.size := by
    have := (List.getElem?_eq_some_iff.1 hy).1
    omega
  obtain ⟨v, v1, v2⟩ := rz.get hy
  refine ⟨v, ?_, v2⟩
  have hlt : k * z.size + j < n * z.size := by
    have : (k + 1) * z.size ≤ n * z.size := Nat.mul_le_mul_right _ hk1
    rw [Nat.add_mul] at this
    omega
  have em : (k * z.size + j) % z.size = j := by rw [Nat.mul_comm, Nat.mul_add_mod, Nat.mod_eq_of_lt hj]
  have hv : z[j]? = some v := by simpa using v1
  unfold Builtin.zeroCells
  simp only [Array.getElem?_toList, Array.getElem?_map, Array.getElem?_range, if_pos hlt, Option.map_some, em]
  simp only [Array.getElem!_eq_getD, Array.getD_eq_getD_getElem?, hv, Option.getD_some]
theorem zero_one {z : Array Value} {zs : List SV} (hzs : svAll z.toList = some zs) (hpos : 0 < z.size) (n : Nat) : ∀ u ∈ (Builtin.zeroCells z n).toList, u.oneCell' = true := fun u hu => by
  have rz := svAll_rep (σ := fun _ => none) hzs
  unfold Builtin.zeroCells at hu
  simp only [Array.toList_map, List.mem_map] at hu
  obtain ⟨q, _, rfl⟩ := hu
  have hq : q % z.size < z.size := Nat.mod_lt _ hpos
  rw [getElem!_pos z (q % z.size) hq]
  obtain ⟨c, _, hc⟩ := rz.get' (show z.toList[q % z.size]? = some z[q % z.size] by simp [hq])
  exact hc.one
theorem snd_clearP {t e : TypeId} {i : TypeInfo} {z : Value} {zs : List SV} {x : Operand} {x' : Opd} {K : AV → AS → Prop} (ho : o.op = .call { callee := .builtin .clear, args := #[x], argTypes := #[t] }) (hx : trOpd C.n x = some x') (ht : P.underlying t = some (.slice e)) (hi : P.info? e = some i) (hz : i.zero = some z) (hzs : svAll z.cells.toList = some zs) (hsz : z.cells.size = i.size) (hpos : 0 < i.size)
    (R : Refs C σ ι s a w) (h : Kd.go P d s K (.clearP e i.size zs x')) : Good P C o a w K := by
  have rx := R.ev hx
  simp only [Kd.go] at h
  split at h
  · rename_i id q m e1
    rw [e1] at rx
    replace rx := vrep_one rx
    split at h
    · rename_i e' w' xs hS
      obtain ⟨⟨hm, rfl, rfl⟩, hK⟩ := h
      obtain ⟨b, hb1, hb2, hb3⟩ := arep_rest rx
      rw [hS] at hb1
      cases hb1
      obtain ⟨hqm, hex⟩ := hb3 hm
      have hb := R.blk _ _ hS
      have hmm : m = xs.length := hm
      have hex2 : ∀ v w2, (Builtin.clear_ #[t] o.type #[a.eval x]).run P w = .ok v w2 → (execOp a.eval o).run P w = .ok (.value v) w2 := fun v w2 hr => by
        simp only [execOp, ho, resolve, invoke, builtin, Sem.run_bind, Sem.run_pure, Result.andThen_ok, List.map_toArray, List.map_cons, List.map_nil, hr]
      have hlen : (xs.take q ++ List.replicate (m - q) zs).length = xs.length := by simp; omega
      by_cases h0 : m - q = 0
      · have hrun := hex2 (.tuple #[]) w (by
          rw [hex, h0]
          generalize (if (ι id).cap = q then (ι id).p else Option.map (fun x => x.add (q * (ABlk.mrow e' i.size xs).wid)) (ι id).p) = pp
          cases pp <;> simp [Builtin.clear_, run_underlying ht])
        have hq : q = xs.length := by omega
        have hsame : s.set id (.mrow e' i.size (xs.take q ++ List.replicate (m - q) zs)) = s := by
          rw [h0, List.replicate_zero, List.append_nil, List.take_of_length_le (by omega)]
          obtain ⟨env, S⟩ := s
          simp only [AS.set, AS.mk.injEq, true_and]
          funext k
          unfold updE
          split
          · rename_i hk; subst hk; exact hS.symm
          · rfl
        rw [hsame] at hK
        exact ⟨_, _, s, σ, ι, w, .inl hrun, hK, R, .tup (fun _ => undef) rfl (by simp) (by simp)⟩
      · cases hb with
        | mnil k1 => simp at hmm; omega
        | @mrow _ _ _ g vs k1 k2 k3 k4 k5 k6 k7 k8 k9 =>
          have hcap : xs.length * i.size ≤ (ι id).cap * i.size := Nat.mul_le_mul_right _ k4
          have hqw : q * i.size + (m - q) * i.size = xs.length * i.size := by rw [← Nat.add_mul]; congr 1; omega
          have hzl : (Builtin.zeroCells z.cells (m - q)).toList.length = (m - q) * i.size := by rw [Array.length_toList, size_zeroCells, hsz]
          have hst := run_storeCells_at P g (q * i.size) e' (Builtin.zeroCells z.cells (m - q)).toList 0 vs w k3 (by rw [hzl]; omega) (zero_one hzs (by omega) _)
          rw [Nat.add_zero, hzl] at hst
          generalize hA : (vs.toList.take (q * i.size) ++ (Builtin.zeroCells z.cells (m - q)).toList ++ vs.toList.drop (q * i.size + (m - q) * i.size)).toArray = A at hst
          have hne : ¬ (ι id).cap = q := by omega
          have hrun := hex2 (.tuple #[]) (w.setRow g A) (by
            rw [hex, if_neg hne, k2]
            obtain ⟨n', hn'⟩ : ∃ n', m - q = n' + 1 := ⟨m - q - 1, by omega⟩
            simp only [Option.map_some, addr_add, Nat.zero_add, ABlk.wid]
            rw [hn'] at hst ⊢
            simp [Builtin.clear_, run_underlying ht, zeroValue, typeInfo, hi, hz, hst])
          have hheap : (w.setRow g A).heap[g]? = some (.cells A e' (0, 0)) := setRow_heap w _ _ _ _ _ k3
          have hlaidAll : Laid σ vs.toList i.size xs := ⟨k7, fun kk x j y hx hy => by
            obtain ⟨v, v1, v2⟩ := k8 kk x j y hx hy
            exact ⟨v, by simpa using v1, v2⟩⟩
          have hl : Laid σ A.toList i.size (xs.take q ++ List.replicate (m - q) zs) := by
            have h2 := laid_zero (σ := σ) hzs (by omega) (m - q)
            have htl : (vs.toList.take (q * i.size)).length = (xs.take q).length * i.size := by
              have e1 : (xs.take q).length = q := by rw [List.length_take]; omega
              have e2 : vs.toList.length = (ι id).cap * i.size := by rw [Array.length_toList, k6]
              rw [e1, List.length_take, e2]
              omega
            rw [hsz] at h2
            have h3 := ((laid_take hlaidAll q).append h2 htl).more (vs.toList.drop (q * i.size + (m - q) * i.size))
            rw [← hA]
            exact h3
          have hAs : A.size = (ι id).cap * i.size := by
            rw [← hA]
            simp only [List.size_toArray, List.length_append, List.length_take, List.length_drop, hzl, Array.length_toList, k6]
            omega
          obtain ⟨hu, R'⟩ := R.turn (w' := w.setRow g A) hS (.mrow e' i.size (xs.take q ++ List.replicate (m - q) zs)) (ι id) (σ' := σ) (fun _ _ h => h)
            (fun _ _ _ => rfl) (R.fit.row k9 fun k hk => setRow_other _ _ _ _ hk) (by simp only [ABlk.len, hlen]; exact Nat.le_refl _) (fun _ => ⟨rfl, rfl⟩) (setRow_frame _ _) (by simp) (fun k hk hne => setRow_other _ _ _ _ (fun e => hne (by rw [e]; exact k1))) (fun g h => .inl h)
            (fun hu => .mrow k1 k2 hheap (by rw [hlen]; exact k4) k5 hAs hl.1 (laid_rep hl fun j v hv => by simpa using hv) k9)
          exact ⟨_, _, _, _, _, _, .inl hrun, hK, R', .tup (fun _ => undef) rfl (by simp) (by simp)⟩
    · exact h.elim
  · exact h.elim
theorem snd_makeSlice {t e : TypeId} {i : TypeInfo} {z : Value} {zs : List SV} {x y : Operand} {x' y' : Opd} {K : AV → AS → Prop} (ho : o.op = .makeSlice t x y) (hx : trOpd C.n x = some x') (hy : trOpd C.n y = some y') (ht : P.underlying t = some (.slice e)) (hi : P.info? e = some i) (hz : i.zero = some z) (hzs : svAll z.cells.toList = some zs) (hsz : z.cells.size = i.size) (hpos : 0 < i.size)
    (R : Refs C σ ι s a w) (h : Kd.go P d s K (.makeSlice e i.size i.bytes zs x' y')) : Good P C o a w K := by
  have rx := R.ev hx
  have ry := R.ev hy
  simp only [Kd.go] at h
  split at h
  · rename_i k m k' n e1 e2
    rw [e1] at rx
    rw [e2] at ry
    obtain ⟨hex, -⟩ := vrep_int rx
    obtain ⟨hey, -⟩ := vrep_int ry
    obtain ⟨rfl, h0, h63, hby, hid, hK⟩ := h
    obtain ⟨q, rfl⟩ : ∃ q : Nat, m = q := ⟨m.toNat, by omega⟩
    simp only [Int.toNat_natCast] at hK
    have hr := run_make (P := P) w t e i z ht hi hz k k' (q : Int) (q : Int) (by omega) (Int.le_refl _) (by rw [Int.mul_comm]; omega) h63
    simp only [Int.toNat_natCast] at hr
    have rz := svAll_rep (σ := σ) hzs
    have hzl := rz.len
    have hmax : q ≤ maxLen := by simp only [maxLen]; omega
    obtain ⟨hu, R'⟩ := R.fresh (w' := w.alloc (.cells (madeCells z.cells (q * i.size)) e)) hid (.mrow e i.size (List.replicate q zs)) ⟨some ⟨w.heap.size, 0, none⟩, q, some w.heap.size⟩ (Ext.refl _ _) (R.fit.alloc _) (More.alloc _ _) (by simp)
      (fun S' ι' hu => .mrow rfl rfl (heap_alloc_new w _) (by simp) hmax (by simp [madeCells]) (fun x hx => by rw [(List.mem_replicate.1 hx).2]; simp at hzl; omega) (fun kk x j y hx hy => by
        obtain ⟨hk1, hk2⟩ := List.getElem?_eq_some_iff.1 hx
        simp only [List.length_replicate] at hk1
        rw [List.getElem_replicate] at hk2
        subst hk2
        have hj : j < i.size := by
          have := (List.getElem?_eq_some_iff.1 hy).1
          simp at hzl
          omega
        obtain ⟨v, v1, v2⟩ := rz.get hy
        refine ⟨v, ?_, v2⟩
        have hlt : kk * i.size + j < q * i.size := by
          have : (kk + 1) * i.size ≤ q * i.size := Nat.mul_le_mul_right _ hk1
          rw [Nat.add_mul] at this
          omega
        have hjz : j < z.cells.size := by omega
        have em : (kk * i.size + j) % z.cells.size = j := by rw [hsz, Nat.mul_comm, Nat.mul_add_mod, Nat.mod_eq_of_lt hj]
        have hv : z.cells[j]? = some v := by simpa using v1
        unfold madeCells
        rw [Array.getElem?_map, Array.getElem?_range, if_pos hlt, Option.map_some, em]
        simp only [Array.getElem!_eq_getD, Array.getD_eq_getD_getElem?, hv, Option.getD_some]) (fun p hp => R.fit.no (by omega)))
    exact ⟨_, _, _, σ, _, _, .inl (by simp only [execOp, ho, hex, hey, Sem.run_bind, hr, Result.andThen_ok]; rfl), hK, R', .one (.row (b := .mrow e i.size (List.replicate q zs)) (by simp [AS.set, updE_same]) (by simp [ABlk.len]) rfl fun _ => by simp [updE_same])⟩
  · exact h.elim
theorem caps_rep (R : Refs C σ ι s a w) : ∀ {xs : List Operand} {xs' : List Opd} {cs : List AC}, trOpds C.n xs = some xs' → s.caps xs' = some cs → All2 (ARep σ s.S ι) (xs.map a.eval) cs
  | [], xs', cs, h1, h2 => by
    simp only [trOpds, Option.some.injEq] at h1
    subst h1
    simp only [AS.caps, Option.some.injEq] at h2
    subst h2
    exact .nil
  | x :: xs, xs', cs, h1, h2 => by
    simp only [trOpds] at h1
    split at h1
    · rename_i k1 k2
      cases h1
      simp only [AS.caps] at h2
      split at h2
      · rename_i e1 e2
        cases h2
        have rx := R.ev k1
        rw [e1] at rx
        exact .cons (vrep_one rx) (caps_rep R k2 e2)
      · cases h2
    · cases h1
theorem snd_buildArr {t e el : TypeId} {it i1 j : TypeInfo} {z : Value} {ps : Array (Nat × Operand)} {x y : Operand} {xs : List Opd} {K : AV → AS → Prop} (ho : o.op = .build t ps) (hps : ps.toList = [(0, x), (1, y)]) (A : PairKey P t e el i1 j) (hit : P.info? t = some it) (hz : it.zero = some z) (hzs : z.cells.size = 2) (hx : trOpds C.n [x, y] = some xs) (R : Refs C σ ι s a w) (h : Kd.go P d s K (.buildArr xs)) : Good P C o a w K := by
  simp only [Kd.go] at h
  split at h
  · rename_i cs e1
    have rc := caps_rep R hx e1
    have hps' : ps = #[(0, x), (1, y)] := by rw [← hps]
    subst hps'
    match cs, rc with
    | [c1, c2], .cons r1 (.cons r2 .nil) =>
    have k1 := cells_of_one r1.one
    have k2 := cells_of_one r2.one
    obtain ⟨u, v, hzc⟩ : ∃ u v, z.cells = #[u, v] := by
      have h3 : z.cells.toList.length = 2 := by simpa using hzs
      match hl : z.cells.toList, h3 with
      | [u, v], _ => exact ⟨u, v, by rw [← hl]⟩
    refine good_val R (.agg #[a.eval x, a.eval y]) _ ?_ h (.agg (.cons r1 (.cons r2 .nil)))
    simp [execOp, ho, Instr.build, zeroValue, typeInfo, hit, hz, run_underlying A.arr, sizeOf, A.info, A.size, Instr.fill, k1, k2, hzc, Result.andThen]
  · exact h.elim
theorem snd_makeFunc {g : FuncId} {first caps : Array Operand} {xs : List Opd} {K : AV → AS → Prop} (ho : o.op = .makeFunc (.func g) first caps) (hf : first.size = 0) (hx : trOpds C.n caps.toList = some xs) (R : Refs C σ ι s a w) (h : Kd.go P d s K (.makeFunc g xs)) : Good P C o a w K := by
  simp only [Kd.go] at h
  split at h
  · rename_i cs e1
    have rc := caps_rep R hx e1
    have e0 : first = #[] := Array.eq_empty_of_size_eq_zero hf
    subst e0
    have hl := rc.len
    refine good_val R (.func (.func g) #[] (caps.map a.eval)) _ (by simp [execOp, ho, Instr.makeFunc]) h (.one (.fn (fun j => ((caps.toList.map a.eval)[j]?).getD undef) (by simpa using hl) (fun j b hb => ?_) (fun j b hb => ?_)))
    · obtain ⟨v, v1, v2⟩ := rc.get hb
      rw [v1]
      simpa using v1
    · obtain ⟨v, v1, v2⟩ := rc.get hb
      rw [v1]
      exact v2
  · exact h.elim
theorem callS_core {f : FuncId} {vs : List Value} {avs : List AV} {r : AV} {S' : AStore} {next : Act → World → Prop} {Q : Exit → Act → World → Prop} (R : Refs C σ ι s a w) (hrun : (execOp a.eval o).run P w = .ok (.enter f vs.toArray) w) (hvs : All2 (VRep σ s.S ι) vs avs)
    (h : ACallsS P f (AV.rens up1 avs) (upS s.S) r S') (hn : ∀ a' w', Holds C ((⟨s.env, dnS S'⟩ : AS).put o.dst (r.ren dn1)) a' w' → next a' w') : o.wp P a w next Q := by
  have hup : ∀ i, dn1 (up1 i) = i := dn_up
  have hS : ∀ i b, s.S i = some b → upS s.S (up1 i) = some (b.ren up1) := fun i b hb => upS_some hb
  obtain ⟨ι1, hι1⟩ : ∃ ι1 : AHnd, ∀ i, ι1 i = ι (dn1 i) := ⟨fun i => ι (dn1 i), fun _ => rfl⟩
  have hι : ∀ i b, s.S i = some b → ι1 (up1 i) = ι i := fun i b _ => by rw [hι1, hup]
  have hown : Owned σ (upS s.S) ι1 w := by
    refine ⟨fun id b hb => ?_, fun id id' b b' g h1 h2 g1 g2 => ?_⟩
    · obtain ⟨hle, b', h1, rfl⟩ := upS_inv hb
      have := BRep.ren (S2 := upS s.S) (ι2 := ι1) (ρ := up1) hS hι (R.blk _ _ h1)
      rw [hι1]
      exact this
    · obtain ⟨l1, c1, k1, _⟩ := upS_inv h1
      obtain ⟨l2, c2, k2, _⟩ := upS_inv h2
      rw [hι1] at g1 g2
      have := R.inj _ _ _ _ g k1 k2 g1 g2
      rw [← up_dn l1, ← up_dn l2, this]
  have hargs : All2 (VRep σ (upS s.S) ι1) vs (AV.rens up1 avs) := by
    rw [AV.rens_eq]
    exact (hvs.mono fun _ _ x => VRep.ren (S2 := upS s.S) (ι2 := ι1) (ρ := up1) hS hι x).map_right
  unfold Oper.wp
  rw [hrun, Oper.upon_enter]
  refine (h (clean_upS _) σ w vs _ (C.glob.mono R.ext) R.fit hown hargs).mono fun e w' he => ?_
  obtain ⟨v, σ', ι', rfl, hclean, hupd, hown', hv, hf', hkeep, hold, hos, hsz, hsame, hbase⟩ := he
  have hSd : ∀ i b, S' i = some b → dnS S' (dn1 i) = some (b.ren dn1) := fun i b hb => dnS_some (hclean i b hb).1 hb
  obtain ⟨ι2, hι2⟩ : ∃ ι2 : AHnd, ∀ i, ι2 i = ι' (up1 i) := ⟨fun i => ι' (up1 i), fun _ => rfl⟩
  have hιd : ∀ i b, S' i = some b → ι2 (dn1 i) = ι' i := fun i b hb => by
    rw [hι2, up_dn (hclean i b hb).1]
  have hu : Upd s.S ι (dnS S') ι2 := fun id b hb => by
    obtain ⟨b', h1, h2, h3⟩ := hupd _ _ (hS id b hb)
    have h4 := hSd _ _ h1
    rw [hup] at h4
    refine ⟨_, h4, by rw [ren_len] at h2 ⊢; exact h2, fun hl => ?_⟩
    rw [ren_len] at hl
    obtain ⟨q1, q2⟩ := h3 (by rw [ren_len]; exact hl)
    refine ⟨by rw [ren_wid] at q1 ⊢; exact q1, ?_⟩
    rw [hι2, q2, hι1, hup]
  have hnot : ∀ g, g < C.N → ¬ C.G g → notOf (upS s.S) ι1 g := fun g h1 h2 id b hb hg => by
    obtain ⟨_, b', k1, _⟩ := upS_inv hb
    rw [hι1] at hg
    rcases R.base _ _ g k1 hg with h | h
    · omega
    · exact h2 h
  have R' : Refs C σ' ι2 ⟨s.env, dnS S'⟩ a w' := by
    refine ⟨R.size, fun i hi => (R.env i hi).mono hkeep hu, R.nod, hf', fun id b hb => ?_, fun id id' b b' g h1 h2 g1 g2 => ?_, fun id b g hb hg => ?_, fun p x hx => hkeep _ _ (R.ext p x hx), fun p h1 h2 => ?_, ⟨hos.1.trans R.os.1, hos.2.1.trans R.os.2.1, hos.2.2.trans R.os.2.2⟩, ⟨Nat.le_trans R.grown.1 hsz, Nat.le_trans R.grown.2 hsz⟩, fun g h1 h2 => ?_, R.upd.trans hu⟩
    · obtain ⟨b', h1, rfl⟩ := dnS_inv hb
      have := BRep.ren (S2 := dnS S') (ι2 := ι2) (ρ := dn1) hSd hιd (hown'.1 _ _ h1)
      rw [hι2]
      exact this
    · obtain ⟨c1, k1, _⟩ := dnS_inv h1
      obtain ⟨c2, k2, _⟩ := dnS_inv h2
      rw [hι2] at g1 g2
      have := congrArg dn1 (hown'.2 _ _ _ _ g k1 k2 g1 g2)
      rw [hup, hup] at this
      exact this
    · obtain ⟨b', h1, _⟩ := dnS_inv hb
      rw [hι2] at hg
      rcases hbase _ _ g h1 hg with h2 | h2
      · exact .inl (by have := R.grown.1; omega)
      · by_cases hN : g < C.N
        · by_cases hG : C.G g
          · exact .inr hG
          · exact absurd (hnot g hN hG) h2
        · exact .inl (by omega)
    · exact (hold p (by have := R.grown.1; omega) (hnot _ h1 h2)).trans (R.old p h1 h2)
    · exact (hsame g (by have := R.grown.1; omega) (hnot g h1 h2)).trans (R.same g h1 h2)
  exact hn _ _ ⟨σ', _, R'.put (VRep.ren (S2 := dnS S') (ι2 := ι2) (ρ := dn1) hSd hιd hv)⟩
theorem snd_callN {f : FuncId} {xs : Array Operand} {ts : Array TypeId} {xs' : List Opd} {d : Nat} {K : AV → AS → Prop} {next : Act → World → Prop} {Q : Exit → Act → World → Prop} (ho : o.op = .call { callee := .value (.func f), args := xs, argTypes := ts }) (hf : plainF P f = true) (hx : trOpds C.n xs.toList = some xs')
    (R : Refs C σ ι s a w) (h : Kd.go P d s K (.callN f xs')) (hn : ∀ av s' a' w', K av s' → Holds C (s'.put o.dst av) a' w' → next a' w') : o.wp P a w next Q := by
  simp only [Kd.go] at h
  split at h
  · rename_i vs e1
    obtain ⟨mu, e, wd, ys, hc, hd, hK⟩ := h
    have rxs := R.evs hx
    have hrun : (execOp a.eval o).run P w = .ok (.enter f (xs.map a.eval)) w := by
      unfold plainF at hf
      split at hf
      · rename_i fn hfn
        simp only [Bool.and_eq_true, Bool.not_eq_true', beq_eq_false_iff_ne, Option.isSome_iff_exists] at hf
        obtain ⟨hname, c, hbody⟩ := hf
        simp [execOp, ho, resolve, Deferred.ofValue, Act.eval, invoke, callFunc, hfn, hname, hbody]
      · cases hf
    have hvs : All2 (VRep σ noS noH) (xs.map a.eval).toList vs := by
      have := rxs
      rw [← Array.toList_map] at this
      have hlen := this.len
      obtain ⟨q1, q2⟩ := Refs.outVs R (cs := s.evs xs') (cs' := vs) (c := fun j => ((xs.map a.eval).toList[j]?).getD undef) (fun j b hb => by
        obtain ⟨v, v1, v2⟩ := this.get hb
        rw [v1]
        exact v2) e1
      refine All2.of_get (by omega) fun j v b hv hb => ?_
      have := q2 j b hb
      rw [hv] at this
      exact this
    unfold Oper.wp
    rw [hrun, Oper.upon_enter]
    have hno : ∀ g, notOf noS noH g := fun g id b hb => by cases hb
    have hcl : Clean noS := fun i b hb => by cases hb
    have how : Owned σ noS noH w := ⟨fun id b hb => (by cases hb), fun id id' b b' g hb => (by cases hb)⟩
    have hcall := hc hcl σ w _ noH (C.glob.mono R.ext) R.fit how hvs
    rw [Array.toArray_toList] at hcall
    refine hcall.mono fun ex w' he => ?_
    obtain ⟨v, σ', ι', rfl, hclean, hupd, hown', hv, hf', hkeep, hold, hos, hsz, hsame, hbase⟩ := he
    have hblk := hown'.1 1000 (rowB mu e wd ys) (by simp)
    obtain ⟨hu, R'⟩ := R.fresh (w' := w') hd (rowB mu e wd ys) (ι' 1000) (σ' := σ') ⟨hkeep, fun p hp => hold p hp (hno _)⟩ hf' ⟨hos.1, hos.2.1, hos.2.2, hsz, fun g hg => hsame g hg (hno _)⟩ (fun g hg => by
      rcases hbase 1000 (rowB mu e wd ys) g (by simp) hg with h1 | h1
      · exact h1
      · exact absurd (hno g) h1) (fun S2 ι2 _ => by
      cases mu with
      | false =>
        cases hblk with
        | afull h1 h2 h3 h4 => exact .afull h1 h2 h3 h4
        | arow h1 h2 h3 h4 h5 h6 h7 h8 h9 hh => exact .arow h1 h2 h3 h4 h5 h6 h7 h8 h9 hh
      | true =>
        cases hblk with
        | mnil h1 h2 => exact .mnil h1 h2
        | mrow h1 h2 h3 h4 h5 h6 h7 h8 h9 => exact .mrow h1 h2 h3 h4 h5 h6 h7 h8 h9)
    refine hn _ _ _ _ hK ⟨σ', _, R'.put ?_⟩
    cases hv with
    | one hv =>
      cases hv with
      | row k1 k2 k3 k4 =>
        simp only [if_true, Option.some.injEq] at k1
        subst k1
        exact .one (.row (b := rowB mu e wd ys) (by simp [AS.set, updE_same]) (by cases mu <;> exact Nat.le_refl _) k3 (fun hl => by rw [updE_same]; exact k4 hl))
  · exact h.elim
theorem run_enter {f : FuncId} {args : Array Value} (hf : plainF P f = true) : (callFunc f args).run P w = .ok (.enter f args) w := by
  unfold plainF at hf
  split at hf
  · rename_i fn hfn
    simp only [Bool.and_eq_true, Bool.not_eq_true', beq_eq_false_iff_ne, Option.isSome_iff_exists] at hf
    obtain ⟨hname, c, hbody⟩ := hf
    simp [callFunc, hfn, hname, hbody]
  · cases hf
theorem snd_callS {f : FuncId} {xs : Array Operand} {ts : Array TypeId} {xs' : List Opd} {K : AV → AS → Prop} {next : Act → World → Prop} {Q : Exit → Act → World → Prop} (ho : o.op = .call { callee := .value (.func f), args := xs, argTypes := ts }) (hf : plainF P f = true) (hx : trOpds C.n xs.toList = some xs')
    (R : Refs C σ ι s a w) (h : Kd.go P d s K (.callS f xs')) (hn : ∀ av s' a' w', K av s' → Holds C (s'.put o.dst av) a' w' → next a' w') : o.wp P a w next Q := by
  simp only [Kd.go] at h
  obtain ⟨r, S', hc, hK⟩ := h
  refine callS_core (vs := xs.toList.map a.eval) R ?_ (R.evs hx) hc fun a' w' hH => hn _ _ _ _ hK hH
  have := run_enter (P := P) (w := w) (args := xs.map a.eval) hf
  have e : (xs.toList.map a.eval).toArray = xs.map a.eval := by rw [← Array.toList_map, Array.toArray_toList]
  rw [e]
  simp [execOp, ho, resolve, Deferred.ofValue, Act.eval, invoke, this]
theorem snd_callR {f : FuncId} {xs : Array Operand} {ts : Array TypeId} {xs' : List Opd} {K : AV → AS → Prop} {next : Act → World → Prop} {Q : Exit → Act → World → Prop} (ho : o.op = .call { callee := .value (.func f), args := xs, argTypes := ts }) (hf : plainF P f = true) (hx : trOpds C.n xs.toList = some xs')
    (R : Refs C σ ι s a w) (h : Kd.go P d s K (.callR f xs')) (hn : ∀ av s' a' w', K av s' → Holds C (s'.put o.dst av) a' w' → next a' w') : o.wp P a w next Q := by
  simp only [Kd.go] at h
  obtain ⟨r, rows, h0, hc, hK⟩ := h
  refine callS_core (vs := xs.toList.map a.eval) R ?_ (R.evs hx) (hc s.S h0) fun a' w' hH => hn _ s _ _ hK (by rw [dn_upS] at hH; exact hH)
  have := run_enter (P := P) (w := w) (args := xs.map a.eval) hf
  have e : (xs.toList.map a.eval).toArray = xs.map a.eval := by rw [← Array.toList_map, Array.toArray_toList]
  rw [e]
  simp [execOp, ho, resolve, Deferred.ofValue, Act.eval, invoke, this]
theorem snd_callW {f : FuncId} {xs : Array Operand} {ts : Array TypeId} {xs' : List Opd} {K : AV → AS → Prop} {next : Act → World → Prop} {Q : Exit → Act → World → Prop} (ho : o.op = .call { callee := .value (.func f), args := xs, argTypes := ts }) (hf : plainF P f = true) (hx : trOpds C.n xs.toList = some xs')
    (R : Refs C σ ι s a w) (h : Kd.go P d s K (.callW f xs')) (hn : ∀ av s' a' w', K av s' → Holds C (s'.put o.dst av) a' w' → next a' w') : o.wp P a w next Q := by
  simp only [Kd.go] at h
  obtain ⟨r, rows, h0, hc, hK⟩ := h
  refine callS_core (vs := xs.toList.map a.eval) R ?_ (R.evs hx) (hc s.S h0) fun a' w' hH => hn _ _ _ _ hK (by rw [dn_upS] at hH; exact hH)
  have := run_enter (P := P) (w := w) (args := xs.map a.eval) hf
  have e : (xs.toList.map a.eval).toArray = xs.map a.eval := by rw [← Array.toList_map, Array.toArray_toList]
  rw [e]
  simp [execOp, ho, resolve, Deferred.ofValue, Act.eval, invoke, this]
theorem snd_callV {t : Nat} {xs : Array Operand} {ts : Array TypeId} {f' : Opd} {xs' : List Opd} {K : AV → AS → Prop} {next : Act → World → Prop} {Q : Exit → Act → World → Prop} (ho : o.op = .call { callee := .value (.tmp t), args := xs, argTypes := ts }) (hf : trOpd C.n (.tmp t) = some f') (hx : trOpds C.n xs.toList = some xs')
    (R : Refs C σ ι s a w) (h : Kd.go P d s K (.callV f' xs')) (hn : ∀ av s' a' w', K av s' → Holds C (s'.put o.dst av) a' w' → next a' w') : o.wp P a w next Q := by
  have rf := R.ev hf
  simp only [Kd.go] at h
  split at h
  · rename_i g caps e1
    rw [e1] at rf
    obtain ⟨hp, r, S', hc, hK⟩ := h
    replace rf := vrep_one rf
    generalize hev : a.eval (.tmp t) = fv at rf
    cases rf with
    | @fn _ vs _ c h1 h2 h3 =>
      have hcaps : All2 (VRep σ s.S ι) vs.toList (caps.map .one) := (All2.of_get (R := fun v c => VRep σ s.S ι v (.one c)) (by simpa using h1) fun j v b hv hb => by
        have e := h2 j b hb
        have e2 : vs.toList[j]? = some (c j) := by simpa using e
        rw [hv] at e2
        cases e2
        exact .one (h3 j b hb)).map_right
      refine callS_core (vs := xs.toList.map a.eval ++ vs.toList) R ?_ ((R.evs hx).append hcaps) hc fun a' w' hH => hn _ _ _ _ hK hH
      have := run_enter (P := P) (w := w) (args := xs.map a.eval ++ vs) hp
      have hev' : a.tmps.getD t undef = .func (.func g) #[] vs := hev
      simp only [execOp, ho, resolve, hev, Deferred.ofValue, invoke, Sem.run_bind, Sem.run_pure, Result.andThen_ok]
      rw [show (#[] ++ Array.map a.eval xs ++ vs) = xs.map a.eval ++ vs by simp, this]
      congr 1
      simp
  · exact h.elim
theorem kd_sound0 {mu : List Nat} {k : Kd} (htr : trKd0 P C.n mu o.dst o.op = some k) {K : AV → AS → Prop} {next : Act → World → Prop} {Q : Exit → Act → World → Prop} (R : Refs C σ ι s a w) (h : Kd.go P d s K k) (hn : ∀ av s' a' w', K av s' → Holds C (s'.put o.dst av) a' w' → next a' w') : o.wp P a w next Q := by
  have fin : Good P C o a w K → o.wp P a w next Q := fun hg => hg.wp fun av s' σ' ι' a' w' hk R' => hn _ _ _ _ hk ⟨σ', ι', R'⟩
  cases ho : o.op with
  | move x =>
    rw [ho] at htr
    simp only [trKd0, Option.map_eq_some_iff] at htr
    obtain ⟨x', hx, rfl⟩ := htr
    exact fin (snd_mov (.inl ho) hx R h)
  | assign x =>
    rw [ho] at htr
    simp only [trKd0, Option.map_eq_some_iff] at htr
    obtain ⟨x', hx, rfl⟩ := htr
    exact fin (snd_mov (.inr ho) hx R h)
  | pick c x y =>
    rw [ho] at htr
    simp only [trKd0] at htr
    split at htr
    · cases htr
      rename_i e1 e2 e3
      exact fin (snd_pick ho e1 e2 e3 R h)
    · cases htr
  | alloc e =>
    rw [ho] at htr
    simp only [trKd0] at htr
    split at htr
    · rename_i i e1
      split at htr
      · rename_i z e2
        rw [Option.map_eq_some_iff] at htr
        obtain ⟨cs, hcs, rfl⟩ := htr
        exact fin (snd_alloc ho e1 e2 hcs R h)
      · cases htr
    · cases htr
  | box e x =>
    rw [ho] at htr
    simp only [trKd0, Option.map_eq_some_iff] at htr
    obtain ⟨x', hx, rfl⟩ := htr
    exact fin (snd_box ho hx R h)
  | build t ps =>
    rw [ho] at htr
    simp only [trKd0] at htr
    split at htr
    · rename_i it fs e1 e2
      split at htr
      · rename_i z places e3 e4
        split at htr
        · rename_i ps' cs e5 e6
          cases htr
          exact fin (snd_build ho e1 e3 e2 e4 e5 e6 R h)
        · cases htr
      · cases htr
    · cases htr
  | buildSlice t len ps =>
    rw [ho] at htr
    simp only [trKd0] at htr
    split at htr
    · rename_i e e1
      split at htr
      · rename_i ie e2
        split at htr
        · rename_i z xs e3 e4
          split at htr
          · rename_i hc
            split at htr
            all_goals
              split at htr
              · rename_i hp
                cases htr
                simp only [Bool.and_eq_true, beq_iff_eq] at hp
                have h' := flat_go (e := e) h
                rw [← hp.1.2] at h'
                exact fin (snd_buildSlice ho e1 e2 e3 hc.1 hc.2.1 hc.2.2 e4 R h')
              · cases htr
                exact fin (snd_buildSlice ho e1 e2 e3 hc.1 hc.2.1 hc.2.2 e4 R h)
          · cases htr
        · cases htr
      · cases htr
    · cases htr
  | load t x =>
    rw [ho] at htr
    simp only [trKd0] at htr
    split at htr
    · rename_i g kk x' e1 e2
      cases htr
      obtain ⟨dd, i, q1, q2, q3, q4⟩ := sizeG_spec e1
      exact fin (snd_load ho e2 q1 q2 g q3 kk q4 R h)
    · cases htr
  | store t x v =>
    rw [ho] at htr
    simp only [trKd0] at htr
    split at htr
    · rename_i e1 e2 e3
      cases htr
      exact fin (snd_store ho e2 e3 e1 R h)
    · cases htr
  | fieldAddr t x f =>
    rw [ho] at htr
    simp only [trKd0] at htr
    split at htr
    · rename_i fs x' e1 e2
      split at htr
      · rename_i fd e3
        split at htr
        · rename_i i e4
          split at htr
          · rename_i hz
            cases htr
            exact fin (snd_fieldAddr ho e2 e1 e3 e4 hz R h)
          · cases htr
        · cases htr
      · cases htr
    · cases htr
  | field t x f =>
    rw [ho] at htr
    simp only [trKd0] at htr
    split at htr
    · rename_i fs x' e1 e2
      split at htr
      · rename_i fd e3
        split at htr
        · rename_i g kk e4
          cases htr
          obtain ⟨dd, i, q1, q2, q3, q4⟩ := sizeG_spec e4
          exact fin (snd_field ho e2 e1 e3 q1 q2 g q3 kk q4 R h)
        · cases htr
      · cases htr
    · cases htr
  | indexAddr t x y =>
    rw [ho] at htr
    simp only [trKd0] at htr
    split at htr
    · rename_i e x' y' e1 e2 e3
      split at htr
      · rename_i i e4
        split at htr
        · cases htr
          exact fin (snd_indexP ho e2 e3 e1 e4 R h)
        · cases htr
          exact fin (snd_indexAddr ho e2 e3 e1 e4 R h)
      · cases htr
    · rename_i len e x' y' e1 e2 e3
      split at htr
      · rename_i i e4
        cases htr
        exact fin (snd_indexArr ho e2 e3 e1 e4 R h)
      · cases htr
    · cases htr
  | index t x y =>
    rw [ho] at htr
    simp only [trKd0] at htr
    split at htr
    · rename_i e1 e2 e3
      cases htr
      exact fin (snd_indexStr ho e2 e3 e1 R h)
    · cases htr
  | binOp op t x y t' =>
    rw [ho] at htr
    simp only [trKd0] at htr
    split at htr
    · rename_i x' y' e1 e2
      split at htr
      · rename_i e3
        cases htr
        exact fin (snd_eqB (neg := false) ho e1 e2 e3 R h)
      · rename_i e3
        cases htr
        exact fin (snd_eqB (neg := true) ho e1 e2 e3 R h)
      · rename_i e3
        cases htr
        exact fin (snd_eqN (neg := false) ho e1 e3 R h)
      · rename_i e3
        cases htr
        exact fin (snd_eqN (neg := true) ho e1 e3 R h)
      · rename_i e3
        cases htr
        exact fin (snd_eqE (neg := false) ho e1 e3 R h)
      · rename_i e3
        cases htr
        exact fin (snd_eqE (neg := true) ho e1 e3 R h)
      · cases htr
        exact fin (snd_bin ho e1 e2 R h)
    · cases htr
  | unOp op t x =>
    rw [ho] at htr
    simp only [trKd0, Option.map_eq_some_iff] at htr
    obtain ⟨x', hx, rfl⟩ := htr
    exact fin (snd_un ho hx R h)
  | convert src dst x =>
    rw [ho] at htr
    simp only [trKd0] at htr
    split at htr
    · rename_i e1 e2 e3
      cases htr
      exact fin (snd_conv ho e3 (by rw [e1]; rfl) e2 R h)
    · rename_i e1 e2 e3
      split at htr
      · rename_i e4
        cases htr
        exact fin (snd_strOf ho e3 e1 e4 e2 R h)
      · cases htr
    · cases htr
  | slice t x lo hi mx =>
    rw [ho] at htr
    cases mx with
    | some m => simp [trKd0] at htr
    | none =>
    simp only [trKd0] at htr
    split at htr
    · rename_i e1 e2 e3 e4
      cases htr
      exact fin (snd_sliceS ho e2 e3 e4 e1 R h)
    · rename_i e1 e2 e3 e4
      split at htr
      · rename_i i e5
        split at htr
        · split at htr
          · cases htr
            exact fin (snd_cutP ho e2 e3 e4 e1 e5 R h)
          · cases htr
            exact fin (snd_restP ho e2 e3 e4 e1 e5 R h)
          · cases htr
        · cases htr
          exact fin (snd_sliceL ho e2 e3 e4 e1 e5 R h)
      · cases htr
    · cases htr
  | extract x i =>
    rw [ho] at htr
    simp only [trKd0, Option.map_eq_some_iff] at htr
    obtain ⟨x', hx, rfl⟩ := htr
    exact fin (snd_extract ho hx R h)
  | nilCheck x =>
    rw [ho] at htr
    simp only [trKd0, Option.map_eq_some_iff] at htr
    obtain ⟨x', hx, rfl⟩ := htr
    exact fin (snd_nilCheck ho hx R h)
  | call c =>
    rw [ho] at htr
    obtain ⟨callee, args, argTypes⟩ := c
    simp only [trKd0, trCall] at htr
    split at htr
    · split at htr
      · rename_i x t e1 e2
        have e1' : args = #[x] := Array.ext' e1
        have e2' : argTypes = #[t] := Array.ext' e2
        subst e1' e2'
        split at htr
        · rename_i e3 e4
          cases htr
          exact fin (snd_len (str := true) ho e3 e4 R h)
        · rename_i e3 e4
          cases htr
          exact fin (snd_len (str := false) ho e3 ⟨_, e4⟩ R h)
        · rename_i e3 e4
          cases htr
          exact fin (snd_lenM ho e3 e4 R h)
        · cases htr
      · cases htr
    · split at htr
      · rename_i x y t t' e1 e2
        have e1' : args = #[x, y] := Array.ext' e1
        have e2' : argTypes = #[t, t'] := Array.ext' e2
        subst e1' e2'
        split at htr
        · rename_i e e3 e4 e5
          split at htr
          · rename_i i e6
            split at htr
            · rename_i z e7
              split at htr
              · rename_i hc
                obtain ⟨rfl, hz, hp⟩ := hc
                split at htr
                · cases htr
                  exact fin (snd_appP ho e3 e4 e5 e6 e7 hz hp R h)
                cases htr
                exact fin (snd_append ho e3 e4 e5 e6 e7 hz hp R h)
              · split at htr
                · rename_i hc
                  obtain ⟨hu, hz, hp, h8⟩ := hc
                  cases htr
                  exact fin (snd_appS ho e3 e4 e5 (isStrT_inv hu) e6 (by rw [e7, isZ8_inv h8]) hz hp R h)
                · cases htr
            · cases htr
          · cases htr
        · cases htr
      · cases htr
    · split at htr
      · rename_i x t e1 e2
        have e1' : args = #[x] := Array.ext' e1
        have e2' : argTypes = #[t] := Array.ext' e2
        subst e1' e2'
        split at htr
        · rename_i e e3 e4
          split at htr
          · rename_i i e5
            split at htr
            · rename_i z e6
              split at htr
              · rename_i zs e7
                split at htr
                · rename_i hc
                  cases htr
                  exact fin (snd_clearP ho e3 e4 e5 e6 e7 hc.1 hc.2 R h)
                · cases htr
              · cases htr
            · cases htr
          · cases htr
        · cases htr
      · cases htr
    · split at htr
      · rename_i x y e1
        have e1' : args = #[x, y] := Array.ext' e1
        subst e1'
        split at htr
        · rename_i e3 e4
          cases htr
          exact fin (snd_mm (mx := false) ho e3 e4 R h)
        · cases htr
      · cases htr
    · split at htr
      · rename_i x y e1
        have e1' : args = #[x, y] := Array.ext' e1
        subst e1'
        split at htr
        · rename_i e3 e4
          cases htr
          exact fin (snd_mm (mx := true) ho e3 e4 R h)
        · cases htr
      · cases htr
    · rename_i f
      split at htr
      · rename_i hf
        rw [Option.map_eq_some_iff] at htr
        obtain ⟨xs', hx, htr⟩ := htr
        split at htr
        · split at htr
          · subst htr
            exact snd_callS ho hf hx R h hn
          · split at htr
            · subst htr
              exact snd_callN ho hf hx R h hn
            · split at htr
              · subst htr
                exact snd_callR ho hf hx R h hn
              · split at htr
                · subst htr
                  exact snd_callW ho hf hx R h hn
                · subst htr
                  exact snd_call ho hf hx R h hn
        · subst htr
          exact snd_callS ho hf hx R h hn
      · cases htr
    · split at htr
      · rename_i e3 e4
        cases htr
        exact snd_callV ho e3 e4 R h hn
      · cases htr
    · cases htr
  | makeSlice t x y =>
    rw [ho] at htr
    simp only [trKd0] at htr
    split at htr
    · rename_i e x' y' e1 e2 e3
      split at htr
      · rename_i i e4
        split at htr
        · rename_i z e5
          split at htr
          · rename_i zs e6
            split at htr
            · rename_i hc
              cases htr
              exact fin (snd_makeSlice ho e2 e3 e1 e4 e5 e6 hc.1 hc.2 R h)
            · cases htr
          · cases htr
        · cases htr
      · cases htr
    · cases htr
  | makeMap t rs =>
    rw [ho] at htr
    cases rs with
    | none =>
      simp only [trKd0, Option.map_eq_some_iff] at htr
      obtain ⟨⟨e, kt⟩, hx, rfl⟩ := htr
      exact fin (snd_makeMap ho R h)
    | some _ => simp [trKd0] at htr
  | lookup t x k ok =>
    rw [ho] at htr
    simp only [trKd0] at htr
    split at htr
    · rename_i e kt x' k' e1 e2 e3
      rw [Option.map_eq_some_iff] at htr
      obtain ⟨z, hz, rfl⟩ := htr
      obtain ⟨kk, td, m1, m2, m3⟩ := mapTy_inv e1
      obtain ⟨i, zz, z1, z2, z3⟩ := zeroOf_inv hz
      exact fin (snd_lookup ho e2 e3 m1 m2 m3 z1 z2 z3 R h)
    · cases htr
  | mapUpdate t x k v =>
    rw [ho] at htr
    simp only [trKd0] at htr
    split at htr
    · rename_i e kt x' k' v' e1 e2 e3 e4
      cases htr
      obtain ⟨kk, td, m1, m2, m3⟩ := mapTy_inv e1
      exact fin (snd_mapSet (.inl ho) e2 e3 e4 m1 m2 m3 R h)
    · cases htr
  | insert t x k v =>
    rw [ho] at htr
    simp only [trKd0] at htr
    split at htr
    · rename_i e kt x' k' v' e1 e2 e3 e4
      cases htr
      obtain ⟨kk, td, m1, m2, m3⟩ := mapTy_inv e1
      exact fin (snd_mapSet (.inr ho) e2 e3 e4 m1 m2 m3 R h)
    · cases htr
  | mapEntry t x k =>
    rw [ho] at htr
    simp only [trKd0] at htr
    split at htr
    · rename_i e kt x' k' e1 e2 e3
      rw [Option.map_eq_some_iff] at htr
      obtain ⟨z, hz, rfl⟩ := htr
      obtain ⟨kk, td, m1, m2, m3⟩ := mapTy_inv e1
      obtain ⟨i, zz, z1, z2, z3⟩ := zeroOf_inv hz
      exact fin (snd_mapEntry ho e2 e3 m1 m2 m3 z1 z2 z3 R h)
    · cases htr
  | entryStore t x k v =>
    rw [ho] at htr
    simp only [trKd0] at htr
    split at htr
    · rename_i x' k' v' e1 e2 e3
      cases htr
      exact fin (snd_entrySet ho e1 e2 e3 R h)
    · cases htr
  | range t x =>
    rw [ho] at htr
    simp only [trKd0] at htr
    split at htr
    · rename_i x' e1 e2
      cases htr
      exact fin (snd_rangeM ho e2 e1 R h)
    · cases htr
  | next x b =>
    rw [ho] at htr
    cases b with
    | false =>
      simp only [trKd0, Option.map_eq_some_iff] at htr
      obtain ⟨x', hx, rfl⟩ := htr
      exact fin (snd_next ho hx R h)
    | true => simp [trKd0] at htr
  | entry x =>
    rw [ho] at htr
    simp only [trKd0, Option.map_eq_some_iff] at htr
    obtain ⟨x', hx, rfl⟩ := htr
    exact fin (snd_entry ho hx R h)
  | makeInterface t x =>
    rw [ho] at htr
    simp only [trKd0] at htr
    split at htr
    · rename_i e1 e2
      cases htr
      exact fin (snd_iface ho e2 e1 R h)
    · cases htr
  | makeFunc fn first caps =>
    rw [ho] at htr
    cases fn with
    | func g =>
      simp only [trKd0] at htr
      split at htr
      · rename_i hf
        rw [Option.map_eq_some_iff] at htr
        obtain ⟨xs, hx, rfl⟩ := htr
        exact fin (snd_makeFunc ho hf hx R h)
      · cases htr
    | _ => simp [trKd0] at htr
  | _ => rw [ho] at htr; simp [trKd0] at htr
theorem kd_soundM {k : Kd} (htr : trMemo P C.n o.op = some k) {K : AV → AS → Prop} {next : Act → World → Prop} {Q : Exit → Act → World → Prop} (R : Refs C σ ι s a w) (h : Kd.go P d s K k) (hn : ∀ av s' a' w', K av s' → Holds C (s'.put o.dst av) a' w' → next a' w') : o.wp P a w next Q := by
  have fin : Good P C o a w K → o.wp P a w next Q := fun hg => hg.wp fun av s' σ' ι' a' w' hk R' => hn _ _ _ _ hk ⟨σ', ι', R'⟩
  unfold trMemo at htr
  split at htr
  · rename_i t ho
    split at htr
    · rename_i kk e e1
      split at htr
      · cases htr
        exact fin (snd_makeMemo ho R h)
      · cases htr
    · cases htr
  · rename_i t x kk ok ho
    split at htr
    · rename_i key e x' k' e1 e2 e3
      split at htr
      · rename_i hp
        rw [Option.map_eq_some_iff] at htr
        obtain ⟨z, hz, rfl⟩ := htr
        obtain ⟨ee, el, i, j, A⟩ := pairTy_inv hp
        obtain ⟨i2, zz, z1, z2, z3⟩ := zeroOf_inv hz
        exact fin (snd_memoGet ho e2 e3 e1 A z1 z2 z3 R h)
      · cases htr
    · cases htr
  · rename_i t x kk v ho
    split at htr
    · rename_i key e x' k' v' e1 e2 e3 e4
      split at htr
      · rename_i hp
        cases htr
        obtain ⟨ee, el, i, j, A⟩ := pairTy_inv hp
        exact fin (snd_memoSet (.inl ho) e2 e3 e4 e1 A R h)
      · cases htr
    · cases htr
  · rename_i t x kk v ho
    split at htr
    · rename_i key e x' k' v' e1 e2 e3 e4
      split at htr
      · rename_i hp
        cases htr
        obtain ⟨ee, el, i, j, A⟩ := pairTy_inv hp
        exact fin (snd_memoSet (.inr ho) e2 e3 e4 e1 A R h)
      · cases htr
    · cases htr
  · rename_i t ps ho
    split at htr
    · rename_i x y it e1 e2
      split at htr
      · rename_i z xs e3 e4
        split at htr
        · rename_i hp
          cases htr
          obtain ⟨ee, el, i, j, A⟩ := pairTy_inv hp.1
          exact fin (snd_buildArr ho e1 A e2 e3 hp.2 e4 R h)
        · cases htr
      · cases htr
    · cases htr
  · cases htr
theorem kd_sound {mu : List Nat} {k : Kd} (htr : trKd P C.n mu o.dst o.op = some k) {K : AV → AS → Prop} {next : Act → World → Prop} {Q : Exit → Act → World → Prop} (R : Refs C σ ι s a w) (h : Kd.go P d s K k) (hn : ∀ av s' a' w', K av s' → Holds C (s'.put o.dst av) a' w' → next a' w') : o.wp P a w next Q := by
  unfold trKd at htr
  split at htr
  · rename_i k' hk
    cases htr
    exact kd_sound0 hk R (stillIf_go h) hn
  · split at htr
    · rename_i k' hk
      cases htr
      exact kd_soundM hk R h hn
    · split at htr
      · rw [Option.map_eq_some_iff] at htr
        obtain ⟨x', hx, rfl⟩ := htr
        exact (show False from h).elim
      · cases htr
        exact (show False from h).elim
end
end Go.Proofs.YtehnjhkndbcmgaaGreatDoor
