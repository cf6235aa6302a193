/-
  Part 4 of the texts. Conditions: none.
-/
import Derived.Test.YtdlbfdcklpleaaaOMd3
import Derived.DeepKeys3
import Derived.LaidEql
import Derived.MapKept
import Derived.Laws.MakeOwn
import Derived.Laws.CopyRow
import Derived.Laws.IdiomCopy
import Derived.OrdersIn
namespace Go.Proofs.Ytdlbfdcklpleaaa
open Go Go.RowKit Go.MapKept
set_option linter.unusedVariables false
set_option linter.unusedSimpArgs false
def BW (a b : Addr) : Value := .agg #[.pointer (some a), .pointer (some b)]
def CU (w : World) (a : Addr) : Prop := ∃ cs t, w.heap[a.block]? = some (.cells cs t (0, 0))
structure Bl (P : Program) (k e el : TypeId) (i j : TypeInfo) : Prop where
 arr : P.underlying k = some (.array 2 e)
 ptr : P.underlying e = some (.pointer el)
 info : P.info? e = some i
 size : i.size = 1
 elem : P.info? el = some j
 some : j.size ≠ 0
section
variable {P : Program} {k e el : TypeId} {i j : TypeInfo} (w : World)
theorem GE (A : Bl P k e el i j) {xs : Array Value} {off : Nat} {v : Value} (hx : xs[off]? = some v) : (part e xs off).run P w = .ok v w := by
 simp [part, isAgg, run_underlying A.ptr, hx]
theorem IF (A : Bl P k e el i j) (x y : Value) : (part e #[x, y] 0).run P w = .ok x w := GE w A rfl
theorem EW (A : Bl P k e el i j) (x y : Value) : (part e #[x, y] 1).run P w = .ok y w := GE w A rfl
theorem H6 (A : Bl P k e el i j) (d : Nat) {a b : Addr} (ha : CU w a) (hb : CU w b) : (Op.equalIn (d + 1) e (.pointer (some a)) (.pointer (some b))).run P w = .ok (decide (a = b)) w := by
 have h0 : (Op.equalIn (d + 1) e (.pointer (some a)) (.pointer (some b))).run P w = (sameAddr a b).run P w := by
  simp [Op.equalIn, run_underlying A.ptr, sizeOf, typeInfo, A.elem, A.some]
 rw [h0]
 by_cases hne : a = b
 ·subst hne
  rw [run_sameAddr_same]
  simp
 ·obtain ⟨ca, ta, ha⟩ := ha
  obtain ⟨cb, tb, hb⟩ := hb
  rw [run_sameAddr_other w hne ha hb]
  simp [hne]
theorem LN (A : Bl P k e el i j) {a b a' b' : Addr} (ha : CU w a) (hb : CU w b) (ha' : CU w a') (hb' : CU w b') :
  (Op.equal k (BW a b) (BW a' b')).run P w = .ok (decide (a = a' ∧ b = b')) w := by
 have hc : P.cellsOf e = 1 := by simp [Program.cellsOf, A.info, A.size]
 have e1 : (Op.equalIn 9999 e (.pointer (some a)) (.pointer (some a'))).run P w = .ok (decide (a = a')) w := H6 w A 9998 ha ha'
 have e2 : (Op.equalIn 9999 e (.pointer (some b)) (.pointer (some b'))).run P w = .ok (decide (b = b')) w := H6 w A 9998 hb hb'
 unfold Op.equal BW
 rw [show Op.maxDepth = 9999 + 1 from rfl, run_equalIn_array w 9999 _ _ A.arr A.info, hc]
 rw [show List.range 2 = [0, 1] from rfl]
 simp only [Op.eqItems, Nat.zero_mul, Nat.one_mul, Sem.run_bind, IF w A, EW w A, Result.andThen_ok, e1, e2]
 by_cases h1 : a = a'
 ·have e3 : decide (a = a') = true := by simp [h1]
  rw [e3]
  simp only [h1, true_and]
  by_cases h2 : b = b'
  ·subst h2
   simp [EW w A, e2, Result.andThen]
  ·simp [EW w A, e2, h2, Result.andThen]
 ·simp [h1]
theorem Ei (A : Bl P k e el i j) (em : Bool) (a b : Addr) : (Instr.checkKey em 10000 k (BW a b)).run P w = .ok () w := by
 have hc : P.cellsOf e = 1 := by simp [Program.cellsOf, A.info, A.size]
 have e0 : ∀ a : Addr, (Instr.checkKey em 9999 e (.pointer (some a))).run P w = .ok () w := fun a => by
  rw [show (9999 : Nat) = 9998 + 1 from rfl, Instr.checkKey]
  simp [run_underlying A.ptr]
 unfold BW
 rw [show (10000 : Nat) = 9999 + 1 from rfl, Instr.checkKey]
 simp only [Sem.run_bind, run_underlying A.arr, Result.andThen_ok]
 simp only [Std.Legacy.Range.forIn_eq_forIn_range', Std.Legacy.Range.size, Nat.sub_zero, Nat.add_one_sub_one, Nat.div_one]
 rw [show List.range' 0 2 = [0, 1] from rfl]
 simp only [List.forIn_cons, List.forIn_nil, Sem.run_bind, run_sizeOf w A.info, hc, Nat.zero_mul, Nat.one_mul, Result.andThen_ok, IF w A, EW w A, e0, Sem.run_pure]
theorem Ff (A : Bl P k e el i j) {a b : Addr} (ha : CU w a) (hb : CU w b) : ∀ (es : List MapEntry) (n : Nat), (∀ x ∈ es, ∃ a' b', x.key = BW a' b' ∧ CU w a' ∧ CU w b') →
  (Instr.findAsking k (BW a b) es n).run P w = .ok none w ∨ ∃ m x, (Instr.findAsking k (BW a b) es n).run P w = .ok (some (n + m, x.val)) w ∧ es[m]? = some x ∧ x.key = BW a b
 | [], n, _ => .inl (by simp [Instr.findAsking])
 | x :: es, n, h => by
  obtain ⟨a', b', hk, pa, pb⟩ := h x (by simp)
  have he := LN w A ha hb pa pb
  by_cases hab : a = a' ∧ b = b'
  ·obtain ⟨rfl, rfl⟩ := hab
   exact .inr ⟨0, x, by simp [Instr.findAsking, hk, he, Result.andThen], rfl, hk⟩
  ·rcases Ff A ha hb es (n + 1) (fun y hy => h y (by simp [hy])) with h1 | ⟨m, y, h1, h2, h3⟩
   ·exact .inl (by simp [Instr.findAsking, hk, he, hab, h1, Result.andThen])
   ·exact .inr ⟨m + 1, y, by simp [Instr.findAsking, hk, he, hab, h1, Nat.add_assoc, Nat.add_comm 1 m, Result.andThen], by simpa using h2, h3⟩
theorem D0 (A : Bl P k e el i j) {a b : Addr} (ha : CU w a) (hb : CU w b) (es : List MapEntry) (h : ∀ x ∈ es, ∃ a' b', x.key = BW a' b' ∧ CU w a' ∧ CU w b') :
  (Instr.findKey k (BW a b) es).run P w = .ok none w ∨ ∃ m x, (Instr.findKey k (BW a b) es).run P w = .ok (some (m, x.val)) w ∧ es[m]? = some x ∧ x.key = BW a b := by
 rw [run_findKey_eq w (by rw [A.arr]) (BW a b) es]
 rcases Ff w A ha hb es 0 h with h1 | ⟨m, x, h1, h2, h3⟩
 ·exact .inl h1
 ·exact .inr ⟨m, x, by rw [h1, Nat.zero_add], h2, h3⟩
theorem Hm (a b : Addr) : (Instr.keyThatStays (BW a b) (BW a b)).run P w = .ok (BW a b) w := by
 have h : Instr.sameBits 10000 (BW a b) (BW a b) = true := by
  unfold BW
  rw [show (10000 : Nat) = 9999 + 1 from rfl, Instr.sameBits]
  simp [Instr.sameBits]
 simp [Instr.keyThatStays, h]
end

open Go.ChangeMaps (setBlock)
set_option maxHeartbeats 400000
section
variable {P : Program} {C : Ctx} {o : Oper} {a : Act} {w : World} {K : AV → AS → Prop} {σ : Sto} {ι : Ah} {s : AS} {d : Nat}
theorem LX {S : AA} {v : AV} {id : Nat} {f : List SV → List SV → SV → Prop} (h : DC S v = some (id, f)) : v = .one (.mptr id) ∧ S id = some (.memo f) := by
 unfold DC at h
 split at h
 ·split at h
  ·rename_i e1
   cases h
   exact ⟨rfl, e1⟩
  ·cases h
 ·cases h
theorem HF {v : Value} {S : AA} {av : AV} {cs ds : List SV} (hv : AO σ S ι v av) (h : Fv av = some (cs, ds)) : ∃ v1 v2, v = .agg #[v1, v2] ∧ Ab σ noS noH v1 (.eptr cs) ∧ Ab σ noS noH v2 (.eptr ds) ∧ 2 ≤ cs.length ∧ 2 ≤ ds.length := by
 unfold Fv at h
 split at h
 ·split at h
  ·rename_i hl
   cases h
   cases hv with
   | @agg xs _ h1 =>
    have hsz := h1.len
    obtain ⟨v1, e1, r1⟩ := h1.get (j := 0) rfl
    obtain ⟨v2, e2, r2⟩ := h1.get (j := 1) rfl
    refine ⟨v1, v2, ?_, ?_, ?_, hl.1, hl.2⟩
    ·congr 1
     apply Array.ext'
     match hx : xs.toList, hsz, e1, e2 with
     | [a, b], _, e1, e2 =>
      simp at e1 e2
      rw [e1, e2]
    ·cases r1 with | eptr c k1 k2 k3 => exact .eptr c k1 k2 k3
    ·cases r2 with | eptr c k1 k2 k3 => exact .eptr c k1 k2 k3
  ·cases h
 ·cases h
theorem CL (hh : BD = true) (hf : Fit σ w) {v : Value} {cs : List SV} (h : Ab σ noS noH v (.eptr cs)) (h2 : 2 ≤ cs.length) : ∃ p : Addr, v = .pointer (some p) ∧ CU w p := by
 obtain ⟨b, oo, hv, c, k1, k2, k3⟩ := Dv h
 obtain ⟨cc, t, e, _⟩ := GT (hf _ _ (k3 hh h2))
 exact ⟨_, hv, cc, t, e⟩
theorem Io {v : Value} {cs cs' : List SV} (h : Ab σ noS noH v (.eptr cs)) (h' : Ab σ noS noH v (.eptr cs')) : M5 cs cs' := by
 obtain ⟨b, oo, hv, c, k1, k2⟩ := CJ h
 obtain ⟨b', oo', hv', c', q1, q2⟩ := CJ h'
 rw [hv] at hv'
 cases hv'
 refine ⟨σ, fun j => (σ ⟨b, oo + j, none⟩).getD undef, fun j x hx => ?_, fun j x hx => ?_⟩
 ·simp only [k1 j x hx, Option.getD_some]
  exact k2 j x hx
 ·simp only [q1 j x hx, Option.getD_some]
  exact q2 j x hx
structure I4 (σ : Sto) (s : AS) (ι : Ah) (w : World) (v : Value) (id g : Nat) (ents : Array MapEntry) (f : List SV → List SV → SV → Prop) : Prop where
 val : v = .map (some g)
 hnd : (ι id).g = some g
 heap : w.heap[g]? = some (.map ents ents.size)
 rep : Bn σ f ents.toList
 blk : s.S id = some (.memo f)
 no : ∀ p : Addr, p.block = g → σ p = none
theorem AK.hasMemo (R : AK C σ ι s a w) {v : Value} {av : AV} {id : Nat} {f : List SV → List SV → SV → Prop} (hv : AO σ s.S ι v av) (h : DC s.S av = some (id, f)) : ∃ g ents, I4 σ s ι w v id g ents f := by
 obtain ⟨rfl, hS⟩ := LX h
 have hb := R.blk _ _ hS
 cases hb with
 | @memo _ g ents h1 h2 h3 h4 =>
 cases AN hv with
 | mptr k1 k2 k3 k4 =>
 rw [hS] at k1
 cases k1
 obtain ⟨g', q1, q2⟩ := k4 rfl
 rw [h1] at q1
 cases q1
 exact ⟨g, ents, q2, h1, h2, h3, hS, h4⟩
theorem I4.keys {v : Value} {id g : Nat} {ents : Array MapEntry} {f : List SV → List SV → SV → Prop} (H : I4 σ s ι w v id g ents f) (hh : BD = true) (hf : Fit σ w) : ∀ x ∈ ents.toList, ∃ a' b', x.key = BW a' b' ∧ CU w a' ∧ CU w b' := fun x hx => by
 obtain ⟨v1, v2, cs, ds, y, h1, h2, h3, h4, h5, h6, h7⟩ := H.rep x hx
 obtain ⟨p, rfl, hp⟩ := CL hh hf h2 h4
 obtain ⟨q, rfl, hq⟩ := CL hh hf h3 h5
 exact ⟨p, q, h1, hp, hq⟩
theorem I0 {t : TypeId} (ho : o.op = .makeMap t none) (R : AK C σ ι s a w) (h : Kd.go P d s K .makeMemo) : Ao P C o a w K := by
 simp only [Kd.go] at h
 obtain ⟨hid, hK⟩ := h
 obtain ⟨hu, R'⟩ := R.fresh (w' := w.alloc (.map #[] 0)) hid (.memo fun _ _ _ => False) ⟨none, 0, some w.heap.size⟩ (Ext.refl _ _) (R.fit.alloc _) (Cq.alloc _ _) (by simp) (fun S' ι' hu => .memo (ents := #[]) rfl (heap_alloc_new w _) (fun e he => by simp at he) (fun p hp => R.fit.no (by omega)))
 refine ⟨.map (some w.heap.size), _, _, σ, _, _, .inl (by simp [execOp, ho, Instr.makeMap, newObj, Sem.run]), hK, R', .one (.mptr (b := .memo fun _ _ _ => False) (by simp [AS.set, AF]) (Nat.le_refl _) rfl fun _ => ⟨w.heap.size, by simp [AF], rfl⟩)⟩
theorem Jz {t key elem e el : TypeId} {i j i1 : TypeInfo} {z : Value} {zv : AV} {x k : Operand} {x' k' : Opd} {ok : Bool} (ho : o.op = .lookup t x k ok) (hx : AG C.n x = some x') (hk : AG C.n k = some k') (ht : P.underlying t = some (.map key elem)) (A : Bl P key e el i1 j) (hi : P.info? elem = some i) (hz : i.zero = some z) (hzv : GS z = some zv)
  (R : AK C σ ι s a w) (h : Kd.go P d s K (.memoGet ok zv x' k')) : Ao P C o a w K := by
 have rx := R.ev hx
 have rk := R.ev hk
 simp only [Kd.go] at h
 split at h
 ·rename_i id f cs ds e1 e2
  obtain ⟨hh, hmiss, hhit⟩ := h
  obtain ⟨g, ents, H⟩ := R.hasMemo rx e1
  obtain ⟨v1, v2, hv, r1, r2, l1, l2⟩ := HF rk e2
  obtain ⟨p, rfl, hp⟩ := CL hh R.fit r1 l1
  obtain ⟨q, rfl, hq⟩ := CL hh R.fit r2 l2
  have hv' : a.eval k = BW p q := hv
  have hck := fun em => Ei w A em p q
  rcases D0 w A hp hq ents.toList (H.keys hh R.fit) with hf | ⟨m, y, hf, hy, hyk⟩
  ·refine AL R (if ok then .tuple #[z, .bool false] else z) _ ?_ hmiss ?_
   ·simp [execOp, ho, Instr.lookup, run_underlying ht, H.val, MapKept.run_getObj_map H.heap, hv', hck, hf, zeroValue, typeInfo, hi, hz, Result.andThen]
   ·cases ok with
    | false => exact CH hzv
    | true => exact .tup (fun j => if j = 0 then z else .bool false) rfl (fun j b hb => by
      match j, hb with
      | 0, hb => rfl
      | 1, hb => rfl) (fun j b hb => by
      match j, hb with
      | 0, hb => cases hb; exact CH hzv
      | 1, hb => cases hb; exact .one (.st .bool))
  ·obtain ⟨u1, u2, cs', ds', x1, q1, q2, q3, q4, q5, q6, q7⟩ := H.rep y (List.mem_of_getElem? hy)
   rw [hyk] at q1
   obtain ⟨rfl, rfl⟩ : Value.pointer (some p) = u1 ∧ Value.pointer (some q) = u2 := by
    unfold BW at q1
    simpa using q1
   have hK := hhit cs' ds' x1 (Io r1 q2) (Io r2 q3) q7
   refine AL R (if ok then .tuple #[y.val, .bool true] else y.val) _ ?_ hK ?_
   ·simp [execOp, ho, Instr.lookup, run_underlying ht, H.val, MapKept.run_getObj_map H.heap, hv', hck, hf, Result.andThen]
   ·cases ok with
    | false => exact .one (.st q6)
    | true => exact .tup (fun j => if j = 0 then y.val else .bool true) rfl (fun j b hb => by
      match j, hb with
      | 0, hb => rfl
      | 1, hb => rfl) (fun j b hb => by
      match j, hb with
      | 0, hb => cases hb; exact .one (.st q6)
      | 1, hb => cases hb; exact .one (.st .bool))
 ·exact h.elim
theorem Bn.weak {f f' : List SV → List SV → SV → Prop} {ents : List MapEntry} (h : Bn σ f ents) (hf : ∀ cs ds x, f cs ds x → f' cs ds x) : Bn σ f' ents := fun e he => by
 obtain ⟨v1, v2, cs, ds, x, h1, h2, h3, h4, h5, h6, h7⟩ := h e he
 exact ⟨v1, v2, cs, ds, x, h1, h2, h3, h4, h5, h6, hf _ _ _ h7⟩
theorem Bn.put {f : List SV → List SV → SV → Prop} {ents : Array MapEntry} (h : Bn σ f ents.toList) {e : MapEntry} (he : ∃ v1 v2 cs ds x, e.key = .agg #[v1, v2] ∧ Ab σ noS noH v1 (.eptr cs) ∧ Ab σ noS noH v2 (.eptr ds) ∧ 2 ≤ cs.length ∧ 2 ≤ ds.length ∧ Af σ e.val x ∧ f cs ds x) : Bn σ f (ents.push e).toList := fun y hy => by
 rw [Array.toList_push, List.mem_append, List.mem_singleton] at hy
 rcases hy with hy | rfl
 ·exact h y hy
 ·exact he
theorem Gu {α : Type} {g : α → α} {x : α} : ∀ {l : List α} {m : Nat}, x ∈ l.modify m g → x ∈ l ∨ ∃ y, l[m]? = some y ∧ x = g y
 | [], m, h => by simp at h
 | y :: l, 0, h => by
  simp only [List.modify_zero_cons, List.mem_cons] at h
  rcases h with rfl | h
  ·exact .inr ⟨y, rfl, rfl⟩
  ·exact .inl (by simp [h])
 | y :: l, m + 1, h => by
  simp only [List.modify_succ_cons, List.mem_cons] at h
  rcases h with rfl | h
  ·exact .inl (by simp)
  ·rcases Gu h with h | ⟨u, h1, h2⟩
   ·exact .inl (by simp [h])
   ·exact .inr ⟨u, by simpa using h1, h2⟩
theorem GP {t key elem e el : TypeId} {i1 j : TypeInfo} {x k v : Operand} {x' k' v' : Opd} (ho : o.op = .mapUpdate t x k v ∨ o.op = .insert t x k v) (hx : AG C.n x = some x') (hk : AG C.n k = some k') (hv : AG C.n v = some v') (ht : P.underlying t = some (.map key elem)) (A : Bl P key e el i1 j)
  (R : AK C σ ι s a w) (h : Kd.go P d s K (.memoSet x' k' v')) : Ao P C o a w K := by
 have rx := R.ev hx
 have rk := R.ev hk
 have rv := R.ev hv
 simp only [Kd.go] at h
 split at h
 ·rename_i id f cs ds x1 e1 e2 e3
  obtain ⟨hh, hfx, hK⟩ := h
  obtain ⟨g, ents, H⟩ := R.hasMemo rx e1
  obtain ⟨v1, v2, hkv, r1, r2, l1, l2⟩ := HF rk e2
  obtain ⟨p, rfl, hp⟩ := CL hh R.fit r1 l1
  obtain ⟨q, rfl, hq⟩ := CL hh R.fit r2 l2
  have hv' : a.eval k = BW p q := hkv
  rw [e3] at rv
  have hr : Af σ (a.eval v) x1 := Bo (AN rv)
  have hck := fun em => Ei w A em p q
  have hex : execOp a.eval o = (do Instr.mapUpdate t (a.eval x) (a.eval k) (a.eval v); pure .skip) := by
   rcases ho with ho | ho <;> simp [execOp, ho]
  have hrun : ∃ ents', (execOp a.eval o).run P w = .ok .skip (setBlock w g (.map ents' ents'.size)) ∧ Bn σ f ents'.toList := by
   rcases D0 w A hp hq ents.toList (H.keys hh R.fit) with hf | ⟨m, y, hf, hy, hyk⟩
   ·refine ⟨ents.push { key := a.eval k, val := a.eval v, born := ents.size }, ?_, H.rep.put ⟨_, _, cs, ds, x1, hkv, r1, r2, l1, l2, hr, hfx⟩⟩
    rw [hex]
    simp [Instr.mapUpdate, run_underlying ht, H.val, MapKept.run_getObj_map H.heap, hv', hck, hf, Result.andThen, run_setObj_map _ H.heap, setBlock]
   ·have hj : ents[m]? = some y := by simpa using hy
    refine ⟨ents.modify m fun e => { e with key := a.eval k, val := a.eval v }, ?_, fun u hu => ?_⟩
    ·rw [hex]
     simp [Instr.mapUpdate, run_underlying ht, H.val, MapKept.run_getObj_map H.heap, hv', hck, hf, Result.andThen, hj, hyk, Hm w p q, run_setObj_map _ H.heap, setBlock]
    ·rw [Array.toList_modify] at hu
     rcases Gu hu with hu | ⟨y', h1, rfl⟩
     ·exact H.rep u hu
     ·exact ⟨_, _, cs, ds, x1, hkv, r1, r2, l1, l2, hr, hfx⟩
  obtain ⟨ents', q1, q2⟩ := hrun
  obtain ⟨ι', R', hu⟩ := R.setBlk (b' := .memo f) (o' := .map ents' ents'.size) H.blk H.hnd H.heap H.no rfl rfl (fun S' ι' hu => .memo H.hnd (B1 H.heap).1 q2 H.no)
  have hs : s.set id (.memo f) = s := by
   unfold AS.set
   congr 1
   funext i
   unfold AP
   split
   ·rename_i e4; rw [e4, H.blk]
   ·rfl
  rw [hs] at R'
  exact ⟨undef, .any, _, σ, ι', _, .inr ⟨rfl, q1⟩, hK, R', .any⟩
 ·exact h.elim
end

theorem Ba : ∀ {l : List AC}, AC.highs l = true → ∀ a ∈ l, a.high = true
 | [], _, a, ha => by simp at ha
 | x :: xs, hx, a, ha => by
  rw [AC.highs, Bool.and_eq_true] at hx
  rcases List.mem_cons.1 ha with rfl | ha
  ·exact hx.1
  ·exact Ba hx.2 a ha
section
variable {C : Ctx} {σ : Sto} {ι : Ah} {s : AS} {a : Act} {w : World}
theorem Ab.low {σ : Sto} {S S2 : AA} {ι : Ah} (hS : ∀ i b, 1000 ≤ i → S i = some b → S2 i = some b) {v : Value} {c : AC} (h : Ab σ S ι v c) (hc : c.high = true) : Ab σ S2 ι v c := by
 induction h with
 | st h => exact .st h
 | full h => exact .full h
 | row h1 h2 h3 h4 => exact .row (hS _ _ (by rw [AC.high] at hc; exact of_decide_eq_true hc) h1) h2 h3 h4
 | part h1 h2 h3 h4 => exact .part (hS _ _ (by rw [AC.high] at hc; exact of_decide_eq_true hc) h1) h2 h3 h4
 | rest h1 h2 h3 h4 => exact .rest (hS _ _ (by rw [AC.high] at hc; exact of_decide_eq_true hc) h1) h2 h3 h4
 | ptr h1 h2 h3 h4 => exact .ptr (hS _ _ (by rw [AC.high] at hc; exact of_decide_eq_true hc) h1) h2 h3 h4
 | mptr h1 h2 h3 h4 => exact .mptr (hS _ _ (by rw [AC.high] at hc; exact of_decide_eq_true hc) h1) h2 h3 h4
 | yld h1 h2 h3 h4 => exact .yld (hS _ _ (by rw [AC.high] at hc; exact of_decide_eq_true hc) h1) h2 h3 h4
 | ubool => exact .ubool
 | eptr c h1 h2 hh => exact .eptr c h1 h2 hh
 | @fn f vs caps c h1 h2 h3 ih =>
  have key : ∀ (l : List AC), AC.highs l = true → ∀ a ∈ l, a.high = true := by
   intro l
   induction l with
   | nil => simp
   | cons x xs ih2 =>
    intro hx a ha
    rw [AC.highs, Bool.and_eq_true] at hx
    rcases List.mem_cons.1 ha with rfl | ha
    ·exact hx.1
    ·exact ih2 hx.2 a ha
  rw [AC.high] at hc
  exact .fn c h1 h2 (fun j a ha => ih j a ha (key _ hc a (List.mem_of_getElem? ha)))
 | any h => exact .any h
theorem HO {S S2 : AA} (hS : ∀ i b, 1000 ≤ i → S i = some b → S2 i = some b) {vs : List Value} {cs : List AC} (h : AU (Ab σ S ι) vs cs) (hc : AC.highs cs = true) : AU (Ab σ S2 ι) vs cs :=
 AU.of_get h.len fun j v c hv hcj => by
  obtain ⟨v', h1, h2⟩ := h.get hcj
  rw [hv] at h1
  cases h1
  exact h2.low hS (Ba hc c (List.mem_of_getElem? hcj))
mutual
theorem AO.low {S S2 : AA} (hS : ∀ i b, 1000 ≤ i → S i = some b → S2 i = some b) : ∀ {v : Value} {c : AV}, AO σ S ι v c → c.high = true → AO σ S2 ι v c
 | v, .one c, h, hc => by cases h with | one h => exact .one (h.low hS (by rw [AV.high] at hc; exact hc))
 | v, .agg cs, h, hc => by cases h with | agg h => exact .agg (HO hS h (by rw [AV.high] at hc; exact hc))
 | v, .tup vs, h, hc => by
  cases h with
  | tup c h1 h2 h3 => exact .tup c h1 h2 (AO.lows hS h3 (by rw [AV.high] at hc; exact hc))
 | v, .any, h, _ => .any
theorem AO.lows {S S2 : AA} (hS : ∀ i b, 1000 ≤ i → S i = some b → S2 i = some b) : ∀ {vs : List AV} {c : Nat → Value}, (∀ j b, vs[j]? = some b → AO σ S ι (c j) b) → AV.highs vs = true → ∀ j b, vs[j]? = some b → AO σ S2 ι (c j) b
 | [], c, h, _, j, b, hb => by simp at hb
 | x :: xs, c, h, hc, j, b, hb => by
  rw [AV.highs, Bool.and_eq_true] at hc
  cases j with
  | zero =>
   simp at hb
   subst hb
   exact AO.low hS (h 0 x rfl) hc.1
  | succ j => exact AO.lows hS (vs := xs) (c := fun j => c (j + 1)) (fun j b hb => h (j + 1) b (by simpa using hb)) hc.2 j b (by simpa using hb)
end
section
variable {S S2 : AA} {ι2 : Ah}
mutual
theorem AO.same (hc : ∀ v c, Ab σ S ι v c → c.high = true → Ab σ S2 ι2 v c) : ∀ {v : Value} {a : AV}, AO σ S ι v a → a.high = true → AO σ S2 ι2 v a
 | v, .one c, h, hh => by cases h with | one h => exact .one (hc _ _ h (by rw [AV.high] at hh; exact hh))
 | v, .agg cs, h, hh => by
  rw [AV.high] at hh
  cases h with
  | agg h =>
   refine .agg (AU.of_get h.len fun j x c hx hcj => ?_)
   obtain ⟨x', h1, h2⟩ := h.get hcj
   rw [hx] at h1
   cases h1
   exact hc _ _ h2 (Ba hh c (List.mem_of_getElem? hcj))
 | v, .tup vs, h, hh => by
  rw [AV.high] at hh
  cases h with
  | tup c h1 h2 h3 => exact .tup c h1 h2 (AO.sames hc h3 hh)
 | v, .any, _, _ => .any
theorem AO.sames (hc : ∀ v c, Ab σ S ι v c → c.high = true → Ab σ S2 ι2 v c) : ∀ {vs : List AV} {c : Nat → Value}, (∀ (j : Nat) b, vs[j]? = some b → AO σ S ι (c j) b) → AV.highs vs = true → ∀ (j : Nat) b, vs[j]? = some b → AO σ S2 ι2 (c j) b
 | [], _, _, _, j, b, hb => by simp at hb
 | x :: xs, c, h, hh, j, b, hb => by
  rw [AV.highs, Bool.and_eq_true] at hh
  cases j with
  | zero =>
   simp at hb
   subst hb
   exact AO.same hc (h 0 x rfl) hh.1
  | succ j => exact AO.sames hc (vs := xs) (c := fun j => c (j + 1)) (fun j b hb => h (j + 1) b (by simpa using hb)) hh.2 j b (by simpa using hb)
end
end
theorem BN.samecells {S S2 : AA} {ι2 : Ah} {h : Hnd} {b : AJ} (hr : BN σ S ι w h b) (hc : ∀ v c, Ab σ S ι v c → c.high = true → Ab σ S2 ι2 v c) (hb : b.high = true) : BN σ S2 ι2 w h b := by
 cases hr with
 | box k1 k2 k3 k4 k5 =>
  refine .box k1 k2 k3 (AU.of_get k4.len fun j v c hv hcj => ?_) k5
  obtain ⟨v', h1, h2⟩ := k4.get hcj
  rw [hv] at h1
  cases h1
  exact hc _ _ h2 (Ba hb c (List.mem_of_getElem? hcj))
 | crow k1 k2 k3 kc km k4 k5 =>
  refine .crow k1 k2 k3 kc km (AU.of_get k4.len fun j v c hv hcj => ?_) k5
  obtain ⟨v', h1, h2⟩ := k4.get hcj
  rw [hv] at h1
  cases h1
  exact hc _ _ h2 (Ba hb c (List.mem_of_getElem? hcj))
 | afull k1 k2 k3 k4 => exact .afull k1 k2 k3 k4
 | arow k1 k2 k3 k4 k5 k6 k7 k8 k9 kh => exact .arow k1 k2 k3 k4 k5 k6 k7 k8 k9 kh
 | mnil k1 k2 => exact .mnil k1 k2
 | mrow k1 k2 k3 k4 k5 k6 k7 k8 k9 => exact .mrow k1 k2 k3 k4 k5 k6 k7 k8 k9
 | map k1 k2 k3 k4 => exact .map k1 k2 k3 k4
 | memo k1 k2 k3 k4 => exact .memo k1 k2 k3 k4
 | iter k1 k2 k3 k4 => exact .iter k1 k2 (hc _ _ k3 hb) k4
 | @loop env r g k1 k2 k3 k4 k5 => exact .loop k1 k2 k3 (AO.sames (c := fun j => r.tmps.getD j undef) hc k4 hb) k5
 | dead k1 => exact .dead k1
theorem Cj {S S' : AA} {i : Nat} (h : i < 1000) : DH S S' i = S i := if_pos h
theorem Bt {S S' : AA} {i : Nat} (h : 1000 ≤ i) : DH S S' i = S' i := if_neg (by omega)
theorem AK.ownT (R : AK C σ ι s a w) {T : AA} (hST : ∀ i, 1000 ≤ i → s.S i = T i) (hT : Ay T) : D9 σ T ι w := by
 have hS : ∀ i b, 1000 ≤ i → s.S i = some b → T i = some b := fun i b hi hb => by rw [← hST i hi]; exact hb
 refine ⟨fun id b hb => ?_, fun id id' b b' g h1 h2 g1 g2 => ?_⟩
 ·obtain ⟨hi, hh⟩ := hT id b hb
  exact (R.blk id b (by rw [hST id hi]; exact hb)).samecells (fun v c hv hc => hv.low hS hc) hh
 ·exact R.inj _ _ _ _ g (by rw [hST id (hT id b h1).1]; exact h1) (by rw [hST id' (hT id' b' h2).1]; exact h2) g1 g2
theorem Gq : ∀ {l : List AV}, AV.highs l = true → ∀ a ∈ l, a.high = true
 | [], _, a, ha => by simp at ha
 | x :: xs, hx, a, ha => by
  rw [AV.highs, Bool.and_eq_true] at hx
  rcases List.mem_cons.1 ha with rfl | ha
  ·exact hx.1
  ·exact Gq hx.2 a ha
theorem PI (S : AA) (x : AV) : F7 S x = x ∨ outV S x = some (F7 S x) := by
 unfold F7
 cases outV S x with
 | none => exact .inl rfl
 | some y => exact .inr rfl
theorem AK.argsT (R : AK C σ ι s a w) {T : AA} (hST : ∀ i, 1000 ≤ i → s.S i = T i) {vs : List Value} {xs : List AV} (hh : AV.highs (xs.map (F7 s.S)) = true) (h : AU (AO σ s.S ι) vs xs) : AU (AO σ T ι) vs (xs.map (F7 s.S)) := by
 have hS : ∀ i b, 1000 ≤ i → s.S i = some b → T i = some b := fun i b hi hb => by rw [← hST i hi]; exact hb
 refine AU.of_get (by rw [List.length_map]; exact h.len) fun j v b hv hb => ?_
 have hb' := Gq hh b (List.mem_of_getElem? hb)
 rw [List.getElem?_map, Option.map_eq_some_iff] at hb
 obtain ⟨x, hx, rfl⟩ := hb
 obtain ⟨v', h1, h2⟩ := h.get hx
 rw [hv] at h1
 cases h1
 rcases PI s.S x with e | e
 ·rw [e] at hb' ⊢
  exact h2.low hS hb'
 ·exact (R.outV h2 e).mono (fun _ _ h => h) (FX _ _)
theorem AK.join (R : AK C σ ι s a w) {T : AA} (hST : ∀ i, 1000 ≤ i → s.S i = T i) (hT : Ay T) {Post : AV → AA → Prop} {e : Ending} {w' : World} (he : OP σ T ι w Post e w') :
  ∃ v r S' σ' ι2, e = .returned v ∧ Post r S' ∧ Ay S' ∧ AK C σ' ι2 ⟨s.env, DH s.S S'⟩ a w' ∧ AO σ' (DH s.S S') ι2 v r := by
 obtain ⟨v, r, S', σ', ι', rfl, hP, hS', hupd, hown', hv, hf', hkeep, hold, hos, hsz, hsame, hbase⟩ := he
 have hown := R.ownT hST hT
 obtain ⟨ι2, hι2⟩ : ∃ ι2 : Ah, ∀ i, ι2 i = if i < 1000 then ι i else ι' i := ⟨fun i => if i < 1000 then ι i else ι' i, fun _ => rfl⟩
 have hlo : ∀ i, i < 1000 → ι2 i = ι i := fun i hi => by rw [hι2, if_pos hi]
 have hhi : ∀ i, 1000 ≤ i → ι2 i = ι' i := fun i hi => by rw [hι2, if_neg (by omega)]
 have hlt : ∀ id b g, s.S id = some b → (ι id).g = some g → g < w.heap.size := fun id b g h1 h2 => (R.blk id b h1).gsome h2
 have hlow : ∀ id b g, id < 1000 → s.S id = some b → (ι id).g = some g → B6 T ι g := fun id b g hi hb hg id2 b2 hb2 hg2 => by
  have h2 := (hT id2 b2 hb2).1
  have := R.inj _ _ _ _ g hb (by rw [hST id2 h2]; exact hb2) hg hg2
  omega
 have hnot : ∀ g, g < C.N → ¬ C.G g → B6 T ι g := fun g h1 h2 id b hb hg => by
  rcases R.base id b g (by rw [hST id (hT id b hb).1]; exact hb) hg with h | h
  ·omega
  ·exact h2 h
 have hu : Upd s.S ι (DH s.S S') ι2 := fun id b hb => by
  rcases Nat.lt_or_ge id 1000 with hi | hi
  ·exact ⟨b, by rw [Cj hi]; exact hb, Nat.le_refl _, fun _ => ⟨rfl, hlo id hi⟩⟩
  ·obtain ⟨b', h1, h2, h3⟩ := hupd id b (by rw [← hST id hi]; exact hb)
   exact ⟨b', by rw [Bt hi]; exact h1, h2, fun hl => ⟨(h3 hl).1, by rw [hhi id hi]; exact (h3 hl).2⟩⟩
 have hu2 : Upd S' ι' (DH s.S S') ι2 := fun id b hb => ⟨b, by rw [Bt (hS' id b hb).1]; exact hb, Nat.le_refl _, fun _ => ⟨rfl, hhi id (hS' id b hb).1⟩⟩
 refine ⟨v, r, S', σ', ι2, rfl, hP, hS', ?_, hv.mono (fun _ _ h => h) hu2⟩
 refine ⟨R.size, fun i hi => (R.env i hi).mono hkeep hu, R.nod.mono (fun D h => (hsame D (Array.getElem?_eq_some_iff.1 h).1 (Do hown.1 h)).trans h), hf', fun id b hb => ?_, fun id id' b b' g h1 h2 g1 g2 => ?_, fun id b g hb hg => ?_, fun p x hx => hkeep _ _ (R.ext p x hx), fun p h1 h2 => ?_, ⟨hos.1.trans R.os.1, hos.2.1.trans R.os.2.1, hos.2.2.trans R.os.2.2⟩, ⟨Nat.le_trans R.grown.1 hsz, Nat.le_trans R.grown.2 hsz⟩, fun g h1 h2 => ?_, R.upd.trans hu⟩
 ·rcases Nat.lt_or_ge id 1000 with hi | hi
  ·have hb' : s.S id = some b := (Cj (S := s.S) (S' := S') hi).symm.trans hb
   rw [hlo id hi]
   exact (R.blk id b hb').mono hkeep hu (fun g hg => hsame g (hlt id b g hb' hg) (hlow id b g hi hb' hg)) (fun g hg p hp => hold p (by rw [hp]; exact hlt id b g hb' hg) (by rw [hp]; exact hlow id b g hi hb' hg))
  ·have hb' : S' id = some b := (Bt (S := s.S) (S' := S') hi).symm.trans hb
   rw [hhi id hi]
   exact (hown'.1 id b hb').mono (fun _ _ h => h) hu2 (fun _ _ => rfl) (fun _ _ _ _ => rfl)
 ·have cross : ∀ id id' b b' g, id < 1000 → 1000 ≤ id' → DH s.S S' id = some b → DH s.S S' id' = some b' → (ι2 id).g = some g → (ι2 id').g = some g → False := fun id id' b b' g l1 l2 h1 h2 g1 g2 => by
   rw [Cj l1] at h1
   rw [Bt l2] at h2
   rw [hlo id l1] at g1
   rw [hhi id' l2] at g2
   rcases hbase id' b' g h2 g2 with h | h
   ·have := hlt id b g h1 g1; omega
   ·exact h (hlow id b g l1 h1 g1)
  change DH s.S S' id = some b at h1
  change DH s.S S' id' = some b' at h2
  rcases Nat.lt_or_ge id 1000 with l1 | l1 <;> rcases Nat.lt_or_ge id' 1000 with l2 | l2
  ·rw [Cj l1] at h1
   rw [Cj l2] at h2
   rw [hlo id l1] at g1
   rw [hlo id' l2] at g2
   exact R.inj _ _ _ _ g h1 h2 g1 g2
  ·exact (cross id id' b b' g l1 l2 h1 h2 g1 g2).elim
  ·exact (cross id' id b' b g l2 l1 h2 h1 g2 g1).elim
  ·rw [Bt l1] at h1
   rw [Bt l2] at h2
   rw [hhi id l1] at g1
   rw [hhi id' l2] at g2
   exact hown'.2 _ _ _ _ g h1 h2 g1 g2
 ·change DH s.S S' id = some b at hb
  rcases Nat.lt_or_ge id 1000 with hi | hi
  ·rw [Cj hi] at hb
   rw [hlo id hi] at hg
   exact R.base id b g hb hg
  ·rw [Bt hi] at hb
   rw [hhi id hi] at hg
   rcases hbase id b g hb hg with h2 | h2
   ·exact .inl (by have := R.grown.1; omega)
   ·by_cases hN : g < C.N
    ·by_cases hG : C.G g
     ·exact .inr hG
     ·exact absurd (hnot g hN hG) h2
    ·exact .inl (by omega)
 ·exact (hold p (by have := R.grown.1; omega) (hnot _ h1 h2)).trans (R.old p h1 h2)
 ·exact (hsame g (by have := R.grown.1; omega) (hnot g h1 h2)).trans (R.same g h1 h2)
end

def KE (P : Program) (t : TypeId) : Option (Bool × Nat) := match P.underlying t, P.info? t with
 | some d, some i => some (Cw d, if Cw d then i.size else 1)
 | _, _ => none
def Ot (v : Value) : Option SV := match G4 v with
 | some (.st c) => some c
 | some (.full xs) => some (.list xs)
 | _ => none
def Ek : List Value → Option (List SV)
 | [] => some []
 | v :: vs => match Ot v, Ek vs with
  | some c, some cs => some (c :: cs)
  | _, _ => none
def isP (mu : List Nat) : Option Nat → Bool
 | some d => mu.contains (30000000 + d)
 | none => false
def isB (mu : List Nat) : Option Nat → Bool
 | some d => mu.contains (90000000 + d)
 | none => false
def isY (mu : List Nat) : Option Nat → Bool
 | some d => mu.contains (70000000 + d)
 | none => false
def Lh (P : Program) (t : TypeId) : Bool := match P.underlying t with
 | some .string => true
 | _ => false
theorem K7 {P : Program} {t : TypeId} (h : Lh P t = true) : P.underlying t = some .string := by
 unfold Lh at h
 split at h
 ·assumption
 ·cases h
def PY : Value → Bool
 | .int .u8 n => decide (n = 0)
 | _ => false
theorem Ow {v : Value} (h : PY v = true) : v = .int .u8 0 := by
 unfold PY at h
 split at h
 ·rw [of_decide_eq_true h]
 ·cases h
def OK (P : Program) (n : Nat) (mu : List Nat) (dst : Option Nat) (c : Call) : Option Kd := match c.callee with
 | .builtin .len => match c.args.toList, c.argTypes.toList with
  | [x], [t] => match AG n x, P.underlying t with
   | some x', some .string => some (.len true x')
   | some x', some (.slice _) => some (.len false x')
   | some x', some (.map _ _) => some (.lenM x')
   | _, _ => none
  | _, _ => none
 | .builtin .append => match c.args.toList, c.argTypes.toList with
  | [x, y], [t, t'] => match AG n x, AG n y, P.underlying t with
   | some x', some y', some (.slice e) => match P.info? e with
    | some i => match i.zero with
     | some z => if t = t' ∧ z.cells.size = i.size ∧ 0 < i.size then if isP mu dst then some (.appP e i.size i.bytes x' y') else some (.append (match dst with | some d => mu.contains d | none => false) e i.size i.bytes x' y') else if Lh P t' = true ∧ i.size = 1 ∧ i.bytes = 1 ∧ PY z = true then some (.appS e x' y') else none
     | none => none
    | none => none
   | _, _, _ => none
  | _, _ => none
 | .builtin .clear => match c.args.toList, c.argTypes.toList with
  | [x], [t] => match AG n x, P.underlying t with
   | some x', some (.slice e) => match P.info? e with
    | some i => match i.zero with
     | some z => match Ek z.cells.toList with
      | some zs => if z.cells.size = i.size ∧ 0 < i.size then some (.clearP e i.size zs x') else none
      | none => none
     | none => none
    | none => none
   | _, _ => none
  | _, _ => none
 | .builtin .copy => match c.args.toList, c.argTypes.toList with
  | [x, y], [t, t'] => match AG n x, AG n y, P.underlying t with
   | some x', some y', some (.slice e) => if (P.info? e).map (·.size) = some 1 then some (.copyP x' y') else some .never
   | _, _, _ => some .never
  | _, _ => some .never
 | .builtin .min => match c.args.toList with
  | [x, y] => match AG n x, AG n y with
   | some x', some y' => some (.mm false x' y')
   | _, _ => none
  | _ => none
 | .builtin .max => match c.args.toList with
  | [x, y] => match AG n x, AG n y with
   | some x', some y' => some (.mm true x' y')
   | _, _ => none
  | _ => none
 | .value (.func f) => if Bp P f then (BG n c.args.toList).map (fun xs => match dst with
  | some d => if mu.contains d then .callS f xs else if mu.contains (20000000 + d) then .callN f xs else if mu.contains (40000000 + d) then .callR f xs else if mu.contains (50000000 + d) then .callW f xs else if mu.contains (80000000 + d) then .callX f xs else .call f xs
  | none => .callS f xs) else none
 | .value (.tmp t) => match AG n (.tmp t), BG n c.args.toList with
  | some f', some xs => if isY mu dst then none else some (.callV f' xs)
  | _, _ => none
 | _ => none
def Pp (P : Program) (t : TypeId) : Bool := match P.underlying t with
 | some (.int _) => true
 | some .string => true
 | some .bool => true
 | _ => false
def Hb (P : Program) (t : TypeId) : Option (TypeId × Option IntKind) := match P.underlying t with
 | some (.map k e) => match P.underlying k with
  | some td => (LW td).map fun kt => (e, kt)
  | none => none
 | _ => none
theorem ES {P : Program} {t e : TypeId} {kt : Option IntKind} (h : Hb P t = some (e, kt)) : ∃ k td, P.underlying t = some (.map k e) ∧ P.underlying k = some td ∧ LW td = some kt := by
 unfold Hb at h
 split at h
 ·rename_i k e' e1
  split at h
  ·rename_i td e2
   rw [Option.map_eq_some_iff] at h
   obtain ⟨q, h1, h2⟩ := h
   cases h2
   exact ⟨k, td, e1, e2, h1⟩
  ·cases h
 ·cases h
def HH (P : Program) (e : TypeId) : Option AV := match P.info? e with
 | some i => match i.zero with
  | some z => GS z
  | none => none
 | none => none
theorem E6 {P : Program} {e : TypeId} {zv : AV} (h : HH P e = some zv) : ∃ i z, P.info? e = some i ∧ i.zero = some z ∧ GS z = some zv := by
 unfold HH at h
 split at h
 ·rename_i i e1
  split at h
  ·rename_i z e2
   exact ⟨i, z, e1, e2, h⟩
  ·cases h
 ·cases h
def As (P : Program) (n : Nat) (mu : List Nat) (dst : Option Nat) : Op → Option Kd
 | .move x => (AG n x).map .mov
 | .assign x => (AG n x).map .mov
 | .pick c x y => match AG n c, AG n x, AG n y with
  | some c', some x', some y' => some (.pick c' x' y')
  | _, _, _ => none
 | .alloc e => match P.info? e with
  | some i => match i.zero with
   | some z => (Ce z.cells.toList).map (.alloc e)
   | none => none
  | none => none
 | .box e x => (AG n x).map (.box e)
 | .build t ps => match P.info? t, P.underlying t with
  | some it, some (.struct fs) => match it.zero, fs.toList.mapM (fun f => (P.info? f.type).map fun i => (f.offset, i.size)) with
   | some z, some places => match EU n places ps.toList, Ce z.cells.toList with
    | some ps', some cs => some (.build cs ps')
    | _, _ => none
   | _, _ => none
  | _, _ => none
 | .buildSlice t len ps => match P.underlying t with
  | some (.slice e) => match P.info? e with
   | some ie => match ie.zero, If n 0 ps.toList with
    | some z, some xs => if len * ie.size ≤ 2 ^ 24 ∧ 0 < ie.size ∧ ps.size = len then (if Pp P e && ie.size == 1 && !(match dst with | some d => mu.contains d | none => false) then some (.buildFlat xs) else some (.buildSlice (match dst with | some d => mu.contains d | none => false) e ie.size xs)) else none
    | _, _ => none
   | none => none
  | _ => none
 | .load t x => match KE P t, AG n x with
  | some (g, k), some x' => some (.load g k x')
  | _, _ => none
 | .store t x v => match P.info? t, AG n x, AG n v with
  | some i, some x', some v' => some (.store i.size x' v')
  | _, _, _ => none
 | .fieldAddr t x f => match P.underlying t, AG n x with
  | some (.struct fs), some x' => match fs[f]? with
   | some fd => match P.info? fd.type with
    | some i => if i.size ≠ 0 then some (.fieldAddr fd.offset x') else none
    | none => none
   | none => none
  | _, _ => none
 | .field t x f => match P.underlying t, AG n x with
  | some (.struct fs), some x' => match fs[f]? with
   | some fd => match KE P fd.type with
    | some (g, k) => some (.field g fd.offset k x')
    | none => none
   | none => none
  | _, _ => none
 | .indexAddr t x y => match P.underlying t, AG n x, AG n y with
  | some (.slice e), some x', some y' => match P.info? e with
   | some i => if isP mu dst then some (.indexP i.size x' y') else some (.indexAddr i.size x' y')
   | none => none
  | some (.array len e), some x', some y' => match P.info? e with
   | some i => some (.indexArr len i.size x' y')
   | none => none
  | _, _, _ => none
 | .index t x y => match P.underlying t, AG n x, AG n y with
  | some .string, some x', some y' => some (.indexStr x' y')
  | _, _, _ => none
 | .binOp op t x y _ => match AG n x, AG n y with
  | some x', some y' => match P.underlying t, op, y with
   | some .bool, .eql, _ => some (.eqB false x' y')
   | some .bool, .neq, _ => some (.eqB true x' y')
   | some (.slice _), .eql, .const (.slice none 0 0) => some (.eqN false x')
   | some (.slice _), .neq, .const (.slice none 0 0) => some (.eqN true x')
   | some (.interface _), .eql, .const .nilIface => some (.eqE false x')
   | some (.interface _), .neq, .const .nilIface => some (.eqE true x')
   | some (.pointer _), .eql, .const (.pointer none) => some (.eqP false x')
   | some (.pointer _), .neq, .const (.pointer none) => some (.eqP true x')
   | _, .and, _ => some (.bits op x' y')
   | _, .or, _ => some (.bits op x' y')
   | _, .shl, _ => some (.bits op x' y')
   | _, .shr, _ => if isB mu dst then some (.bits op x' y') else some (.bin op x' y')
   | _, _, _ => some (.bin op x' y')
  | _, _ => none
 | .unOp op _ x => (AG n x).map (.un op)
 | .convert src dst x => match P.underlying src, P.underlying dst, AG n x with
  | some _, some (.int k), some x' => some (.conv k x')
  | some (.slice e), some .string, some x' => match P.underlying e with
   | some (.int .u8) => some (.strOf x')
   | _ => none
  | _, _, _ => none
 | .slice t x lo hi none => match P.underlying t, AG n x, BM n lo, BM n hi with
  | some .string, some x', some lo', some hi' => some (.sliceS x' lo' hi')
  | some (.slice e), some x', some lo', some hi' => match P.info? e with
   | some i => if isP mu dst then (match lo', hi' with | none, some h' => some (.cutP i.size x' h') | some l', none => some (.restP i.size x' l') | _, _ => none) else some (.sliceL i.size x' lo' hi')
   | none => none
  | _, _, _, _ => none
 | .slice t x none (some hi) (some mx) => match P.underlying t, AG n x, AG n hi, AG n mx with
  | some (.slice e), some x', some h', some m' => (P.info? e).map fun i => .sliceM i.size x' h' m'
  | _, _, _, _ => none
 | .extract x i => (AG n x).map (.extract i)
 | .nilCheck x => (AG n x).map .nilCheck
 | .call c => OK P n mu dst c
 | .makeSlice t x y => match P.underlying t, AG n x, AG n y with
  | some (.slice e), some x', some y' => match P.info? e with
   | some i => match i.zero with
    | some z => match Ek z.cells.toList with
     | some zs => if z.cells.size = i.size ∧ 0 < i.size then some (.makeSlice e i.size i.bytes zs x' y') else none
     | none => none
    | none => none
   | none => none
  | _, _, _ => none
 | .makeMap t none => (Hb P t).map fun q => .makeMap q.2
 | .lookup t x k ok => match Hb P t, AG n x, AG n k with
  | some (e, kt), some x', some k' => (HH P e).map fun z => .lookup kt ok z x' k'
  | _, _, _ => none
 | .mapUpdate t x k v => match Hb P t, AG n x, AG n k, AG n v with
  | some (_, kt), some x', some k', some v' => some (.mapSet kt x' k' v')
  | _, _, _, _ => none
 | .insert t x k v => match Hb P t, AG n x, AG n k, AG n v with
  | some (_, kt), some x', some k', some v' => some (.mapSet kt x' k' v')
  | _, _, _, _ => none
 | .mapEntry t x k => match Hb P t, AG n x, AG n k with
  | some (e, kt), some x', some k' => (HH P e).map fun z => .mapEntry kt z x' k'
  | _, _, _ => none
 | .entryStore _ x k v => match AG n x, AG n k, AG n v with
  | some x', some k', some v' => some (.entrySet x' k' v')
  | _, _, _ => none
 | .range t x => match P.underlying t, AG n x with
  | some (.map _ _), some x' => some (.rangeM x')
  | _, _ => none
 | .next x false => (AG n x).map .next
 | .entry x => (AG n x).map .entry
 | .makeInterface t x => match P.underlying t, AG n x with
  | some (.int _), some x' => some (.iface t x')
  | _, _ => none
 | .makeFunc (.func g) first caps => if first.size = 0 then (BG n caps.toList).map (.makeFunc g) else none
 | _ => none
def JO (n : Nat) (ops : List Oper) : Option (Nat × Bool) → Option (Option (Nat × Bool))
 | none => some none
 | some (j, want) => match ops[j]? with
  | some o => match o.dst with
   | some t => if t < n then some (some (t, want)) else none
   | none => none
  | none => none
def E5 (P : Program) (k : TypeId) : Bool := match P.underlying k with
 | some (.array 2 e) => match P.underlying e, P.info? e with
  | some (.pointer el), some i => match P.info? el with
   | some j => i.size == 1 && j.size != 0
   | none => false
  | _, _ => false
 | _ => false
theorem Dp {P : Program} {k : TypeId} (h : E5 P k = true) : ∃ e el i j, Bl P k e el i j := by
 unfold E5 at h
 split at h
 ·rename_i e e1
  split at h
  ·rename_i el i e2 e3
   split at h
   ·rename_i j e4
    simp at h
    exact ⟨e, el, i, j, e1, e2, e3, h.1, e4, h.2⟩
   ·cases h
  ·cases h
 ·cases h
def Ix (P : Program) (n : Nat) : Op → Option Kd
 | .makeMap t none => match P.underlying t with
  | some (.map k _) => if E5 P k = true then some .makeMemo else none
  | _ => none
 | .lookup t x k ok => match P.underlying t, AG n x, AG n k with
  | some (.map key e), some x', some k' => if E5 P key = true then (HH P e).map fun z => .memoGet ok z x' k' else none
  | _, _, _ => none
 | .mapUpdate t x k v => match P.underlying t, AG n x, AG n k, AG n v with
  | some (.map key _), some x', some k', some v' => if E5 P key = true then some (.memoSet x' k' v') else none
  | _, _, _, _ => none
 | .insert t x k v => match P.underlying t, AG n x, AG n k, AG n v with
  | some (.map key _), some x', some k', some v' => if E5 P key = true then some (.memoSet x' k' v') else none
  | _, _, _, _ => none
 | .build t ps => match ps.toList, P.info? t with
  | [(0, x), (1, y)], some it => match it.zero, BG n [x, y] with
   | some z, some xs => if E5 P t = true ∧ z.cells.size = 2 then some (.buildArr xs) else none
   | _, _ => none
  | _, _ => none
 | _ => none
def PE (mu : List Nat) : Option Nat → Bool
 | some d => mu.contains (60000000 + d)
 | none => false
def Kd.stillIf (b : Bool) (k : Kd) : Kd := match b with
 | true => k.stillOf
 | false => k
theorem LQ {P : Program} {d : Nat} {s : AS} {K : AV → AS → Prop} {b : Bool} {kd : Kd} (h : (kd.stillIf b).go P d s K) : kd.go P d s (Pb K) := by
 have keep : kd.go P d s K → kd.go P d s (Pb K) := fun h => go_mono h fun _ _ h => .inl h
 cases b with
 | true =>
  by_cases ha : ∃ mu e w b x y, kd = .append mu e w b x y
  ·obtain ⟨mu, e, w, b, x, y, rfl⟩ := ha
   exact Jv h
  ·exact keep (LR (fun mu e w b x y he => ha ⟨mu, e, w, b, x, y, he⟩) h)
 | false => exact keep h
def Po (P : Program) (n : Nat) (mu : List Nat) (dst : Option Nat) (op : Op) : Option Kd := match As P n mu dst op with
 | some k => some (k.stillIf (PE mu dst))
 | none => match Ix P n op with
  | some k => some k
  | none => match op with
   | .panic x => (AG n x).map .pan
   | .call c => match c.callee with
    | .value (.tmp t) => match AG n (.tmp t), BG n c.args.toList with
     | some f', some xs => some (.callY f' xs)
     | _, _ => some .never
    | _ => some .never
   | _ => some .never
def Jp (P : Program) (n : Nat) (mu : List Nat) (ops : List Oper) (o : Oper) : Option Ins := match JO n ops o.guard, Po P n mu o.dst o.op with
 | some g, some k => some ⟨o.dst, g, k, .no⟩
 | _, _ => none
def Hg (P : Program) (n : Nat) (mu : List Nat) (ops : List Oper) : List Oper → Option (List Ins)
 | [] => some []
 | o :: os => match Jp P n mu ops o, Hg P n mu ops os with
  | some i, some is => some (i :: is)
  | _, _ => none
section
variable {P : Program} {C : Ctx} {o : Oper} {a : Act} {w : World} {σ : Sto} {ι : Ah} {s : AS} {d : Nat}
def Ax (C : Ctx) (s : AS) (a : Act) (w : World) : Prop := ∃ σ ι, AK C σ ι s a w
theorem E7 {t : TypeId} {g : Bool} {k : Nat} (h : KE P t = some (g, k)) : ∃ dd i, P.underlying t = some dd ∧ P.info? t = some i ∧ g = Cw dd ∧ k = if g then i.size else 1 := by
 unfold KE at h
 split at h
 ·rename_i dd i e1 e2
  simp only [Option.some.injEq, Prod.mk.injEq] at h
  obtain ⟨rfl, rfl⟩ := h
  exact ⟨dd, i, e1, e2, rfl, rfl⟩
 ·cases h
theorem Om {f : FuncId} {xs : Array Operand} {ts : Array TypeId} {xs' : List Opd} {K : AV → AS → Prop} {next : Act → World → Prop} {Q : Exit → Act → World → Prop} (ho : o.op = .call { callee := .value (.func f), args := xs, argTypes := ts }) (hf : Bp P f = true) (hx : BG C.n xs.toList = some xs')
  (R : AK C σ ι s a w) (h : Kd.go P d s K (.call f xs')) (hn : ∀ av s' a' w', K av s' → Ax C (s'.put o.dst av) a' w' → next a' w') : o.wp P a w next Q := by
 simp only [Kd.go] at h
 split at h
 ·rename_i vs e1
  obtain ⟨r, hc, hK⟩ := h
  have rxs := R.evs hx
  have hrun : (execOp a.eval o).run P w = .ok (.enter f (xs.map a.eval)) w := by
   unfold Bp at hf
   split at hf
   ·rename_i fn hfn
    simp only [Bool.and_eq_true, Bool.not_eq_true', beq_eq_false_iff_ne, Option.isSome_iff_exists] at hf
    obtain ⟨hname, c, hbody⟩ := hf
    simp [execOp, ho, resolve, Deferred.ofValue, Act.eval, invoke, callFunc, hfn, hname, hbody]
   ·cases hf
  have hvs : AU (AO σ noS noH) (xs.map a.eval).toList vs := by
   have := rxs
   rw [← Array.toList_map] at this
   have hlen := this.len
   obtain ⟨q1, q2⟩ := AK.outVs R (cs := s.evs xs') (cs' := vs) (c := fun j => ((xs.map a.eval).toList[j]?).getD undef) (fun j b hb => by
    obtain ⟨v, v1, v2⟩ := this.get hb
    rw [v1]
    exact v2) e1
   refine AU.of_get (by omega) fun j v b hv hb => ?_
   have := q2 j b hb
   rw [hv] at this
   exact this
  unfold Oper.wp
  rw [hrun, Oper.upon_enter]
  have hcall := hc σ w _ (C.glob.mono R.ext) R.fit hvs
  rw [Array.toArray_toList] at hcall
  refine hcall.mono fun e w' he => ?_
  obtain ⟨v, σ', rfl, hv, hf', hext, hb⟩ := he
  exact hn _ _ _ _ hK ⟨σ', ι, (R.more hext hf' hb).put (hv.mono (fun _ _ h => h) (FX _ _))⟩
 ·exact h.elim
theorem OJ {mx : Bool} {x y : Operand} {ts : Array TypeId} {x' y' : Opd} {K : AV → AS → Prop} (ho : o.op = .call { callee := .builtin (if mx then .max else .min), args := #[x, y], argTypes := ts }) (hx : AG C.n x = some x') (hy : AG C.n y = some y') (R : AK C σ ι s a w) (h : Kd.go P d s K (.mm mx x' y')) : Ao P C o a w K := by
 have rx := R.ev hx
 have ry := R.ev hy
 simp only [Kd.go] at h
 split at h
 ·rename_i k m k' n e1 e2
  rw [e1] at rx
  rw [e2] at ry
  obtain ⟨hex, h1⟩ := Ap rx
  obtain ⟨hey, h2⟩ := Ap ry
  obtain ⟨rfl, h⟩ := h
  cases mx with
  | true =>
   simp only [if_true] at h ho
   by_cases hlt : m < n
   ·rw [if_pos hlt] at h
    exact AL R (.int k n) _ (by simp [execOp, ho, resolve, invoke, builtin, Builtin.max_, Builtin.max2, hex, hey, hlt]) h (.one (.st (.int h2)))
   ·rw [if_neg hlt] at h
    exact AL R (.int k m) _ (by simp [execOp, ho, resolve, invoke, builtin, Builtin.max_, Builtin.max2, hex, hey, hlt]) h (.one (.st (.int h1)))
  | false =>
   simp only [Bool.false_eq_true, if_false] at h ho
   by_cases hlt : n < m
   ·rw [if_pos hlt] at h
    exact AL R (.int k n) _ (by simp [execOp, ho, resolve, invoke, builtin, Builtin.min_, Builtin.min2, hex, hey, hlt]) h (.one (.st (.int h2)))
   ·rw [if_neg hlt] at h
    exact AL R (.int k m) _ (by simp [execOp, ho, resolve, invoke, builtin, Builtin.min_, Builtin.min2, hex, hey, hlt]) h (.one (.st (.int h1)))
 ·exact h.elim
theorem MO {v : Value} {c : SV} (h : Ot v = some c) : Af σ v c := by
 unfold Ot at h
 split at h
 ·rename_i e
  cases h
  have := Di (σ := σ) (S := noS) (ι := noH) e
  exact Bo this
 ·rename_i e
  cases h
  have := Di (σ := σ) (S := noS) (ι := noH) e
  exact CA this
 ·cases h
theorem ET : ∀ {vs : List Value} {cs : List SV}, Ek vs = some cs → AU (Af σ) vs cs
 | [], cs, h => by simp only [Ek, Option.some.injEq] at h; subst h; exact .nil
 | v :: vs, cs, h => by
  simp only [Ek] at h
  split at h
  ·rename_i k1 k2
   cases h
   exact .cons (MO k1) (ET k2)
  ·cases h
theorem MU {z : Array Value} {zs : List SV} (hzs : Ek z.toList = some zs) (hpos : 0 < z.size) (n : Nat) : Ar σ (Builtin.zeroCells z n).toList z.size (List.replicate n zs) := by
 have rz := ET (σ := σ) hzs
 have hzl := rz.len
 simp only [Array.length_toList] at hzl
 refine ⟨fun x hx => by rw [(List.mem_replicate.1 hx).2]; exact hzl.symm, fun k x j y hx hy => ?_⟩
 obtain ⟨hk1, hk2⟩ := List.getElem?_eq_some_iff.1 hx
 simp only [List.length_replicate] at hk1
 rw [List.getElem_replicate] at hk2
 subst hk2
 have hj : j < z.size := by
  have := (List.getElem?_eq_some_iff.1 hy).1
  omega
 obtain ⟨v, v1, v2⟩ := rz.get hy
 refine ⟨v, ?_, v2⟩
 have hlt : k * z.size + j < n * z.size := by
  have : (k + 1) * z.size ≤ n * z.size := Nat.mul_le_mul_right _ hk1
  rw [Nat.add_mul] at this
  omega
 have em : (k * z.size + j) % z.size = j := by rw [Nat.mul_comm, Nat.mul_add_mod, Nat.mod_eq_of_lt hj]
 have hv : z[j]? = some v := by simpa using v1
 unfold Builtin.zeroCells
 simp only [Array.getElem?_toList, Array.getElem?_map, Array.getElem?_range, if_pos hlt, Option.map_some, em]
 simp only [Array.getElem!_eq_getD, Array.getD_eq_getD_getElem?, hv, Option.getD_some]
theorem OY {z : Array Value} {zs : List SV} (hzs : Ek z.toList = some zs) (hpos : 0 < z.size) (n : Nat) : ∀ u ∈ (Builtin.zeroCells z n).toList, u.oneCell' = true := fun u hu => by
 have rz := ET (σ := fun _ => none) hzs
 unfold Builtin.zeroCells at hu
 simp only [Array.toList_map, List.mem_map] at hu
 obtain ⟨q, _, rfl⟩ := hu
 have hq : q % z.size < z.size := Nat.mod_lt _ hpos
 rw [getElem!_pos z (q % z.size) hq]
 obtain ⟨c, _, hc⟩ := rz.get' (show z.toList[q % z.size]? = some z[q % z.size] by simp [hq])
 exact hc.one
theorem Lj {t e : TypeId} {i : TypeInfo} {z : Value} {zs : List SV} {x : Operand} {x' : Opd} {K : AV → AS → Prop} (ho : o.op = .call { callee := .builtin .clear, args := #[x], argTypes := #[t] }) (hx : AG C.n x = some x') (ht : P.underlying t = some (.slice e)) (hi : P.info? e = some i) (hz : i.zero = some z) (hzs : Ek z.cells.toList = some zs) (hsz : z.cells.size = i.size) (hpos : 0 < i.size)
  (R : AK C σ ι s a w) (h : Kd.go P d s K (.clearP e i.size zs x')) : Ao P C o a w K := by
 have rx := R.ev hx
 simp only [Kd.go] at h
 split at h
 ·rename_i id q m e1
  rw [e1] at rx
  replace rx := AN rx
  split at h
  ·rename_i e' w' xs hS
   obtain ⟨⟨hm, rfl, rfl⟩, hK⟩ := h
   obtain ⟨b, hb1, hb2, hb3⟩ := F0 rx
   rw [hS] at hb1
   cases hb1
   obtain ⟨hqm, hex⟩ := hb3 hm
   have hb := R.blk _ _ hS
   have hmm : m = xs.length := hm
   have hex2 : ∀ v w2, (Builtin.clear_ #[t] o.type #[a.eval x]).run P w = .ok v w2 → (execOp a.eval o).run P w = .ok (.value v) w2 := fun v w2 hr => by
    simp only [execOp, ho, resolve, invoke, builtin, Sem.run_bind, Sem.run_pure, Result.andThen_ok, List.map_toArray, List.map_cons, List.map_nil, hr]
   have hlen : (xs.take q ++ List.replicate (m - q) zs).length = xs.length := by simp; omega
   by_cases h0 : m - q = 0
   ·have hrun := hex2 (.tuple #[]) w (by
     rw [hex, h0]
     generalize (if (ι id).cap = q then (ι id).p else Option.map (fun x => x.add (q * (AJ.mrow e' i.size xs).wid)) (ι id).p) = pp
     cases pp <;> simp [Builtin.clear_, run_underlying ht])
    have hq : q = xs.length := by omega
    have hsame : s.set id (.mrow e' i.size (xs.take q ++ List.replicate (m - q) zs)) = s := by
     rw [h0, List.replicate_zero, List.append_nil, List.take_of_length_le (by omega)]
     obtain ⟨env, S⟩ := s
     simp only [AS.set, AS.mk.injEq, true_and]
     funext k
     unfold AP
     split
     ·rename_i hk; subst hk; exact hS.symm
     ·rfl
    rw [hsame] at hK
    exact ⟨_, _, s, σ, ι, w, .inl hrun, hK, R, .tup (fun _ => undef) rfl (by simp) (by simp)⟩
   ·cases hb with
    | mnil k1 => simp at hmm; omega
    | @mrow _ _ _ g vs k1 k2 k3 k4 k5 k6 k7 k8 k9 =>
     have hcap : xs.length * i.size ≤ (ι id).cap * i.size := Nat.mul_le_mul_right _ k4
     have hqw : q * i.size + (m - q) * i.size = xs.length * i.size := by rw [← Nat.add_mul]; congr 1; omega
     have hzl : (Builtin.zeroCells z.cells (m - q)).toList.length = (m - q) * i.size := by rw [Array.length_toList, size_zeroCells, hsz]
     have hst := run_storeCells_at P g (q * i.size) e' (Builtin.zeroCells z.cells (m - q)).toList 0 vs w k3 (by rw [hzl]; omega) (OY hzs (by omega) _)
     rw [Nat.add_zero, hzl] at hst
     generalize hA : (vs.toList.take (q * i.size) ++ (Builtin.zeroCells z.cells (m - q)).toList ++ vs.toList.drop (q * i.size + (m - q) * i.size)).toArray = A at hst
     have hne : ¬ (ι id).cap = q := by omega
     have hrun := hex2 (.tuple #[]) (w.setRow g A) (by
      rw [hex, if_neg hne, k2]
      obtain ⟨n', hn'⟩ : ∃ n', m - q = n' + 1 := ⟨m - q - 1, by omega⟩
      simp only [Option.map_some, A8, Nat.zero_add, AJ.wid]
      rw [hn'] at hst ⊢
      simp [Builtin.clear_, run_underlying ht, zeroValue, typeInfo, hi, hz, hst])
     have hheap : (w.setRow g A).heap[g]? = some (.cells A e' (0, 0)) := setRow_heap w _ _ _ _ _ k3
     have hlaidAll : Ar σ vs.toList i.size xs := ⟨k7, fun kk x j y hx hy => by
      obtain ⟨v, v1, v2⟩ := k8 kk x j y hx hy
      exact ⟨v, by simpa using v1, v2⟩⟩
     have hl : Ar σ A.toList i.size (xs.take q ++ List.replicate (m - q) zs) := by
      have h2 := MU (σ := σ) hzs (by omega) (m - q)
      have htl : (vs.toList.take (q * i.size)).length = (xs.take q).length * i.size := by
       have e1 : (xs.take q).length = q := by rw [List.length_take]; omega
       have e2 : vs.toList.length = (ι id).cap * i.size := by rw [Array.length_toList, k6]
       rw [e1, List.length_take, e2]
       omega
      rw [hsz] at h2
      have h3 := ((EX hlaidAll q).append h2 htl).more (vs.toList.drop (q * i.size + (m - q) * i.size))
      rw [← hA]
      exact h3
     have hAs : A.size = (ι id).cap * i.size := by
      rw [← hA]
      simp only [List.size_toArray, List.length_append, List.length_take, List.length_drop, hzl, Array.length_toList, k6]
      omega
     obtain ⟨hu, R'⟩ := R.turn (w' := w.setRow g A) hS (.mrow e' i.size (xs.take q ++ List.replicate (m - q) zs)) (ι id) (σ' := σ) (fun _ _ h => h)
      (fun _ _ _ => rfl) (R.fit.row k9 fun k hk => setRow_other _ _ _ _ hk) (by simp only [AJ.len, hlen]; exact Nat.le_refl _) (fun _ => ⟨rfl, rfl⟩) (A_ _ _) (by simp) (fun k hk hne => setRow_other _ _ _ _ (fun e => hne (by rw [e]; exact k1))) (fun g h => .inl h)
      (fun hu => .mrow k1 k2 hheap (by rw [hlen]; exact k4) k5 hAs hl.1 (Bi hl fun j v hv => by simpa using hv) k9)
     exact ⟨_, _, _, _, _, _, .inl hrun, hK, R', .tup (fun _ => undef) rfl (by simp) (by simp)⟩
  ·exact h.elim
 ·exact h.elim
theorem My {t t' e : TypeId} {x y : Operand} {x' y' : Opd} {K : AV → AS → Prop} (ho : o.op = .call { callee := .builtin .copy, args := #[x, y], argTypes := #[t, t'] }) (hx : AG C.n x = some x') (hy : AG C.n y = some y') (ht : P.underlying t = some (.slice e)) (hi : (P.info? e).map (·.size) = some 1)
  (R : AK C σ ι s a w) (h : Kd.go P d s K (.copyP x' y')) : Ao P C o a w K := by
 have rx := R.ev hx
 have ry := R.ev hy
 simp only [Kd.go] at h
 split at h
 ·rename_i id q m id2 u m2 e1 e2
  rw [e1] at rx
  rw [e2] at ry
  replace rx := AN rx
  replace ry := AN ry
  split at h
  ·rename_i e' w' xs hS
   obtain ⟨⟨rfl, hm, hm2, rfl⟩, hK⟩ := h
   subst hm
   subst hm2
   obtain ⟨b, hb1, hb2, hb3⟩ := F0 rx
   rw [hS] at hb1
   cases hb1
   obtain ⟨hqm, hex⟩ := hb3 rfl
   obtain ⟨b, hb1, hb2', hb3'⟩ := F0 ry
   rw [hS] at hb1
   cases hb1
   obtain ⟨hum, hey⟩ := hb3' rfl
   have hb := R.blk _ _ hS
   have hex2 : ∀ v w2, (Builtin.copy_ #[t, t'] o.type #[a.eval x, a.eval y]).run P w = .ok v w2 → (execOp a.eval o).run P w = .ok (.value v) w2 := fun v w2 hr => by
    simp only [execOp, ho, resolve, invoke, builtin, Sem.run_bind, Sem.run_pure, Result.andThen_ok, List.map_toArray, List.map_cons, List.map_nil, hr]
   generalize hN : min (xs.length - u) (xs.length - q) = N at hK
   have hlen : (xs.take q ++ ((xs.drop u).take N ++ xs.drop (q + N))).length = xs.length := by simp; omega
   by_cases h0 : N = 0
   ·subst h0
    have hrun := hex2 (goInt 0) w (by
     rw [hex, hey]
     exact run_copy_none w t t' o.type e _ _ _ _ _ _ ht hi (by show min _ _ = 0; exact hN))
    have hsame : s.set id (.mrow e' 1 (xs.take q ++ ((xs.drop u).take 0 ++ xs.drop (q + 0)))) = s := by
     rw [List.take_zero, List.nil_append, Nat.add_zero, List.take_append_drop]
     obtain ⟨env, S⟩ := s
     simp only [AS.set, AS.mk.injEq, true_and]
     funext k
     unfold AP
     split
     ·rename_i hk; subst hk; exact hS.symm
     ·rfl
    rw [hsame] at hK
    exact ⟨_, _, s, σ, ι, w, .inl hrun, hK, R, .any⟩
   ·cases hb with
    | mnil k1 => simp at hN; omega
    | @mrow _ _ _ g vs k1 k2 k3 k4 k5 k6 k7 k8 k9 =>
     have hcq : ¬ (ι id).cap = q := by omega
     have hcu : ¬ (ι id).cap = u := by omega
     have hlaidAll : Ar σ vs.toList 1 xs := ⟨k7, fun kk x j y hx hy => by
      obtain ⟨v, v1, v2⟩ := k8 kk x j y hx hy
      exact ⟨v, by simpa using v1, v2⟩⟩
     have h1 : Ar σ (vs.toList.take (q * 1)) 1 (xs.take q) := EX hlaidAll q
     have h2 : Ar σ ((vs.toList.drop (u * 1)).take (N * 1)) 1 ((xs.drop u).take N) := EX (Fp hlaidAll u) N
     have h3 : Ar σ (vs.toList.drop ((q + N) * 1)) 1 (xs.drop (q + N)) := Fp hlaidAll (q + N)
     simp only [Nat.mul_one] at h1 h2 h3 k6
     have hcl : ((vs.toList.drop u).take N).length = N := by simp; omega
     have hone : ∀ v ∈ (vs.toList.drop u).take N, v.oneCell' = true := fun v hv => by
      obtain ⟨j, hj⟩ := List.getElem?_of_mem hv
      have hjN : j < N := by have := (List.getElem?_eq_some_iff.1 hj).1; omega
      have hxl : j < ((xs.drop u).take N).length := by simp; omega
      have hw1 := h2.1 _ (List.getElem_mem hxl)
      obtain ⟨v', v1, v2⟩ := h2.2 j _ 0 (((xs.drop u).take N)[j][0]'(by omega)) (List.getElem?_eq_getElem hxl) (List.getElem?_eq_getElem (by omega))
      rw [Nat.mul_one, Nat.add_zero, hj] at v1
      cases v1
      exact v2.one
     have hr := run_copy_row (P := P) w t t' o.type e g q (xs.length - q) ((ι id).cap - q) ⟨g, u, none⟩ (xs.length - u) ((ι id).cap - u) vs e' ((vs.toList.drop u).take N) ht hi k3 (by rw [hcl, ← hN]) (fun j v hv => by
      rw [A8]
      rw [List.getElem?_take] at hv
      split at hv
      ·rw [List.getElem?_drop] at hv
       rw [cell_of_row w g _ _ _ _ k3]
       simpa using hv
      ·cases hv) (by rw [hcl]; omega) hone
     rw [hcl] at hr
     generalize hA : (vs.toList.take q ++ (vs.toList.drop u).take N ++ vs.toList.drop (q + N)).toArray = A at hr
     have hrun := hex2 (goInt N) (w.setRow g A) (by
      rw [hex, hey, if_neg hcq, if_neg hcu, k2]
      simp only [Option.map_some, A8, Nat.zero_add, AJ.wid, Nat.mul_one]
      exact hr)
     have hheap : (w.setRow g A).heap[g]? = some (.cells A e' (0, 0)) := setRow_heap w _ _ _ _ _ k3
     have hl : Ar σ A.toList 1 (xs.take q ++ ((xs.drop u).take N ++ xs.drop (q + N))) := by
      rw [← hA, List.append_assoc]
      exact h1.append (h2.append h3 (by rw [hcl]; simp; omega)) (by simp; omega)
     have hAs : A.size = (ι id).cap * 1 := by
      rw [← hA]
      simp only [List.size_toArray, List.length_append, List.length_take, List.length_drop, Array.length_toList]
      omega
     obtain ⟨hu, R'⟩ := R.turn (w' := w.setRow g A) hS (.mrow e' 1 (xs.take q ++ ((xs.drop u).take N ++ xs.drop (q + N)))) (ι id) (σ' := σ) (fun _ _ h => h)
      (fun _ _ _ => rfl) (R.fit.row k9 fun k hk => setRow_other _ _ _ _ hk) (by simp only [AJ.len, hlen]; exact Nat.le_refl _) (fun _ => ⟨rfl, rfl⟩) (A_ _ _) (by simp) (fun k hk hne => setRow_other _ _ _ _ (fun e => hne (by rw [e]; exact k1))) (fun g h => .inl h)
      (fun hu => .mrow k1 k2 hheap (by rw [hlen]; exact k4) k5 hAs hl.1 (Bi hl fun j v hv => by simpa using hv) k9)
     exact ⟨_, _, _, _, _, _, .inl hrun, hK, R', .any⟩
  ·exact h.elim
 ·exact h.elim
theorem Hr {t e : TypeId} {i : TypeInfo} {z : Value} {zs : List SV} {x y : Operand} {x' y' : Opd} {K : AV → AS → Prop} (ho : o.op = .makeSlice t x y) (hx : AG C.n x = some x') (hy : AG C.n y = some y') (ht : P.underlying t = some (.slice e)) (hi : P.info? e = some i) (hz : i.zero = some z) (hzs : Ek z.cells.toList = some zs) (hsz : z.cells.size = i.size) (hpos : 0 < i.size)
  (R : AK C σ ι s a w) (h : Kd.go P d s K (.makeSlice e i.size i.bytes zs x' y')) : Ao P C o a w K := by
 have rx := R.ev hx
 have ry := R.ev hy
 simp only [Kd.go] at h
 split at h
 ·rename_i k m k' n e1 e2
  rw [e1] at rx
  rw [e2] at ry
  obtain ⟨hex, -⟩ := Ap rx
  obtain ⟨hey, -⟩ := Ap ry
  obtain ⟨rfl, h0, h63, hby, hid, hK⟩ := h
  obtain ⟨q, rfl⟩ : ∃ q : Nat, m = q := ⟨m.toNat, by omega⟩
  simp only [Int.toNat_natCast] at hK
  have hr := run_make (P := P) w t e i z ht hi hz k k' (q : Int) (q : Int) (by omega) (Int.le_refl _) (by rw [Int.mul_comm]; omega) h63
  simp only [Int.toNat_natCast] at hr
  have rz := ET (σ := σ) hzs
  have hzl := rz.len
  have hmax : q ≤ maxLen := by simp only [maxLen]; omega
  obtain ⟨hu, R'⟩ := R.fresh (w' := w.alloc (.cells (madeCells z.cells (q * i.size)) e)) hid (.mrow e i.size (List.replicate q zs)) ⟨some ⟨w.heap.size, 0, none⟩, q, some w.heap.size⟩ (Ext.refl _ _) (R.fit.alloc _) (Cq.alloc _ _) (by simp)
   (fun S' ι' hu => .mrow rfl rfl (heap_alloc_new w _) (by simp) hmax (by simp [madeCells]) (fun x hx => by rw [(List.mem_replicate.1 hx).2]; simp at hzl; omega) (fun kk x j y hx hy => by
    obtain ⟨hk1, hk2⟩ := List.getElem?_eq_some_iff.1 hx
    simp only [List.length_replicate] at hk1
    rw [List.getElem_replicate] at hk2
    subst hk2
    have hj : j < i.size := by
     have := (List.getElem?_eq_some_iff.1 hy).1
     simp at hzl
     omega
    obtain ⟨v, v1, v2⟩ := rz.get hy
    refine ⟨v, ?_, v2⟩
    have hlt : kk * i.size + j < q * i.size := by
     have : (kk + 1) * i.size ≤ q * i.size := Nat.mul_le_mul_right _ hk1
     rw [Nat.add_mul] at this
     omega
    have hjz : j < z.cells.size := by omega
    have em : (kk * i.size + j) % z.cells.size = j := by rw [hsz, Nat.mul_comm, Nat.mul_add_mod, Nat.mod_eq_of_lt hj]
    have hv : z.cells[j]? = some v := by simpa using v1
    unfold madeCells
    rw [Array.getElem?_map, Array.getElem?_range, if_pos hlt, Option.map_some, em]
    simp only [Array.getElem!_eq_getD, Array.getD_eq_getD_getElem?, hv, Option.getD_some]) (fun p hp => R.fit.no (by omega)))
  exact ⟨_, _, _, σ, _, _, .inl (by simp only [execOp, ho, hex, hey, Sem.run_bind, hr, Result.andThen_ok]; rfl), hK, R', .one (.row (b := .mrow e i.size (List.replicate q zs)) (by simp [AS.set, AF]) (by simp [AJ.len]) rfl fun _ => by simp [AF])⟩
 ·exact h.elim
theorem Hd (R : AK C σ ι s a w) : ∀ {xs : List Operand} {xs' : List Opd} {cs : List AC}, BG C.n xs = some xs' → s.caps xs' = some cs → AU (Ab σ s.S ι) (xs.map a.eval) cs
 | [], xs', cs, h1, h2 => by
  simp only [BG, Option.some.injEq] at h1
  subst h1
  simp only [AS.caps, Option.some.injEq] at h2
  subst h2
  exact .nil
 | x :: xs, xs', cs, h1, h2 => by
  simp only [BG] at h1
  split at h1
  ·rename_i k1 k2
   cases h1
   simp only [AS.caps] at h2
   split at h2
   ·rename_i e1 e2
    cases h2
    have rx := R.ev k1
    rw [e1] at rx
    exact .cons (AN rx) (Hd R k2 e2)
   ·cases h2
  ·cases h1
theorem Iv {t e el : TypeId} {it i1 j : TypeInfo} {z : Value} {ps : Array (Nat × Operand)} {x y : Operand} {xs : List Opd} {K : AV → AS → Prop} (ho : o.op = .build t ps) (hps : ps.toList = [(0, x), (1, y)]) (A : Bl P t e el i1 j) (hit : P.info? t = some it) (hz : it.zero = some z) (hzs : z.cells.size = 2) (hx : BG C.n [x, y] = some xs) (R : AK C σ ι s a w) (h : Kd.go P d s K (.buildArr xs)) : Ao P C o a w K := by
 simp only [Kd.go] at h
 split at h
 ·rename_i cs e1
  have rc := Hd R hx e1
  have hps' : ps = #[(0, x), (1, y)] := by rw [← hps]
  subst hps'
  match cs, rc with
  | [c1, c2], .cons r1 (.cons r2 .nil) =>
  have k1 := Dj r1.one
  have k2 := Dj r2.one
  obtain ⟨u, v, hzc⟩ : ∃ u v, z.cells = #[u, v] := by
   have h3 : z.cells.toList.length = 2 := by simpa using hzs
   match hl : z.cells.toList, h3 with
   | [u, v], _ => exact ⟨u, v, by rw [← hl]⟩
  refine AL R (.agg #[a.eval x, a.eval y]) _ ?_ h (.agg (.cons r1 (.cons r2 .nil)))
  simp [execOp, ho, Instr.build, zeroValue, typeInfo, hit, hz, run_underlying A.arr, sizeOf, A.info, A.size, Instr.fill, k1, k2, hzc, Result.andThen]
 ·exact h.elim
theorem Iz {g : FuncId} {first caps : Array Operand} {xs : List Opd} {K : AV → AS → Prop} (ho : o.op = .makeFunc (.func g) first caps) (hf : first.size = 0) (hx : BG C.n caps.toList = some xs) (R : AK C σ ι s a w) (h : Kd.go P d s K (.makeFunc g xs)) : Ao P C o a w K := by
 simp only [Kd.go] at h
 split at h
 ·rename_i cs e1
  have rc := Hd R hx e1
  have e0 : first = #[] := Array.eq_empty_of_size_eq_zero hf
  subst e0
  have hl := rc.len
  refine AL R (.func (.func g) #[] (caps.map a.eval)) _ (by simp [execOp, ho, Instr.makeFunc]) h (.one (.fn (fun j => ((caps.toList.map a.eval)[j]?).getD undef) (by simpa using hl) (fun j b hb => ?_) (fun j b hb => ?_)))
  ·obtain ⟨v, v1, v2⟩ := rc.get hb
   rw [v1]
   simpa using v1
  ·obtain ⟨v, v1, v2⟩ := rc.get hb
   rw [v1]
   exact v2
 ·exact h.elim
theorem Dd {f : FuncId} {vs : List Value} {avs : List AV} {r : AV} {S' : AA} {next : Act → World → Prop} {Q : Exit → Act → World → Prop} (R : AK C σ ι s a w) (hrun : (execOp a.eval o).run P w = .ok (.enter f vs.toArray) w) (hvs : AU (AO σ s.S ι) vs avs)
  (h : BE P f (AV.rens up1 avs) (upS s.S) r S') (hn : ∀ a' w', Ax C ((⟨s.env, dnS S'⟩ : AS).put o.dst (r.ren dn1)) a' w' → next a' w') : o.wp P a w next Q := by
 have hup : ∀ i, dn1 (up1 i) = i := G6
 have hS : ∀ i b, s.S i = some b → upS s.S (up1 i) = some (b.ren up1) := fun i b hb => Kc hb
 obtain ⟨ι1, hι1⟩ : ∃ ι1 : Ah, ∀ i, ι1 i = ι (dn1 i) := ⟨fun i => ι (dn1 i), fun _ => rfl⟩
 have hι : ∀ i b, s.S i = some b → ι1 (up1 i) = ι i := fun i b _ => by rw [hι1, hup]
 have hown : D9 σ (upS s.S) ι1 w := by
  refine ⟨fun id b hb => ?_, fun id id' b b' g h1 h2 g1 g2 => ?_⟩
  ·obtain ⟨hle, b', h1, rfl⟩ := C6 hb
   have := BN.ren (S2 := upS s.S) (ι2 := ι1) (ρ := up1) hS hι (R.blk _ _ h1)
   rw [hι1]
   exact this
  ·obtain ⟨l1, c1, k1, _⟩ := C6 h1
   obtain ⟨l2, c2, k2, _⟩ := C6 h2
   rw [hι1] at g1 g2
   have := R.inj _ _ _ _ g k1 k2 g1 g2
   rw [← HR l1, ← HR l2, this]
 have hargs : AU (AO σ (upS s.S) ι1) vs (AV.rens up1 avs) := by
  rw [AV.rens_eq]
  exact (hvs.mono fun _ _ x => AO.ren (S2 := upS s.S) (ι2 := ι1) (ρ := up1) hS hι x).map_right
 unfold Oper.wp
 rw [hrun, Oper.upon_enter]
 refine (h (IZ _) σ w vs _ (C.glob.mono R.ext) R.fit hown hargs).mono fun e w' he => ?_
 obtain ⟨v, σ', ι', rfl, hclean, hupd, hown', hv, hf', hkeep, hold, hos, hsz, hsame, hbase⟩ := he
 have hSd : ∀ i b, S' i = some b → dnS S' (dn1 i) = some (b.ren dn1) := fun i b hb => G0 (hclean i b hb).1 hb
 obtain ⟨ι2, hι2⟩ : ∃ ι2 : Ah, ∀ i, ι2 i = ι' (up1 i) := ⟨fun i => ι' (up1 i), fun _ => rfl⟩
 have hιd : ∀ i b, S' i = some b → ι2 (dn1 i) = ι' i := fun i b hb => by
  rw [hι2, HR (hclean i b hb).1]
 have hu : Upd s.S ι (dnS S') ι2 := fun id b hb => by
  obtain ⟨b', h1, h2, h3⟩ := hupd _ _ (hS id b hb)
  have h4 := hSd _ _ h1
  rw [hup] at h4
  refine ⟨_, h4, by rw [BF] at h2 ⊢; exact h2, fun hl => ?_⟩
  rw [BF] at hl
  obtain ⟨q1, q2⟩ := h3 (by rw [BF]; exact hl)
  refine ⟨by rw [Gd] at q1 ⊢; exact q1, ?_⟩
  rw [hι2, q2, hι1, hup]
 have hnot : ∀ g, g < C.N → ¬ C.G g → B6 (upS s.S) ι1 g := fun g h1 h2 id b hb hg => by
  obtain ⟨_, b', k1, _⟩ := C6 hb
  rw [hι1] at hg
  rcases R.base _ _ g k1 hg with h | h
  ·omega
  ·exact h2 h
 have R' : AK C σ' ι2 ⟨s.env, dnS S'⟩ a w' := by
  refine ⟨R.size, fun i hi => (R.env i hi).mono hkeep hu, R.nod.mono (fun D h => (hsame D (Array.getElem?_eq_some_iff.1 h).1 (Do hown.1 h)).trans h), hf', fun id b hb => ?_, fun id id' b b' g h1 h2 g1 g2 => ?_, fun id b g hb hg => ?_, fun p x hx => hkeep _ _ (R.ext p x hx), fun p h1 h2 => ?_, ⟨hos.1.trans R.os.1, hos.2.1.trans R.os.2.1, hos.2.2.trans R.os.2.2⟩, ⟨Nat.le_trans R.grown.1 hsz, Nat.le_trans R.grown.2 hsz⟩, fun g h1 h2 => ?_, R.upd.trans hu⟩
  ·obtain ⟨b', h1, rfl⟩ := DA hb
   have := BN.ren (S2 := dnS S') (ι2 := ι2) (ρ := dn1) hSd hιd (hown'.1 _ _ h1)
   rw [hι2]
   exact this
  ·obtain ⟨c1, k1, _⟩ := DA h1
   obtain ⟨c2, k2, _⟩ := DA h2
   rw [hι2] at g1 g2
   have := congrArg dn1 (hown'.2 _ _ _ _ g k1 k2 g1 g2)
   rw [hup, hup] at this
   exact this
  ·obtain ⟨b', h1, _⟩ := DA hb
   rw [hι2] at hg
   rcases hbase _ _ g h1 hg with h2 | h2
   ·exact .inl (by have := R.grown.1; omega)
   ·by_cases hN : g < C.N
    ·by_cases hG : C.G g
     ·exact .inr hG
     ·exact absurd (hnot g hN hG) h2
    ·exact .inl (by omega)
  ·exact (hold p (by have := R.grown.1; omega) (hnot _ h1 h2)).trans (R.old p h1 h2)
  ·exact (hsame g (by have := R.grown.1; omega) (hnot g h1 h2)).trans (R.same g h1 h2)
 exact hn _ _ ⟨σ', _, R'.put (AO.ren (S2 := dnS S') (ι2 := ι2) (ρ := dn1) hSd hιd hv)⟩
theorem MW {f : FuncId} {xs : Array Operand} {ts : Array TypeId} {xs' : List Opd} {d : Nat} {K : AV → AS → Prop} {next : Act → World → Prop} {Q : Exit → Act → World → Prop} (ho : o.op = .call { callee := .value (.func f), args := xs, argTypes := ts }) (hf : Bp P f = true) (hx : BG C.n xs.toList = some xs')
  (R : AK C σ ι s a w) (h : Kd.go P d s K (.callN f xs')) (hn : ∀ av s' a' w', K av s' → Ax C (s'.put o.dst av) a' w' → next a' w') : o.wp P a w next Q := by
 simp only [Kd.go] at h
 split at h
 ·rename_i vs e1
  obtain ⟨mu, e, wd, ys, hc, hd, hK⟩ := h
  have rxs := R.evs hx
  have hrun : (execOp a.eval o).run P w = .ok (.enter f (xs.map a.eval)) w := by
   unfold Bp at hf
   split at hf
   ·rename_i fn hfn
    simp only [Bool.and_eq_true, Bool.not_eq_true', beq_eq_false_iff_ne, Option.isSome_iff_exists] at hf
    obtain ⟨hname, c, hbody⟩ := hf
    simp [execOp, ho, resolve, Deferred.ofValue, Act.eval, invoke, callFunc, hfn, hname, hbody]
   ·cases hf
  have hvs : AU (AO σ noS noH) (xs.map a.eval).toList vs := by
   have := rxs
   rw [← Array.toList_map] at this
   have hlen := this.len
   obtain ⟨q1, q2⟩ := AK.outVs R (cs := s.evs xs') (cs' := vs) (c := fun j => ((xs.map a.eval).toList[j]?).getD undef) (fun j b hb => by
    obtain ⟨v, v1, v2⟩ := this.get hb
    rw [v1]
    exact v2) e1
   refine AU.of_get (by omega) fun j v b hv hb => ?_
   have := q2 j b hb
   rw [hv] at this
   exact this
  unfold Oper.wp
  rw [hrun, Oper.upon_enter]
  have hno : ∀ g, B6 noS noH g := fun g id b hb => by cases hb
  have hcl : Ay noS := fun i b hb => by cases hb
  have how : D9 σ noS noH w := ⟨fun id b hb => (by cases hb), fun id id' b b' g hb => (by cases hb)⟩
  have hcall := hc hcl σ w _ noH (C.glob.mono R.ext) R.fit how hvs
  rw [Array.toArray_toList] at hcall
  refine hcall.mono fun ex w' he => ?_
  obtain ⟨v, σ', ι', rfl, hclean, hupd, hown', hv, hf', hkeep, hold, hos, hsz, hsame, hbase⟩ := he
  have hblk := hown'.1 1000 (JV mu e wd ys) (by simp)
  obtain ⟨hu, R'⟩ := R.fresh (w' := w') hd (JV mu e wd ys) (ι' 1000) (σ' := σ') ⟨hkeep, fun p hp => hold p hp (hno _)⟩ hf' ⟨hos.1, hos.2.1, hos.2.2, hsz, fun g hg => hsame g hg (hno _)⟩ (fun g hg => by
   rcases hbase 1000 (JV mu e wd ys) g (by simp) hg with h1 | h1
   ·exact h1
   ·exact absurd (hno g) h1) (fun S2 ι2 _ => by
   cases mu with
   | false =>
    cases hblk with
    | afull h1 h2 h3 h4 => exact .afull h1 h2 h3 h4
    | arow h1 h2 h3 h4 h5 h6 h7 h8 h9 hh => exact .arow h1 h2 h3 h4 h5 h6 h7 h8 h9 hh
   | true =>
    cases hblk with
    | mnil h1 h2 => exact .mnil h1 h2
    | mrow h1 h2 h3 h4 h5 h6 h7 h8 h9 => exact .mrow h1 h2 h3 h4 h5 h6 h7 h8 h9)
  refine hn _ _ _ _ hK ⟨σ', _, R'.put ?_⟩
  cases hv with
  | one hv =>
   cases hv with
   | row k1 k2 k3 k4 =>
    simp only [if_true, Option.some.injEq] at k1
    subst k1
    exact .one (.row (b := JV mu e wd ys) (by simp [AS.set, AF]) (by cases mu <;> exact Nat.le_refl _) k3 (fun hl => by rw [AF]; exact k4 hl))
 ·exact h.elim
theorem Co {f : FuncId} {args : Array Value} (hf : Bp P f = true) : (callFunc f args).run P w = .ok (.enter f args) w := by
 unfold Bp at hf
 split at hf
 ·rename_i fn hfn
  simp only [Bool.and_eq_true, Bool.not_eq_true', beq_eq_false_iff_ne, Option.isSome_iff_exists] at hf
  obtain ⟨hname, c, hbody⟩ := hf
  simp [callFunc, hfn, hname, hbody]
 ·cases hf
theorem IB {f : FuncId} {xs : Array Operand} {ts : Array TypeId} {xs' : List Opd} {K : AV → AS → Prop} {next : Act → World → Prop} {Q : Exit → Act → World → Prop} (ho : o.op = .call { callee := .value (.func f), args := xs, argTypes := ts }) (hf : Bp P f = true) (hx : BG C.n xs.toList = some xs')
  (R : AK C σ ι s a w) (h : Kd.go P d s K (.callS f xs')) (hn : ∀ av s' a' w', K av s' → Ax C (s'.put o.dst av) a' w' → next a' w') : o.wp P a w next Q := by
 simp only [Kd.go] at h
 obtain ⟨r, S', hc, hK⟩ := h
 refine Dd (vs := xs.toList.map a.eval) R ?_ (R.evs hx) hc fun a' w' hH => hn _ _ _ _ hK hH
 have := Co (P := P) (w := w) (args := xs.map a.eval) hf
 have e : (xs.toList.map a.eval).toArray = xs.map a.eval := by rw [← Array.toList_map, Array.toArray_toList]
 rw [e]
 simp [execOp, ho, resolve, Deferred.ofValue, Act.eval, invoke, this]
theorem NH {f : FuncId} {xs : Array Operand} {ts : Array TypeId} {xs' : List Opd} {K : AV → AS → Prop} {next : Act → World → Prop} {Q : Exit → Act → World → Prop} (ho : o.op = .call { callee := .value (.func f), args := xs, argTypes := ts }) (hf : Bp P f = true) (hx : BG C.n xs.toList = some xs')
  (R : AK C σ ι s a w) (h : Kd.go P d s K (.callR f xs')) (hn : ∀ av s' a' w', K av s' → Ax C (s'.put o.dst av) a' w' → next a' w') : o.wp P a w next Q := by
 simp only [Kd.go] at h
 obtain ⟨r, rows, h0, hc, hK⟩ := h
 refine Dd (vs := xs.toList.map a.eval) R ?_ (R.evs hx) (hc s.S h0) fun a' w' hH => hn _ s _ _ hK (by rw [La] at hH; exact hH)
 have := Co (P := P) (w := w) (args := xs.map a.eval) hf
 have e : (xs.toList.map a.eval).toArray = xs.map a.eval := by rw [← Array.toList_map, Array.toArray_toList]
 rw [e]
 simp [execOp, ho, resolve, Deferred.ofValue, Act.eval, invoke, this]
theorem Mn {f : FuncId} {xs : Array Operand} {ts : Array TypeId} {xs' : List Opd} {K : AV → AS → Prop} {next : Act → World → Prop} {Q : Exit → Act → World → Prop} (ho : o.op = .call { callee := .value (.func f), args := xs, argTypes := ts }) (hf : Bp P f = true) (hx : BG C.n xs.toList = some xs')
  (R : AK C σ ι s a w) (h : Kd.go P d s K (.callW f xs')) (hn : ∀ av s' a' w', K av s' → Ax C (s'.put o.dst av) a' w' → next a' w') : o.wp P a w next Q := by
 simp only [Kd.go] at h
 obtain ⟨r, rows, h0, hc, hK⟩ := h
 refine Dd (vs := xs.toList.map a.eval) R ?_ (R.evs hx) (hc s.S h0) fun a' w' hH => hn _ _ _ _ hK (by rw [La] at hH; exact hH)
 have := Co (P := P) (w := w) (args := xs.map a.eval) hf
 have e : (xs.toList.map a.eval).toArray = xs.map a.eval := by rw [← Array.toList_map, Array.toArray_toList]
 rw [e]
 simp [execOp, ho, resolve, Deferred.ofValue, Act.eval, invoke, this]
theorem Mi {f : FuncId} {xs : Array Operand} {ts : Array TypeId} {xs' : List Opd} {K : AV → AS → Prop} {next : Act → World → Prop} {Q : Exit → Act → World → Prop} (ho : o.op = .call { callee := .value (.func f), args := xs, argTypes := ts }) (hf : Bp P f = true) (hx : BG C.n xs.toList = some xs')
  (R : AK C σ ι s a w) (h : Kd.go P d s K (.callX f xs')) (hn : ∀ av s' a' w', K av s' → Ax C (s'.put o.dst av) a' w' → next a' w') : o.wp P a w next Q := by
 simp only [Kd.go] at h
 obtain ⟨T, Post, hT, hST, hh, hc, hK⟩ := h
 have hrun : (execOp a.eval o).run P w = .ok (.enter f (xs.map a.eval)) w := by
  have := Co (P := P) (w := w) (args := xs.map a.eval) hf
  simp [execOp, ho, resolve, Deferred.ofValue, Act.eval, invoke, this]
 unfold Oper.wp
 rw [hrun, Oper.upon_enter]
 have e : (xs.toList.map a.eval).toArray = xs.map a.eval := by rw [← Array.toList_map, Array.toArray_toList]
 rw [← e]
 refine (hc hT σ w _ ι (C.glob.mono R.ext) R.fit (R.ownT hST hT) (R.argsT hST hh (R.evs hx))).mono fun e w' he => ?_
 obtain ⟨v, r, S', σ', ι2, rfl, hP, hS', R', hv⟩ := R.join hST hT he
 exact hn _ _ _ _ (hK r S' hS' hP) ⟨σ', ι2, R'.put hv⟩
theorem MJ {t : Nat} {xs : Array Operand} {ts : Array TypeId} {f' : Opd} {xs' : List Opd} {K : AV → AS → Prop} {next : Act → World → Prop} {Q : Exit → Act → World → Prop} (ho : o.op = .call { callee := .value (.tmp t), args := xs, argTypes := ts }) (hf : AG C.n (.tmp t) = some f') (hx : BG C.n xs.toList = some xs')
  (R : AK C σ ι s a w) (h : Kd.go P d s K (.callY f' xs')) (hn : ∀ av s' a' w', K av s' → Ax C (s'.put o.dst av) a' w' → next a' w') : o.wpIn (fen C.ro) 0 P a w next Q := by
 have rf := R.ev hf
 simp only [Kd.go] at h
 obtain ⟨T, Post, hT, hST, hh, hc, hK⟩ := h
 rw [Bool.and_eq_true] at hh
 have e : (xs.toList.map a.eval).toArray = xs.map a.eval := by rw [← Array.toList_map, Array.toArray_toList]
 obtain ⟨l, hl, hy⟩ := hc hT σ w _ _ ι (C.glob.mono R.ext) R.fit (R.ownT hST hT) (rf.low (fun i b hi hb => by rw [← hST i hi]; exact hb) hh.1) (R.argsT hST hh.2 (R.evs hx))
 obtain ⟨fn, tmps, assign, body, hrun, hR⟩ := hy C.ro
 rw [e] at hrun
 refine ⟨fun _ _ => trivial, ?_⟩
 rw [Oper.semAt_eq _ _ _ (fun c e => by rw [e] at ho; cases ho)]
 have hev' : a.tmps.getD t undef = .func (.yield l) #[] #[] := hl
 have hrun' : (execOp a.eval o).run P w = .ok (.round l fn tmps assign body) w := by
  simp only [execOp, ho, resolve, Act.eval, hev', Deferred.ofValue, invoke, Sem.run_bind, Sem.run_pure, Result.andThen_ok]
  rw [show (#[] ++ Array.map a.eval xs) = xs.map a.eval by simp]
  exact hrun
 rw [hrun']
 refine ⟨fun h => by simp [fen, Fence.wide] at h, hR.mono fun e w' he => ?_⟩
 obtain ⟨v, r, S', σ', ι2, rfl, hP, hS', R', hv⟩ := R.join hST hT he
 exact hn _ _ _ _ (hK r S' hS' hP) ⟨σ', ι2, R'.put hv⟩
theorem Nr {S : AA} {v : Value} {av : AV} {g : Nat} {caps : List AC} (h : AO σ S ι v av) (e : av.fnOf = some (g, caps)) : ∃ vs, v = .func (.func g) #[] vs ∧ AU (AO σ S ι) vs.toList (caps.map .one) := by
 unfold AV.fnOf at e
 split at e
 ·cases e
  have rf := AN h
  cases rf with
  | @fn _ vs _ c h1 h2 h3 =>
   exact ⟨vs, rfl, (AU.of_get (R := fun v c => AO σ S ι v (.one c)) (by simpa using h1) fun j v b hv hb => by
    have e := h2 j b hb
    have e2 : vs.toList[j]? = some (c j) := by simpa using e
    rw [hv] at e2
    cases e2
    exact .one (h3 j b hb)).map_right⟩
 ·cases e
  have rf := AN h
  cases rf with
  | st hs =>
   obtain ⟨vs, rfl, hv⟩ := OC hs
   exact ⟨vs, rfl, ((hv S ι).mono fun _ _ x => AO.one x).map_right⟩
 ·split at e
  ·rename_i hab
   cases e
   have rf := AN h
   cases rf with
   | st hs =>
    cases hs
    rw [Array.eq_empty_of_size_eq_zero hab.1, Array.eq_empty_of_size_eq_zero hab.2]
    exact ⟨#[], rfl, .nil⟩
  ·cases e
 ·cases e
theorem Ms {t : Nat} {xs : Array Operand} {ts : Array TypeId} {f' : Opd} {xs' : List Opd} {K : AV → AS → Prop} {next : Act → World → Prop} {Q : Exit → Act → World → Prop} (ho : o.op = .call { callee := .value (.tmp t), args := xs, argTypes := ts }) (hf : AG C.n (.tmp t) = some f') (hx : BG C.n xs.toList = some xs')
  (R : AK C σ ι s a w) (h : Kd.go P d s K (.callV f' xs')) (hn : ∀ av s' a' w', K av s' → Ax C (s'.put o.dst av) a' w' → next a' w') : o.wp P a w next Q := by
 have rf := R.ev hf
 simp only [Kd.go] at h
 split at h
 ·rename_i g caps e1
  obtain ⟨hp, r, S', hc, hK⟩ := h
  obtain ⟨vs, hev, hcaps⟩ := Nr rf e1
  refine Dd (vs := xs.toList.map a.eval ++ vs.toList) R ?_ ((R.evs hx).append hcaps) hc fun a' w' hH => hn _ _ _ _ hK hH
  have := Co (P := P) (w := w) (args := xs.map a.eval ++ vs) hp
  have hev' : a.tmps.getD t undef = .func (.func g) #[] vs := hev
  simp only [execOp, ho, resolve, hev, Deferred.ofValue, invoke, Sem.run_bind, Sem.run_pure, Result.andThen_ok]
  rw [show (#[] ++ Array.map a.eval xs ++ vs) = xs.map a.eval ++ vs by simp, this]
  congr 1
  simp
 ·exact h.elim
theorem NR {mu : List Nat} {k : Kd} (htr : As P C.n mu o.dst o.op = some k) {K : AV → AS → Prop} {next : Act → World → Prop} {Q : Exit → Act → World → Prop} (R : AK C σ ι s a w) (h : Kd.go P d s K k) (hn : ∀ av s' a' w', K av s' → Ax C (s'.put o.dst av) a' w' → next a' w') : o.wp P a w next Q := by
 have fin : Ao P C o a w K → o.wp P a w next Q := fun hg => hg.wp fun av s' σ' ι' a' w' hk R' => hn _ _ _ _ hk ⟨σ', ι', R'⟩
 cases ho : o.op with
 | move x =>
  rw [ho] at htr
  simp only [As, Option.map_eq_some_iff] at htr
  obtain ⟨x', hx, rfl⟩ := htr
  exact fin (L7 (.inl ho) hx R h)
 | assign x =>
  rw [ho] at htr
  simp only [As, Option.map_eq_some_iff] at htr
  obtain ⟨x', hx, rfl⟩ := htr
  exact fin (L7 (.inr ho) hx R h)
 | pick c x y =>
  rw [ho] at htr
  simp only [As] at htr
  split at htr
  ·cases htr
   rename_i e1 e2 e3
   exact fin (Ni ho e1 e2 e3 R h)
  ·cases htr
 | alloc e =>
  rw [ho] at htr
  simp only [As] at htr
  split at htr
  ·rename_i i e1
   split at htr
   ·rename_i z e2
    rw [Option.map_eq_some_iff] at htr
    obtain ⟨cs, hcs, rfl⟩ := htr
    exact fin (MR ho e1 e2 hcs R h)
   ·cases htr
  ·cases htr
 | box e x =>
  rw [ho] at htr
  simp only [As, Option.map_eq_some_iff] at htr
  obtain ⟨x', hx, rfl⟩ := htr
  exact fin (O7 ho hx R h)
 | build t ps =>
  rw [ho] at htr
  simp only [As] at htr
  split at htr
  ·rename_i it fs e1 e2
   split at htr
   ·rename_i z places e3 e4
    split at htr
    ·rename_i ps' cs e5 e6
     cases htr
     exact fin (NG ho e1 e3 e2 e4 e5 e6 R h)
    ·cases htr
   ·cases htr
  ·cases htr
 | buildSlice t len ps =>
  rw [ho] at htr
  simp only [As] at htr
  split at htr
  ·rename_i e e1
   split at htr
   ·rename_i ie e2
    split at htr
    ·rename_i z xs e3 e4
     split at htr
     ·rename_i hc
      split at htr
      all_goals
       split at htr
       ·rename_i hp
        cases htr
        simp only [Bool.and_eq_true, beq_iff_eq] at hp
        have h' := PG (e := e) h
        rw [← hp.1.2] at h'
        exact fin (EK ho e1 e2 e3 hc.1 hc.2.1 hc.2.2 e4 R h')
       ·cases htr
        exact fin (EK ho e1 e2 e3 hc.1 hc.2.1 hc.2.2 e4 R h)
     ·cases htr
    ·cases htr
   ·cases htr
  ·cases htr
 | load t x =>
  rw [ho] at htr
  simp only [As] at htr
  split at htr
  ·rename_i g kk x' e1 e2
   cases htr
   obtain ⟨dd, i, q1, q2, q3, q4⟩ := E7 e1
   exact fin (Ok ho e2 q1 q2 g q3 kk q4 R h)
  ·cases htr
 | store t x v =>
  rw [ho] at htr
  simp only [As] at htr
  split at htr
  ·rename_i e1 e2 e3
   cases htr
   exact fin (Mt ho e2 e3 e1 R h)
  ·cases htr
 | fieldAddr t x f =>
  rw [ho] at htr
  simp only [As] at htr
  split at htr
  ·rename_i fs x' e1 e2
   split at htr
   ·rename_i fd e3
    split at htr
    ·rename_i i e4
     split at htr
     ·rename_i hz
      cases htr
      exact fin (H0 ho e2 e1 e3 e4 hz R h)
     ·cases htr
    ·cases htr
   ·cases htr
  ·cases htr
 | field t x f =>
  rw [ho] at htr
  simp only [As] at htr
  split at htr
  ·rename_i fs x' e1 e2
   split at htr
   ·rename_i fd e3
    split at htr
    ·rename_i g kk e4
     cases htr
     obtain ⟨dd, i, q1, q2, q3, q4⟩ := E7 e4
     exact fin (Mk ho e2 e1 e3 q1 q2 g q3 kk q4 R h)
    ·cases htr
   ·cases htr
  ·cases htr
 | indexAddr t x y =>
  rw [ho] at htr
  simp only [As] at htr
  split at htr
  ·rename_i e x' y' e1 e2 e3
   split at htr
   ·rename_i i e4
    split at htr
    ·cases htr
     exact fin (Lc ho e2 e3 e1 e4 R h)
    ·cases htr
     exact fin (Hx ho e2 e3 e1 e4 R h)
   ·cases htr
  ·rename_i len e x' y' e1 e2 e3
   split at htr
   ·rename_i i e4
    cases htr
    exact fin (I8 ho e2 e3 e1 e4 R h)
   ·cases htr
  ·cases htr
 | index t x y =>
  rw [ho] at htr
  simp only [As] at htr
  split at htr
  ·rename_i e1 e2 e3
   cases htr
   exact fin (JM ho e2 e3 e1 R h)
  ·cases htr
 | binOp op t x y t' =>
  rw [ho] at htr
  simp only [As] at htr
  split at htr
  ·rename_i x' y' e1 e2
   split at htr
   ·rename_i e3
    cases htr
    exact fin (Ls (neg := false) ho e1 e2 e3 R h)
   ·rename_i e3
    cases htr
    exact fin (Ls (neg := true) ho e1 e2 e3 R h)
   ·rename_i e3
    cases htr
    exact fin (MC (neg := false) ho e1 e3 R h)
   ·rename_i e3
    cases htr
    exact fin (MC (neg := true) ho e1 e3 R h)
   ·rename_i e3
    cases htr
    exact fin (L1 (neg := false) ho e1 e3 R h)
   ·rename_i e3
    cases htr
    exact fin (L1 (neg := true) ho e1 e3 R h)
   ·rename_i e3
    cases htr
    exact fin (MA (neg := false) ho e1 e3 R h)
   ·rename_i e3
    cases htr
    exact fin (MA (neg := true) ho e1 e3 R h)
   ·cases htr
    exact fin (Fk ho e1 e2 R h)
   ·cases htr
    exact fin (Fk ho e1 e2 R h)
   ·cases htr
    exact fin (Fk ho e1 e2 R h)
   ·split at htr
    ·cases htr
     exact fin (Fk ho e1 e2 R h)
    ·cases htr
     exact fin (MB ho e1 e2 R h)
   ·cases htr
    exact fin (MB ho e1 e2 R h)
  ·cases htr
 | unOp op t x =>
  rw [ho] at htr
  simp only [As, Option.map_eq_some_iff] at htr
  obtain ⟨x', hx, rfl⟩ := htr
  exact fin (PW ho hx R h)
 | convert src dst x =>
  rw [ho] at htr
  simp only [As] at htr
  split at htr
  ·rename_i e1 e2 e3
   cases htr
   exact fin (Np ho e3 (by rw [e1]; rfl) e2 R h)
  ·rename_i e1 e2 e3
   split at htr
   ·rename_i e4
    cases htr
    exact fin (NB ho e3 e1 e4 e2 R h)
   ·cases htr
  ·cases htr
 | slice t x lo hi mx =>
  rw [ho] at htr
  cases mx with
  | some m =>
   cases lo with
   | some _ => simp [As] at htr
   | none =>
   cases hi with
   | none => simp [As] at htr
   | some hi =>
   simp only [As] at htr
   split at htr
   ·rename_i e1 e2 e3 e4
    rw [Option.map_eq_some_iff] at htr
    obtain ⟨i, e5, rfl⟩ := htr
    exact fin (K5 ho e2 e3 e4 e1 e5 R h)
   ·cases htr
  | none =>
  simp only [As] at htr
  split at htr
  ·rename_i e1 e2 e3 e4
   cases htr
   exact fin (LI ho e2 e3 e4 e1 R h)
  ·rename_i e1 e2 e3 e4
   split at htr
   ·rename_i i e5
    split at htr
    ·split at htr
     ·cases htr
      exact fin (N8 ho e2 e3 e4 e1 e5 R h)
     ·cases htr
      exact fin (Mg ho e2 e3 e4 e1 e5 R h)
     ·cases htr
    ·cases htr
     exact fin (Lk ho e2 e3 e4 e1 e5 R h)
   ·cases htr
  ·cases htr
 | extract x i =>
  rw [ho] at htr
  simp only [As, Option.map_eq_some_iff] at htr
  obtain ⟨x', hx, rfl⟩ := htr
  exact fin (Kl ho hx R h)
 | nilCheck x =>
  rw [ho] at htr
  simp only [As, Option.map_eq_some_iff] at htr
  obtain ⟨x', hx, rfl⟩ := htr
  exact fin (Iy ho hx R h)
 | call c =>
  rw [ho] at htr
  obtain ⟨callee, args, argTypes⟩ := c
  simp only [As, OK] at htr
  split at htr
  ·split at htr
   ·rename_i x t e1 e2
    have e1' : args = #[x] := Array.ext' e1
    have e2' : argTypes = #[t] := Array.ext' e2
    subst e1' e2'
    split at htr
    ·rename_i e3 e4
     cases htr
     exact fin (L_ (str := true) ho e3 e4 R h)
    ·rename_i e3 e4
     cases htr
     exact fin (L_ (str := false) ho e3 ⟨_, e4⟩ R h)
    ·rename_i e3 e4
     cases htr
     exact fin (OZ ho e3 e4 R h)
    ·cases htr
   ·cases htr
  ·split at htr
   ·rename_i x y t t' e1 e2
    have e1' : args = #[x, y] := Array.ext' e1
    have e2' : argTypes = #[t, t'] := Array.ext' e2
    subst e1' e2'
    split at htr
    ·rename_i e e3 e4 e5
     split at htr
     ·rename_i i e6
      split at htr
      ·rename_i z e7
       split at htr
       ·rename_i hc
        obtain ⟨rfl, hz, hp⟩ := hc
        split at htr
        ·cases htr
         exact fin (Oh ho e3 e4 e5 e6 e7 hz hp R h)
        cases htr
        exact fin (K9 ho e3 e4 e5 e6 e7 hz hp R h)
       ·split at htr
        ·rename_i hc
         obtain ⟨hu, hz, hp, h8⟩ := hc
         cases htr
         exact fin (Nh ho e3 e4 e5 (K7 hu) e6 (by rw [e7, Ow h8]) hz hp R h)
        ·cases htr
      ·cases htr
     ·cases htr
    ·cases htr
   ·cases htr
  ·split at htr
   ·rename_i x t e1 e2
    have e1' : args = #[x] := Array.ext' e1
    have e2' : argTypes = #[t] := Array.ext' e2
    subst e1' e2'
    split at htr
    ·rename_i e e3 e4
     split at htr
     ·rename_i i e5
      split at htr
      ·rename_i z e6
       split at htr
       ·rename_i zs e7
        split at htr
        ·rename_i hc
         cases htr
         exact fin (Lj ho e3 e4 e5 e6 e7 hc.1 hc.2 R h)
        ·cases htr
       ·cases htr
      ·cases htr
     ·cases htr
    ·cases htr
   ·cases htr
  ·split at htr
   ·rename_i x y t t' e1 e2
    have e1' : args = #[x, y] := Array.ext' e1
    have e2' : argTypes = #[t, t'] := Array.ext' e2
    subst e1' e2'
    split at htr
    ·rename_i e e3 e4 e5
     split at htr
     ·rename_i hc
      cases htr
      exact fin (My ho e3 e4 e5 hc R h)
     ·cases htr
      exact False.elim h
    ·cases htr
     exact False.elim h
   ·cases htr
    exact False.elim h
  ·split at htr
   ·rename_i x y e1
    have e1' : args = #[x, y] := Array.ext' e1
    subst e1'
    split at htr
    ·rename_i e3 e4
     cases htr
     exact fin (OJ (mx := false) ho e3 e4 R h)
    ·cases htr
   ·cases htr
  ·split at htr
   ·rename_i x y e1
    have e1' : args = #[x, y] := Array.ext' e1
    subst e1'
    split at htr
    ·rename_i e3 e4
     cases htr
     exact fin (OJ (mx := true) ho e3 e4 R h)
    ·cases htr
   ·cases htr
  ·rename_i f
   split at htr
   ·rename_i hf
    rw [Option.map_eq_some_iff] at htr
    obtain ⟨xs', hx, htr⟩ := htr
    split at htr
    ·split at htr
     ·subst htr
      exact IB ho hf hx R h hn
     ·split at htr
      ·subst htr
       exact MW ho hf hx R h hn
      ·split at htr
       ·subst htr
        exact NH ho hf hx R h hn
       ·split at htr
        ·subst htr
         exact Mn ho hf hx R h hn
        ·split at htr
         ·subst htr
          exact Mi ho hf hx R h hn
         ·subst htr
          exact Om ho hf hx R h hn
    ·subst htr
     exact IB ho hf hx R h hn
   ·cases htr
  ·split at htr
   ·rename_i e3 e4
    split at htr
    ·cases htr
    ·cases htr
     exact Ms ho e3 e4 R h hn
   ·cases htr
  ·cases htr
 | makeSlice t x y =>
  rw [ho] at htr
  simp only [As] at htr
  split at htr
  ·rename_i e x' y' e1 e2 e3
   split at htr
   ·rename_i i e4
    split at htr
    ·rename_i z e5
     split at htr
     ·rename_i zs e6
      split at htr
      ·rename_i hc
       cases htr
       exact fin (Hr ho e2 e3 e1 e4 e5 e6 hc.1 hc.2 R h)
      ·cases htr
     ·cases htr
    ·cases htr
   ·cases htr
  ·cases htr
 | makeMap t rs =>
  rw [ho] at htr
  cases rs with
  | none =>
   simp only [As, Option.map_eq_some_iff] at htr
   obtain ⟨⟨e, kt⟩, hx, rfl⟩ := htr
   exact fin (KS ho R h)
  | some _ => simp [As] at htr
 | lookup t x k ok =>
  rw [ho] at htr
  simp only [As] at htr
  split at htr
  ·rename_i e kt x' k' e1 e2 e3
   rw [Option.map_eq_some_iff] at htr
   obtain ⟨z, hz, rfl⟩ := htr
   obtain ⟨kk, td, m1, m2, m3⟩ := ES e1
   obtain ⟨i, zz, z1, z2, z3⟩ := E6 hz
   exact fin (K6 ho e2 e3 m1 m2 m3 z1 z2 z3 R h)
  ·cases htr
 | mapUpdate t x k v =>
  rw [ho] at htr
  simp only [As] at htr
  split at htr
  ·rename_i e kt x' k' v' e1 e2 e3 e4
   cases htr
   obtain ⟨kk, td, m1, m2, m3⟩ := ES e1
   exact fin (Gt (.inl ho) e2 e3 e4 m1 m2 m3 R h)
  ·cases htr
 | insert t x k v =>
  rw [ho] at htr
  simp only [As] at htr
  split at htr
  ·rename_i e kt x' k' v' e1 e2 e3 e4
   cases htr
   obtain ⟨kk, td, m1, m2, m3⟩ := ES e1
   exact fin (Gt (.inr ho) e2 e3 e4 m1 m2 m3 R h)
  ·cases htr
 | mapEntry t x k =>
  rw [ho] at htr
  simp only [As] at htr
  split at htr
  ·rename_i e kt x' k' e1 e2 e3
   rw [Option.map_eq_some_iff] at htr
   obtain ⟨z, hz, rfl⟩ := htr
   obtain ⟨kk, td, m1, m2, m3⟩ := ES e1
   obtain ⟨i, zz, z1, z2, z3⟩ := E6 hz
   exact fin (JE ho e2 e3 m1 m2 m3 z1 z2 z3 R h)
  ·cases htr
 | entryStore t x k v =>
  rw [ho] at htr
  simp only [As] at htr
  split at htr
  ·rename_i x' k' v' e1 e2 e3
   cases htr
   exact fin (JZ ho e1 e2 e3 R h)
  ·cases htr
 | range t x =>
  rw [ho] at htr
  simp only [As] at htr
  split at htr
  ·rename_i x' e1 e2
   cases htr
   exact fin (Li ho e2 e1 R h)
  ·cases htr
 | next x b =>
  rw [ho] at htr
  cases b with
  | false =>
   simp only [As, Option.map_eq_some_iff] at htr
   obtain ⟨x', hx, rfl⟩ := htr
   exact fin (OW ho hx R h)
  | true => simp [As] at htr
 | entry x =>
  rw [ho] at htr
  simp only [As, Option.map_eq_some_iff] at htr
  obtain ⟨x', hx, rfl⟩ := htr
  exact fin (M7 ho hx R h)
 | makeInterface t x =>
  rw [ho] at htr
  simp only [As] at htr
  split at htr
  ·rename_i e1 e2
   cases htr
   exact fin (MQ ho e2 e1 R h)
  ·cases htr
 | makeFunc fn first caps =>
  rw [ho] at htr
  cases fn with
  | func g =>
   simp only [As] at htr
   split at htr
   ·rename_i hf
    rw [Option.map_eq_some_iff] at htr
    obtain ⟨xs, hx, rfl⟩ := htr
    exact fin (Iz ho hf hx R h)
   ·cases htr
  | _ => simp [As] at htr
 | _ => rw [ho] at htr; simp [As] at htr
theorem NM {k : Kd} (htr : Ix P C.n o.op = some k) {K : AV → AS → Prop} {next : Act → World → Prop} {Q : Exit → Act → World → Prop} (R : AK C σ ι s a w) (h : Kd.go P d s K k) (hn : ∀ av s' a' w', K av s' → Ax C (s'.put o.dst av) a' w' → next a' w') : o.wp P a w next Q := by
 have fin : Ao P C o a w K → o.wp P a w next Q := fun hg => hg.wp fun av s' σ' ι' a' w' hk R' => hn _ _ _ _ hk ⟨σ', ι', R'⟩
 unfold Ix at htr
 split at htr
 ·rename_i t ho
  split at htr
  ·rename_i kk e e1
   split at htr
   ·cases htr
    exact fin (I0 ho R h)
   ·cases htr
  ·cases htr
 ·rename_i t x kk ok ho
  split at htr
  ·rename_i key e x' k' e1 e2 e3
   split at htr
   ·rename_i hp
    rw [Option.map_eq_some_iff] at htr
    obtain ⟨z, hz, rfl⟩ := htr
    obtain ⟨ee, el, i, j, A⟩ := Dp hp
    obtain ⟨i2, zz, z1, z2, z3⟩ := E6 hz
    exact fin (Jz ho e2 e3 e1 A z1 z2 z3 R h)
   ·cases htr
  ·cases htr
 ·rename_i t x kk v ho
  split at htr
  ·rename_i key e x' k' v' e1 e2 e3 e4
   split at htr
   ·rename_i hp
    cases htr
    obtain ⟨ee, el, i, j, A⟩ := Dp hp
    exact fin (GP (.inl ho) e2 e3 e4 e1 A R h)
   ·cases htr
  ·cases htr
 ·rename_i t x kk v ho
  split at htr
  ·rename_i key e x' k' v' e1 e2 e3 e4
   split at htr
   ·rename_i hp
    cases htr
    obtain ⟨ee, el, i, j, A⟩ := Dp hp
    exact fin (GP (.inr ho) e2 e3 e4 e1 A R h)
   ·cases htr
  ·cases htr
 ·rename_i t ps ho
  split at htr
  ·rename_i x y it e1 e2
   split at htr
   ·rename_i z xs e3 e4
    split at htr
    ·rename_i hp
     cases htr
     obtain ⟨ee, el, i, j, A⟩ := Dp hp.1
     exact fin (Iv ho e1 A e2 e3 hp.2 e4 R h)
    ·cases htr
   ·cases htr
  ·cases htr
 ·cases htr
theorem Nl {mu : List Nat} {k : Kd} (htr : Po P C.n mu o.dst o.op = some k) {K : AV → AS → Prop} {next : Act → World → Prop} {Q : Exit → Act → World → Prop} (R : AK C σ ι s a w) (h : Kd.go P d s K k) (hn : ∀ av s' a' w', K av s' → Ax C (s'.put o.dst av) a' w' → next a' w') : o.wpIn (fen C.ro) 0 P a w next Q := by
 unfold Po at htr
 split at htr
 ·rename_i k' hk
  cases htr
  refine HC (fun c e => by rw [e] at hk; simp [As] at hk) (NR hk R (LQ h) fun av s' a' w' hK hH => ?_)
  rcases hK with hK | ⟨v', ho, hK⟩
  ·exact hn _ _ _ _ hK hH
  ·refine hn _ _ _ _ hK ?_
   obtain ⟨σ', ι', R'⟩ := hH
   cases hd : o.dst with
   | none => rw [hd] at R'; exact ⟨σ', ι', R'⟩
   | some t =>
    rw [hd] at R'
    refine ⟨σ', ι', { R' with env := fun i hi => ?_ }⟩
    have hR := R'.env i hi
    by_cases e : i = t
    ·subst e
     have e1 : (s'.put (some i) av).env i = av := AF _ _ _
     have e2 : (s'.put (some i) v').env i = v' := AF _ _ _
     rw [e1] at hR
     rw [e2]
     exact (R'.outV hR ho).mono (fun _ _ h => h) (FX _ _)
    ·have e1 : (s'.put (some t) av).env i = s'.env i := AZ _ e _
     have e2 : (s'.put (some t) v').env i = s'.env i := AZ _ e _
     rw [e1] at hR
     rw [e2]
     exact hR
 ·split at htr
  ·rename_i k' hk
   cases htr
   exact HC (fun c e => by rw [e] at hk; simp [Ix] at hk) (NM hk R h hn)
  ·split at htr
   ·rw [Option.map_eq_some_iff] at htr
    obtain ⟨x', hx, rfl⟩ := htr
    exact (show False from h).elim
   ·rename_i c ho
    split at htr
    ·rename_i t hcal
     split at htr
     ·rename_i f' xs e1 e2
      cases htr
      obtain ⟨cal, args, tys⟩ := c
      dsimp only at hcal
      subst hcal
      exact MJ ho e1 e2 R h hn
     ·cases htr
      exact (show False from h).elim
    ·cases htr
     exact (show False from h).elim
   ·cases htr
    exact (show False from h).elim
end

section
variable {P : Program} {C : Ctx} {a : Act} {w : World} {σ : Sto} {ι : Ah} {s : AS} {Q : Exit → Act → World → Prop}
theorem Ol {v : Value} (h : AO σ s.S ι v (.tup [])) : v = .tuple #[] := by
 cases h with
 | @tup vs _ c h1 =>
  have e : vs = #[] := Array.eq_empty_of_size_eq_zero (by simpa using h1)
  rw [e]
theorem Iq {mu : List Nat} {ops : Array Oper} {i : Nat} {o : Oper} {k k' : Ins} (hi : ops[i]? = some o) (htr : Jp P C.n mu ops.toList o = some k) (hk' : k'.dst = k.dst ∧ k'.guard = k.guard ∧ k'.kd = k.kd) {K : AS → Prop} {next : Act → World → Prop} (R : AK C σ ι s a w) (h : k'.go P s K) (hn : ∀ s' a' w', K s' → Ax C s' a' w' → next a' w') :
  wpOpIn (fen C.ro) 0 P ops Q i next a w := by
 unfold Jp at htr
 split at htr
 ·rename_i g kd e1 e2
  cases htr
  obtain ⟨dst', g', kd', tag'⟩ := k'
  obtain ⟨hk1, hk2, hk3⟩ := hk'
  dsimp only at hk1 hk2 hk3
  subst hk1 hk2 hk3
  unfold wpOpIn
  rw [hi]
  dsimp only
  have body : ∀ {K' : AV → AS → Prop}, kd'.goT P (o.dst.getD 0) s tag' K' → (∀ av s', K' av s' → K (s'.put o.dst av)) → o.wpIn (fen C.ro) 0 P a w next Q := fun hk hK' => Nl e2 R (PT hk) fun av s' a' w' hav hH => hn _ _ _ (hK' _ _ hav) hH
  unfold Ins.go at h
  dsimp only at h
  cases hg : o.guard with
  | none =>
   rw [hg] at e1
   simp only [JO, Option.some.injEq] at e1
   subst e1
   rw [if_pos (by simp [Region.wanted, hg])]
   exact body h fun _ _ hk => hk
  | some jw =>
   obtain ⟨j, want⟩ := jw
   rw [hg] at e1
   simp only [JO] at e1
   split at e1
   ·rename_i oj hoj
    split at e1
    ·rename_i t ht
     split at e1
     ·rename_i hlt
      cases e1
      dsimp only at h
      have hoj' : ops[j]? = some oj := by simpa using hoj
      have rt := R.env t hlt
      have hsz : t < a.tmps.size := Nat.lt_of_lt_of_le hlt R.size
      have hy : ∀ b, a.tmps.getD t undef = .bool b → yielded ops a.tmps j = some b := fun b hb => by
       unfold yielded
       rw [hoj']
       simp only [Option.bind_some, ht]
       rw [Array.getD_eq_getD_getElem?, Array.getElem?_eq_getElem hsz] at hb
       rw [Array.getElem?_eq_getElem hsz]
       simp only [Option.getD_some] at hb
       rw [hb]
      split at h
      ·rename_i b e3
       rw [e3] at rt
       have hb := hy b (B_ rt)
       by_cases hw : b = want
       ·rw [if_pos (by simp [Region.wanted, hg, hb, hw])]
        exact body (h.1 hw) fun _ _ hk => hk
       ·rw [if_neg (by simp [Region.wanted, hg, hb, hw])]
        exact ⟨fun _ _ => trivial, hn _ _ _ (h.2 hw) ⟨σ, ι, R.put (.tup (fun _ => undef) rfl (by simp) (by simp))⟩⟩
      ·rename_i e3
       rw [e3] at rt
       have hv := Ol rt
       have hb : yielded ops a.tmps j = none := by
        unfold yielded
        rw [hoj']
        simp only [Option.bind_some, ht]
        rw [Array.getD_eq_getD_getElem?, Array.getElem?_eq_getElem hsz] at hv
        rw [Array.getElem?_eq_getElem hsz]
        simp only [Option.getD_some] at hv
        rw [hv]
       rw [if_neg (by simp [Region.wanted, hg, hb])]
       exact ⟨fun _ _ => trivial, hn _ _ _ h ⟨σ, ι, R.put (.tup (fun _ => undef) rfl (by simp) (by simp))⟩⟩
      ·exact h.elim
     ·cases e1
    ·cases e1
   ·cases e1
 ·cases htr
theorem F_ {n : Nat} {mu : List Nat} {ops : List Oper} : ∀ {l : List Oper} {ks : List Ins}, Hg P n mu ops l = some ks → l.length = ks.length ∧ ∀ (i : Nat) (o : Oper), l[i]? = some o → ∃ k, ks[i]? = some k ∧ Jp P n mu ops o = some k
 | [], ks, h => by
  simp only [Hg, Option.some.injEq] at h
  subst h
  simp
 | o :: os, ks, h => by
  simp only [Hg] at h
  split at h
  ·rename_i k ks' e1 e2
   cases h
   obtain ⟨h1, h2⟩ := F_ e2
   refine ⟨by simp [h1], fun i o' ho' => ?_⟩
   cases i with
   | zero =>
    simp at ho'
    subst ho'
    exact ⟨k, rfl, e1⟩
   | succ i => simpa using h2 i o' (by simpa using ho')
  ·cases h
theorem Dy {α : Type} : ∀ l : List α, (List.range l.length).filterMap (fun i => l[i]?) = l
 | [] => rfl
 | x :: l => by
  rw [List.length_cons, List.range_succ_eq_map, List.filterMap_cons, List.filterMap_map]
  simp only [List.getElem?_cons_zero]
  congr 1
  have := Dy l
  exact this
theorem KI {mu : List Nat} {ops : Array Oper} {ks : List Ins} {id : Nat} (htr : Hg P C.n mu ops.toList ops.toList = some ks) {K : AS → Prop} (R : AK C σ ι s a w) (h : Run P ks s K) (hn : ∀ s' a' w', K s' → Ax C s' a' w' → Q .normal a' w') :
  (Code.region id ops false).wpIn (fen C.ro) 0 P Q a w := by
 obtain ⟨hl, hget⟩ := F_ htr
 refine wpIn_region ?_
 have key : ∀ (m k : Nat) (s : AS) (a : Act) (w : World), k + m = ops.size → Ax C s a w → Run P (ks.drop k) s K → wpOpsIn (fen C.ro) 0 P ops Q (List.range' k m) a w := by
  intro m
  induction m with
  | zero =>
   intro k s a w hk hH hr
   have : ks.drop k = [] := List.drop_of_length_le (by simp at hl; omega)
   rw [this] at hr
   exact hn _ _ _ hr hH
  | succ m ih =>
   intro k s a w hk hH hr
   have hlt : k < ops.toList.length := by simp; omega
   obtain ⟨kk, h1, h2⟩ := hget k _ (List.getElem?_eq_getElem hlt)
   have hd : ks.drop k = kk :: ks.drop (k + 1) := by
    have hk' := (List.getElem?_eq_some_iff.1 h1).1
    rw [List.drop_eq_getElem_cons hk']
    congr 1
    exact (List.getElem?_eq_some_iff.1 h1).2
   rw [hd, Jn] at hr
   obtain ⟨σ, ι, R⟩ := hH
   rw [List.range'_succ, wpOpsIn_cons]
   exact Iq (i := k) (by rw [← Array.getElem?_toList]; exact List.getElem?_eq_getElem hlt) h2 ⟨rfl, rfl, rfl⟩ R hr fun s' a' w' hK hH' => ih (k + 1) s' a' w' (by omega) hH' hK
 rw [List.range_eq_range']
 exact key ops.size 0 s a w (by omega) ⟨σ, ι, R⟩ (by simpa using h)
def E1 (ops : List Oper) : Nat → Nat → Nat → Bool
 | 0, _, _ => false
 | f + 1, j, i => match ops[i]? with
  | some o => o.after.any fun e => Region.binds .any e && (e.on == j || E1 ops f j e.on)
  | none => false
def I5 (ops : List Oper) (ks : List Ins) : Bool :=
 (List.range ops.length).all fun i =>
  (match ops[i]? with | some o => o.after.all (fun e => !Region.binds .any e || e.on < i) | none => true) &&
  (List.range i).all fun j => match ks[j]?, ks[i]? with
   | some x, some y => x.indep y || E1 ops ops.length j i
   | _, _ => true
theorem Hk {ops : Array Oper} {listed : Array Bool} (hdc : ∀ k o, ops[k]? = some o → listed.getD k true = true → k < ops.size → ∀ e ∈ o.after, Region.binds .any e = true → listed.getD e.on false = true) {i : Nat} :
  ∀ (f j i : Nat), (∀ o, ops[i]? = some o → ∀ e ∈ o.after, Region.binds .any e = true → listed.getD e.on false = true) → E1 ops.toList f j i = true → listed.getD j false = true := by
 intro f
 induction f with
 | zero => intro j i _ h; simp [E1] at h
 | succ f ih =>
  intro j i hi h
  simp only [E1] at h
  split at h
  ·rename_i o ho
   have ho' : ops[i]? = some o := by simpa using ho
   obtain ⟨k, hk, h2⟩ := Array.any_eq_true.1 h
   simp only [Bool.and_eq_true, Bool.or_eq_true, beq_iff_eq] at h2
   have hl := hi o ho' _ (Array.getElem_mem hk) h2.1
   rcases h2.2 with h3 | h3
   ·rw [← h3]; exact hl
   ·refine ih j _ (fun o2 ho2 e he hb => ?_) h3
    have hlt := (Array.getElem?_eq_some_iff.1 ho2).1
    refine hdc _ o2 ho2 ?_ hlt e he hb
    rcases Nat.lt_or_ge (o.after[k]).on listed.size with h' | h'
    ·simp [h'] at hl ⊢; exact hl
    ·simp [Array.getElem?_eq_none h']
  ·cases h
def Kw (ks ks' : List Ins) : Prop := ks.length = ks'.length ∧ ∀ (i : Nat) k, ks[i]? = some k → ∃ k' : Ins, ks'[i]? = some k' ∧ k'.dst = k.dst ∧ k'.guard = k.guard ∧ k'.kd = k.kd
def Lp (f : Nat → Tag) : Nat → List Ins → List Ins
 | _, [] => []
 | i, k :: ks => ⟨k.dst, k.guard, k.kd, f i⟩ :: Lp f (i + 1) ks
theorem KZ (f : Nat → Tag) : ∀ (n : Nat) (ks : List Ins), Kw ks (Lp f n ks)
 | _, [] => ⟨rfl, fun i k h => by simp at h⟩
 | n, k :: ks => by
  obtain ⟨h1, h2⟩ := KZ f (n + 1) ks
  refine ⟨by simp [Lp, h1], fun i k' hk' => ?_⟩
  cases i with
  | zero =>
   simp only [List.getElem?_cons_zero, Option.some.injEq] at hk'
   subst hk'
   exact ⟨_, rfl, rfl, rfl, rfl⟩
  | succ i => exact h2 i k' (by simpa using hk')
theorem Kw.refl (ks : List Ins) : Kw ks ks := ⟨rfl, fun i k h => ⟨k, h, rfl, rfl, rfl⟩⟩
theorem Hf {mu : List Nat} {ops : Array Oper} {ks0 ks : List Ins} {id : Nat} (hmix : P.follows .mixedOrders = true) (htr : Hg P C.n mu ops.toList ops.toList = some ks0) (hre : Kw ks0 ks) (hok : I5 ops.toList ks = true) {K : AS → Prop} (R : AK C σ ι s a w) (h : Run P ks s K) (hn : ∀ s' a' w', K s' → Ax C s' a' w' → Q .normal a' w') :
  (Code.region id ops true).wpIn (fen C.ro) 0 P Q a w := by
 obtain ⟨hl0, hget0⟩ := F_ htr
 have hl : ops.size = ks.length := by
  rw [← hre.1, ← hl0, Array.length_toList]
 have hget : ∀ (i : Nat) (o : Oper), ops.toList[i]? = some o → ∃ k', ks[i]? = some k' ∧ ∃ k, Jp P C.n mu ops.toList o = some k ∧ k'.dst = k.dst ∧ k'.guard = k.guard ∧ k'.kd = k.kd := fun i o ho => by
  obtain ⟨k, h1, h2⟩ := hget0 i o ho
  obtain ⟨k', q1, q2⟩ := hre.2 i k h1
  exact ⟨k', q1, k, h2, q2⟩
 refine wpIn_region_any hmix ?_
 have hchk : ∀ i, i < ops.size → (∀ o, ops[i]? = some o → ∀ e ∈ o.after, Region.binds .any e = true → e.on < i) ∧ ∀ j, j < i → ∀ x y, ks[j]? = some x → ks[i]? = some y → x.indep y = true ∨ E1 ops.toList ops.toList.length j i = true := fun i hi => by
  have h1 := List.all_eq_true.1 hok i (List.mem_range.2 (by simpa using hi))
  simp only [Bool.and_eq_true] at h1
  refine ⟨fun o ho e he hb => ?_, fun j hj x y hx hy => ?_⟩
  ·have h2 := h1.1
   rw [show ops.toList[i]? = some o by simpa using ho] at h2
   dsimp only at h2
   obtain ⟨k, hk, rfl⟩ := Array.getElem_of_mem he
   have h3 := (Array.all_eq_true.1 h2) k hk
   simpa [hb] using h3
  ·have h2 := List.all_eq_true.1 h1.2 j (List.mem_range.2 hj)
   rw [hx, hy] at h2
   simpa using h2
 have key : ∀ (f : Nat) (T : List Nat) (listed : Array Bool) (s : AS) (a : Act) (w : World), T.length ≤ f → listed.size = ops.size → T.Pairwise (· < ·) → (∀ i, i ∈ T ↔ i < ops.size ∧ listed.getD i true = false) →
   (∀ k o, ops[k]? = some o → listed.getD k true = true → k < ops.size → ∀ e ∈ o.after, Region.binds .any e = true → listed.getD e.on false = true) → Ax C s a w → Run P (T.filterMap fun i => ks[i]?) s K → wpAnyIn (fen C.ro) 0 P .any ops Q f listed a w := by
  intro f
  induction f with
  | zero =>
   intro T listed s a w hf hsz hs hT hdc hH hr
   have hT0 : T = [] := List.eq_nil_of_length_eq_zero (by omega)
   subst hT0
   refine ⟨?_, hn _ _ _ hr hH⟩
   rw [List.eq_nil_iff_forall_not_mem]
   intro i hi
   obtain ⟨q1, o, q2, q3⟩ := mem_ready.1 hi
   have := (hT i).2 ⟨(Array.getElem?_eq_some_iff.1 q2).1, q1⟩
   cases this
  | succ f ih =>
   intro T listed s a w hf hsz hs hT hdc hH hr
   refine ⟨fun hready => ?_, fun i hi => ?_⟩
   ·-- nothing may come up: nothing is left
    cases T with
    | nil => exact hn _ _ _ hr hH
    | cons i T =>
     exfalso
     obtain ⟨hi1, hi2⟩ := (hT i).1 (by simp)
     have : i ∈ Region.ready .any ops listed := by
      refine mem_ready.2 ⟨hi2, ops[i], Array.getElem?_eq_getElem hi1, fun e he hb => ?_⟩
      have hlt := (hchk i hi1).1 _ (Array.getElem?_eq_getElem hi1) e he hb
      cases hq : listed.getD e.on true with
      | true =>
       simp [show e.on < listed.size by omega] at hq ⊢
       exact hq
      | false =>
       have hmem := (hT e.on).2 ⟨by omega, hq⟩
       rcases List.mem_cons.1 hmem with h | h
       ·omega
       ·have := (List.pairwise_cons.1 hs).1 _ h
        omega
     rw [hready] at this
     cases this
   ·obtain ⟨q1, o, q2, q3⟩ := mem_ready.1 hi
    have hi1 := (Array.getElem?_eq_some_iff.1 q2).1
    have hmem := (hT i).2 ⟨hi1, q1⟩
    obtain ⟨pre, post, rfl⟩ := List.append_of_mem hmem
    obtain ⟨y, hy1, y0, hy2, hy3⟩ := hget i o (by simpa using q2)
    rw [List.filterMap_append, List.filterMap_cons, hy1] at hr
    dsimp only at hr
    have hpre : ∀ j ∈ pre, j < i := fun j hj => (List.pairwise_append.1 hs).2.2 j hj i (by simp)
    have hfront := Mc (P := P) (K := K) (pre := pre.filterMap fun i => ks[i]?) (y := y) (post := post.filterMap fun i => ks[i]?) (fun x hx => by
     obtain ⟨j, hj, hxj⟩ := List.mem_filterMap.1 hx
     have hji := hpre j hj
     rcases (hchk i hi1).2 j hji x y hxj hy1 with hind | hbe
     ·exact hind
     ·exfalso
      have h1 := Hk (ops := ops) (listed := listed) hdc (i := i) _ j i (fun o2 ho2 e he hb => by
       rw [q2] at ho2
       cases ho2
       exact q3 e he hb) hbe
      have h2 := ((hT j).1 (by simp [hj])).2
      have h3 := ((hT j).1 (by simp [hj])).1
      simp [show j < listed.size by omega] at h1 h2
      rw [h1] at h2
      cases h2) hr
    obtain ⟨σ, ι, R⟩ := hH
    refine Iq q2 hy2 hy3 R hfront fun s' a' w' hK hH' => ?_
    rw [← List.filterMap_append] at hK
    have hsub : (pre ++ post).Pairwise (· < ·) := by
     refine hs.sublist ?_
     exact List.Sublist.append (List.Sublist.refl pre) (List.sublist_cons_self i post)
    have hni : i ∉ pre ++ post := fun hm => by
     rcases List.mem_append.1 hm with hm | hm
     ·have := hpre i hm; omega
     ·have := (List.pairwise_cons.1 (List.pairwise_append.1 hs).2.1).1 i hm; omega
    refine ih (pre ++ post) (listed.setIfInBounds i true) s' a' w' (by simp at hf ⊢; omega) (by simpa using hsz) hsub (fun j => ?_) (fun k ok hok2 hlk hkk e he hb => ?_) hH' hK
    ·constructor
     ·intro hj
      have hji : i ≠ j := fun e => hni (e ▸ hj)
      have := (hT j).1 (by
       rcases List.mem_append.1 hj with h | h
       ·simp [h]
       ·simp [h])
      rw [getD_set_ne true hji]
      exact this
     ·rintro ⟨h1, h2⟩
      have hji : i ≠ j := fun e => by
       subst e
       simp [show i < listed.size by omega] at h2
      rw [getD_set_ne true hji] at h2
      have := (hT j).2 ⟨h1, h2⟩
      rcases List.mem_append.1 this with h | h
      ·exact List.mem_append.2 (.inl h)
      ·rcases List.mem_cons.1 h with h | h
       ·exact absurd h.symm hji
       ·exact List.mem_append.2 (.inr h)
    ·by_cases hki : i = k
     ·subst hki
      rw [q2] at hok2
      cases hok2
      exact getD_set_true (q3 e he hb)
     ·rw [getD_set_ne true hki] at hlk
      exact getD_set_true (hdc k ok hok2 hlk hkk e he hb)
 refine key ops.size (List.range ops.size) (Array.replicate ops.size false) s a _ (by simp) (by simp) List.pairwise_lt_range (fun i => ?_) (fun k o hk hlk hkk e he hb => ?_) ⟨σ, ι, R.drew⟩ ?_
 ·rw [List.mem_range]
  constructor
  ·intro hi; exact ⟨hi, by simp [hi]⟩
  ·exact fun h => h.1
 ·simp [hkk] at hlk
 ·have e : (List.range ops.size).filterMap (fun i => ks[i]?) = ks := by
   rw [hl]
   exact Dy ks
  rw [e]
  exact h
end

def JW (hints : List Nat) (ks : List Ins) : Nat → Nat → Nat
 | 0, t => t
 | f + 1, t => match hints.find? fun m => m / 10000 == 1000 + t with
  | some m => m % 10000
  | none => match ks.find? fun k => k.dst == some t with
   | some k => match k.kd with
    | .mov (.t u) => JW hints ks f u
    | .fieldAddr _ (.t u) => JW hints ks f u
    | .nilCheck (.t u) => JW hints ks f u
    | _ => t
   | none => t
def Mw (ops : List Oper) (ks : List Ins) : List (Nat × Nat) :=
 (List.range ops.length).flatMap fun i => (List.range i).filterMap fun j => match ks[j]?, ks[i]? with
  | some x, some y => if x.indep y || E1 ops ops.length j i then none else some (j, i)
  | _, _ => none
def I2 (hints : List Nat) (ks : List Ins) (i : Nat) : Option Nat := match ks[i]? with
 | some k => match k.kd.ptrOpd with
  | some (.t u) => some (JW hints ks ks.length u)
  | _ => none
 | none => none
def Pu (hints : List Nat) (ks : List Ins) (conf : List (Nat × Nat)) (i : Nat) : Tag :=
 if conf.any fun p => p.1 == i || p.2 == i then match ks[i]? with
  | some k => match k.kd with
   | .load _ _ _ | .store _ _ _ | .fieldAddr _ _ | .nilCheck _ => match I2 hints ks i with
    | some id => .onb id
    | none => .no
   | .callS _ _ | .callV _ _ | .callN _ _ | .append _ _ _ _ _ _ => .keeps (conf.filterMap fun p => if p.1 == i then I2 hints ks p.2 else if p.2 == i then I2 hints ks p.1 else none)
   | _ => .no
  | none => .no
 else .no
def Oa (mu : List Nat) (ops : List Oper) (ks : List Ins) : List Ins := Lp (Pu (mu.filter fun m => 10000000 ≤ m) ks (Mw ops ks)) 0 ks
def Av (P : Program) (n : Nat) (mu : List Nat) : Code → Option IR
 | .skip => some .skip
 | .region _ ops draw => match Hg P n mu ops.toList ops.toList with
  | some ks => if draw then if P.follows .mixedOrders && I5 ops.toList ks then some (.ops ks) else if P.follows .mixedOrders && I5 ops.toList (Oa mu ops.toList ks) then some (.ops (Oa mu ops.toList ks)) else none else some (.ops ks)
  | none => none
 | .seq x y => match Av P n mu x, Av P n mu y with
  | some x', some y' => some (.seq x' y')
  | _, _ => none
 | .cond c x y => match AG n c, Av P n mu x, Av P n mu y with
  | some c', some x', some y' => some (.cond c' x' y')
  | _, _, _ => none
 | .block id x => (Av P n mu x).map (.block id)
 | .loop x => (Av P n mu x).map .loop
 | .rangeFunc g ps x y => match AG n g, Av P n mu x, Av P n mu y with
  | some g', some x', some y' => if ps.toList.all (fun p => decide (p < n)) then some (.rangeF g' ps.toList x' y') else none
  | _, _, _ => none
 | .exit id => some (.exit id)
 | .ret => some .ret
 | _ => none
inductive AX where
 | normal
 | exit (id : Nat)
 | ret
 | pan (v : Value)
def Pz (C : Ctx) (Q : AX → AS → Prop) : Exit → Act → World → Prop
 | .normal, a, w => ∃ s, Q .normal s ∧ Ax C s a w
 | .exit id, a, w => ∃ s, Q (.exit id) s ∧ Ax C s a w
 | .ret, a, w => ∃ s, Q .ret s ∧ Ax C s a w
 | .panic ch, a, w => ∃ s v, (Q (.pan v) s ∧ ch = [{ v := v, recovered := false }]) ∧ Ax C s a w
 | _, _, _ => False
def IWP (P : Program) (C : Ctx) (mu : List Nat) (x : IR) (Q : AX → AS → Prop) (s : AS) : Prop :=
 ∀ c, Av P C.n mu c = some x → ∀ a w, Ax C s a w → c.wpIn (fen C.ro) 0 P (Pz C Q) a w
def Al (C : Ctx) (s s' : AS) : Prop := ∀ a w, Ax C s a w → Ax C s' a w
def AX.then (K : AS → Prop) (Q : AX → AS → Prop) : AX → AS → Prop
 | .normal, s => K s
 | e, s => Q e s
def AX.inBlock (id : Nat) (Q : AX → AS → Prop) : AX → AS → Prop
 | .exit id', s => if id' = id then Q .normal s else Q (.exit id') s
 | e, s => Q e s
section
variable {P : Program} {C : Ctx} {mu : List Nat} {Q Q' : AX → AS → Prop} {s s' : AS} {x y : IR}
theorem IWP.mono (h : IWP P C mu x Q s) (hq : ∀ e s, Q e s → Q' e s) : IWP P C mu x Q' s := fun c hc a w hH => wpIn_mono (h c hc a w hH) fun e a' w' he => by
 cases e <;> first | exact he | (obtain ⟨s1, v, h1, h2⟩ := he; exact ⟨s1, v, ⟨hq _ _ h1.1, h1.2⟩, h2⟩) | (obtain ⟨s1, h1, h2⟩ := he; exact ⟨s1, hq _ _ h1, h2⟩)
theorem IWP.ghost (hg : Al C s s') (h : IWP P C mu x Q s') : IWP P C mu x Q s := fun c hc a w hH => h c hc a w (hg a w hH)
theorem Al.refl (C : Ctx) (s : AS) : Al C s s := fun _ _ h => h
theorem Al.trans {s1 s2 s3 : AS} (h : Al C s1 s2) (k : Al C s2 s3) : Al C s1 s3 := fun a w hH => k a w (h a w hH)
theorem IWP.skip (h : Q .normal s) : IWP P C mu .skip Q s := fun c hc a w hH => by
 cases c <;> simp only [Av] at hc <;> first | exact wpIn_skip ⟨s, h, hH⟩ | (exfalso; revert hc; (repeat' split) <;> simp)
theorem IWP.ops {l : List Ins} (h : Run P l s (Q .normal)) : IWP P C mu (.ops l) Q s := fun c hc a w hH => by
 cases c <;> simp only [Av] at hc
 case region id ops draw =>
  split at hc
  ·rename_i ks e1
   obtain ⟨σ, ι, R⟩ := hH
   cases draw with
   | true =>
    simp only [if_true] at hc
    split at hc
    ·rename_i h1
     cases hc
     simp only [Bool.and_eq_true] at h1
     exact Hf h1.1 e1 (Kw.refl _) h1.2 R h fun s' a' w' hs hh => ⟨s', hs, hh⟩
    ·split at hc
     ·rename_i h1
      cases hc
      simp only [Bool.and_eq_true] at h1
      exact Hf h1.1 e1 (KZ _ 0 _) h1.2 R h fun s' a' w' hs hh => ⟨s', hs, hh⟩
     ·cases hc
   | false =>
    simp only [Bool.false_eq_true, if_false, Option.some.injEq, IR.ops.injEq] at hc
    subst hc
    exact KI e1 R h fun s' a' w' hs hh => ⟨s', hs, hh⟩
  ·cases hc
 all_goals (exfalso; revert hc; (repeat' split) <;> simp)
def Jc (P : Program) (C : Ctx) (mu : List Nat) (y : IR) (Q : AX → AS → Prop) : AX → AS → Prop := AX.then (IWP P C mu y Q) Q
theorem D5 (h : IWP P C mu y Q s) : Jc P C mu y Q .normal s := h
theorem M1 {id : Nat} (h : Q (.exit id) s) : Jc P C mu y Q (.exit id) s := h
theorem Oi (h : Q .ret s) : Jc P C mu y Q .ret s := h
theorem HJ {id : Nat} (h : Q .normal s) : AX.inBlock id Q .normal s := h
theorem JB {id : Nat} (h : Q .normal s) : AX.inBlock id Q (.exit id) s := by simp only [AX.inBlock, if_true]; exact h
theorem JD {id id' : Nat} (hne : id' ≠ id) (h : Q (.exit id') s) : AX.inBlock id Q (.exit id') s := by simp only [AX.inBlock, hne, if_false]; exact h
theorem Jg {id : Nat} (h : Q .ret s) : AX.inBlock id Q .ret s := h
theorem AH {K : AS → Prop} (h : K s) : AX.then K Q .normal s := h
theorem Md {K : AS → Prop} {id : Nat} (h : Q (.exit id) s) : AX.then K Q (.exit id) s := h
theorem OU {K : AS → Prop} (h : Q .ret s) : AX.then K Q .ret s := h
theorem IWP.opsK {l : List Ins} (h : ∀ K : AS → Prop, (∀ s, Q .normal s → K s) → Run P l s K) : IWP P C mu (.ops l) Q s := IWP.ops (h _ fun _ h => h)
theorem IWP.seq (h : IWP P C mu x (Jc P C mu y Q) s) : IWP P C mu (.seq x y) Q s := fun c hc a w hH => by
 cases c <;> simp only [Av] at hc
 case seq c1 c2 =>
  split at hc
  ·rename_i x' y' e1 e2
   cases hc
   refine wpIn_seq (wpIn_mono (h c1 e1 a w hH) fun e a' w' he => ?_)
   cases e <;> first | exact he | (obtain ⟨s1, h1, h2⟩ := he; exact h1 c2 e2 a' w' h2)
  ·cases hc
 all_goals (exfalso; revert hc; (repeat' split) <;> simp)
theorem IWP.cond {c0 : Opd} (h : match s.ev c0 with | .one (.st (.bool b)) => (b = true → IWP P C mu x Q s) ∧ (b = false → IWP P C mu y Q s) | .one .ubool => IWP P C mu x Q s ∧ IWP P C mu y Q s | _ => False) : IWP P C mu (.cond c0 x y) Q s := fun c hc a w hH => by
 cases c <;> simp only [Av] at hc
 case cond cc c1 c2 =>
  split at hc
  ·rename_i c' x' y' e0 e1 e2
   cases hc
   split at h
   ·rename_i b eb
    obtain ⟨σ, ι, R⟩ := hH
    have rb := R.ev e0
    rw [eb] at rb
    exact wpIn_cond_split (B_ rb) (fun ht => h.1 ht c1 e1 a w ⟨σ, ι, R⟩) (fun ht => h.2 ht c2 e2 a w ⟨σ, ι, R⟩)
   ·rename_i eb
    obtain ⟨σ, ι, R⟩ := hH
    have rb := R.ev e0
    rw [eb] at rb
    obtain ⟨b, hb⟩ := LT rb
    exact wpIn_cond_split hb (fun _ => h.1 c1 e1 a w ⟨σ, ι, R⟩) (fun _ => h.2 c2 e2 a w ⟨σ, ι, R⟩)
   ·exact h.elim
  ·cases hc
 all_goals (exfalso; revert hc; (repeat' split) <;> simp)
theorem IWP.block {id : Nat} (h : IWP P C mu x (AX.inBlock id Q) s) : IWP P C mu (.block id x) Q s := fun c hc a w hH => by
 cases c <;> simp only [Av] at hc
 case block id' c1 =>
  rw [Option.map_eq_some_iff] at hc
  obtain ⟨x', e1, e2⟩ := hc
  cases e2
  refine wpIn_block (wpIn_mono (h c1 e1 a w hH) fun e a' w' he => ?_)
  cases e <;> first | exact he | skip
  case exit id2 =>
   obtain ⟨s1, h1, h2⟩ := he
   simp only [AX.inBlock] at h1
   simp only [Exit.inBlock]
   by_cases e : id2 = id
   ·rw [if_pos e] at h1 ⊢
    exact ⟨s1, h1, h2⟩
   ·rw [if_neg e] at h1 ⊢
    exact ⟨s1, h1, h2⟩
 all_goals (exfalso; revert hc; (repeat' split) <;> simp)
theorem IWP.exit {id : Nat} (h : Q (.exit id) s) : IWP P C mu (.exit id) Q s := fun c hc a w hH => by
 cases c <;> simp only [Av] at hc
 case exit id' =>
  cases hc
  exact wpIn_exit ⟨s, h, hH⟩
 all_goals (exfalso; revert hc; (repeat' split) <;> simp)
theorem IWP.ret (h : Q .ret s) : IWP P C mu .ret Q s := fun c hc a w hH => by
 cases c <;> simp only [Av] at hc
 case ret => exact wpIn_ret ⟨s, h, hH⟩
 all_goals (exfalso; revert hc; (repeat' split) <;> simp)
theorem IWP.loop (Inv : Nat → AS → Prop) (m0 : Nat) (h0 : Inv m0 s) (h : ∀ m s, Inv m s → IWP P C mu x (AX.then (fun s' => ∃ m', m' < m ∧ Inv m' s') Q) s) : IWP P C mu (.loop x) Q s := fun c hc a w hH => by
 cases c <;> simp only [Av] at hc
 case loop c1 =>
  rw [Option.map_eq_some_iff] at hc
  obtain ⟨x', e1, e2⟩ := hc
  cases e2
  have least : ∀ a w, (∃ m s, Inv m s ∧ Ax C s a w) → ∃ m, (∃ s, Inv m s ∧ Ax C s a w) ∧ ∀ m', (∃ s, Inv m' s ∧ Ax C s a w) → m ≤ m' := fun a w ⟨m, s, h1, h2⟩ => by
   have key : ∀ n m, m ≤ n → (∃ s, Inv m s ∧ Ax C s a w) → ∃ m, (∃ s, Inv m s ∧ Ax C s a w) ∧ ∀ m', (∃ s, Inv m' s ∧ Ax C s a w) → m ≤ m' := by
    intro n
    induction n with
    | zero => intro m hm hs; exact ⟨m, hs, fun m' _ => by omega⟩
    | succ n ih =>
     intro m hm hs
     by_cases hex : ∃ m', m' < m ∧ ∃ s, Inv m' s ∧ Ax C s a w
     ·obtain ⟨m', hlt, hs'⟩ := hex
      exact ih m' (by omega) hs'
     ·refine ⟨m, hs, fun m' hs' => ?_⟩
      rcases Nat.lt_or_ge m' m with hlt | hge
      ·exact absurd ⟨m', hlt, hs'⟩ hex
      ·exact hge
   exact key m m (Nat.le_refl _) ⟨s, h1, h2⟩
  open Classical in
  refine wpIn_loop (fun a w => ∃ m s, Inv m s ∧ Ax C s a w) (fun a w => if hx : ∃ m s, Inv m s ∧ Ax C s a w then (least a w hx).choose else 0) ⟨m0, s, h0, hH⟩ fun a w hI => ?_
  obtain ⟨⟨s1, i1, i2⟩, hmin⟩ := (least a w hI).choose_spec
  refine wpIn_mono (h _ s1 i1 c1 e1 a w i2) fun e a' w' he => ?_
  cases e <;> first | exact he | skip
  case normal =>
   obtain ⟨s2, ⟨m', hlt, hinv⟩, hH2⟩ := he
   have hx' : ∃ m s, Inv m s ∧ Ax C s a' w' := ⟨m', s2, hinv, hH2⟩
   refine ⟨hx', ?_⟩
   rw [dif_pos hx', dif_pos hI]
   have := (least a' w' hx').choose_spec.2 m' ⟨s2, hinv, hH2⟩
   omega
 all_goals (exfalso; revert hc; (repeat' split) <;> simp)
end
mutual
def SV.known : SV → Prop
 | .int k n => inR k n
 | .str b => b.size ≤ maxLen
 | .list xs => xs.length ≤ maxLen ∧ SV.knownLL xs
 | _ => True
def SV.knownLL : List (List SV) → Prop
 | [] => True
 | x :: xs => SV.knownL x ∧ SV.knownLL xs
def SV.knownL : List SV → Prop
 | [] => True
 | c :: cs => c.known ∧ SV.knownL cs
end
theorem Ez : ∀ {l : List SV}, SV.knownL l ↔ ∀ c ∈ l, c.known
 | [] => by simp [SV.knownL]
 | c :: cs => by simp [SV.knownL, Ez (l := cs)]
theorem EB : ∀ {l : List (List SV)}, SV.knownLL l ↔ ∀ x ∈ l, SV.knownL x
 | [] => by simp [SV.knownLL]
 | c :: cs => by simp [SV.knownLL, EB (l := cs)]
def AC.known (S : AA) : AC → Prop
 | .st c => c.known
 | .full xs => xs.length ≤ maxLen ∧ SV.knownLL xs
 | _ => True
def AV.known (S : AA) : AV → Prop
 | .one c => c.known S
 | .agg cs => ∀ c ∈ cs, c.known S
 | _ => True
theorem Af.known {σ : Sto} {v : Value} {c : SV} (h : Af σ v c) : c.known := by
 induction h with
 | int h => exact h
 | str h => exact h
 | @list p len cap b o w xs c h1 h2 h3 h4 h5 h6 hh h7 h8 ih =>
  refine ⟨by omega, EB.2 fun x hx => Ez.2 fun y hy => ?_⟩
  obtain ⟨k, hk, rfl⟩ := List.getElem_of_mem hx
  obtain ⟨j, hj, rfl⟩ := List.getElem_of_mem hy
  exact ih k _ j _ (List.getElem?_eq_getElem hk) (List.getElem?_eq_getElem hj)
 | _ => trivial
theorem Ab.known {σ : Sto} {S : AA} {ι : Ah} {v : Value} {c : AC} (h : Ab σ S ι v c) : c.known S := by
 cases h with
 | st h => exact h.known
 | full h => exact h.known
 | _ => trivial
theorem AO.known {σ : Sto} {S : AA} {ι : Ah} {v : Value} {c : AV} (h : AO σ S ι v c) : c.known S := by
 cases h with
 | one h => exact h.known
 | agg h =>
  intro c hc
  obtain ⟨i, hi, rfl⟩ := List.getElem_of_mem hc
  obtain ⟨b, _, hb⟩ := h.get (List.getElem?_eq_getElem hi)
  exact hb.known
 | _ => trivial
theorem IWP.learn {P : Program} {C : Ctx} {mu : List Nat} {Q : AX → AS → Prop} {s : AS} {x : IR} (t : Nat) (ht : t < C.n) (h : (s.env t).known s.S → IWP P C mu x Q s) : IWP P C mu x Q s := fun c hc a w hH => by
 obtain ⟨σ, ι, R⟩ := hH
 exact h (R.env t ht).known c hc a w ⟨σ, ι, R⟩
inductive RV where
 | t (i : Nat)
 | cell (i : Nat) (g : Bool) (n : Nat)
def DG (P : Program) (n : Nat) : List ResultVar → Option (List RV)
 | [] => some []
 | .tmp t :: l => match DG P n l with
  | some r => if t < n then some (.t t :: r) else none
  | none => none
 | .cell t ty :: l => match DG P n l, KE P ty with
  | some r, some (g, k) => if t < n then some (.cell t g k :: r) else none
  | _, _ => none
def AD (s : AS) : RV → Option AV
 | .t i => some (s.env i)
 | .cell i g n => match s.env i with
  | .one (.ptr id m k off) => match B4 s.S id m k with
   | some cs => if off + n ≤ cs.length then some (Kr g ((cs.drop off).take n)) else none
   | none => none
  | _ => none
def AB (s : AS) : List RV → Option (List AV)
 | [] => some []
 | r :: l => match AD s r, AB s l with
  | some v, some vs => some (v :: vs)
  | _, _ => none
def AI : List AV → AV
 | [v] => v
 | vs => .tup vs
def AS.result (s : AS) (rs : List RV) : Option AV := match AB s rs with
 | some vs => outV s.S (AI vs)
 | none => none
def HZ (tmps : Array Value) : ResultVar → Sem Value
 | .tmp t => pure (tmps.getD t undef)
 | .cell x t => do loadVar t (← asAddr (tmps.getD x undef))
theorem LL (fn : Func) (tmps : Array Value) : results fn tmps = (do
  let vs ← fn.results.mapM (HZ tmps)
  pure (if h : vs.size = 1 then vs[0] else .tuple vs)) := rfl
section
variable {P : Program} {C : Ctx} {a : Act} {w : World} {σ : Sto} {ι : Ah} {s : AS}
theorem Gb (R : AK C σ ι s a w) : ∀ {l : List ResultVar} {rs : List RV} {vs : List AV}, DG P C.n l = some rs → AB s rs = some vs →
  ∃ xs : List Value, (l.mapM (HZ a.tmps)).run P w = .ok xs w ∧ AU (AO σ s.S ι) xs vs
 | [], rs, vs, h1, h2 => by
  simp only [DG, Option.some.injEq] at h1
  subst h1
  simp only [AB, Option.some.injEq] at h2
  subst h2
  exact ⟨[], by simp, .nil⟩
 | .tmp t :: l, rs, vs, h1, h2 => by
  simp only [DG] at h1
  split at h1
  ·rename_i r e1
   split at h1
   ·rename_i hlt
    cases h1
    simp only [AB, AD] at h2
    split at h2
    ·rename_i v vs' e2 e3
     cases h2
     cases e2
     obtain ⟨xs, k1, k2⟩ := Gb R e1 e3
     exact ⟨_ :: xs, by simp [List.mapM_cons, HZ, k1], .cons (R.env t hlt) k2⟩
    ·cases h2
   ·cases h1
  ·cases h1
 | .cell t ty :: l, rs, vs, h1, h2 => by
  simp only [DG] at h1
  split at h1
  ·rename_i r g k e1 e4
   split at h1
   ·rename_i hlt
    cases h1
    simp only [AB] at h2
    split at h2
    ·rename_i v vs' e2 e3
     cases h2
     obtain ⟨xs, k1, k2⟩ := Gb R e1 e3
     simp only [AD] at e2
     split at e2
     ·rename_i id m kk off e5
      split at e2
      ·rename_i cs e6
       split at e2
       ·rename_i hle
        cases e2
        have rt := R.env t hlt
        rw [e5] at rt
        obtain ⟨b, oo, hex, ys, v2, v3⟩ := R.ptr_cells (AN rt) e6
        have hlen := v3.len
        obtain ⟨dd, i, q1, q2, q3, q4⟩ := E7 e4
        obtain ⟨v, r1, r2⟩ := Dt (P := P) (w := w) (b := b) (o := oo + off) (cs := (ys.drop off).take k) q1 q2 (fun j v hj => by
         rw [List.getElem?_take] at hj
         split at hj
         ·rw [List.getElem?_drop] at hj
          rw [Nat.add_assoc]
          exact v2 _ _ hj
         ·cases hj) g q3 (by simp; omega)
        have r1' : (loadVar ty ⟨b, oo + off, none⟩).run P w = .ok v w := by
         simpa [Instr.loadAt, Instr.sureAddr] using r1
        exact ⟨v :: xs, by simp [List.mapM_cons, HZ, hex, asAddr, r1', k1], .cons (DQ ((v3.drop off).take k) r2) k2⟩
       ·cases e2
      ·cases e2
     ·cases e2
    ·cases h2
   ·cases h1
  ·cases h1
theorem Kp {S : AA} {fn : Func} {tmps : Array Value} {xs : List Value} {vs : List AV} (k1 : (fn.results.toList.mapM (HZ tmps)).run P w = .ok xs w) (k2 : AU (AO σ S ι) xs vs) : ∃ v, (results fn tmps).run P w = .ok v w ∧ AO σ S ι v (AI vs) := by
 have hl := k2.len
 have hrun : (results fn tmps).run P w = .ok (if h : xs.toArray.size = 1 then xs.toArray[0] else .tuple xs.toArray) w := by
  rw [LL, Array.mapM_eq_mapM_toList]
  simp [k1]
 refine ⟨_, hrun, ?_⟩
 match xs, vs, k2, hl with
 | [x], [v], k2, _ =>
  cases k2 with
  | cons k2 _ => simpa [AI] using k2
 | [], [], k2, _ => simpa [AI] using AO.tup (σ := σ) (S := S) (ι := ι) (vs := #[]) (ps := []) (fun _ => undef) rfl (by simp) (by simp)
 | x :: y :: xs, v :: v' :: vs, k2, hl =>
  have ht : AI (v :: v' :: vs) = .tup (v :: v' :: vs) := rfl
  rw [ht]
  have hne : ¬ (x :: y :: xs).toArray.size = 1 := by simp
  rw [dif_neg hne]
  refine .tup (fun j => ((x :: y :: xs)[j]?).getD undef) (by simpa using hl) (fun j b hb => ?_) (fun j b hb => ?_)
  ·obtain ⟨a1, h1, _⟩ := k2.get hb
   rw [h1]
   simpa using h1
  ·obtain ⟨a1, h1, h2⟩ := k2.get hb
   rw [h1]
   exact h2
theorem O4 (R : AK C σ ι s a w) {fn : Func} {rs : List RV} {r : AV} (h1 : DG P C.n fn.results.toList = some rs) (h2 : s.result rs = some r) : ∃ v, (results fn a.tmps).run P w = .ok v w ∧ AO σ noS noH v r := by
 unfold AS.result at h2
 split at h2
 ·rename_i vs e1
  obtain ⟨xs, k1, k2⟩ := Gb R h1 e1
  obtain ⟨v, v1, v2⟩ := Kp (fn := fn) (tmps := a.tmps) k1 k2
  exact ⟨v, v1, R.outV v2 h2⟩
 ·cases h2
end
def AS.start (xs : List AV) : AS := ⟨fun i => (xs[i]?).getD (.tup []), noS⟩
def AM (rs : List RV) (r : AV) (e : AX) (s : AS) : Prop := (match e with | .normal => True | .ret => True | _ => False) ∧ s.result rs = some r
theorem Ll {P : Program} {f : FuncId} {fn : Func} {mu : List Nat} {c : Code} {x : IR} {rs : List RV} {xs : List AV} {r : AV} (hf : P.funcs[f]? = some fn) (hb : fn.body = some c) (hx : Av P fn.ntmps mu c = some x) (hr : DG P fn.ntmps fn.results.toList = some rs) (hn : xs.length ≤ fn.ntmps)
  (h : ∀ C : Ctx, C.n = fn.ntmps → C.Top → IWP P C mu x (AM rs r) (AS.start xs)) : AQ P f xs r := by
 intro σ w vs hglob hfit hvs
 have hl := hvs.len
 let C : Ctx := ⟨fn.ntmps, w.heap.size, fun _ => False, σ, w, noS, noH, fun i b h => by simp [noS] at h, hglob, [], none, false⟩
 refine callsIn_wide.1 (callsIn_of_wp_marks (n := 0) hf hb trivial ?_)
 have R : AK C σ noH (AS.start xs) { tmps := vs.toArray ++ Array.replicate (fn.ntmps - vs.toArray.size) undef, defers := [] } w := by
  refine ⟨by simp [C]; omega, fun i hi => ?_, F8, hfit, fun id b h => by simp [AS.start, noS] at h, fun id id' b b' g h => by simp [AS.start, noS] at h, fun id b g h => by simp [AS.start, noS] at h, fun _ _ h => h, fun _ _ _ => rfl, ⟨rfl, rfl, rfl⟩, ⟨Nat.le_refl _, Nat.le_refl _⟩, fun _ _ _ => rfl, Upd.refl _ _⟩
  show AO σ noS noH _ ((xs[i]?).getD (.tup []))
  rw [Array.getD_eq_getD_getElem?]
  by_cases hlt : i < vs.length
  ·rw [Array.getElem?_append_left (by simpa using hlt)]
   obtain ⟨b, hb1, hb2⟩ := hvs.get' (List.getElem?_eq_getElem hlt)
   rw [hb1]
   simpa [hlt] using hb2
  ·rw [Array.getElem?_append_right (by simp; omega), List.getElem?_eq_none (by omega)]
   have hi' : i < fn.ntmps := hi
   rw [Array.getElem?_replicate, if_pos (by simp; omega)]
   exact .tup (fun _ => undef) rfl (by simp) (by simp)
 refine wpIn_mono (h C rfl ⟨rfl, rfl⟩ c hx _ w ⟨σ, noH, R⟩) fun e a' w' he => ?_
 have fin : ∀ s, s.result rs = some r → Ax C s a' w' → LeavesInM Fence.wide 0 P fn a'.tmps (fun e w' => ∃ v σ', e = .returned v ∧ AO σ' noS noH v r ∧ Fit σ' w' ∧ Ext w.heap.size σ σ' ∧ Below w.heap.size w w') a'.defers .returning w' := fun s hs hH => by
  obtain ⟨σ', ι', R1⟩ := hH
  refine R1.leaves (fun h => by cases h) fun a2 w2 R' hd ht => ?_
  obtain ⟨v, v1, v2⟩ := O4 R' (fn := fn) hr hs
  exact ⟨v, v1, v, σ', rfl, v2, R'.fit, ⟨R'.ext, fun p hp => R'.old p hp (fun h => h)⟩, ⟨R'.os.1, R'.os.2.1, R'.os.2.2, R'.grown.2, fun k hk => R'.same k hk (fun h => h)⟩⟩
 cases e with
 | normal => obtain ⟨s, h1, h2⟩ := he; exact fin s h1.2 h2
 | ret => obtain ⟨s, h1, h2⟩ := he; exact fin s h1.2 h2
 | exit id => obtain ⟨s, h1, h2⟩ := he; exact h1.1.elim
 | panic ch => obtain ⟨s, v, h1, h2⟩ := he; exact h1.1.1.elim
 | _ => exact he.elim
theorem Ma {P : Program} {f : FuncId} {fn : Func} {mu : List Nat} {c : Code} {x : IR} {rs : List RV} {xs : List AV} {r : AV} (hf : P.funcs[f]? = some fn) (hb : fn.body = some c) (hx : Av P fn.ntmps mu c = some x) (hr : DG P fn.ntmps fn.results.toList = some rs) (hn : xs.length ≤ fn.ntmps)
  (h : ∀ C : Ctx, C.n = fn.ntmps → IWP P C mu x (AM rs r) (AS.start xs)) : AQ P f xs r := Ll hf hb hx hr hn fun C h1 _ => h C h1
def Mq (C : Ctx) (rs : List RV) (r : AV) (S' : AA) (e : AX) (s : AS) : Prop := (match e with | .normal => True | .ret => True | _ => False) ∧ ∃ s2 s3 r0, Al C s s2 ∧ (AB s2 rs).map AI = some r0 ∧ (∀ σ ι a w, AK C σ ι s2 a w → ∃ σ' ι', AK C σ' ι' s3 a w ∧ ∀ v, AO σ s2.S ι v r0 → AO σ' s3.S ι' v r) ∧ s3.S = S' ∧ Ay S'
def AS.startS (xs : List AV) (S : AA) : AS := ⟨fun i => (xs[i]?).getD (.tup []), S⟩
theorem KY {P : Program} {f : FuncId} {fn : Func} {mu : List Nat} {c : Code} {x : IR} {rs : List RV} {xs : List AV} {S : AA} {r : AV} {S' : AA} (hf : P.funcs[f]? = some fn) (hb : fn.body = some c) (hx : Av P fn.ntmps mu c = some x) (hr : DG P fn.ntmps fn.results.toList = some rs) (hn : xs.length ≤ fn.ntmps)
  (h : Ay S → ∀ C : Ctx, C.n = fn.ntmps → C.Top → IWP P C mu x (Mq C rs r S') (AS.startS xs S)) : BE P f xs S r S' := by
 intro hclean σ w vs ι hglob hfit hown hvs
 have hl := hvs.len
 let C : Ctx := ⟨fn.ntmps, w.heap.size, fun g => ¬ B6 S ι g, σ, w, S, ι, hclean, hglob, [], none, false⟩
 refine callsIn_wide.1 (callsIn_of_wp_marks (n := 0) hf hb trivial ?_)
 have R : AK C σ ι (AS.startS xs S) { tmps := vs.toArray ++ Array.replicate (fn.ntmps - vs.toArray.size) undef, defers := [] } w := by
  refine ⟨by simp [C]; omega, fun i hi => ?_, F8, hfit, hown.1, hown.2, fun id b g h hg => .inr (fun hno => hno id b h hg), fun _ _ h => h, fun _ _ _ => rfl, ⟨rfl, rfl, rfl⟩, ⟨Nat.le_refl _, Nat.le_refl _⟩, fun _ _ _ => rfl, Upd.refl _ _⟩
  show AO σ S ι _ ((xs[i]?).getD (.tup []))
  rw [Array.getD_eq_getD_getElem?]
  by_cases hlt : i < vs.length
  ·rw [Array.getElem?_append_left (by simpa using hlt)]
   obtain ⟨b, hb1, hb2⟩ := hvs.get' (List.getElem?_eq_getElem hlt)
   rw [hb1]
   simpa [hlt] using hb2
  ·rw [Array.getElem?_append_right (by simp; omega), List.getElem?_eq_none (by omega)]
   have hi' : i < fn.ntmps := hi
   rw [Array.getElem?_replicate, if_pos (by simp; omega)]
   exact .tup (fun _ => undef) rfl (by simp) (by simp)
 refine wpIn_mono (h hclean C rfl ⟨rfl, rfl⟩ c hx _ w ⟨σ, ι, R⟩) fun e a' w' he => ?_
 have fin : ∀ s, (∃ s2 s3 r0, Al C s s2 ∧ (AB s2 rs).map AI = some r0 ∧ (∀ σ ι a w, AK C σ ι s2 a w → ∃ σ' ι', AK C σ' ι' s3 a w ∧ ∀ v, AO σ s2.S ι v r0 → AO σ' s3.S ι' v r) ∧ s3.S = S' ∧ Ay S') → Ax C s a' w' → LeavesInM Fence.wide 0 P fn a'.tmps (fun e w' => ∃ v σ' ι', e = .returned v ∧ Ay S' ∧ Upd S ι S' ι' ∧ D9 σ' S' ι' w' ∧ AO σ' S' ι' v r ∧ Fit σ' w' ∧ (∀ p x, σ p = some x → σ' p = some x) ∧
   (∀ p : Addr, p.block < w.heap.size → B6 S ι p.block → σ' p = σ p) ∧ (w'.os = w.os ∧ w'.tape = w.tape ∧ w'.output = w.output) ∧ w.heap.size ≤ w'.heap.size ∧
   (∀ g, g < w.heap.size → B6 S ι g → w'.heap[g]? = w.heap[g]?) ∧ (∀ id b g, S' id = some b → (ι' id).g = some g → w.heap.size ≤ g ∨ ¬ B6 S ι g)) a'.defers .returning w' := fun s ⟨s2, s3, r0, hg, hres, hlow, hS, hc⟩ hH => by
  obtain ⟨σ1, ι1, R1⟩ := hg _ _ hH
  refine R1.leaves (fun h => by cases h) fun a2 w2 R2 hd ht => ?_
  subst hS
  rw [Option.map_eq_some_iff] at hres
  obtain ⟨vs2, e1, rfl⟩ := hres
  obtain ⟨xs2, k1, k2⟩ := Gb R2 hr e1
  obtain ⟨v, v1, v20⟩ := Kp (fn := fn) (tmps := a2.tmps) k1 k2
  obtain ⟨σ', ι', R', hv'⟩ := hlow _ _ _ _ R2
  have v2 := hv' v v20
  exact ⟨v, v1, v, σ', ι', rfl, hc, R'.upd, ⟨R'.blk, R'.inj⟩, v2, R'.fit, R'.ext, fun p h1 h2 => R'.old p h1 (fun h => h h2), R'.os, R'.grown.2, fun g h1 h2 => R'.same g h1 (fun h => h h2), fun id b g h1 h2 => R'.base id b g h1 h2⟩
 cases e with
 | normal => obtain ⟨s, h1, h2⟩ := he; exact fin s h1.2 h2
 | ret => obtain ⟨s, h1, h2⟩ := he; exact fin s h1.2 h2
 | exit id => obtain ⟨s, h1, h2⟩ := he; exact h1.1.elim
 | panic ch => obtain ⟨s, v, h1, h2⟩ := he; exact h1.1.1.elim
 | _ => exact he.elim
theorem LS {P : Program} {f : FuncId} {fn : Func} {mu : List Nat} {c : Code} {x : IR} {rs : List RV} {xs : List AV} {S : AA} {r : AV} {S' : AA} (hf : P.funcs[f]? = some fn) (hb : fn.body = some c) (hx : Av P fn.ntmps mu c = some x) (hr : DG P fn.ntmps fn.results.toList = some rs) (hn : xs.length ≤ fn.ntmps)
  (h : Ay S → ∀ C : Ctx, C.n = fn.ntmps → IWP P C mu x (Mq C rs r S') (AS.startS xs S)) : BE P f xs S r S' := KY hf hb hx hr hn fun h0 C h1 _ => h h0 C h1
structure OkF (P : Program) (f n : Nat) (mu : List Nat) (x : IR) (rs : List RV) : Prop where
 ok : ∃ fn c, P.funcs[f]? = some fn ∧ fn.body = some c ∧ fn.ntmps = n ∧ Av P n mu c = some x ∧ DG P n fn.results.toList = some rs
section
variable {P : Program} {f n : Nat} {mu : List Nat} {x : IR} {rs : List RV}
theorem OkF.of {fn : Func} (hf : P.funcs[f]? = some fn) (hb : fn.body.isSome = true) (hn : fn.ntmps = n) (hx : Av P n mu (fn.body.getD .skip) = some x) (hr : DG P n fn.results.toList = some rs) : OkF P f n mu x rs := by
 obtain ⟨c, hc⟩ := Option.isSome_iff_exists.1 hb
 rw [hc] at hx
 exact ⟨fn, c, hf, hc, hn, hx, hr⟩
theorem OkF.ac (o : OkF P f n mu x rs) {xs : List AV} {r : AV} (h : ∀ C : Ctx, C.n = n → IWP P C mu x (AM rs r) (AS.start xs)) (hn : xs.length ≤ n := by exact Nat.le_of_ble_eq_true rfl) : AQ P f xs r := by
 obtain ⟨fn, c, hf, hb, rfl, hx, hr⟩ := o.ok
 exact Ma hf hb hx hr hn h
theorem OkF.acS (o : OkF P f n mu x rs) {xs : List AV} {S S' : AA} {r : AV} (h : Ay S → ∀ C : Ctx, C.n = n → IWP P C mu x (Mq C rs r S') (AS.startS xs S)) (hn : xs.length ≤ n := by exact Nat.le_of_ble_eq_true rfl) : BE P f xs S r S' := by
 obtain ⟨fn, c, hf, hb, rfl, hx, hr⟩ := o.ok
 exact LS hf hb hx hr hn h
end

end Go.Proofs.Ytdlbfdcklpleaaa
