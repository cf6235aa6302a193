/-
  Part 7 of the texts: AbsP; PtrKey; AbsQ. Conditions: none.
-/
import Derived.Test.YtpajlfdhmjgpnaaPathP6
import Derived.MapKept
import Derived.Maps.RangeRun
import Derived.DeepKeys3
import Derived.LaidEql
namespace Go.Proofs.Ytpajlfdhmjgpnaa
open Go Go.RowKit Go.MapKept
open Go.ChangeMaps (setBlock)
set_option linter.unusedVariables false
set_option maxHeartbeats 400000
set_option linter.unusedSimpArgs false

/-! ### keys -/
def KV.val : Option IntKind → KV → Value
  | some k, .i n => .int k n
  | _, .s b => .string b
  | none, .i n => .int .i64 n
def kDesc : Option IntKind → TypeDesc
  | none => .string
  | some k => .int k
def ktOf : TypeDesc → Option (Option IntKind)
  | .string => some none
  | .int k => some (some k)
  | _ => none
theorem ktOf_desc {t : TypeDesc} {kt : Option IntKind} (h : ktOf t = some kt) : t = kDesc kt := by
  cases t <;> simp only [ktOf, Option.some.injEq, reduceCtorEq] at h <;> subst h <;> rfl
section
variable {σ : Sto} {kt : Option IntKind}
theorem key_val {kv : KV} {c : SV} {v : Value} (h : kv.sv kt = some c) (hr : SRep σ v c) : v = kv.val kt := by
  cases kt <;> cases kv <;> simp only [KV.sv, Option.some.injEq, reduceCtorEq] at h <;> subst h <;> cases hr <;> rfl
theorem key_is {kv : KV} {c : SV} (h : kv.sv kt = some c) : IsKey (kDesc kt) (kv.val kt) := by
  cases kt <;> cases kv <;> simp only [KV.sv, reduceCtorEq] at h <;> simp [IsKey, kDesc, KV.val]
theorem key_inj {k k' : KV} {c c' : SV} (h : k.sv kt = some c) (h' : k'.sv kt = some c') (e : k.val kt = k'.val kt) : k = k' := by
  cases kt <;> cases k <;> cases k' <;> simp only [KV.sv, reduceCtorEq] at h h' <;> simp only [KV.val, Value.int.injEq, Value.string.injEq, true_and] at e <;> rw [e]
theorem key_of {c : SV} {kv : KV} (h : KV.of kt c = some kv) : kv.sv kt = some c := by
  cases kt <;> cases c <;> simp only [KV.of, reduceCtorEq] at h
  · cases h; rfl
  · split at h
    · rename_i e; cases h; subst e; rfl
    · cases h
abbrev ERep (σ : Sto) (kt : Option IntKind) : MapEntry → KV × AV → Prop := fun e x => (∃ c, x.1.sv kt = some c ∧ SRep σ e.key c) ∧ VRep σ noS noH e.val x.2
theorem erep_key {e : MapEntry} {x : KV × AV} (h : ERep σ kt e x) : e.key = x.1.val kt ∧ IsKey (kDesc kt) e.key := by
  obtain ⟨⟨c, h1, h2⟩, _⟩ := h
  have := key_val h1 h2
  exact ⟨this, by rw [this]; exact key_is h1⟩
theorem findNow_of {kv : KV} {c : SV} (hk : kv.sv kt = some c) : ∀ {l : List MapEntry} {es : List (KV × AV)} (i : Nat), All2 (ERep σ kt) l es →
    match mGet es kv with
    | none => Instr.findNow (kDesc kt) (kv.val kt) l i = some none
    | some v => ∃ e, l[mAt es kv]? = some e ∧ e.key = kv.val kt ∧ VRep σ noS noH e.val v ∧ Instr.findNow (kDesc kt) (kv.val kt) l i = some (some (i + mAt es kv, e.val))
  | _, _, i, .nil => rfl
  | _, _, i, @All2.cons _ _ _ e x l es hx ht => by
    have hik := erep_key hx
    obtain ⟨r, hr, hiff⟩ := sameNow_of_keys (key_is hk) hik.2
    obtain ⟨c', hc', _⟩ := hx.1
    by_cases he : x.1 = kv
    · have hr1 : r = true := hiff.2 (by rw [hik.1, he])
      subst hr1
      simp only [mGet, mAt, if_pos he]
      exact ⟨e, rfl, by rw [hik.1, he], hx.2, by simp [Instr.findNow, hr]⟩
    · have hr1 : r = false := by
        cases r with
        | false => rfl
        | true => exact absurd (key_inj hk hc' (by rw [hiff.1 rfl, hik.1])) fun q => he q.symm
      subst hr1
      simp only [mGet, mAt, if_neg he]
      have ih := findNow_of hk (i + 1) ht
      split at ih
      · simp only [Instr.findNow, hr]
        exact ih
      · rename_i v hm
        obtain ⟨e', q1, q2, q3, q4⟩ := ih
        refine ⟨e', by simpa using q1, q2, q3, ?_⟩
        simp only [Instr.findNow, hr, q4]
        congr 3
        omega
theorem mAt_lt {es : List (KV × AV)} {kv : KV} {v : AV} (h : mGet es kv = some v) : mAt es kv < es.length := by
  induction es with
  | nil => cases h
  | cons x es ih =>
    simp only [mGet, mAt] at h ⊢
    split at h
    · rename_i e; simp [if_pos e]
    · rename_i e
      have := ih h
      simp [if_neg e]
      omega
theorem mAt_none {es : List (KV × AV)} {kv : KV} (h : mGet es kv = none) : mAt es kv = es.length := by
  induction es with
  | nil => rfl
  | cons x es ih =>
    simp only [mGet, mAt] at h ⊢
    split at h
    · cases h
    · rename_i e
      rw [if_neg e, ih h]
      rfl
theorem mPut_none {es : List (KV × AV)} {kv : KV} (h : mGet es kv = none) (v : AV) : mPut es kv v = es ++ [(kv, v)] := by
  induction es with
  | nil => rfl
  | cons x es ih =>
    simp only [mGet, mPut] at h ⊢
    split at h
    · cases h
    · rename_i e
      rw [if_neg e, ih h]
      rfl
theorem mPut_some {es : List (KV × AV)} {kv : KV} {v0 : AV} (h : mGet es kv = some v0) (v : AV) : mPut es kv v = es.modify (mAt es kv) fun x => (kv, v) := by
  induction es with
  | nil => cases h
  | cons x es ih =>
    simp only [mGet, mPut, mAt] at h ⊢
    split at h
    · rename_i e; rw [if_pos e, if_pos e]; rfl
    · rename_i e
      rw [if_neg e, if_neg e, ih h]
      rfl
theorem All2.modify {α β : Type} {R : α → β → Prop} {f : α → α} {g : β → β} (hfg : ∀ a b, R a b → R (f a) (g b)) : ∀ {l : List α} {m : List β}, All2 R l m → ∀ i, All2 R (l.modify i f) (m.modify i g)
  | _, _, .nil, i => by simpa using All2.nil
  | _, _, .cons h t, 0 => .cons (hfg _ _ h) t
  | _, _, .cons h t, i + 1 => .cons h (All2.modify hfg t i)
theorem MapRep.put {ents : Array MapEntry} {es : List (KV × AV)} (h : MapRep σ kt ents.toList es) {kv : KV} {c : SV} {key val : Value} {v : AV} (hk : kv.sv kt = some c) (hkey : SRep σ key c) (hv : VRep σ noS noH val v) : MapRep σ kt (ents.push { key := key, val := val, born := ents.size }).toList (es ++ [(kv, v)]) := by
  refine ⟨?_, ?_⟩
  · rw [Array.toList_push]
    exact h.all.append (.cons ⟨⟨c, hk, hkey⟩, hv⟩ .nil)
  · rw [Array.toList_push, List.map_append, h.born, List.length_append, List.length_singleton, List.range_succ]
    simp
theorem map_modify_same {α β : Type} (f : α → α) (g : α → β) (hg : ∀ a, g (f a) = g a) : ∀ (l : List α) (i : Nat), (l.modify i f).map g = l.map g
  | [], i => by simp
  | a :: l, 0 => by simp [hg]
  | a :: l, i + 1 => by simp [map_modify_same f g hg l i]
theorem MapRep.mod {ents : Array MapEntry} {es : List (KV × AV)} (h : MapRep σ kt ents.toList es) (f : MapEntry → MapEntry) (g : KV × AV → KV × AV) (hb : ∀ e, (f e).born = e.born) (hr : ∀ e x, ERep σ kt e x → ERep σ kt (f e) (g x)) (i : Nat) : MapRep σ kt (ents.modify i f).toList (es.modify i g) := by
  rw [Array.toList_modify]
  exact ⟨All2.modify hr h.all i, by rw [map_modify_same f _ hb, h.born, List.length_modify]⟩
end

/-! ### what a walk has in hand -/
section
variable {P : Program} {C : Ctx} {o : Oper} {a : Act} {w : World} {K : AV → AS → Prop} {σ : Sto} {ι : AHnd} {s : AS} {d : Nat}
theorem mapOf_inv {S : AStore} {v : AV} {id : Nat} {kt : Option IntKind} {es : List (KV × AV)} (h : mapOf S v = some (id, kt, es)) : v = .one (.mptr id) ∧ S id = some (.map kt es) := by
  unfold mapOf at h
  split at h
  · split at h
    · rename_i e1
      cases h
      exact ⟨rfl, e1⟩
    · cases h
  · cases h
structure HasMap (R : Sto) (s : AS) (ι : AHnd) (w : World) (v : Value) (id g : Nat) (ents : Array MapEntry) (kt : Option IntKind) (es : List (KV × AV)) : Prop where
  val : v = .map (some g)
  hnd : (ι id).g = some g
  heap : w.heap[g]? = some (.map ents ents.size)
  rep : MapRep R kt ents.toList es
  blk : s.S id = some (.map kt es)
  no : ∀ p : Addr, p.block = g → R p = none
theorem Refs.hasMap (R : Refs C σ ι s a w) {v : Value} {av : AV} {id : Nat} {kt : Option IntKind} {es : List (KV × AV)} (hv : VRep σ s.S ι v av) (h : mapOf s.S av = some (id, kt, es)) : ∃ g ents, HasMap σ s ι w v id g ents kt es := by
  obtain ⟨rfl, hS⟩ := mapOf_inv h
  have hb := R.blk _ _ hS
  cases hb with
  | @map _ _ g ents h1 h2 h3 h4 =>
  cases vrep_one hv with
  | mptr k1 k2 k3 k4 =>
  rw [hS] at k1
  cases k1
  obtain ⟨g', q1, q2⟩ := k4 rfl
  rw [h1] at q1
  cases q1
  exact ⟨g, ents, q2, h1, h2, h3, hS, h4⟩
theorem HasMap.len {v : Value} {id g : Nat} {ents : Array MapEntry} {kt : Option IntKind} {es : List (KV × AV)} (H : HasMap σ s ι w v id g ents kt es) : ents.size = es.length := by
  have := H.rep.all.len
  simpa using this
theorem keyOf_inv {kt : Option IntKind} {av : AV} {kv : KV} {v : Value} {S : AStore} (hv : VRep σ S ι v av) (h : keyOf kt av = some kv) : ∃ c, kv.sv kt = some c ∧ SRep σ v c ∧ v = kv.val kt := by
  unfold keyOf at h
  split at h
  · rename_i c
    have hr : SRep σ v c := arep_st (vrep_one hv)
    exact ⟨c, key_of h, hr, key_val (key_of h) hr⟩
  · cases h
theorem set_heap {g : Nat} {o' o'' : Obj} (h : w.heap[g]? = some o'') : (setBlock w g o').heap[g]? = some o' ∧ ∀ k, k ≠ g → (setBlock w g o').heap[k]? = w.heap[k]? := heap_set h
theorem Refs.setBlk (R : Refs C σ ι s a w) {id g : Nat} {b b' : ABlk} {o' o'' : Obj} (hS : s.S id = some b) (hg : (ι id).g = some g) (hw : w.heap[g]? = some o'') (hno : ∀ p : Addr, p.block = g → σ p = none) (hlen : b'.len = b.len) (hwid : b'.wid = b.wid)
    (hr : ∀ S' ι', Upd s.S ι S' ι' → BRep σ S' ι' (setBlock w g o') (ι id) b') : ∃ ι', Refs C σ ι' (s.set id b') a (setBlock w g o') ∧ Upd s.S ι (s.set id b').S ι' := by
  obtain ⟨q1, q2⟩ := set_heap (o' := o') hw
  obtain ⟨hu, R'⟩ := R.turn (w' := setBlock w g o') hS b' (ι id) (σ' := σ) (fun _ _ h => h) (fun _ _ _ => rfl) (R.fit.row hno q2) (by rw [hlen]; exact Nat.le_refl _) (fun _ => ⟨hwid, rfl⟩) ⟨rfl, rfl, rfl⟩ (by simp [setBlock]) (fun k hk hne => q2 k fun e => hne (by rw [e]; exact hg)) (fun g' h => .inl h) (fun hu => hr _ _ hu)
  exact ⟨_, R', hu⟩
theorem vrep_up {v : Value} {c : AV} (h : VRep σ noS noH v c) (S : AStore) (ι : AHnd) : VRep σ S ι v c := h.mono (fun _ _ h => h) (upd_noS S ι)

/-! ### the operations -/
theorem snd_makeMap {t : TypeId} {kt : Option IntKind} (ho : o.op = .makeMap t none) (R : Refs C σ ι s a w) (h : Kd.go P d s K (.makeMap kt)) : Good P C o a w K := by
  simp only [Kd.go] at h
  obtain ⟨hid, hK⟩ := h
  obtain ⟨hu, R'⟩ := R.fresh (w' := w.alloc (.map #[] 0)) hid (.map kt []) ⟨none, 0, some w.heap.size⟩ (Ext.refl _ _) (R.fit.alloc _) (More.alloc _ _) (by simp) (fun S' ι' hu => .map (ents := #[]) rfl (heap_alloc_new w _) ⟨.nil, rfl⟩ (fun p hp => R.fit.no (by omega)))
  refine ⟨.map (some w.heap.size), _, _, σ, _, _, .inl (by simp [execOp, ho, Instr.makeMap, newObj, Sem.run]), hK, R', .one (.mptr (b := .map kt []) (by simp [AS.set, updE_same]) (Nat.le_refl _) rfl fun _ => ⟨w.heap.size, by simp [updE_same], rfl⟩)⟩
theorem snd_lookup {t key elem : TypeId} {td : TypeDesc} {i : TypeInfo} {z : Value} {zv : AV} {kt : Option IntKind} {x k : Operand} {x' k' : Opd} {ok : Bool} (ho : o.op = .lookup t x k ok) (hx : trOpd C.n x = some x') (hk : trOpd C.n k = some k') (ht : P.underlying t = some (.map key elem)) (hkey : P.underlying key = some td) (hkt : ktOf td = some kt) (hi : P.info? elem = some i) (hz : i.zero = some z) (hzv : ofVal z = some zv)
    (R : Refs C σ ι s a w) (h : Kd.go P d s K (.lookup kt ok zv x' k')) : Good P C o a w K := by
  have rx := R.ev hx
  have rk := R.ev hk
  have hd := ktOf_desc hkt
  subst hd
  simp only [Kd.go] at h
  split at h
  · rename_i id kt' es kv e1 e2
    obtain ⟨rfl, hK⟩ := h
    obtain ⟨g, ents, H⟩ := R.hasMap rx e1
    obtain ⟨c, c1, c2, c3⟩ := keyOf_inv rk e2
    have hf := findNow_of (σ := σ) c1 0 H.rep.all
    have hck := fun e => run_checkKey (P := P) (w := w) hkey (key_is c1) e 9999
    split at hf
    · rename_i hm
      rw [hm] at hK
      refine good_val R (if ok then .tuple #[z, .bool false] else z) _ ?_ hK ?_
      · simp [execOp, ho, Instr.lookup, run_underlying ht, H.val, MapKept.run_getObj_map H.heap, c3, hck, run_findKey hkey hf, zeroValue, typeInfo, hi, hz, Result.andThen]
      · cases ok with
        | false => exact ofVal_rep hzv
        | true => exact .tup (fun j => if j = 0 then z else .bool false) rfl (fun j b hb => by
            match j, hb with
            | 0, hb => rfl
            | 1, hb => rfl) (fun j b hb => by
            match j, hb with
            | 0, hb => cases hb; exact ofVal_rep hzv
            | 1, hb => cases hb; exact .one (.st .bool))
    · rename_i v hm
      rw [hm] at hK
      obtain ⟨e, q1, q2, q3, q4⟩ := hf
      refine good_val R (if ok then .tuple #[e.val, .bool true] else e.val) _ ?_ hK ?_
      · simp [execOp, ho, Instr.lookup, run_underlying ht, H.val, MapKept.run_getObj_map H.heap, c3, hck, run_findKey hkey q4, Result.andThen]
      · cases ok with
        | false => exact vrep_up q3 _ _
        | true => exact .tup (fun j => if j = 0 then e.val else .bool true) rfl (fun j b hb => by
            match j, hb with
            | 0, hb => rfl
            | 1, hb => rfl) (fun j b hb => by
            match j, hb with
            | 0, hb => cases hb; exact vrep_up q3 _ _
            | 1, hb => cases hb; exact .one (.st .bool))
  · exact h.elim
theorem snd_mapSet {t key elem : TypeId} {td : TypeDesc} {kt : Option IntKind} {x k v : Operand} {x' k' v' : Opd} (ho : o.op = .mapUpdate t x k v ∨ o.op = .insert t x k v) (hx : trOpd C.n x = some x') (hk : trOpd C.n k = some k') (hv : trOpd C.n v = some v') (ht : P.underlying t = some (.map key elem)) (hkey : P.underlying key = some td) (hkt : ktOf td = some kt)
    (R : Refs C σ ι s a w) (h : Kd.go P d s K (.mapSet kt x' k' v')) : Good P C o a w K := by
  have rx := R.ev hx
  have rk := R.ev hk
  have rv := R.ev hv
  have hd := ktOf_desc hkt
  subst hd
  simp only [Kd.go] at h
  split at h
  · rename_i id kt' es kv vv e1 e2 e3
    obtain ⟨rfl, hK⟩ := h
    obtain ⟨g, ents, H⟩ := R.hasMap rx e1
    obtain ⟨c, c1, c2, c3⟩ := keyOf_inv rk e2
    have ro := R.outV rv e3
    have hf := findNow_of (σ := σ) c1 0 H.rep.all
    have hck := fun e => run_checkKey (P := P) (w := w) hkey (key_is c1) e 9999
    have hex : execOp a.eval o = (do Instr.mapUpdate t (a.eval x) (a.eval k) (a.eval v); pure .skip) := by
      rcases ho with ho | ho <;> simp [execOp, ho]
    have hrun : ∃ ents', (execOp a.eval o).run P w = .ok .skip (setBlock w g (.map ents' ents'.size)) ∧ MapRep σ kt' ents'.toList (mPut es kv vv) := by
      split at hf
      · rename_i hm
        refine ⟨ents.push { key := a.eval k, val := a.eval v, born := ents.size }, ?_, ?_⟩
        · rw [hex]
          simp [Instr.mapUpdate, run_underlying ht, H.val, MapKept.run_getObj_map H.heap, c3, hck, run_findKey hkey hf, Result.andThen, run_setObj_map _ H.heap, setBlock]
        · rw [mPut_none hm]
          exact H.rep.put c1 c2 ro
      · rename_i v0 hm
        obtain ⟨e, q1, q2, q3, q4⟩ := hf
        have hj : ents[mAt es kv]? = some e := by simpa using q1
        refine ⟨ents.modify (mAt es kv) fun e => { e with key := a.eval k, val := a.eval v }, ?_, ?_⟩
        · rw [hex]
          simp [Instr.mapUpdate, run_underlying ht, H.val, MapKept.run_getObj_map H.heap, c3, hck, run_findKey hkey q4, Result.andThen, hj, q2, run_keyThatStays (key_is c1), run_setObj_map _ H.heap, setBlock]
        · rw [mPut_some hm]
          exact H.rep.mod (fun e => { e with key := a.eval k, val := a.eval v }) (fun _ => (kv, vv)) (fun _ => rfl) (fun e x _ => ⟨⟨c, c1, c2⟩, ro⟩) _
    obtain ⟨ents', r1, r2⟩ := hrun
    obtain ⟨ι', R', hu⟩ := R.setBlk (b' := .map kt' (mPut es kv vv)) (o' := .map ents' ents'.size) H.blk H.hnd H.heap H.no rfl rfl (fun S' ι' hu => .map H.hnd (set_heap H.heap).1 r2 H.no)
    exact ⟨undef, .any, _, σ, ι', _, .inr ⟨rfl, r1⟩, hK, R', .any⟩
  · exact h.elim
theorem goInt_val {n : Int} (h : inR .i64 n) : goInt n = .int .i64 n := rfl
theorem snd_mapEntry {t key elem : TypeId} {td : TypeDesc} {i : TypeInfo} {z : Value} {zv : AV} {kt : Option IntKind} {x k : Operand} {x' k' : Opd} (ho : o.op = .mapEntry t x k) (hx : trOpd C.n x = some x') (hk : trOpd C.n k = some k') (ht : P.underlying t = some (.map key elem)) (hkey : P.underlying key = some td) (hkt : ktOf td = some kt) (hi : P.info? elem = some i) (hz : i.zero = some z) (hzv : ofVal z = some zv)
    (R : Refs C σ ι s a w) (h : Kd.go P d s K (.mapEntry kt zv x' k')) : Good P C o a w K := by
  have rx := R.ev hx
  have rk := R.ev hk
  have hd := ktOf_desc hkt
  subst hd
  simp only [Kd.go] at h
  split at h
  · rename_i id kt' es kv e1 e2
    obtain ⟨rfl, hlen, hK⟩ := h
    obtain ⟨g, ents, H⟩ := R.hasMap rx e1
    obtain ⟨c, c1, c2, c3⟩ := keyOf_inv rk e2
    have hsz := H.len
    have hf := findNow_of (σ := σ) c1 0 H.rep.all
    have hck := fun e => run_checkKey (P := P) (w := w) hkey (key_is c1) e 9999
    have tupR : ∀ {S' : AStore} {ι' : AHnd} {v1 : Value} {b1 : AV} {n : Nat}, n ≤ maxLen → VRep σ S' ι' v1 b1 → VRep σ S' ι' (.tuple #[v1, .int .i64 n]) (.tup [b1, .one (.st (.int .i64 n))]) := fun {S' ι' v1 b1 n} hn hv => .tup (fun j => if j = 0 then v1 else .int .i64 n) rfl (fun j b hb => by
        match j, hb with
        | 0, hb => rfl
        | 1, hb => rfl) (fun j b hb => by
        match j, hb with
        | 0, hb => cases hb; exact hv
        | 1, hb => cases hb; exact .one (.st (.int (inR_len hn))))
    split at hf
    · rename_i hm
      have hat := mAt_none hm
      have hnew : mNew es kv zv = es ++ [(kv, zv)] := by unfold mNew; rw [hm]
      rw [hm, hnew, hat] at hK
      have hrun : (execOp a.eval o).run P w = .ok (.value (.tuple #[z, .int .i64 ents.size])) (setBlock w g (.map (ents.push { key := a.eval k, val := z, born := ents.size }) (ents.push { key := a.eval k, val := z, born := ents.size }).size)) := by
        simp [execOp, ho, Instr.mapEntry, run_underlying ht, H.val, MapKept.run_getObj_map H.heap, c3, hck, run_findKey hkey hf, zeroValue, typeInfo, hi, hz, Result.andThen, run_setObj_map _ H.heap, setBlock, goInt]
      obtain ⟨ι', R', hu⟩ := R.setBlk (b' := .map kt' (es ++ [(kv, zv)])) (o' := .map (ents.push { key := a.eval k, val := z, born := ents.size }) (ents.push { key := a.eval k, val := z, born := ents.size }).size) H.blk H.hnd H.heap H.no rfl rfl (fun S' ι' hu => .map H.hnd (set_heap H.heap).1 (H.rep.put c1 c2 (ofVal_rep hzv)) H.no)
      rw [hsz] at hrun
      exact ⟨_, _, _, σ, ι', _, .inl hrun, hK, by rw [← hsz]; exact R', tupR hlen (ofVal_rep hzv)⟩
    · rename_i v0 hm
      obtain ⟨e, q1, q2, q3, q4⟩ := hf
      have hj : ents[mAt es kv]? = some e := by simpa using q1
      have hnew : mNew es kv zv = es := by unfold mNew; rw [hm]
      rw [hm, hnew] at hK
      have hborn : e.born = mAt es kv := by
        have h0 : (ents.toList.map (·.born))[mAt es kv]? = some e.born := by rw [List.getElem?_map, q1]; rfl
        rw [H.rep.born] at h0
        obtain ⟨h1, h2⟩ := List.getElem?_eq_some_iff.1 h0
        simpa using h2.symm
      have hmod : es = es.modify (mAt es kv) fun x => (kv, x.2) := by
        have key : ∀ es : List (KV × AV), ∀ v0, mGet es kv = some v0 → es = es.modify (mAt es kv) fun x => (kv, x.2) := by
          intro es
          induction es with
          | nil => intro v0 h; cases h
          | cons x es ih =>
            intro v0 h
            simp only [mGet, mAt] at h ⊢
            split at h
            · rename_i ex
              rw [if_pos ex]
              show _ = (kv, x.2) :: es
              rw [← ex]
            · rename_i ex
              rw [if_neg ex]
              show _ = x :: es.modify (mAt es kv) _
              rw [← ih v0 h]
        exact key es v0 hm
      have hrun : (execOp a.eval o).run P w = .ok (.value (.tuple #[e.val, .int .i64 (mAt es kv)])) (setBlock w g (.map (ents.modify (mAt es kv) fun e => { e with key := a.eval k }) ents.size)) := by
        simp [execOp, ho, Instr.mapEntry, run_underlying ht, H.val, MapKept.run_getObj_map H.heap, c3, hck, run_findKey hkey q4, Result.andThen, hj, q2, run_keyThatStays (key_is c1), run_setObj_map _ H.heap, setBlock, goInt, hborn]
      obtain ⟨ι', R', hu⟩ := R.setBlk (b' := .map kt' es) (o' := .map (ents.modify (mAt es kv) fun e => { e with key := a.eval k }) ents.size) H.blk H.hnd H.heap H.no rfl rfl (fun S' ι' hu => .map (ents := ents.modify (mAt es kv) fun e => { e with key := a.eval k }) H.hnd (by rw [Array.size_modify]; exact (set_heap H.heap).1) (by
          have := H.rep.mod (fun e => { e with key := a.eval k }) (fun x => (kv, x.2)) (fun _ => rfl) (fun e x hx => ⟨⟨c, c1, c2⟩, hx.2⟩) (mAt es kv)
          rw [← hmod] at this
          exact this) H.no)
      exact ⟨_, _, _, σ, ι', _, .inl hrun, hK, R', tupR (by have := mAt_lt hm; omega) (vrep_up q3 _ _)⟩
  · exact h.elim
theorem findIdx_born : ∀ {l : List MapEntry} (b n : Nat), l.map (·.born) = List.range' b l.length → n < l.length → l.findIdx? (fun e => (e.born : Int) == ((b + n : Nat) : Int)) = some n
  | [], b, n, _, h => by simp at h
  | e :: l, b, n, hl, h => by
    simp only [List.map_cons, List.length_cons, List.range'_succ, List.cons.injEq] at hl
    rw [List.findIdx?_cons]
    cases n with
    | zero => rw [if_pos (by simp [hl.1])]
    | succ n =>
      rw [if_neg (by simp [hl.1]; omega)]
      have := findIdx_born (b + 1) n hl.2 (by simpa using h)
      rw [show b + (n + 1) = b + 1 + n by omega, this]
      rfl
theorem snd_entrySet {t : TypeId} {x k v : Operand} {x' k' v' : Opd} (ho : o.op = .entryStore t x k v) (hx : trOpd C.n x = some x') (hk : trOpd C.n k = some k') (hv : trOpd C.n v = some v')
    (R : Refs C σ ι s a w) (h : Kd.go P d s K (.entrySet x' k' v')) : Good P C o a w K := by
  have rx := R.ev hx
  have rk := R.ev hk
  have rv := R.ev hv
  simp only [Kd.go] at h
  split at h
  · rename_i id kt es kk n vv e1 e2 e3
    obtain ⟨⟨h0, hlt⟩, hK⟩ := h
    obtain ⟨q, rfl⟩ : ∃ q : Nat, n = q := ⟨n.toNat, by omega⟩
    simp only [Int.toNat_natCast] at hlt hK
    obtain ⟨g, ents, H⟩ := R.hasMap rx e1
    rw [e2] at rk
    obtain ⟨hek, -⟩ := vrep_int rk
    have ro := R.outV rv e3
    have hsz := H.len
    have hfi : ents.findIdx? (fun e => (e.born : Int) == (q : Int)) = some q := by
      have := findIdx_born (l := ents.toList) 0 q (by rw [H.rep.born, List.range_eq_range']) (by simp; omega)
      rw [Nat.zero_add] at this
      rw [← this]
      exact (fun (A : Array MapEntry) p => (by cases A; exact List.findIdx?_toArray _ _ : A.findIdx? p = A.toList.findIdx? p)) _ _
    have hrun : (execOp a.eval o).run P w = .ok .skip (setBlock w g (.map (ents.modify q fun e => { e with val := a.eval v }) ents.size)) := by
      simp [execOp, ho, Instr.entryStore, H.val, MapKept.run_getObj_map H.heap, hek, asInt, asIntOf, Result.andThen, hfi, run_setObj_map _ H.heap, setBlock]
    obtain ⟨ι', R', hu⟩ := R.setBlk (b' := .map kt (es.modify q fun x => (x.1, vv))) (o' := .map (ents.modify q fun e => { e with val := a.eval v }) ents.size) H.blk H.hnd H.heap H.no rfl rfl (fun S' ι' hu => .map (ents := ents.modify q fun e => { e with val := a.eval v }) H.hnd (by rw [Array.size_modify]; exact (set_heap H.heap).1) (H.rep.mod (fun e => { e with val := a.eval v }) (fun x => (x.1, vv)) (fun _ => rfl) (fun e x hx => ⟨hx.1, ro⟩) _) H.no)
    exact ⟨undef, .any, _, σ, ι', _, .inr ⟨rfl, hrun⟩, hK, R', .any⟩
  · exact h.elim
theorem snd_lenM {t key elem : TypeId} {x : Operand} {x' : Opd} (ho : o.op = .call { callee := .builtin .len, args := #[x], argTypes := #[t] }) (hx : trOpd C.n x = some x') (ht : P.underlying t = some (.map key elem)) (R : Refs C σ ι s a w) (h : Kd.go P d s K (.lenM x')) : Good P C o a w K := by
  have rx := R.ev hx
  simp only [Kd.go] at h
  split at h
  · rename_i id kt es e1
    obtain ⟨g, ents, H⟩ := R.hasMap rx e1
    refine good_val R _ _ ?_ h.2 (.one (.st (.int (inR_len h.1))))
    simp [execOp, ho, resolve, invoke, builtin, Builtin.len_, run_underlying ht, H.val, MapKept.run_getObj_map H.heap, Result.andThen, goInt, H.len]
  · exact h.elim
theorem snd_rangeM {t key elem : TypeId} {x : Operand} {x' : Opd} (ho : o.op = .range t x) (hx : trOpd C.n x = some x') (ht : P.underlying t = some (.map key elem)) (R : Refs C σ ι s a w) (h : Kd.go P d s K (.rangeM x')) : Good P C o a w K := by
  have rx := R.ev hx
  simp only [Kd.go] at h
  split at h
  · rename_i id kt es e1
    obtain ⟨hid, hK⟩ := h
    obtain ⟨g, ents, H⟩ := R.hasMap rx e1
    obtain ⟨q1, q2⟩ := mapOf_inv e1
    rw [q1] at rx
    have hrx := vrep_one rx
    rw [H.val] at hrx
    have hsz := H.len
    obtain ⟨hu, R'⟩ := R.fresh (w' := w.alloc (.mapIter (some g) es.length #[] es.length)) hid (.iter (.mptr id) es.length []) ⟨none, 0, some w.heap.size⟩ (Ext.refl _ _) (R.fit.alloc _) (More.alloc _ _) (by simp) (fun S' ι' hu => .iter (m := g) rfl (heap_alloc_new w _) (hrx.mono (fun _ _ h => h) hu) (fun p hp => R.fit.no (by omega)))
    refine ⟨.pointer (some ⟨w.heap.size, 0, none⟩), _, _, σ, _, _, .inl ?_, hK, R', .one (.ptr (b := .iter (.mptr id) es.length []) (by simp [AS.set, updE_same]) (Nat.le_refl _) rfl fun _ => ⟨w.heap.size, by simp [updE_same], by simp [ABlk.wid]⟩)⟩
    have hr := run_range_map (P := P) w t key elem g ents ents.size ht H.heap
    simp [execOp, ho, H.val, hr, Result.andThen, hsz]
  · exact h.elim
theorem iterOf_inv {S : AStore} {v : AV} {id m : Nat} {seen : List Nat} {kt : Option IntKind} {es : List (KV × AV)} (h : iterOf S v = some ((id, m, seen), kt, es)) : v = .one (.ptr id 1 0 0) ∧ S id = some (.iter (.mptr m) es.length seen) ∧ S m = some (.map kt es) := by
  unfold iterOf at h
  split at h
  · split at h
    · rename_i e1
      split at h
      · rename_i e2
        split at h
        · rename_i hl
          cases h
          exact ⟨rfl, by rw [hl]; exact e1, e2⟩
        · cases h
      · cases h
    · cases h
  · cases h
theorem Refs.hasIter (R : Refs C σ ι s a w) {v : Value} {av : AV} {id m : Nat} {seen : List Nat} {kt : Option IntKind} {es : List (KV × AV)} (hv : VRep σ s.S ι v av) (h : iterOf s.S av = some ((id, m, seen), kt, es)) :
    ∃ r g ents, v = .pointer (some ⟨r, 0, none⟩) ∧ (ι id).g = some r ∧ w.heap[r]? = some (.mapIter (some g) es.length seen.toArray es.length) ∧ ARep σ s.S ι (.map (some g)) (.mptr m) ∧ (∀ p : Addr, p.block = r → σ p = none) ∧ HasMap σ s ι w (.map (some g)) m g ents kt es := by
  obtain ⟨rfl, hS, hM⟩ := iterOf_inv h
  obtain ⟨b, hb1, hb2, hb3⟩ := arep_ptr (vrep_one hv)
  rw [hS] at hb1
  cases hb1
  obtain ⟨r, g1, g2⟩ := hb3 rfl
  have hb := R.blk _ _ hS
  cases hb with
  | @iter _ _ _ g' m' k1 k2 k3 k4 =>
  rw [k1] at g1
  cases g1
  obtain ⟨g, ents, H⟩ := R.hasMap (v := .map (some m')) (av := .one (.mptr m)) (.one k3) (show mapOf s.S _ = some (m, kt, es) by simp only [mapOf, hM])
  have := H.val
  cases this
  exact ⟨r, m', ents, by simpa [ABlk.wid] using g2, k1, k2, k3, k4, H⟩
theorem born_at {ents : Array MapEntry} {n : Nat} (hb : ents.toList.map (·.born) = List.range n) {e : MapEntry} (he : e ∈ ents.toList) : ents.toList[e.born]? = some e := by
  obtain ⟨j, hj⟩ := List.getElem?_of_mem he
  have h0 : (ents.toList.map (·.born))[j]? = some e.born := by rw [List.getElem?_map, hj]; rfl
  rw [hb] at h0
  obtain ⟨h1, h2⟩ := List.getElem?_eq_some_iff.1 h0
  have : e.born = j := by simpa using h2.symm
  rw [this]
  exact hj
theorem snd_next {x : Operand} {x' : Opd} (ho : o.op = .next x false) (hx : trOpd C.n x = some x') (R : Refs C σ ι s a w) (h : Kd.go P d s K (.next x')) : Good P C o a w K := by
  have rx := R.ev hx
  simp only [Kd.go] at h
  split at h
  · rename_i id m seen kt es e1
    obtain ⟨r, g, ents, v1, v2, v3, v4, v5, H⟩ := R.hasIter rx e1
    obtain ⟨-, hS, hM⟩ := iterOf_inv e1
    have hsz := H.len
    have hbn := H.rep.born
    have hmem : ∀ e ∈ ents.toList, e.born < es.length := fun e he => by
      have := born_at hbn he
      have := (List.getElem?_eq_some_iff.1 this).1
      simp at this
      omega
    rcases run_next_at (P := P) w o.type r g es.length es.length seen.toArray ents ents.size v3 H.heap hmem (Nat.le_refl _) with ⟨h0, hrun⟩ | ⟨e, he, w1, hw1, hrun⟩
    · refine good_val R (.tuple #[.bool false]) _ ?_ (h.1 fun j hj => ?_) (.tup (fun _ => .bool false) rfl (fun j b hb => by
          match j, hb with
          | 0, hb => rfl) (fun j b hb => by
          match j, hb with
          | 0, hb => cases hb; exact .one (.st .bool)))
      · simp [execOp, ho, v1, hrun, Result.andThen]
      · obtain ⟨e, he⟩ : ∃ e, ents.toList[j]? = some e := ⟨_, List.getElem?_eq_getElem (by simp; omega)⟩
        have hb : e.born = j := by
          have h0 : (ents.toList.map (·.born))[j]? = some e.born := by rw [List.getElem?_map, he]; rfl
          rw [hbn] at h0
          obtain ⟨h1, h2⟩ := List.getElem?_eq_some_iff.1 h0
          simpa using h2.symm
        have hl : leftOf ents seen.toArray = #[] := Array.eq_empty_of_size_eq_zero h0
        unfold leftOf at hl
        rw [Array.filter_eq_empty_iff] at hl
        have := hl e (by simpa using List.mem_of_getElem? he)
        rw [hb] at this
        simpa using this
    · have he0 : e ∈ ents.toList ∧ e.born ∉ seen := by
        unfold leftOf at he
        simpa using he
      have hat := born_at hbn he0.1
      obtain ⟨x1, hx1, hr1⟩ := H.rep.all.get' hat
      obtain ⟨⟨c, c1, c2⟩, c3⟩ := hr1
      have hK := h.2 _ _ c hx1 he0.2 c1
      have R1 : Refs C σ ι s a w1 := by rcases hw1 with rfl | rfl; exact R; exact R.drew
      have v3' : w1.heap[r]? = some (.mapIter (some g) es.length seen.toArray es.length) := by rcases hw1 with rfl | rfl; exact v3; exact v3
      obtain ⟨ι', R', hu⟩ := R1.setBlk (b' := .iter (.mptr m) es.length (seen ++ [e.born])) (o' := .mapIter (some g) es.length (seen.toArray.push e.born) ents.size) hS v2 v3' v5 rfl rfl (fun S' ι' hu => .iter (m := g) v2 (by rw [(set_heap v3').1, hsz]; simp) (v4.mono (fun _ _ h => h) hu) v5)
      refine ⟨.tuple #[.bool true, e.key, e.val], _, _, σ, ι', _, .inl ?_, hK, R', .tup (fun j => if j = 0 then .bool true else if j = 1 then e.key else e.val) rfl (fun j b hb => by
          match j, hb with
          | 0, hb => rfl
          | 1, hb => rfl
          | 2, hb => rfl) (fun j b hb => by
          match j, hb with
          | 0, hb => cases hb; exact .one (.st .bool)
          | 1, hb => cases hb; exact .one (.st c2)
          | 2, hb => cases hb; exact vrep_up c3 _ _)⟩
      simp [execOp, ho, v1, hrun, Result.andThen]
  · exact h.elim
theorem snd_entry {x : Operand} {x' : Opd} (ho : o.op = .entry x) (hx : trOpd C.n x = some x') (R : Refs C σ ι s a w) (h : Kd.go P d s K (.entry x')) : Good P C o a w K := by
  have rx := R.ev hx
  simp only [Kd.go] at h
  split at h
  · rename_i id m seen kt es e1
    split at h
    · rename_i j e2
      split at h
      · rename_i y e3
        split at h
        · rename_i c e4
          obtain ⟨r, g, ents, v1, v2, v3, v4, v5, H⟩ := R.hasIter rx e1
          have hsz := H.len
          obtain ⟨e, he, hr⟩ := H.rep.all.get e3
          obtain ⟨⟨c', c1, c2⟩, c3⟩ := hr
          rw [e4] at c1
          cases c1
          have hb : e.born = j := by
            have h0 : (ents.toList.map (·.born))[j]? = some e.born := by rw [List.getElem?_map, he]; rfl
            rw [H.rep.born] at h0
            obtain ⟨h1, h2⟩ := List.getElem?_eq_some_iff.1 h0
            simpa using h2.symm
          obtain ⟨seen0, rfl⟩ : ∃ l, seen = l ++ [j] := by
            rw [List.getLast?_eq_some_iff] at e2
            exact e2
          have hrun := run_entry_at (P := P) w r g es.length seen0.toArray ents ents.size e (by rw [v3, hsz, hb]; simp) H.heap (List.mem_of_getElem? he) (by rw [H.rep.born]; exact List.nodup_range)
          refine good_val R (.tuple #[e.key, e.val]) _ ?_ h (.tup (fun j => if j = 0 then e.key else e.val) rfl (fun j b hb => by
              match j, hb with
              | 0, hb => rfl
              | 1, hb => rfl) (fun j b hb => by
              match j, hb with
              | 0, hb => cases hb; exact .one (.st c2)
              | 1, hb => cases hb; exact vrep_up c3 _ _))
          simp [execOp, ho, v1, hrun, Result.andThen]
        · exact h.elim
      · exact h.elim
    · exact h.elim
  · exact h.elim
end
end Go.Proofs.Ytpajlfdhmjgpnaa

namespace Go.Proofs.Ytpajlfdhmjgpnaa
open Go Go.RowKit Go.MapKept
set_option linter.unusedVariables false
set_option linter.unusedSimpArgs false

/-- A pair of pointers. -/
def pairV (a b : Addr) : Value := .agg #[.pointer (some a), .pointer (some b)]
/-- The block of an address holds plain cells. -/
def Plain (w : World) (a : Addr) : Prop := ∃ cs t, w.heap[a.block]? = some (.cells cs t (0, 0))
structure PairKey (P : Program) (k e el : TypeId) (i j : TypeInfo) : Prop where
  arr : P.underlying k = some (.array 2 e)
  ptr : P.underlying e = some (.pointer el)
  info : P.info? e = some i
  size : i.size = 1
  elem : P.info? el = some j
  some : j.size ≠ 0
section
variable {P : Program} {k e el : TypeId} {i j : TypeInfo} (w : World)
theorem run_partPtr (A : PairKey P k e el i j) {xs : Array Value} {off : Nat} {v : Value} (hx : xs[off]? = some v) : (part e xs off).run P w = .ok v w := by
  simp [part, isAgg, run_underlying A.ptr, hx]
theorem run_part0 (A : PairKey P k e el i j) (x y : Value) : (part e #[x, y] 0).run P w = .ok x w := run_partPtr w A rfl
theorem run_part1 (A : PairKey P k e el i j) (x y : Value) : (part e #[x, y] 1).run P w = .ok y w := run_partPtr w A rfl
theorem run_eqPtr (A : PairKey P k e el i j) (d : Nat) {a b : Addr} (ha : Plain w a) (hb : Plain w b) : (Op.equalIn (d + 1) e (.pointer (some a)) (.pointer (some b))).run P w = .ok (decide (a = b)) w := by
  have h0 : (Op.equalIn (d + 1) e (.pointer (some a)) (.pointer (some b))).run P w = (sameAddr a b).run P w := by
    simp [Op.equalIn, run_underlying A.ptr, sizeOf, typeInfo, A.elem, A.some]
  rw [h0]
  by_cases hne : a = b
  · subst hne
    rw [run_sameAddr_same]
    simp
  · obtain ⟨ca, ta, ha⟩ := ha
    obtain ⟨cb, tb, hb⟩ := hb
    rw [run_sameAddr_other w hne ha hb]
    simp [hne]
theorem run_eqPair (A : PairKey P k e el i j) {a b a' b' : Addr} (ha : Plain w a) (hb : Plain w b) (ha' : Plain w a') (hb' : Plain w b') :
    (Op.equal k (pairV a b) (pairV a' b')).run P w = .ok (decide (a = a' ∧ b = b')) w := by
  have hc : P.cellsOf e = 1 := by simp [Program.cellsOf, A.info, A.size]
  have e1 : (Op.equalIn 9999 e (.pointer (some a)) (.pointer (some a'))).run P w = .ok (decide (a = a')) w := run_eqPtr w A 9998 ha ha'
  have e2 : (Op.equalIn 9999 e (.pointer (some b)) (.pointer (some b'))).run P w = .ok (decide (b = b')) w := run_eqPtr w A 9998 hb hb'
  unfold Op.equal pairV
  rw [show Op.maxDepth = 9999 + 1 from rfl, run_equalIn_array w 9999 _ _ A.arr A.info, hc]
  rw [show List.range 2 = [0, 1] from rfl]
  simp only [Op.eqItems, Nat.zero_mul, Nat.one_mul, Sem.run_bind, run_part0 w A, run_part1 w A, Result.andThen_ok, e1, e2]
  by_cases h1 : a = a'
  · have e3 : decide (a = a') = true := by simp [h1]
    rw [e3]
    simp only [h1, true_and]
    by_cases h2 : b = b'
    · subst h2
      simp [run_part1 w A, e2, Result.andThen]
    · simp [run_part1 w A, e2, h2, Result.andThen]
  · simp [h1]
theorem run_checkPair (A : PairKey P k e el i j) (em : Bool) (a b : Addr) : (Instr.checkKey em 10000 k (pairV a b)).run P w = .ok () w := by
  have hc : P.cellsOf e = 1 := by simp [Program.cellsOf, A.info, A.size]
  have e0 : ∀ a : Addr, (Instr.checkKey em 9999 e (.pointer (some a))).run P w = .ok () w := fun a => by
    rw [show (9999 : Nat) = 9998 + 1 from rfl, Instr.checkKey]
    simp [run_underlying A.ptr]
  unfold pairV
  rw [show (10000 : Nat) = 9999 + 1 from rfl, Instr.checkKey]
  simp only [Sem.run_bind, run_underlying A.arr, Result.andThen_ok]
  simp only [Std.Legacy.Range.forIn_eq_forIn_range', Std.Legacy.Range.size, Nat.sub_zero, Nat.add_one_sub_one, Nat.div_one]
  rw [show List.range' 0 2 = [0, 1] from rfl]
  simp only [List.forIn_cons, List.forIn_nil, Sem.run_bind, run_sizeOf w A.info, hc, Nat.zero_mul, Nat.one_mul, Result.andThen_ok, run_part0 w A, run_part1 w A, e0, Sem.run_pure]
/-- Looking a pair up. -/
theorem run_findPair (A : PairKey P k e el i j) {a b : Addr} (ha : Plain w a) (hb : Plain w b) : ∀ (es : List MapEntry) (n : Nat), (∀ x ∈ es, ∃ a' b', x.key = pairV a' b' ∧ Plain w a' ∧ Plain w b') →
    (Instr.findAsking k (pairV a b) es n).run P w = .ok none w ∨ ∃ m x, (Instr.findAsking k (pairV a b) es n).run P w = .ok (some (n + m, x.val)) w ∧ es[m]? = some x ∧ x.key = pairV a b
  | [], n, _ => .inl (by simp [Instr.findAsking])
  | x :: es, n, h => by
    obtain ⟨a', b', hk, pa, pb⟩ := h x (by simp)
    have he := run_eqPair w A ha hb pa pb
    by_cases hab : a = a' ∧ b = b'
    · obtain ⟨rfl, rfl⟩ := hab
      exact .inr ⟨0, x, by simp [Instr.findAsking, hk, he, Result.andThen], rfl, hk⟩
    · rcases run_findPair A ha hb es (n + 1) (fun y hy => h y (by simp [hy])) with h1 | ⟨m, y, h1, h2, h3⟩
      · exact .inl (by simp [Instr.findAsking, hk, he, hab, h1, Result.andThen])
      · exact .inr ⟨m + 1, y, by simp [Instr.findAsking, hk, he, hab, h1, Nat.add_assoc, Nat.add_comm 1 m, Result.andThen], by simpa using h2, h3⟩
theorem run_findPairKey (A : PairKey P k e el i j) {a b : Addr} (ha : Plain w a) (hb : Plain w b) (es : List MapEntry) (h : ∀ x ∈ es, ∃ a' b', x.key = pairV a' b' ∧ Plain w a' ∧ Plain w b') :
    (Instr.findKey k (pairV a b) es).run P w = .ok none w ∨ ∃ m x, (Instr.findKey k (pairV a b) es).run P w = .ok (some (m, x.val)) w ∧ es[m]? = some x ∧ x.key = pairV a b := by
  rw [run_findKey_eq w (by rw [A.arr]) (pairV a b) es]
  rcases run_findPair w A ha hb es 0 h with h1 | ⟨m, x, h1, h2, h3⟩
  · exact .inl h1
  · exact .inr ⟨m, x, by rw [h1, Nat.zero_add], h2, h3⟩
theorem run_pairStays (a b : Addr) : (Instr.keyThatStays (pairV a b) (pairV a b)).run P w = .ok (pairV a b) w := by
  have h : Instr.sameBits 10000 (pairV a b) (pairV a b) = true := by
    unfold pairV
    rw [show (10000 : Nat) = 9999 + 1 from rfl, Instr.sameBits]
    simp [Instr.sameBits]
  simp [Instr.keyThatStays, h]
end
end Go.Proofs.Ytpajlfdhmjgpnaa

namespace Go.Proofs.Ytpajlfdhmjgpnaa
open Go Go.RowKit Go.MapKept
open Go.ChangeMaps (setBlock)
set_option linter.unusedVariables false
set_option maxHeartbeats 400000
set_option linter.unusedSimpArgs false

section
variable {P : Program} {C : Ctx} {o : Oper} {a : Act} {w : World} {K : AV → AS → Prop} {σ : Sto} {ι : AHnd} {s : AS} {d : Nat}
theorem memoOf_inv {S : AStore} {v : AV} {id : Nat} {f : List SV → List SV → SV → Prop} (h : memoOf S v = some (id, f)) : v = .one (.mptr id) ∧ S id = some (.memo f) := by
  unfold memoOf at h
  split at h
  · split at h
    · rename_i e1
      cases h
      exact ⟨rfl, e1⟩
    · cases h
  · cases h
/-- A pair of pointers: where they lead. -/
theorem pairOf_inv {v : Value} {S : AStore} {av : AV} {cs ds : List SV} (hv : VRep σ S ι v av) (h : pairOf av = some (cs, ds)) : ∃ v1 v2, v = .agg #[v1, v2] ∧ ARep σ noS noH v1 (.eptr cs) ∧ ARep σ noS noH v2 (.eptr ds) ∧ 2 ≤ cs.length ∧ 2 ≤ ds.length := by
  unfold pairOf at h
  split at h
  · split at h
    · rename_i hl
      cases h
      cases hv with
      | @agg xs _ h1 =>
        have hsz := h1.len
        obtain ⟨v1, e1, r1⟩ := h1.get (j := 0) rfl
        obtain ⟨v2, e2, r2⟩ := h1.get (j := 1) rfl
        refine ⟨v1, v2, ?_, ?_, ?_, hl.1, hl.2⟩
        · congr 1
          apply Array.ext'
          match hx : xs.toList, hsz, e1, e2 with
          | [a, b], _, e1, e2 =>
            simp at e1 e2
            rw [e1, e2]
        · cases r1 with | eptr c k1 k2 k3 => exact .eptr c k1 k2 k3
        · cases r2 with | eptr c k1 k2 k3 => exact .eptr c k1 k2 k3
    · cases h
  · cases h
/-- Where a pointer to what stays leads: plain memory. -/
theorem eptr_plain (hh : hardRows = true) (hf : Fit σ w) {v : Value} {cs : List SV} (h : ARep σ noS noH v (.eptr cs)) (h2 : 2 ≤ cs.length) : ∃ p : Addr, v = .pointer (some p) ∧ Plain w p := by
  obtain ⟨b, oo, hv, c, k1, k2, k3⟩ := arep_eptrH h
  obtain ⟨cc, t, e, _⟩ := look_hardIs (hf _ _ (k3 hh h2))
  exact ⟨_, hv, cc, t, e⟩
theorem eptr_twin {v : Value} {cs cs' : List SV} (h : ARep σ noS noH v (.eptr cs)) (h' : ARep σ noS noH v (.eptr cs')) : Twin cs cs' := by
  obtain ⟨b, oo, hv, c, k1, k2⟩ := arep_eptr h
  obtain ⟨b', oo', hv', c', q1, q2⟩ := arep_eptr h'
  rw [hv] at hv'
  cases hv'
  refine ⟨σ, fun j => (σ ⟨b, oo + j, none⟩).getD undef, fun j x hx => ?_, fun j x hx => ?_⟩
  · simp only [k1 j x hx, Option.getD_some]
    exact k2 j x hx
  · simp only [q1 j x hx, Option.getD_some]
    exact q2 j x hx
structure HasMemo (σ : Sto) (s : AS) (ι : AHnd) (w : World) (v : Value) (id g : Nat) (ents : Array MapEntry) (f : List SV → List SV → SV → Prop) : Prop where
  val : v = .map (some g)
  hnd : (ι id).g = some g
  heap : w.heap[g]? = some (.map ents ents.size)
  rep : MemoRep σ f ents.toList
  blk : s.S id = some (.memo f)
  no : ∀ p : Addr, p.block = g → σ p = none
theorem Refs.hasMemo (R : Refs C σ ι s a w) {v : Value} {av : AV} {id : Nat} {f : List SV → List SV → SV → Prop} (hv : VRep σ s.S ι v av) (h : memoOf s.S av = some (id, f)) : ∃ g ents, HasMemo σ s ι w v id g ents f := by
  obtain ⟨rfl, hS⟩ := memoOf_inv h
  have hb := R.blk _ _ hS
  cases hb with
  | @memo _ g ents h1 h2 h3 h4 =>
  cases vrep_one hv with
  | mptr k1 k2 k3 k4 =>
  rw [hS] at k1
  cases k1
  obtain ⟨g', q1, q2⟩ := k4 rfl
  rw [h1] at q1
  cases q1
  exact ⟨g, ents, q2, h1, h2, h3, hS, h4⟩
theorem HasMemo.keys {v : Value} {id g : Nat} {ents : Array MapEntry} {f : List SV → List SV → SV → Prop} (H : HasMemo σ s ι w v id g ents f) (hh : hardRows = true) (hf : Fit σ w) : ∀ x ∈ ents.toList, ∃ a' b', x.key = pairV a' b' ∧ Plain w a' ∧ Plain w b' := fun x hx => by
  obtain ⟨v1, v2, cs, ds, y, h1, h2, h3, h4, h5, h6, h7⟩ := H.rep x hx
  obtain ⟨p, rfl, hp⟩ := eptr_plain hh hf h2 h4
  obtain ⟨q, rfl, hq⟩ := eptr_plain hh hf h3 h5
  exact ⟨p, q, h1, hp, hq⟩

theorem snd_makeMemo {t : TypeId} (ho : o.op = .makeMap t none) (R : Refs C σ ι s a w) (h : Kd.go P d s K .makeMemo) : Good P C o a w K := by
  simp only [Kd.go] at h
  obtain ⟨hid, hK⟩ := h
  obtain ⟨hu, R'⟩ := R.fresh (w' := w.alloc (.map #[] 0)) hid (.memo fun _ _ _ => False) ⟨none, 0, some w.heap.size⟩ (Ext.refl _ _) (R.fit.alloc _) (More.alloc _ _) (by simp) (fun S' ι' hu => .memo (ents := #[]) rfl (heap_alloc_new w _) (fun e he => by simp at he) (fun p hp => R.fit.no (by omega)))
  refine ⟨.map (some w.heap.size), _, _, σ, _, _, .inl (by simp [execOp, ho, Instr.makeMap, newObj, Sem.run]), hK, R', .one (.mptr (b := .memo fun _ _ _ => False) (by simp [AS.set, updE_same]) (Nat.le_refl _) rfl fun _ => ⟨w.heap.size, by simp [updE_same], rfl⟩)⟩
theorem snd_memoGet {t key elem e el : TypeId} {i j i1 : TypeInfo} {z : Value} {zv : AV} {x k : Operand} {x' k' : Opd} {ok : Bool} (ho : o.op = .lookup t x k ok) (hx : trOpd C.n x = some x') (hk : trOpd C.n k = some k') (ht : P.underlying t = some (.map key elem)) (A : PairKey P key e el i1 j) (hi : P.info? elem = some i) (hz : i.zero = some z) (hzv : ofVal z = some zv)
    (R : Refs C σ ι s a w) (h : Kd.go P d s K (.memoGet ok zv x' k')) : Good P C o a w K := by
  have rx := R.ev hx
  have rk := R.ev hk
  simp only [Kd.go] at h
  split at h
  · rename_i id f cs ds e1 e2
    obtain ⟨hh, hmiss, hhit⟩ := h
    obtain ⟨g, ents, H⟩ := R.hasMemo rx e1
    obtain ⟨v1, v2, hv, r1, r2, l1, l2⟩ := pairOf_inv rk e2
    obtain ⟨p, rfl, hp⟩ := eptr_plain hh R.fit r1 l1
    obtain ⟨q, rfl, hq⟩ := eptr_plain hh R.fit r2 l2
    have hv' : a.eval k = pairV p q := hv
    have hck := fun em => run_checkPair w A em p q
    rcases run_findPairKey w A hp hq ents.toList (H.keys hh R.fit) with hf | ⟨m, y, hf, hy, hyk⟩
    · refine good_val R (if ok then .tuple #[z, .bool false] else z) _ ?_ hmiss ?_
      · simp [execOp, ho, Instr.lookup, run_underlying ht, H.val, MapKept.run_getObj_map H.heap, hv', hck, hf, zeroValue, typeInfo, hi, hz, Result.andThen]
      · cases ok with
        | false => exact ofVal_rep hzv
        | true => exact .tup (fun j => if j = 0 then z else .bool false) rfl (fun j b hb => by
            match j, hb with
            | 0, hb => rfl
            | 1, hb => rfl) (fun j b hb => by
            match j, hb with
            | 0, hb => cases hb; exact ofVal_rep hzv
            | 1, hb => cases hb; exact .one (.st .bool))
    · obtain ⟨u1, u2, cs', ds', x1, q1, q2, q3, q4, q5, q6, q7⟩ := H.rep y (List.mem_of_getElem? hy)
      rw [hyk] at q1
      obtain ⟨rfl, rfl⟩ : Value.pointer (some p) = u1 ∧ Value.pointer (some q) = u2 := by
        unfold pairV at q1
        simpa using q1
      have hK := hhit cs' ds' x1 (eptr_twin r1 q2) (eptr_twin r2 q3) q7
      refine good_val R (if ok then .tuple #[y.val, .bool true] else y.val) _ ?_ hK ?_
      · simp [execOp, ho, Instr.lookup, run_underlying ht, H.val, MapKept.run_getObj_map H.heap, hv', hck, hf, Result.andThen]
      · cases ok with
        | false => exact .one (.st q6)
        | true => exact .tup (fun j => if j = 0 then y.val else .bool true) rfl (fun j b hb => by
            match j, hb with
            | 0, hb => rfl
            | 1, hb => rfl) (fun j b hb => by
            match j, hb with
            | 0, hb => cases hb; exact .one (.st q6)
            | 1, hb => cases hb; exact .one (.st .bool))
  · exact h.elim
/-- What is told of the entries may be told more weakly. -/
theorem MemoRep.weak {f f' : List SV → List SV → SV → Prop} {ents : List MapEntry} (h : MemoRep σ f ents) (hf : ∀ cs ds x, f cs ds x → f' cs ds x) : MemoRep σ f' ents := fun e he => by
  obtain ⟨v1, v2, cs, ds, x, h1, h2, h3, h4, h5, h6, h7⟩ := h e he
  exact ⟨v1, v2, cs, ds, x, h1, h2, h3, h4, h5, h6, hf _ _ _ h7⟩
theorem MemoRep.put {f : List SV → List SV → SV → Prop} {ents : Array MapEntry} (h : MemoRep σ f ents.toList) {e : MapEntry} (he : ∃ v1 v2 cs ds x, e.key = .agg #[v1, v2] ∧ ARep σ noS noH v1 (.eptr cs) ∧ ARep σ noS noH v2 (.eptr ds) ∧ 2 ≤ cs.length ∧ 2 ≤ ds.length ∧ SRep σ e.val x ∧ f cs ds x) : MemoRep σ f (ents.push e).toList := fun y hy => by
  rw [Array.toList_push, List.mem_append, List.mem_singleton] at hy
  rcases hy with hy | rfl
  · exact h y hy
  · exact he
theorem mem_modify {α : Type} {g : α → α} {x : α} : ∀ {l : List α} {m : Nat}, x ∈ l.modify m g → x ∈ l ∨ ∃ y, l[m]? = some y ∧ x = g y
  | [], m, h => by simp at h
  | y :: l, 0, h => by
    simp only [List.modify_zero_cons, List.mem_cons] at h
    rcases h with rfl | h
    · exact .inr ⟨y, rfl, rfl⟩
    · exact .inl (by simp [h])
  | y :: l, m + 1, h => by
    simp only [List.modify_succ_cons, List.mem_cons] at h
    rcases h with rfl | h
    · exact .inl (by simp)
    · rcases mem_modify h with h | ⟨u, h1, h2⟩
      · exact .inl (by simp [h])
      · exact .inr ⟨u, by simpa using h1, h2⟩
theorem snd_memoSet {t key elem e el : TypeId} {i1 j : TypeInfo} {x k v : Operand} {x' k' v' : Opd} (ho : o.op = .mapUpdate t x k v ∨ o.op = .insert t x k v) (hx : trOpd C.n x = some x') (hk : trOpd C.n k = some k') (hv : trOpd C.n v = some v') (ht : P.underlying t = some (.map key elem)) (A : PairKey P key e el i1 j)
    (R : Refs C σ ι s a w) (h : Kd.go P d s K (.memoSet x' k' v')) : Good P C o a w K := by
  have rx := R.ev hx
  have rk := R.ev hk
  have rv := R.ev hv
  simp only [Kd.go] at h
  split at h
  · rename_i id f cs ds x1 e1 e2 e3
    obtain ⟨hh, hfx, hK⟩ := h
    obtain ⟨g, ents, H⟩ := R.hasMemo rx e1
    obtain ⟨v1, v2, hkv, r1, r2, l1, l2⟩ := pairOf_inv rk e2
    obtain ⟨p, rfl, hp⟩ := eptr_plain hh R.fit r1 l1
    obtain ⟨q, rfl, hq⟩ := eptr_plain hh R.fit r2 l2
    have hv' : a.eval k = pairV p q := hkv
    rw [e3] at rv
    have hr : SRep σ (a.eval v) x1 := arep_st (vrep_one rv)
    have hck := fun em => run_checkPair w A em p q
    have hex : execOp a.eval o = (do Instr.mapUpdate t (a.eval x) (a.eval k) (a.eval v); pure .skip) := by
      rcases ho with ho | ho <;> simp [execOp, ho]
    have hrun : ∃ ents', (execOp a.eval o).run P w = .ok .skip (setBlock w g (.map ents' ents'.size)) ∧ MemoRep σ f ents'.toList := by
      rcases run_findPairKey w A hp hq ents.toList (H.keys hh R.fit) with hf | ⟨m, y, hf, hy, hyk⟩
      · refine ⟨ents.push { key := a.eval k, val := a.eval v, born := ents.size }, ?_, H.rep.put ⟨_, _, cs, ds, x1, hkv, r1, r2, l1, l2, hr, hfx⟩⟩
        rw [hex]
        simp [Instr.mapUpdate, run_underlying ht, H.val, MapKept.run_getObj_map H.heap, hv', hck, hf, Result.andThen, run_setObj_map _ H.heap, setBlock]
      · have hj : ents[m]? = some y := by simpa using hy
        refine ⟨ents.modify m fun e => { e with key := a.eval k, val := a.eval v }, ?_, fun u hu => ?_⟩
        · rw [hex]
          simp [Instr.mapUpdate, run_underlying ht, H.val, MapKept.run_getObj_map H.heap, hv', hck, hf, Result.andThen, hj, hyk, run_pairStays w p q, run_setObj_map _ H.heap, setBlock]
        · rw [Array.toList_modify] at hu
          rcases mem_modify hu with hu | ⟨y', h1, rfl⟩
          · exact H.rep u hu
          · exact ⟨_, _, cs, ds, x1, hkv, r1, r2, l1, l2, hr, hfx⟩
    obtain ⟨ents', q1, q2⟩ := hrun
    obtain ⟨ι', R', hu⟩ := R.setBlk (b' := .memo f) (o' := .map ents' ents'.size) H.blk H.hnd H.heap H.no rfl rfl (fun S' ι' hu => .memo H.hnd (set_heap H.heap).1 q2 H.no)
    have hs : s.set id (.memo f) = s := by
      unfold AS.set
      congr 1
      funext i
      unfold updE
      split
      · rename_i e4; rw [e4, H.blk]
      · rfl
    rw [hs] at R'
    exact ⟨undef, .any, _, σ, ι', _, .inr ⟨rfl, q1⟩, hK, R', .any⟩
  · exact h.elim
end
end Go.Proofs.Ytpajlfdhmjgpnaa
