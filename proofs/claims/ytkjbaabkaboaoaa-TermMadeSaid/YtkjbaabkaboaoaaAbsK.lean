/-
  From the model's operations to abstract ones, and that these say what those do.
  Conditions: none.
-/
import Derived.Test.YtkjbaabkaboaoaaAbsJ
namespace Go.Proofs.Ytkjbaabkaboaoaa
open Go Go.RowKit
set_option linter.unusedVariables false
set_option maxHeartbeats 400000

def sizeG (P : Program) (t : TypeId) : Option (Bool × Nat) := match P.underlying t, P.info? t with
  | some d, some i => some (isAggD d, if isAggD d then i.size else 1)
  | _, _ => none
def plainF (P : Program) (f : FuncId) : Bool := match P.funcs[f]? with
  | some fn => !(fn.name == "runtime.NumGoroutine") && fn.body.isSome
  | none => false
def trCall (P : Program) (n : Nat) (mu : List Nat) (dst : Option Nat) (c : Call) : Option Kd := match c.callee with
  | .builtin .len => match c.args.toList, c.argTypes.toList with
    | [x], [t] => match trOpd n x, P.underlying t with
      | some x', some .string => some (.len true x')
      | some x', some (.slice _) => some (.len false x')
      | _, _ => none
    | _, _ => none
  | .builtin .append => match c.args.toList, c.argTypes.toList with
    | [x, y], [t, t'] => match trOpd n x, trOpd n y, P.underlying t with
      | some x', some y', some (.slice e) => match P.info? e with
        | some i => match i.zero with
          | some z => if t = t' ∧ z.cells.size = i.size ∧ 0 < i.size then some (.append (match dst with | some d => mu.contains d | none => false) e i.size i.bytes x' y') else none
          | none => none
        | none => none
      | _, _, _ => none
    | _, _ => none
  | .value (.func f) => if plainF P f then (trOpds n c.args.toList).map (.call f) else none
  | _ => none
def trKd (P : Program) (n : Nat) (mu : List Nat) (dst : Option Nat) : Op → Option Kd
  | .move x => (trOpd n x).map .mov
  | .assign x => (trOpd n x).map .mov
  | .pick c x y => match trOpd n c, trOpd n x, trOpd n y with
    | some c', some x', some y' => some (.pick c' x' y')
    | _, _, _ => none
  | .alloc e => match P.info? e with
    | some i => match i.zero with
      | some z => (ofCells z.cells.toList).map (.alloc e)
      | none => none
    | none => none
  | .box e x => (trOpd n x).map (.box e)
  | .build t ps => match P.info? t, P.underlying t with
    | some it, some (.struct fs) => match it.zero, fs.toList.mapM (fun f => (P.info? f.type).map fun i => (f.offset, i.size)) with
      | some z, some places => match trParts n places ps.toList, ofCells z.cells.toList with
        | some ps', some cs => some (.build cs ps')
        | _, _ => none
      | _, _ => none
    | _, _ => none
  | .buildSlice t len ps => match P.underlying t with
    | some (.slice e) => match P.info? e with
      | some ie => match ie.zero, trEls n 0 ps.toList with
        | some z, some xs => if len * ie.size ≤ 2 ^ 24 ∧ 0 < ie.size ∧ ps.size = len then some (.buildSlice (match dst with | some d => mu.contains d | none => false) e ie.size xs) else none
        | _, _ => none
      | none => none
    | _ => none
  | .load t x => match sizeG P t, trOpd n x with
    | some (g, k), some x' => some (.load g k x')
    | _, _ => none
  | .store t x v => match P.info? t, trOpd n x, trOpd n v with
    | some i, some x', some v' => some (.store i.size x' v')
    | _, _, _ => none
  | .fieldAddr t x f => match P.underlying t, trOpd n x with
    | some (.struct fs), some x' => match fs[f]? with
      | some fd => match P.info? fd.type with
        | some i => if i.size ≠ 0 then some (.fieldAddr fd.offset x') else none
        | none => none
      | none => none
    | _, _ => none
  | .field t x f => match P.underlying t, trOpd n x with
    | some (.struct fs), some x' => match fs[f]? with
      | some fd => match sizeG P fd.type with
        | some (g, k) => some (.field g fd.offset k x')
        | none => none
      | none => none
    | _, _ => none
  | .indexAddr t x y => match P.underlying t, trOpd n x, trOpd n y with
    | some (.slice e), some x', some y' => match P.info? e with
      | some i => some (.indexAddr i.size x' y')
      | none => none
    | _, _, _ => none
  | .index t x y => match P.underlying t, trOpd n x, trOpd n y with
    | some .string, some x', some y' => some (.indexStr x' y')
    | _, _, _ => none
  | .binOp op t x y _ => match trOpd n x, trOpd n y with
    | some x', some y' => match P.underlying t, op with
      | some .bool, .eql => some (.eqB false x' y')
      | some .bool, .neq => some (.eqB true x' y')
      | _, _ => some (.bin op x' y')
    | _, _ => none
  | .unOp op _ x => (trOpd n x).map (.un op)
  | .convert src dst x => match P.underlying src, P.underlying dst, trOpd n x with
    | some _, some (.int k), some x' => some (.conv k x')
    | _, _, _ => none
  | .slice t x lo hi none => match P.underlying t, trOpd n x, trOptOpd n lo, trOptOpd n hi with
    | some .string, some x', some lo', some hi' => some (.sliceS x' lo' hi')
    | some (.slice e), some x', some lo', some hi' => match P.info? e with
      | some i => some (.sliceL i.size x' lo' hi')
      | none => none
    | _, _, _, _ => none
  | .extract x i => (trOpd n x).map (.extract i)
  | .nilCheck x => (trOpd n x).map .nilCheck
  | .call c => trCall P n mu dst c
  | _ => none
def trGuard (n : Nat) (ops : List Oper) : Option (Nat × Bool) → Option (Option (Nat × Bool))
  | none => some none
  | some (j, want) => match ops[j]? with
    | some o => match o.dst with
      | some t => if t < n then some (some (t, want)) else none
      | none => none
    | none => none
def trIns (P : Program) (n : Nat) (mu : List Nat) (ops : List Oper) (o : Oper) : Option Ins := match trGuard n ops o.guard, trKd P n mu o.dst o.op with
  | some g, some k => some ⟨o.dst, g, k⟩
  | _, _ => none
def trAll (P : Program) (n : Nat) (mu : List Nat) (ops : List Oper) : List Oper → Option (List Ins)
  | [] => some []
  | o :: os => match trIns P n mu ops o, trAll P n mu ops os with
    | some i, some is => some (i :: is)
    | _, _ => none

section
variable {P : Program} {C : Ctx} {o : Oper} {a : Act} {w : World} {σ : Sto} {ι : AHnd} {s : AS} {d : Nat}
/-- What holds of the frame and the world behind an operation. -/
def Holds (C : Ctx) (s : AS) (a : Act) (w : World) : Prop := ∃ σ ι, Refs C σ ι s a w

theorem sizeG_spec {t : TypeId} {g : Bool} {k : Nat} (h : sizeG P t = some (g, k)) : ∃ dd i, P.underlying t = some dd ∧ P.info? t = some i ∧ g = isAggD dd ∧ k = if g then i.size else 1 := by
  unfold sizeG at h
  split at h
  · rename_i dd i e1 e2
    simp only [Option.some.injEq, Prod.mk.injEq] at h
    obtain ⟨rfl, rfl⟩ := h
    exact ⟨dd, i, e1, e2, rfl, rfl⟩
  · cases h
/-- A call of a function that leaves the call's own blocks alone. -/
theorem snd_call {f : FuncId} {xs : Array Operand} {ts : Array TypeId} {xs' : List Opd} {K : AV → AS → Prop} {next : Act → World → Prop} {Q : Exit → Act → World → Prop} (ho : o.op = .call { callee := .value (.func f), args := xs, argTypes := ts }) (hf : plainF P f = true) (hx : trOpds C.n xs.toList = some xs')
    (R : Refs C σ ι s a w) (h : Kd.go P d s K (.call f xs')) (hn : ∀ av s' a' w', K av s' → Holds C (s'.put o.dst av) a' w' → next a' w') : o.wp P a w next Q := by
  simp only [Kd.go] at h
  split at h
  · rename_i vs e1
    obtain ⟨r, hc, hK⟩ := h
    have rxs := R.evs hx
    have hrun : (execOp a.eval o).run P w = .ok (.enter f (xs.map a.eval)) w := by
      unfold plainF at hf
      split at hf
      · rename_i fn hfn
        simp only [Bool.and_eq_true, Bool.not_eq_true', beq_eq_false_iff_ne, Option.isSome_iff_exists] at hf
        obtain ⟨hname, c, hbody⟩ := hf
        simp [execOp, ho, resolve, Deferred.ofValue, Act.eval, invoke, callFunc, hfn, hname, hbody]
      · cases hf
    have hvs : All2 (VRep σ noS noH) (xs.map a.eval).toList vs := by
      have := rxs
      rw [← Array.toList_map] at this
      have hlen := this.len
      obtain ⟨q1, q2⟩ := Refs.outVs R (cs := s.evs xs') (cs' := vs) (c := fun j => ((xs.map a.eval).toList[j]?).getD undef) (fun j b hb => by
        obtain ⟨v, v1, v2⟩ := this.get hb
        rw [v1]
        exact v2) e1
      refine All2.of_get (by omega) fun j v b hv hb => ?_
      have := q2 j b hb
      rw [hv] at this
      exact this
    unfold Oper.wp
    rw [hrun, Oper.upon_enter]
    have hcall := hc σ w _ R.fit hvs
    rw [Array.toArray_toList] at hcall
    refine hcall.mono fun e w' he => ?_
    obtain ⟨v, σ', rfl, hv, hf', hext, hb⟩ := he
    exact hn _ _ _ _ hK ⟨σ', ι, (R.more hext hf' hb).put (hv.mono (fun _ _ h => h) (upd_noS _ _))⟩
  · exact h.elim

theorem kd_sound {mu : List Nat} {k : Kd} (htr : trKd P C.n mu o.dst o.op = some k) {K : AV → AS → Prop} {next : Act → World → Prop} {Q : Exit → Act → World → Prop} (R : Refs C σ ι s a w) (h : Kd.go P d s K k) (hn : ∀ av s' a' w', K av s' → Holds C (s'.put o.dst av) a' w' → next a' w') : o.wp P a w next Q := by
  have fin : Good P C o a w K → o.wp P a w next Q := fun hg => hg.wp fun av s' σ' ι' a' w' hk R' => hn _ _ _ _ hk ⟨σ', ι', R'⟩
  cases ho : o.op with
  | move x =>
    rw [ho] at htr
    simp only [trKd, Option.map_eq_some_iff] at htr
    obtain ⟨x', hx, rfl⟩ := htr
    exact fin (snd_mov (.inl ho) hx R h)
  | assign x =>
    rw [ho] at htr
    simp only [trKd, Option.map_eq_some_iff] at htr
    obtain ⟨x', hx, rfl⟩ := htr
    exact fin (snd_mov (.inr ho) hx R h)
  | pick c x y =>
    rw [ho] at htr
    simp only [trKd] at htr
    split at htr
    · cases htr
      rename_i e1 e2 e3
      exact fin (snd_pick ho e1 e2 e3 R h)
    · cases htr
  | alloc e =>
    rw [ho] at htr
    simp only [trKd] at htr
    split at htr
    · rename_i i e1
      split at htr
      · rename_i z e2
        rw [Option.map_eq_some_iff] at htr
        obtain ⟨cs, hcs, rfl⟩ := htr
        exact fin (snd_alloc ho e1 e2 hcs R h)
      · cases htr
    · cases htr
  | box e x =>
    rw [ho] at htr
    simp only [trKd, Option.map_eq_some_iff] at htr
    obtain ⟨x', hx, rfl⟩ := htr
    exact fin (snd_box ho hx R h)
  | build t ps =>
    rw [ho] at htr
    simp only [trKd] at htr
    split at htr
    · rename_i it fs e1 e2
      split at htr
      · rename_i z places e3 e4
        split at htr
        · rename_i ps' cs e5 e6
          cases htr
          exact fin (snd_build ho e1 e3 e2 e4 e5 e6 R h)
        · cases htr
      · cases htr
    · cases htr
  | buildSlice t len ps =>
    rw [ho] at htr
    simp only [trKd] at htr
    split at htr
    · rename_i e e1
      split at htr
      · rename_i ie e2
        split at htr
        · rename_i z xs e3 e4
          split at htr
          · rename_i hc
            cases htr
            exact fin (snd_buildSlice ho e1 e2 e3 hc.1 hc.2.1 hc.2.2 e4 R h)
          · cases htr
        · cases htr
      · cases htr
    · cases htr
  | load t x =>
    rw [ho] at htr
    simp only [trKd] at htr
    split at htr
    · rename_i g kk x' e1 e2
      cases htr
      obtain ⟨dd, i, q1, q2, q3, q4⟩ := sizeG_spec e1
      exact fin (snd_load ho e2 q1 q2 g q3 kk q4 R h)
    · cases htr
  | store t x v =>
    rw [ho] at htr
    simp only [trKd] at htr
    split at htr
    · rename_i e1 e2 e3
      cases htr
      exact fin (snd_store ho e2 e3 e1 R h)
    · cases htr
  | fieldAddr t x f =>
    rw [ho] at htr
    simp only [trKd] at htr
    split at htr
    · rename_i fs x' e1 e2
      split at htr
      · rename_i fd e3
        split at htr
        · rename_i i e4
          split at htr
          · rename_i hz
            cases htr
            exact fin (snd_fieldAddr ho e2 e1 e3 e4 hz R h)
          · cases htr
        · cases htr
      · cases htr
    · cases htr
  | field t x f =>
    rw [ho] at htr
    simp only [trKd] at htr
    split at htr
    · rename_i fs x' e1 e2
      split at htr
      · rename_i fd e3
        split at htr
        · rename_i g kk e4
          cases htr
          obtain ⟨dd, i, q1, q2, q3, q4⟩ := sizeG_spec e4
          exact fin (snd_field ho e2 e1 e3 q1 q2 g q3 kk q4 R h)
        · cases htr
      · cases htr
    · cases htr
  | indexAddr t x y =>
    rw [ho] at htr
    simp only [trKd] at htr
    split at htr
    · rename_i e x' y' e1 e2 e3
      split at htr
      · rename_i i e4
        cases htr
        exact fin (snd_indexAddr ho e2 e3 e1 e4 R h)
      · cases htr
    · cases htr
  | index t x y =>
    rw [ho] at htr
    simp only [trKd] at htr
    split at htr
    · rename_i e1 e2 e3
      cases htr
      exact fin (snd_indexStr ho e2 e3 e1 R h)
    · cases htr
  | binOp op t x y t' =>
    rw [ho] at htr
    simp only [trKd] at htr
    split at htr
    · rename_i x' y' e1 e2
      split at htr
      · rename_i e3
        cases htr
        exact fin (snd_eqB (neg := false) ho e1 e2 e3 R h)
      · rename_i e3
        cases htr
        exact fin (snd_eqB (neg := true) ho e1 e2 e3 R h)
      · cases htr
        exact fin (snd_bin ho e1 e2 R h)
    · cases htr
  | unOp op t x =>
    rw [ho] at htr
    simp only [trKd, Option.map_eq_some_iff] at htr
    obtain ⟨x', hx, rfl⟩ := htr
    exact fin (snd_un ho hx R h)
  | convert src dst x =>
    rw [ho] at htr
    simp only [trKd] at htr
    split at htr
    · rename_i e1 e2 e3
      cases htr
      exact fin (snd_conv ho e3 (by rw [e1]; rfl) e2 R h)
    · cases htr
  | slice t x lo hi mx =>
    rw [ho] at htr
    cases mx with
    | some m => simp [trKd] at htr
    | none =>
    simp only [trKd] at htr
    split at htr
    · rename_i e1 e2 e3 e4
      cases htr
      exact fin (snd_sliceS ho e2 e3 e4 e1 R h)
    · rename_i e1 e2 e3 e4
      split at htr
      · rename_i i e5
        cases htr
        exact fin (snd_sliceL ho e2 e3 e4 e1 e5 R h)
      · cases htr
    · cases htr
  | extract x i =>
    rw [ho] at htr
    simp only [trKd, Option.map_eq_some_iff] at htr
    obtain ⟨x', hx, rfl⟩ := htr
    exact fin (snd_extract ho hx R h)
  | nilCheck x =>
    rw [ho] at htr
    simp only [trKd, Option.map_eq_some_iff] at htr
    obtain ⟨x', hx, rfl⟩ := htr
    exact fin (snd_nilCheck ho hx R h)
  | call c =>
    rw [ho] at htr
    obtain ⟨callee, args, argTypes⟩ := c
    simp only [trKd, trCall] at htr
    split at htr
    · split at htr
      · rename_i x t e1 e2
        have e1' : args = #[x] := Array.ext' e1
        have e2' : argTypes = #[t] := Array.ext' e2
        subst e1' e2'
        split at htr
        · rename_i e3 e4
          cases htr
          exact fin (snd_len (str := true) ho e3 e4 R h)
        · rename_i e3 e4
          cases htr
          exact fin (snd_len (str := false) ho e3 ⟨_, e4⟩ R h)
        · cases htr
      · cases htr
    · split at htr
      · rename_i x y t t' e1 e2
        have e1' : args = #[x, y] := Array.ext' e1
        have e2' : argTypes = #[t, t'] := Array.ext' e2
        subst e1' e2'
        split at htr
        · rename_i e e3 e4 e5
          split at htr
          · rename_i i e6
            split at htr
            · rename_i z e7
              split at htr
              · rename_i hc
                cases htr
                obtain ⟨rfl, hz, hp⟩ := hc
                exact fin (snd_append ho e3 e4 e5 e6 e7 hz hp R h)
              · cases htr
            · cases htr
          · cases htr
        · cases htr
      · cases htr
    · rename_i f
      split at htr
      · rename_i hf
        rw [Option.map_eq_some_iff] at htr
        obtain ⟨xs', hx, rfl⟩ := htr
        exact snd_call ho hf hx R h hn
      · cases htr
    · cases htr
  | _ => rw [ho] at htr; simp [trKd] at htr
end
end Go.Proofs.Ytkjbaabkaboaoaa
