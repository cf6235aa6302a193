/-
  Part 11 of the texts: BDefer; BParse2; Leaf; Size; Bridge; Own; Knots; May; Copy. Conditions: none.
-/
import Derived.Test.YtohgkbgpcnmdpaaTxt10
import Derived.Defers
import Derived.Recover
import Derived.ChangeKeysEq
import Derived.Deep.RegionHeld3
import Derived.Deep.RegionLaw
import Derived.BigRegion
namespace Go.Proofs.Ytohgkbgpcnmdpaa
open Go Go.RowKit
set_option linter.unusedVariables false
set_option maxHeartbeats 400000

/-- What stands behind a call that turns blocks of its caller. -/
def Behind (S : AStore) (ι : AHnd) (σ : Sto) (w : World) (S' : AStore) (w' : World) : Prop := ∃ σ' ι', Clean S' ∧ Upd S ι S' ι' ∧ Owned σ' S' ι' w' ∧ Fit σ' w' ∧ (∀ p x, σ p = some x → σ' p = some x) ∧
  (∀ p : Addr, p.block < w.heap.size → notOf S ι p.block → σ' p = σ p) ∧ (w'.os = w.os ∧ w'.tape = w.tape ∧ w'.output = w.output) ∧ w.heap.size ≤ w'.heap.size ∧
  (∀ g, g < w.heap.size → notOf S ι g → w'.heap[g]? = w.heap[g]?) ∧ (∀ id b g, S' id = some b → (ι' id).g = some g → w.heap.size ≤ g ∨ ¬ notOf S ι g)
theorem Behind.refl {S : AStore} {ι : AHnd} {σ : Sto} {w : World} (h1 : Clean S) (h2 : Owned σ S ι w) (h3 : Fit σ w) : Behind S ι σ w S w :=
  ⟨σ, ι, h1, Upd.refl _ _, h2, h3, fun _ _ h => h, fun _ _ _ => rfl, ⟨rfl, rfl, rfl⟩, Nat.le_refl _, fun _ _ _ => rfl, fun id b g hb hg => .inr fun hn => hn id b hb hg⟩
/-- What a deferred call does to the caller's blocks and to how the caller goes on. -/
def ADef (P : Program) (f : FuncId) (xs : List AV) (S : AStore) (u u' : FrameMode) (S' : AStore) : Prop :=
  Clean S → ∀ (σ : Sto) (w : World) (vs : List Value) (ι : AHnd), GlobIn σ → Fit σ w → Owned σ S ι w → All2 (VRep σ S ι) vs xs →
    CallsD P f vs.toArray u w fun e u1 w' => (∃ v, e = .returned v) ∧ u1 = u' ∧ Behind S ι σ w S' w'

section
variable {P : Program} {C : Ctx} {a : Act} {w : World} {σ : Sto} {ι : AHnd} {s : AS}
theorem owned_up (R : Refs C σ ι s a w) : Owned σ (upS s.S) (fun i => ι (dn1 i)) w := by
  have hup : ∀ i, dn1 (up1 i) = i := dn_up
  have hS : ∀ i b, s.S i = some b → upS s.S (up1 i) = some (b.ren up1) := fun i b hb => upS_some hb
  have hι : ∀ i b, s.S i = some b → (fun i => ι (dn1 i)) (up1 i) = ι i := fun i b _ => by show ι (dn1 (up1 i)) = _; rw [hup]
  refine ⟨fun id b hb => ?_, fun id id' b b' g h1 h2 g1 g2 => ?_⟩
  · obtain ⟨hle, b', h1, rfl⟩ := upS_inv hb
    exact BRep.ren (S2 := upS s.S) (ι2 := fun i => ι (dn1 i)) (ρ := up1) hS hι (R.blk _ _ h1)
  · obtain ⟨l1, c1, k1, _⟩ := upS_inv h1
    obtain ⟨l2, c2, k2, _⟩ := upS_inv h2
    have := R.inj _ _ _ _ g k1 k2 g1 g2
    rw [← up_dn l1, ← up_dn l2, this]
theorem val_up (R : Refs C σ ι s a w) {v : Value} {av : AV} (h : VRep σ s.S ι v av) : VRep σ (upS s.S) (fun i => ι (dn1 i)) v (av.ren up1) :=
  VRep.ren (S2 := upS s.S) (ι2 := fun i => ι (dn1 i)) (ρ := up1) (fun i b hb => upS_some hb) (fun i b _ => by show ι (dn1 (up1 i)) = _; rw [dn_up]) h
theorem behind_refs {S' : AStore} {w' : World} (R : Refs C σ ι s a w) (h : Behind (upS s.S) (fun i => ι (dn1 i)) σ w S' w') : Holds C ⟨s.env, dnS S'⟩ a w' := by
  obtain ⟨σ', ι', hclean, hupd, hown', hf', hkeep, hold, hos, hsz, hsame, hbase⟩ := h
  have hup : ∀ i, dn1 (up1 i) = i := dn_up
  have hS : ∀ i b, s.S i = some b → upS s.S (up1 i) = some (b.ren up1) := fun i b hb => upS_some hb
  have hSd : ∀ i b, S' i = some b → dnS S' (dn1 i) = some (b.ren dn1) := fun i b hb => dnS_some (hclean i b hb).1 hb
  obtain ⟨ι2, hι2⟩ : ∃ ι2 : AHnd, ∀ i, ι2 i = ι' (up1 i) := ⟨fun i => ι' (up1 i), fun _ => rfl⟩
  have hιd : ∀ i b, S' i = some b → ι2 (dn1 i) = ι' i := fun i b hb => by
    rw [hι2, up_dn (hclean i b hb).1]
  have hu : Upd s.S ι (dnS S') ι2 := fun id b hb => by
    obtain ⟨b', h1, h2, h3⟩ := hupd _ _ (hS id b hb)
    have h4 := hSd _ _ h1
    rw [hup] at h4
    refine ⟨_, h4, by rw [ren_len] at h2 ⊢; exact h2, fun hl => ?_⟩
    rw [ren_len] at hl
    obtain ⟨q1, q2⟩ := h3 (by rw [ren_len]; exact hl)
    refine ⟨by rw [ren_wid] at q1 ⊢; exact q1, ?_⟩
    rw [hι2, q2]
    show ι (dn1 (up1 id)) = _
    rw [hup]
  have hnot : ∀ g, g < C.N → ¬ C.G g → notOf (upS s.S) (fun i => ι (dn1 i)) g := fun g h1 h2 id b hb hg => by
    obtain ⟨_, b', k1, _⟩ := upS_inv hb
    rcases R.base _ _ g k1 hg with h | h
    · omega
    · exact h2 h
  refine ⟨σ', ι2, R.size, fun i hi => (R.env i hi).mono hkeep hu, R.nod, hf', fun id b hb => ?_, fun id id' b b' g h1 h2 g1 g2 => ?_, fun id b g hb hg => ?_, fun p x hx => hkeep _ _ (R.ext p x hx), fun p h1 h2 => ?_, ⟨hos.1.trans R.os.1, hos.2.1.trans R.os.2.1, hos.2.2.trans R.os.2.2⟩, ⟨Nat.le_trans R.grown.1 hsz, Nat.le_trans R.grown.2 hsz⟩, fun g h1 h2 => ?_, R.upd.trans hu⟩
  · obtain ⟨b', h1, rfl⟩ := dnS_inv hb
    have := BRep.ren (S2 := dnS S') (ι2 := ι2) (ρ := dn1) hSd hιd (hown'.1 _ _ h1)
    rw [hι2]
    exact this
  · obtain ⟨c1, k1, _⟩ := dnS_inv h1
    obtain ⟨c2, k2, _⟩ := dnS_inv h2
    rw [hι2] at g1 g2
    have := congrArg dn1 (hown'.2 _ _ _ _ g k1 k2 g1 g2)
    rw [hup, hup] at this
    exact this
  · obtain ⟨b', h1, _⟩ := dnS_inv hb
    rw [hι2] at hg
    rcases hbase _ _ g h1 hg with h2 | h2
    · exact .inl (by have := R.grown.1; omega)
    · by_cases hN : g < C.N
      · by_cases hG : C.G g
        · exact .inr hG
        · exact absurd (hnot g hN hG) h2
      · exact .inl (by omega)
  · exact (hold p (by have := R.grown.1; omega) (hnot _ h1 h2)).trans (R.old p h1 h2)
  · exact (hsame g (by have := R.grown.1; omega) (hnot g h1 h2)).trans (R.same g h1 h2)
/-- One deferred closure at a function's end. -/
theorem leaves_one {fn : Func} {g : FuncId} {vs : List Value} {avs : List AV} {u u' : FrameMode} {S' : AStore} {K : Ending → World → Prop} (R : Refs C σ ι s a w) (hpl : plainF P g = true) (hvs : All2 (VRep σ s.S ι) vs avs) (hu : u ≠ .run)
    (hd : ADef P g (AV.rens up1 avs) (upS s.S) u u' S') (hset : settle u' = .returning) (hfin : ∀ w', Holds C ⟨s.env, dnS S'⟩ a w' → ∃ v, (results fn a.tmps).run P w' = .ok v w' ∧ K (.returned v) w') :
    Leaves P fn a.tmps K [{ target := .fn (.func g) vs.toArray, args := #[] }] u w := by
  refine leaves_cons (f := g) (args := vs.toArray) hu ?_ ?_
  · have := run_enter (P := P) (w := w) (args := vs.toArray) hpl
    simpa [invoke] using this
  · have hargs : All2 (VRep σ (upS s.S) (fun i => ι (dn1 i))) vs (AV.rens up1 avs) := by
      rw [AV.rens_eq]
      exact (hvs.mono fun _ _ x => val_up R x).map_right
    refine (hd (clean_upS _) σ w vs _ (C.glob.mono R.ext) R.fit (owned_up R) hargs).mono fun e u1 w' he => ?_
    obtain ⟨⟨v, rfl⟩, rfl, hb⟩ := he
    dsimp only
    rw [hset]
    exact hfin w' (behind_refs R hb)
end

theorem run_assert_nil {P : Program} {w : World} {x t : TypeId} {k : IntKind} {z : Value} (hd : P.underlying t = some (.int k)) (hz : (P.info? t).bind (·.zero) = some z) : (Instr.typeAssert .nilIface x t true).run P w = .ok (.tuple #[z, .bool false]) w := by
  rw [Option.bind_eq_some_iff] at hz
  obtain ⟨i, hi, hz⟩ := hz
  unfold Instr.typeAssert
  simp [run_underlying hd, zeroValue, run_typeInfo w hi, hz]
theorem run_assert_hit {P : Program} {w : World} {x t : TypeId} {k : IntKind} {v : Value} (hd : P.underlying t = some (.int k)) : (Instr.typeAssert (.iface t v) x t true).run P w = .ok (.tuple #[v, .bool true]) w := by
  unfold Instr.typeAssert
  simp [run_underlying hd]
theorem behind_of {C : Ctx} {S : AStore} {ι : AHnd} {σ : Sto} {w w' : World} {s : AS} {a : Act} (hC : C.N = w.heap.size ∧ (C.G = fun g => ¬ notOf S ι g) ∧ C.σ0 = σ ∧ C.w0 = w ∧ C.S0 = S ∧ C.ι0 = ι) (hS : Clean s.S) (h : Holds C s a w') : Behind S ι σ w s.S w' := by
  obtain ⟨h1, h2, h3, h4, h5, h6⟩ := hC
  obtain ⟨σ', ι', R⟩ := h
  have ho := R.old
  have hu := R.upd
  have he := R.ext
  have hs := R.same
  have hb := R.base
  have hg := R.grown
  have hos := R.os
  rw [h1, h2] at ho hs hb
  rw [h3] at ho he
  rw [h4] at hs hg hos
  rw [h5, h6] at hu
  exact ⟨σ', ι', hS, hu, ⟨R.blk, R.inj⟩, R.fit, he, fun p q1 q2 => ho p q1 (fun h => h q2), hos, hg.2, fun g q1 q2 => hs g q1 (fun h => h q2), fun id b g q1 q2 => hb id b g q1 q2⟩
/-- How a walk ends behind which a deferred closure is still to be called. -/
def EndD (P : Program) (g : FuncId) (avs : List AV) (rs : List RV) (r : AV) : AX → AS → Prop
  | .normal, s | .ret, s => ∃ S', ADef P g (AV.rens up1 avs) (upS s.S) .returning .returning S' ∧ (⟨s.env, dnS S'⟩ : AS).result rs = some r
  | .pan v, s => ∃ u' S', ADef P g (AV.rens up1 avs) (upS s.S) (.panicking [{ v := v, recovered := false }]) u' S' ∧ settle u' = .returning ∧ (⟨s.env, dnS S'⟩ : AS).result rs = some r
  | _, _ => False
def AS.up (s : AS) : AS := ⟨fun i => (s.env i).ren up1, upS s.S⟩
section
variable {P : Program}
theorem trCode_seq {n : Nat} {mu : List Nat} {c : Code} {x y : IR} (h : trCode P n mu c = some (.seq x y)) : ∃ c1 c2, c = .seq c1 c2 ∧ trCode P n mu c1 = some x ∧ trCode P n mu c2 = some y := by
  cases c <;> simp only [trCode] at h
  case seq c1 c2 =>
    split at h
    · rename_i x' y' e1 e2
      cases h
      exact ⟨c1, c2, rfl, e1, e2⟩
    · cases h
  all_goals (exfalso; revert h; (repeat' split) <;> simp)
def third : Code → Code
  | .seq _ (.seq _ (.seq d _)) => d
  | c => c
theorem acalls_defer {f : FuncId} {fn : Func} {mu : List Nat} {c : Code} {xA xB xD xE : IR} {rs : List RV} {xs : List AV} {r : AV} {g t id : Nat} {caps : Array Operand} {xs' : List Opd} {oM oF : Oper} {ts : Array TypeId}
    (hf : P.funcs[f]? = some fn) (hb : fn.body = some c) (hx : trCode P fn.ntmps mu c = some (.seq xA (.seq xB (.seq xD xE)))) (hr : trRes P fn.ntmps fn.results.toList = some rs) (hn : xs.length ≤ fn.ntmps)
    (hD : third c = .region id #[oM, oF] false) (hM1 : oM.op = .makeFunc (.func g) #[] caps) (hM2 : oM.dst = some t) (hM3 : oM.guard = none) (hF1 : oF.op = .defer { callee := .value (.tmp t), args := #[], argTypes := ts }) (hF2 : oF.dst = none) (hF3 : oF.guard = none) (ht : t < fn.ntmps)
    (hcaps : trOpds fn.ntmps caps.toList = some xs') (hpl : plainF P g = true)
    (h : ∀ C : Ctx, C.n = fn.ntmps → IWP P C mu xA (AX.then (fun s => IWP P C mu xB (AX.then (fun s => ∃ cs, s.caps xs' = some cs ∧ ∀ C' : Ctx, C'.n = fn.ntmps → IWP P C' mu xE (EndD P g (cs.map fun c => (AV.one c).ren up1) rs r) (s.put (some t) (.one (.fn g cs))).up) (FinQ rs r)) s) (FinQ rs r)) (AS.start xs)) : ACalls P f xs r := by
  intro σ w vs hglob hfit hvs
  have hl := hvs.len
  let C : Ctx := ⟨fn.ntmps, w.heap.size, fun _ => False, σ, w, noS, noH, fun i b h => by simp [noS] at h, hglob, []⟩
  obtain ⟨A, c2, rfl, hA, h2⟩ := trCode_seq hx
  obtain ⟨B, c3, rfl, hB, h3⟩ := trCode_seq h2
  obtain ⟨D, E, rfl, hD', hE⟩ := trCode_seq h3
  have hD : D = .region id #[oM, oF] false := hD
  subst hD
  refine calls_of_wp_defers hf hb ?_
  have R0 : Refs C σ noH (AS.start xs) { tmps := vs.toArray ++ Array.replicate (fn.ntmps - vs.toArray.size) undef, defers := [] } w := by
    refine ⟨by simp [C]; omega, fun i hi => ?_, rfl, hfit, fun id b h => by simp [AS.start, noS] at h, fun id id' b b' g h => by simp [AS.start, noS] at h, fun id b g h => by simp [AS.start, noS] at h, fun _ _ h => h, fun _ _ _ => rfl, ⟨rfl, rfl, rfl⟩, ⟨Nat.le_refl _, Nat.le_refl _⟩, fun _ _ _ => rfl, Upd.refl _ _⟩
    show VRep σ noS noH _ ((xs[i]?).getD (.tup []))
    rw [Array.getD_eq_getD_getElem?]
    by_cases hlt : i < vs.length
    · rw [Array.getElem?_append_left (by simpa using hlt)]
      obtain ⟨b, hb1, hb2⟩ := hvs.get' (List.getElem?_eq_getElem hlt)
      rw [hb1]
      simpa [hlt] using hb2
    · rw [Array.getElem?_append_right (by simp; omega), List.getElem?_eq_none (by omega)]
      have hi' : i < fn.ntmps := hi
      rw [Array.getElem?_replicate, if_pos (by simp; omega)]
      exact .tup (fun _ => undef) rfl (by simp) (by simp)
  -- an end ahead of the deferred call
  have early : ∀ (s : AS) (a' : Act) (w' : World), s.result rs = some r → Holds C s a' w' → Leaves P fn a'.tmps (fun e w' => ∃ v σ', e = .returned v ∧ VRep σ' noS noH v r ∧ Fit σ' w' ∧ Ext w.heap.size σ σ' ∧ Below w.heap.size w w') a'.defers .returning w' := by
    intro s a' w' hs hH
    obtain ⟨σ', ι', R'⟩ := hH
    obtain ⟨v, v1, v2⟩ := res_val R' (fn := fn) hr hs
    have hnod : a'.defers = [] := R'.nod
    rw [hnod]
    exact ⟨v, v1, v, σ', rfl, v2, R'.fit, ⟨R'.ext, fun p hp => R'.old p hp (fun h => h)⟩, ⟨R'.os.1, R'.os.2.1, R'.os.2.2, R'.grown.2, fun k hk => R'.same k hk (fun h => h)⟩⟩
  refine wp_seq (wp_mono (h C rfl A hA _ w ⟨σ, noH, R0⟩) fun e a' w' he => ?_)
  cases e with
  | normal =>
    obtain ⟨s, hs, hH⟩ := he
    refine wp_seq (wp_mono (hs B hB a' w' hH) fun e a' w' he => ?_)
    cases e with
    | normal =>
      obtain ⟨s, ⟨cs, hcs, hwalk⟩, ⟨σ1, ι1, R⟩⟩ := he
      refine wp_seq ?_
      have rc := caps_rep R hcaps hcs
      have ecap : (caps.toList.map a'.eval).toArray = caps.map a'.eval := by rw [← Array.toList_map, Array.toArray_toList]
      have hv : VRep σ1 s.S ι1 (.func (.func g) #[] (caps.map a'.eval)) (.one (.fn g cs)) := by
        rw [← ecap]
        refine .one (.fn (fun j => ((caps.toList.map a'.eval)[j]?).getD undef) (by simpa using rc.len) (fun j b hb => ?_) (fun j b hb => ?_))
        · obtain ⟨v, v1, v2⟩ := rc.get hb
          rw [v1]
          simpa using v1
        · obtain ⟨v, v1, v2⟩ := rc.get hb
          rw [v1]
          exact v2
      have rf : (execOp a'.eval oM).run P w' = .ok (.value (.func (.func g) #[] (caps.map a'.eval))) w' := by
        simp [execOp, hM1, Instr.makeFunc]
      have R1 := R.put (d := some t) hv
      have hta : t < a'.tmps.size := Nat.lt_of_lt_of_le ht R.size
      have hev : (a'.put (some t) (.func (.func g) #[] (caps.map a'.eval))).eval (.tmp t) = .func (.func g) #[] (caps.map a'.eval) := by
        simp [Act.eval, Act.put, hta]
      have rF : (execOp (a'.put (some t) (.func (.func g) #[] (caps.map a'.eval))).eval oF).run P w' = .ok (.defer { target := .fn (.func g) (caps.map a'.eval), args := #[] }) w' := by
        simp [execOp, hF1, resolve, hev, Deferred.ofValue]
      refine wp_region ?_
      show wpOps P #[oM, oF] _ [0, 1] a' w'
      rw [wpOps_cons]
      show (if Region.wanted oM _ then _ else _)
      rw [if_pos (by simp [Region.wanted, hM3])]
      refine .inl ?_
      show Oper.wp P oM a' w' _ _
      unfold Oper.wp
      rw [rf, Oper.upon_value, hM2, wpOps_cons]
      show (if Region.wanted oF _ then _ else _)
      rw [if_pos (by simp [Region.wanted, hF3])]
      refine .inl ?_
      show Oper.wp P oF _ w' _ _
      unfold Oper.wp
      rw [rF, Oper.upon_defer, hF2]
      let C' : Ctx := ⟨fn.ntmps, w.heap.size, fun _ => False, σ1, w', upS s.S, fun i => ι1 (dn1 i), clean_upS _, hglob.mono R.ext, [{ target := .fn (.func g) (caps.toList.map a'.eval).toArray, args := #[] }]⟩
      have hnod0 : a'.defers = [] := R.nod
      have RC : Refs C' σ1 (fun i => ι1 (dn1 i)) (s.put (some t) (.one (.fn g cs))).up { a'.put (some t) (.func (.func g) #[] (caps.map a'.eval)) with defers := { target := .fn (.func g) (caps.map a'.eval), args := #[] } :: (a'.put (some t) (.func (.func g) #[] (caps.map a'.eval))).defers } w' := by
        refine ⟨R1.size, fun i hi => val_up R1 (R1.env i hi), ?_, R1.fit, (owned_up R1).1, (owned_up R1).2, fun id b g hb hg => ?_, fun _ _ h => h, fun _ _ _ => rfl, ⟨rfl, rfl, rfl⟩, ⟨R.grown.1, Nat.le_refl _⟩, fun _ _ _ => rfl, Upd.refl _ _⟩
        · show _ :: a'.defers = _
          rw [hnod0, ← ecap]
        · obtain ⟨_, b', k1, _⟩ := upS_inv hb
          exact R1.base _ _ g k1 hg
      have hvs1 : All2 (VRep σ1 (upS s.S) (fun i => ι1 (dn1 i))) (caps.toList.map a'.eval) (cs.map fun c => (AV.one c).ren up1) := (rc.mono fun _ _ x => val_up R (.one x)).map_right
      have fin : ∀ (s4 : AS) (a4 : Act) (w4 : World), s4.result rs = some r → Holds C' s4 a4 w4 → ∃ v, (results fn a4.tmps).run P w4 = .ok v w4 ∧ ∃ v1 σ', Ending.returned v = .returned v1 ∧ VRep σ' noS noH v1 r ∧ Fit σ' w4 ∧ Ext w.heap.size σ σ' ∧ Below w.heap.size w w4 := fun s4 a4 w4 hs4 hH4 => by
        obtain ⟨σ4, ι4, R4⟩ := hH4
        obtain ⟨v, v1, v2⟩ := res_val R4 (fn := fn) hr hs4
        exact ⟨v, v1, v, σ4, rfl, v2, R4.fit, ⟨fun p x hp => R4.ext p x (R.ext p x hp), fun p hp => (R4.old p hp (fun h => h)).trans (R.old p hp (fun h => h))⟩, ⟨R4.os.1.trans R.os.1, R4.os.2.1.trans R.os.2.1, R4.os.2.2.trans R.os.2.2, Nat.le_trans R.grown.2 R4.grown.2, fun k hk => (R4.same k hk (fun h => h)).trans (R.same k hk (fun h => h))⟩⟩
      refine wp_mono (hwalk C' rfl E hE _ w' ⟨σ1, _, RC⟩) fun e a3 w3 he => ?_
      cases e with
      | normal =>
        obtain ⟨s3, ⟨S', hdef, hres⟩, ⟨σ3, ι3, R3⟩⟩ := he
        show Leaves P fn a3.tmps _ a3.defers .returning w3
        rw [R3.nod]
        exact leaves_one R3 hpl (hvs1.mono fun _ _ x => x.mono R3.ext R3.upd) (by simp) hdef rfl fun w4 hH4 => fin _ _ _ hres hH4
      | ret =>
        obtain ⟨s3, ⟨S', hdef, hres⟩, ⟨σ3, ι3, R3⟩⟩ := he
        show Leaves P fn a3.tmps _ a3.defers .returning w3
        rw [R3.nod]
        exact leaves_one R3 hpl (hvs1.mono fun _ _ x => x.mono R3.ext R3.upd) (by simp) hdef rfl fun w4 hH4 => fin _ _ _ hres hH4
      | exit id =>
        obtain ⟨s3, h3, _⟩ := he
        exact h3.elim
      | panic ch =>
        obtain ⟨s3, v, ⟨⟨u', S', hdef, hset, hres⟩, rfl⟩, ⟨σ3, ι3, R3⟩⟩ := he
        show Leaves P fn a3.tmps _ a3.defers (.panicking _) w3
        rw [R3.nod]
        exact leaves_one R3 hpl (hvs1.mono fun _ _ x => x.mono R3.ext R3.upd) (by simp) hdef hset fun w4 hH4 => fin _ _ _ hres hH4
      | goto l => exact he.elim
      | outgrown => exact he.elim
    | ret =>
      obtain ⟨s, h1, h2⟩ := he
      exact early s _ _ (show FinQ rs r .ret s from h1).2 h2
    | exit id =>
      obtain ⟨s, h1, h2⟩ := he
      exact (show FinQ rs r (.exit id) s from h1).1.elim
    | panic ch =>
      obtain ⟨s, v, h1, h2⟩ := he
      exact (show FinQ rs r (.pan v) s from h1.1).1.elim
    | goto l => exact he.elim
    | outgrown => exact he.elim
  | ret =>
    obtain ⟨s, h1, h2⟩ := he
    exact early s _ _ (show FinQ rs r .ret s from h1).2 h2
  | exit id =>
    obtain ⟨s, h1, h2⟩ := he
    exact (show FinQ rs r (.exit id) s from h1).1.elim
  | panic ch =>
    obtain ⟨s, v, h1, h2⟩ := he
    exact (show FinQ rs r (.pan v) s from h1.1).1.elim
  | goto l => exact he.elim
  | outgrown => exact he.elim
end
end Go.Proofs.Ytohgkbgpcnmdpaa

namespace Go.Proofs.Ytohgkbgpcnmdpaa
open Go Go.RowKit
set_option linter.unusedVariables false
set_option linter.unusedSimpArgs false
set_option maxHeartbeats 1600000

/-- The slots of the recovering closure behind its first row. -/
def envR (b c : Nat) (n : Int) (ok : Bool) : Nat → AV
  | 0 => .one (.ptr b 1 0 0)
  | 1 => .one (.ptr c 1 0 0)
  | 2 => aInt n
  | 3 => aBool ok
  | _ => .any
theorem holdsR {b c : Nat} {n : Int} {ok : Bool} {S : AStore} {σ : Sto} {ι : AHnd} {w : World} {v1 v2 : Value} {a : Act} (hclean : Clean S) (hglob : GlobIn σ) (hfit : Fit σ w) (hown : Owned σ S ι w) (h1 : VRep σ S ι v1 (.one (.ptr b 1 0 0))) (h2 : VRep σ S ι v2 (.one (.ptr c 1 0 0))) (hn : inR .i64 n)
    (hs : 12 ≤ a.tmps.size) (g0 : a.tmps.getD 0 undef = v1) (g1 : a.tmps.getD 1 undef = v2) (g2 : a.tmps.getD 2 undef = .int .i64 n) (g3 : a.tmps.getD 3 undef = .bool ok) (hd : a.defers = []) :
    Holds ⟨12, w.heap.size, fun g => ¬ notOf S ι g, σ, w, S, ι, hclean, hglob, []⟩ ⟨envR b c n ok, S⟩ a w := by
  refine ⟨σ, ι, hs, fun i hi => ?_, hd, hfit, hown.1, hown.2, fun id b g h hg => .inr (fun hno => hno id b h hg), fun _ _ h => h, fun _ _ _ => rfl, ⟨rfl, rfl, rfl⟩, ⟨Nat.le_refl _, Nat.le_refl _⟩, fun _ _ _ => rfl, Upd.refl _ _⟩
  match i with
  | 0 => rw [g0]; exact h1
  | 1 => rw [g1]; exact h2
  | 2 => rw [g2]; exact .one (.st (.int hn))
  | 3 => rw [g3]; exact .one (.st .bool)
  | _ + 4 => exact .any
set_option maxRecDepth 100000 in
theorem parse1_idle (b c : Nat) (S : AStore) : ADef Try.prog 26 [.one (.ptr b 1 0 0), .one (.ptr c 1 0 0)] S .returning .returning S := by
  intro hclean σ w vs ι hglob hfit hown hvs
  obtain ⟨v1, v2, rfl, r1, r2⟩ : ∃ v1 v2, vs = [v1, v2] ∧ VRep σ S ι v1 (.one (.ptr b 1 0 0)) ∧ VRep σ S ι v2 (.one (.ptr c 1 0 0)) := by
    cases hvs with
    | cons h1 hvs => cases hvs with
      | cons h2 hvs => cases hvs with
        | nil => exact ⟨_, _, rfl, h1, h2⟩
  have hta : ∀ w, (Instr.typeAssert .nilIface 20 62 true).run Try.prog w = .ok (.tuple #[.int .i64 0, .bool false]) w := fun w => run_assert_nil (P := Try.prog) (t := 62) Try.underlying62 (by kernel_rfl)
  obtain ⟨c1, c2, hc, h1, h2⟩ := trCode_seq tr_term_Parse_1
  have hb : Try.f26.body = some (.seq c1 c2) := congrArg some hc
  injection hc with e1 e2
  subst e1
  clear e2 h1
  refine callsD_of_wpS Try.func26 hb fun c₀ cs hu => ?_
  apply wpS_seq
  apply wpS_region
  simp [wpOpsS, go_sem, recoverD, hu, hta, Try.ntmps26, Exit.thenS]
  have hH := holdsR (b := b) (c := c) (n := 0) (ok := false) (a := { tmps := #[v1, v2] ++ (((((((Array.replicate 10 undef).setIfInBounds 3 Value.nilIface).setIfInBounds 4 (Value.tuple #[Value.int IntKind.i64 0, Value.bool false])).setIfInBounds 2 (Value.tuple #[Value.int IntKind.i64 0, Value.bool false])).setIfInBounds 5 (Value.int IntKind.i64 0)).setIfInBounds 6 (Value.bool false)).setIfInBounds 0 (Value.int IntKind.i64 0)).setIfInBounds 1 (Value.bool false), defers := [] }) hclean hglob hfit hown r1 r2 (by rw [inR_i64]; omega) (by simp) (by simp) (by simp) (by simp) (by simp) rfl
  refine wpS_of_wp (wp_mono ((?hw : IWP Try.prog _ [] _ (fun e s => e = .normal ∧ s.S = S) ⟨envR b c 0 false, S⟩) c2 h2 _ w hH) fun e a' w' he => ?_)
  case' hw => skip
  rotate_left
  · skip
    cases e with
    | normal =>
      obtain ⟨s, ⟨_, hS⟩, hH'⟩ := he
      have hbe := behind_of ⟨rfl, rfl, rfl, rfl, rfl, rfl⟩ (by rw [hS]; exact hclean) hH'
      rw [hS] at hbe
      obtain ⟨σ', ι', R'⟩ := hH'
      refine ⟨R'.nod, .returning, by rw [← hu], .tuple #[], by simp [results, Try.results26], ⟨_, rfl⟩, rfl, hbe⟩
    | ret => obtain ⟨s, h, _⟩ := he; cases h.1
    | exit id => obtain ⟨s, h, _⟩ := he; cases h.1
    | panic ch => obtain ⟨s, v, h, _⟩ := he; cases h.1.1
    | goto l => exact he.elim
    | outgrown => exact he.elim
  · repeat' (first | (with_reducible first | refine Wa ?_ | refine Wb ?_ | refine Wc ?_ | refine Wd ?_ | refine We ?_ | refine Wf ?_ | refine Wg ?_ | refine Wh ?_ | refine Wi ?_ | refine Wj ?_ | refine Wk (by decide) ?_ | refine Wl ?_ | refine Wm ?_ | refine Wn ?_) | ((with_reducible first | refine Wo (fun K hK => ?_) | refine Wp ?_ | refine Wq ?_ | refine Wr ?_); (try simp only [go_sem, List.forall_mem_nil, ↓guard_ite, ↓pick_ite, seval, encT_eq, inR_i64, envR, decide_eq_true_eq, decide_eq_false_iff_not, Int.ofNat_lt]); (repeat with_reducible refine And.intro (by first | omega | (with_reducible first | exact lens_encT | exact lens_encL | exact lens_encB | exact lens_encP) | (simp; done) | (simp only [List.length_take, List.length_map, List.length_append, maxLen_eq]; omega)) ?_); (try (with_reducible refine hK _ ?_; clear hK K)); (try with_reducible refine ite_conj ?_)))
    exact ⟨rfl, rfl⟩
/-- Both results as the recovering closure leaves them. -/
def gone (S : AStore) (b c : Nat) (n : Int) : AStore := updE (updE S b (some (.box 24 [.st (.str ⟨#[]⟩), .full []]))) c (some (.box 25 [.st (.int .i64 n)]))
set_option maxRecDepth 100000 in
theorem parse1_pan (n : Int) (hn : inR .i64 n) (b c : Nat) (S : AStore) (hb1 : 1000 ≤ b) (hc1 : 1000 ≤ c) (hbc : b ≠ c) {cs1 : List AC} {x1 : AC} (sb : S b = some (.box 24 cs1)) (hl : cs1.length = 2) (sc : S c = some (.box 25 [x1])) :
    ADef Try.prog 26 [.one (.ptr b 1 0 0), .one (.ptr c 1 0 0)] S (.panicking [{ v := fault n, recovered := false }]) (.panicking [{ v := fault n, recovered := true }]) (gone S b c n) := by
  intro hclean σ w vs ι hglob hfit hown hvs
  obtain ⟨v1, v2, rfl, r1, r2⟩ : ∃ v1 v2, vs = [v1, v2] ∧ VRep σ S ι v1 (.one (.ptr b 1 0 0)) ∧ VRep σ S ι v2 (.one (.ptr c 1 0 0)) := by
    cases hvs with
    | cons h1 hvs => cases hvs with
      | cons h2 hvs => cases hvs with
        | nil => exact ⟨_, _, rfl, h1, h2⟩
  have hta : ∀ w, (Instr.typeAssert (.iface 62 (.int .i64 n)) 20 62 true).run Try.prog w = .ok (.tuple #[.int .i64 n, .bool true]) w := fun w => run_assert_hit (P := Try.prog) (t := 62) Try.underlying62
  obtain ⟨c1, c2, hc, h1, h2⟩ := trCode_seq tr_term_Parse_1
  have hb : Try.f26.body = some (.seq c1 c2) := congrArg some hc
  injection hc with e1 e2
  subst e1
  clear e2 h1
  refine callsD_of_wpS Try.func26 hb fun c₀ cs hu => ?_
  apply wpS_seq
  apply wpS_region
  simp [wpOpsS, go_sem, recoverD, hu, hta, Try.ntmps26, Exit.thenS]
  have hH := holdsR (b := b) (c := c) (n := n) (ok := true) (a := { tmps := #[v1, v2] ++ (((((((Array.replicate 10 undef).setIfInBounds 3 (fault n)).setIfInBounds 4 (Value.tuple #[Value.int IntKind.i64 n, Value.bool true])).setIfInBounds 2 (Value.tuple #[Value.int IntKind.i64 n, Value.bool true])).setIfInBounds 5 (Value.int IntKind.i64 n)).setIfInBounds 6 (Value.bool true)).setIfInBounds 0 (Value.int IntKind.i64 n)).setIfInBounds 1 (Value.bool true), defers := [] }) hclean hglob hfit hown r1 r2 hn (by simp) (by simp) (by simp) (by simp) (by simp) rfl
  refine wpS_of_wp (wp_mono ((?hw : IWP Try.prog _ [] _ (fun e s => e = .normal ∧ s.S = gone S b c n) ⟨envR b c n true, S⟩) c2 h2 _ w hH) fun e a' w' he => ?_)
  case' hw => skip
  rotate_left
  · cases e with
    | normal =>
      obtain ⟨s, ⟨_, hS⟩, hH'⟩ := he
      have hbe := behind_of ⟨rfl, rfl, rfl, rfl, rfl, rfl⟩ (by rw [hS]; exact clean_upd (clean_upd hclean hb1 (by simp [ABlk.high, AC.highs, AC.high])) hc1 (by simp [ABlk.high, AC.highs, AC.high])) hH'
      rw [hS] at hbe
      obtain ⟨σ', ι', R'⟩ := hH'
      refine ⟨R'.nod, _, rfl, .tuple #[], by simp [results, Try.results26], ⟨_, rfl⟩, rfl, hbe⟩
    | ret => obtain ⟨s, h, _⟩ := he; cases h.1
    | exit id => obtain ⟨s, h, _⟩ := he; cases h.1
    | panic ch => obtain ⟨s, v, h, _⟩ := he; cases h.1.1
    | goto l => exact he.elim
    | outgrown => exact he.elim
  · have hcb : ¬ c = b := fun h => hbc h.symm
    repeat' (first | (with_reducible first | refine Wa ?_ | refine Wb ?_ | refine Wc ?_ | refine Wd ?_ | refine We ?_ | refine Wf ?_ | refine Wg ?_ | refine Wh ?_ | refine Wi ?_ | refine Wj ?_ | refine Wk (by decide) ?_ | refine Wl ?_ | refine Wm ?_ | refine Wn ?_) | ((with_reducible first | refine Wo (fun K hK => ?_) | refine Wp ?_ | refine Wq ?_ | refine Wr ?_); (try simp only [go_sem, List.forall_mem_nil, ↓guard_ite, ↓pick_ite, seval, encT_eq, inR_i64, envR, sb, sc, hl, hcb, decide_eq_true_eq, decide_eq_false_iff_not, Int.ofNat_lt]); (repeat with_reducible refine And.intro (by first | omega | (with_reducible first | exact lens_encT | exact lens_encL | exact lens_encB | exact lens_encP) | (simp; done) | (simp only [List.length_take, List.length_map, List.length_append, maxLen_eq]; omega)) ?_); (try (with_reducible refine hK _ ?_; clear hK K)); (try with_reducible refine ite_conj ?_)))
    refine ⟨rfl, ?_⟩
    have hdl : List.drop 2 cs1 = [] := List.drop_eq_nil_of_le (by omega)
    rw [hdl]
    rfl
theorem settled (n : Int) : settle (.panicking [{ v := fault n, recovered := true }]) = .returning := by
  rfl
theorem endD_pan {n : Int} (hn : inR .i64 n) {x : AS} {c1 c2 : AC} {x1 : AC} (e2 : x.env 2 = .one (.ptr 1002 1 0 0)) (e3 : x.env 3 = .one (.ptr 1003 1 0 0)) (t2 : x.S 1002 = some (.box 24 [c1, c2])) (t3 : x.S 1003 = some (.box 25 [x1])) :
    EndD Try.prog 26 [.one (.ptr 1002 1 0 0), .one (.ptr 1003 1 0 0)] [RV.cell 2 true 2, RV.cell 3 false 1] (readV (.mk ⟨#[]⟩ [], n)) (.pan (fault n)) x := by
  refine ⟨_, _, parse1_pan n hn 2002 2003 (upS x.S) (cs1 := [c1.ren up1, c2.ren up1]) (x1 := x1.ren up1) (by decide) (by decide) (by decide) ?_ rfl ?_, settled n, ?_⟩
  · rw [show (2002 : Nat) = up1 1002 from rfl, upS_up, t2]
    rfl
  · rw [show (2003 : Nat) = up1 1003 from rfl, upS_up, t3]
    rfl
  · unfold gone
    rw [show (2002 : Nat) = up1 1002 from rfl, show (2003 : Nat) = up1 1003 from rfl, dnS_upd, dnS_upd, dn_upS]
    unfold AS.result
    simp only [go_sem, List.forall_mem_nil, ↓guard_ite, ↓pick_ite, seval, encT_eq, inR_i64, resAll, resOne, tupV, e2, e3]
    rfl
set_option maxRecDepth 100000 in
theorem parse_a (s : ByteArray) : ACalls Try.prog 7 [aStr s] (readV (readOf s)) := by
  have hro : readOf s = if 4000 < s.size then (.mk ⟨#[]⟩ [], 3) else if (rdS s).e = 0 then (if (rdS s).i < s.size then (.mk ⟨#[]⟩ [], 12) else ((rdS s).t, 0)) else (.mk ⟨#[]⟩ [], (rdS s).e) := rfl
  refine acalls_defer (f := 7) (g := 26) (t := 9) (rs := [.cell 2 true 2, .cell 3 false 1]) Try.func7 rfl tr_term_Parse rfl (Nat.le_of_ble_eq_true rfl) rfl rfl rfl rfl rfl rfl rfl (Nat.le_of_ble_eq_true rfl) rfl (by kernel_rfl) fun C hC => ?_
  have hC : C.n = 22 := hC
  by_cases h0 : (4000 : Int) < s.size
  · rw [hro, if_pos (by omega)]
    unfold readV
    repeat' (first | (with_reducible first | refine Wa ?_ | refine Wb ?_ | refine Wc ?_ | refine Wd ?_ | refine We ?_ | refine Wf ?_ | refine Wg ?_ | refine Wh ?_ | refine Wi ?_ | refine Wj ?_ | refine Wk (by decide) ?_ | refine Wl ?_ | refine Wm ?_ | refine Wn ?_) | ((with_reducible first | refine Wx rfl (fun K hK => ?_) | refine Wp ?_ | refine Wq ?_ | refine Wr ?_); (try simp only [go_sem, List.forall_mem_nil, ↓guard_ite, ↓pick_ite, seval, encT_eq, inR_i64, h0, decide_eq_true_eq, decide_eq_false_iff_not, Int.ofNat_lt]); (repeat with_reducible refine And.intro (by first | omega | (with_reducible first | exact lens_encT | exact lens_encL | exact lens_encB | exact lens_encP) | (simp; done) | (simp only [List.length_take, List.length_map, List.length_append, maxLen_eq]; omega)) ?_); (try (with_reducible refine hK _ ?_; clear hK K)); (try with_reducible refine ite_conj ?_)))
    refine then_normal ?_
    repeat' (first | (with_reducible first | refine Wa ?_ | refine Wb ?_ | refine Wc ?_ | refine Wd ?_ | refine We ?_ | refine Wf ?_ | refine Wg ?_ | refine Wh ?_ | refine Wi ?_ | refine Wj ?_ | refine Wk (by decide) ?_ | refine Wl ?_ | refine Wm ?_ | refine Wn ?_) | ((with_reducible first | refine Wx rfl (fun K hK => ?_) | refine Wp ?_ | refine Wq ?_ | refine Wr ?_); (try simp only [go_sem, List.forall_mem_nil, ↓guard_ite, ↓pick_ite, seval, encT_eq, inR_i64, h0, decide_eq_true_eq, decide_eq_false_iff_not, Int.ofNat_lt]); (repeat with_reducible refine And.intro (by first | omega | (with_reducible first | exact lens_encT | exact lens_encL | exact lens_encB | exact lens_encP) | (simp; done) | (simp only [List.length_take, List.length_map, List.length_append, maxLen_eq]; omega)) ?_); (try (with_reducible refine hK _ ?_; clear hK K)); (try with_reducible refine ite_conj ?_)))
    simp only [go_sem, List.forall_mem_nil, ↓guard_ite, ↓pick_ite, seval, FinQ, AS.result, resAll, resOne, tupV]
    rfl
  have hs : s.size ≤ 100000 := by omega
  rw [hro, if_neg (by omega)]
  repeat' (first | (with_reducible first | refine Wa ?_ | refine Wb ?_ | refine Wc ?_ | refine Wd ?_ | refine We ?_ | refine Wf ?_ | refine Wg ?_ | refine Wh ?_ | refine Wi ?_ | refine Wj ?_ | refine Wk (by decide) ?_ | refine Wl ?_ | refine Wm ?_ | refine Wn ?_) | ((with_reducible first | refine Wx rfl (fun K hK => ?_) | refine Wp ?_ | refine Wq ?_ | refine Wr ?_); (try simp only [go_sem, List.forall_mem_nil, ↓guard_ite, ↓pick_ite, seval, encT_eq, inR_i64, h0, decide_eq_true_eq, decide_eq_false_iff_not, Int.ofNat_lt]); (repeat with_reducible refine And.intro (by first | omega | (with_reducible first | exact lens_encT | exact lens_encL | exact lens_encB | exact lens_encP) | (simp; done) | (simp only [List.length_take, List.length_map, List.length_append, maxLen_eq]; omega)) ?_); (try (with_reducible refine hK _ ?_; clear hK K)); (try with_reducible refine ite_conj ?_)))
  refine then_normal ?_
  repeat' (first | (with_reducible first | refine Wa ?_ | refine Wb ?_ | refine Wc ?_ | refine Wd ?_ | refine We ?_ | refine Wf ?_ | refine Wg ?_ | refine Wh ?_ | refine Wi ?_ | refine Wj ?_ | refine Wk (by decide) ?_ | refine Wl ?_ | refine Wm ?_ | refine Wn ?_) | ((with_reducible first | refine Wx rfl (fun K hK => ?_) | refine Wp ?_ | refine Wq ?_ | refine Wr ?_); (try simp only [go_sem, List.forall_mem_nil, ↓guard_ite, ↓pick_ite, seval, encT_eq, inR_i64, h0, decide_eq_true_eq, decide_eq_false_iff_not, Int.ofNat_lt]); (repeat with_reducible refine And.intro (by first | omega | (with_reducible first | exact lens_encT | exact lens_encL | exact lens_encB | exact lens_encP) | (simp; done) | (simp only [List.length_take, List.length_map, List.length_append, maxLen_eq]; omega)) ?_); (try (with_reducible refine hK _ ?_; clear hK K)); (try with_reducible refine ite_conj ?_)))
  refine then_normal ⟨_, by simp [AS.caps]; rfl, fun C' hC' => ?_⟩
  have hC' : C'.n = 22 := hC'
  generalize hT : AS.up _ = T
  have e0 : T.env 0 = aStr s := by subst hT; rfl
  have e2 : T.env 2 = .one (.ptr 1002 1 0 0) := by subst hT; rfl
  have e3 : T.env 3 = .one (.ptr 1003 1 0 0) := by subst hT; rfl
  have t2 : T.S 1002 = some boxT0r := by subst hT; rfl
  have t3 : T.S 1003 = some (.box 25 [.st (.int .i64 0)]) := by subst hT; rfl
  have t12 : T.S 12 = none := by subst hT; rfl
  obtain ⟨env, S⟩ := T
  simp only at e0 e2 e3 t2 t3 t12
  clear hT
  have hcall := fun S' (h : S' (up1 12) = some (boxR s 200)) => rterm_S s hs (2 * s.size + 1) 0 0 (by omega) (by omega) (by omega) (up1 12) S' (up1_le 12) (by rw [h, tail_zero]; rfl)
  have hr : rd s (2 * s.size + 1) 0 0 = rdS s := rfl
  rw [hr] at hcall
  have hok := rd_ok s (2 * s.size + 1) 0 0 (by omega) (by omega) (by omega)
  rw [hr] at hok
  have hrange : inR .i64 (rdS s).e := by
    rw [inR_i64]
    have := hok.err
    omega
  by_cases h1 : (rdS s).e = 0
  case neg =>
    rw [if_neg h1]
    repeat' (first | (with_reducible first | refine Wa ?_ | refine Wb ?_ | refine Wc ?_ | refine Wd ?_ | refine We ?_ | refine Wf ?_ | refine Wg ?_ | refine Wh ?_ | refine Wi ?_ | refine Wj ?_ | refine Wk (by decide) ?_ | refine Wl ?_ | refine Wm ?_ | refine Wn ?_) | (first | refine IWP.opsPanE 1 ⟨some 14, none, .callS 27 [.t 13], .no⟩ rfl (by kernel_rfl) ?_) | ((with_reducible first | refine Wx rfl (fun K hK => ?_) | refine Wp ?_ | refine Wq ?_ | refine Wr ?_); (try simp only [go_sem, List.forall_mem_nil, ↓guard_ite, ↓pick_ite, seval, encT_eq, inR_i64, e0, e2, e3, t2, t3, t12, decide_eq_true_eq, decide_eq_false_iff_not, Int.ofNat_lt]); (repeat with_reducible refine And.intro (by first | omega | (with_reducible first | exact lens_encT | exact lens_encL | exact lens_encB | exact lens_encP) | (simp; done) | (simp only [List.length_take, List.length_map, List.length_append, maxLen_eq]; omega)) ?_); (try (with_reducible refine hK _ ?_; clear hK K)); (try with_reducible refine ite_conj ?_)))
    simp only [go_sem, List.forall_mem_nil, ↓guard_ite, ↓pick_ite, seval, encT_eq, inR_i64, PanAt, List.take_succ_cons, List.take_zero, e0, e2, e3, t2, t3, t12]
    refine ⟨_, _, (hcall _ (by rw [upS_up, updE_same]; rfl)).2 h1, fun envP hE => ?_⟩
    refine Wy (endD_pan (c1 := .st (.str ⟨#[]⟩)) (c2 := .full []) (x1 := .st (.int .i64 0)) hrange ((hE 2 rfl).trans (by simp only [go_sem, List.forall_mem_nil, ↓guard_ite, ↓pick_ite, seval, encT_eq, inR_i64, e2])) ((hE 3 rfl).trans (by simp only [go_sem, List.forall_mem_nil, ↓guard_ite, ↓pick_ite, seval, encT_eq, inR_i64, e3])) ?_ ?_)
    · simp only [go_sem, List.forall_mem_nil, ↓guard_ite, ↓pick_ite, seval, encT_eq, inR_i64, t2]
    · simp only [go_sem, List.forall_mem_nil, ↓guard_ite, ↓pick_ite, seval, encT_eq, inR_i64, t3]
  case pos =>
  rw [if_pos h1]
  obtain ⟨o1, o2, o3, o4⟩ := hok.ok h1
  have hiq := hok.in_
  have hnq := tail_nil hiq
  by_cases h2 : (rdS s).i < s.size
  · have h2n : ¬ tailS s (rdS s).i = ⟨#[]⟩ := fun h => by have := hnq.1 h; omega
    rw [if_pos h2]
    repeat' (first | (with_reducible first | refine Wa ?_ | refine Wb ?_ | refine Wc ?_ | refine Wd ?_ | refine We ?_ | refine Wf ?_ | refine Wg ?_ | refine Wh ?_ | refine Wi ?_ | refine Wj ?_ | refine Wk (by decide) ?_ | refine Wl ?_ | refine Wm ?_ | refine Wn ?_) | ((with_reducible first | refine Wx rfl (fun K hK => ?_) | refine Wp ?_ | refine Wq ?_ | refine Wr ?_); (try simp only [go_sem, List.forall_mem_nil, ↓guard_ite, ↓pick_ite, seval, encT_eq, inR_i64, e0, e2, e3, t2, t3, t12, decide_eq_true_eq, decide_eq_false_iff_not, Int.ofNat_lt]); (repeat with_reducible refine And.intro (by first | omega | (with_reducible first | exact lens_encT | exact lens_encL | exact lens_encB | exact lens_encP) | (simp; done) | (simp only [List.length_take, List.length_map, List.length_append, maxLen_eq]; omega)) ?_); (try (with_reducible refine hK _ ?_; clear hK K)); (try with_reducible refine ite_conj ?_)))
    refine ⟨_, _, (hcall _ (by rw [upS_up, updE_same]; rfl)).1 h1, ?_⟩
    repeat' (first | (with_reducible first | refine Wa ?_ | refine Wb ?_ | refine Wc ?_ | refine Wd ?_ | refine We ?_ | refine Wf ?_ | refine Wg ?_ | refine Wh ?_ | refine Wi ?_ | refine Wj ?_ | refine Wk (by decide) ?_ | refine Wl ?_ | refine Wm ?_ | refine Wn ?_) | ((with_reducible first | refine Wx rfl (fun K hK => ?_) | refine Wp ?_ | refine Wq ?_ | refine Wr ?_); (try simp only [go_sem, List.forall_mem_nil, ↓guard_ite, ↓pick_ite, seval, encT_eq, inR_i64, e0, e2, e3, t2, t3, t12, h2n, decide_eq_true_eq, decide_eq_false_iff_not, Int.ofNat_lt]); (repeat with_reducible refine And.intro (by first | omega | (with_reducible first | exact lens_encT | exact lens_encL | exact lens_encB | exact lens_encP) | (simp; done) | (simp only [List.length_take, List.length_map, List.length_append, maxLen_eq]; omega)) ?_); (try (with_reducible refine hK _ ?_; clear hK K)); (try with_reducible refine ite_conj ?_)))
    refine IWP.opsPanE 1 _ rfl (by kernel_rfl) ?_
    simp only [go_sem, List.forall_mem_nil, ↓guard_ite, ↓pick_ite, seval, encT_eq, inR_i64, PanAt, List.take_succ_cons, List.take_zero, e0, e2, e3, t2, t3, t12]
    intro envP hE
    refine Wy (endD_pan (n := 12) (c1 := .st (.str (rdS s).t.name)) (c2 := .st (.list (List.map encT (rdS s).t.args))) (x1 := .st (.int .i64 0)) (by decide) ((hE 2 rfl).trans (by simp only [go_sem, List.forall_mem_nil, ↓guard_ite, ↓pick_ite, seval, encT_eq, inR_i64, e2])) ((hE 3 rfl).trans (by simp only [go_sem, List.forall_mem_nil, ↓guard_ite, ↓pick_ite, seval, encT_eq, inR_i64, e3])) ?_ ?_)
    · simp only [go_sem, List.forall_mem_nil, ↓guard_ite, ↓pick_ite, seval, encT_eq, inR_i64, t2]
    · simp only [go_sem, List.forall_mem_nil, ↓guard_ite, ↓pick_ite, seval, encT_eq, inR_i64, t3]
  · have h2n : tailS s (rdS s).i = ⟨#[]⟩ := hnq.2 (by omega)
    rw [if_neg h2]
    repeat' (first | (with_reducible first | refine Wa ?_ | refine Wb ?_ | refine Wc ?_ | refine Wd ?_ | refine We ?_ | refine Wf ?_ | refine Wg ?_ | refine Wh ?_ | refine Wi ?_ | refine Wj ?_ | refine Wk (by decide) ?_ | refine Wl ?_ | refine Wm ?_ | refine Wn ?_) | ((with_reducible first | refine Wx rfl (fun K hK => ?_) | refine Wp ?_ | refine Wq ?_ | refine Wr ?_); (try simp only [go_sem, List.forall_mem_nil, ↓guard_ite, ↓pick_ite, seval, encT_eq, inR_i64, e0, e2, e3, t2, t3, t12, decide_eq_true_eq, decide_eq_false_iff_not, Int.ofNat_lt]); (repeat with_reducible refine And.intro (by first | omega | (with_reducible first | exact lens_encT | exact lens_encL | exact lens_encB | exact lens_encP) | (simp; done) | (simp only [List.length_take, List.length_map, List.length_append, maxLen_eq]; omega)) ?_); (try (with_reducible refine hK _ ?_; clear hK K)); (try with_reducible refine ite_conj ?_)))
    refine ⟨_, _, (hcall _ (by rw [upS_up, updE_same]; rfl)).1 h1, ?_⟩
    repeat' (first | (with_reducible first | refine Wa ?_ | refine Wb ?_ | refine Wc ?_ | refine Wd ?_ | refine We ?_ | refine Wf ?_ | refine Wg ?_ | refine Wh ?_ | refine Wi ?_ | refine Wj ?_ | refine Wk (by decide) ?_ | refine Wl ?_ | refine Wm ?_ | refine Wn ?_) | ((with_reducible first | refine Wx rfl (fun K hK => ?_) | refine Wp ?_ | refine Wq ?_ | refine Wr ?_); (try simp only [go_sem, List.forall_mem_nil, ↓guard_ite, ↓pick_ite, seval, encT_eq, inR_i64, e0, e2, e3, t2, t3, t12, h2n, decide_eq_true_eq, decide_eq_false_iff_not, Int.ofNat_lt]); (repeat with_reducible refine And.intro (by first | omega | (with_reducible first | exact lens_encT | exact lens_encL | exact lens_encB | exact lens_encP) | (simp; done) | (simp only [List.length_take, List.length_map, List.length_append, maxLen_eq]; omega)) ?_); (try (with_reducible refine hK _ ?_; clear hK K)); (try with_reducible refine ite_conj ?_)))
    refine ⟨_, parse1_idle _ _ _, ?_⟩
    rw [dn_upS]
    unfold AS.result
    simp only [go_sem, List.forall_mem_nil, ↓guard_ite, ↓pick_ite, seval, encT_eq, inR_i64, resAll, resOne, tupV, e2, e3]
    rfl
end Go.Proofs.Ytohgkbgpcnmdpaa

namespace Go.Proofs.Ytohgkbgpcnmdpaa
open Go Go.RowKit
set_option maxHeartbeats 400000
set_option linter.unusedVariables false
theorem ret_bool {a b : Bool} (h : a = b) : Ending.returned (.bool a) = .returned (.bool b) := by rw [h]
theorem ret_int {k : IntKind} {a b : Int} (h : a = b) : Ending.returned (.int k a) = .returned (.int k b) := by rw [h]

/-! ### plain -/
/-! ### the walks -/
theorem letter_any (n : Int) (w : World) : Calls Try.prog 47 #[.int .u8 n] w fun e w' => e = .returned (.bool (letterI n)) ∧ w = w' := by
  go_enter Try.func47, Try.ntmps47
  go_wp2
  all_goals go_ret
  all_goals exact ⟨ret_bool (by rw [Bool.eq_iff_iff]; simp [letterI]; try omega), rfl⟩
theorem var_any (s : ByteArray) (w : World) : Calls Try.prog 44 #[.string s] w fun e w' => e = .returned (.bool (isVar s)) ∧ w = w' := by
  by_cases h0 : s.size = 0
  · have hn : s.toList = [] := (toList_nil s).2 h0
    have H0 := Lib.hid h0; clear h0
    go_enter Try.func44, Try.ntmps44
    go_wp2
    go_ret
    have h0 := H0.out
    exact ⟨ret_bool (by simp [isVar, h0]), rfl⟩
  · have hn : s.toList.isEmpty = false := by
      cases h : s.toList with
      | nil => exact absurd ((toList_nil s).1 h) h0
      | cons _ _ => rfl
    have hpos : 0 < s.size := by omega
    have hb := byteAt_get s 0 hpos
    have H0 := Lib.hid hb; clear hb h0
    go_enter Try.func44, Try.ntmps44
    go_wp2
    all_goals go_ret
    all_goals exact ⟨ret_bool (by have hb := H0.out; rw [Bool.eq_iff_iff]; simp [isVar]; omega), rfl⟩
theorem name_any (s : ByteArray) (w : World) (hs : s.size ≤ maxLen) : Calls Try.prog 48 #[.string s] w fun e w' => e = .returned (.bool (nameOk s)) ∧ w = w' := by
  unfold maxLen at hs
  by_cases h0 : s.size = 0
  · have hn : s.toList = [] := (toList_nil s).2 h0
    have hz : (s.size : Int) < 1 := by omega
    have H0 := Lib.hid h0; clear h0
    go_enter Try.func48, Try.ntmps48
    go_wp2_with fail
    go_ret
    have h0 := H0.out
    exact ⟨ret_bool (by simp [nameOk, h0]), rfl⟩
  have hn : s.toList.isEmpty = false := by
    cases h : s.toList with
    | nil => exact absurd ((toList_nil s).1 h) h0
    | cons _ _ => rfl
  have hpos : 0 < s.size := by omega
  have hpos1 : (1 : Int) ≤ (s.size : Int) := by omega
  by_cases h8 : 8 < s.size
  · have h8' : (8 : Int) < (s.size : Int) := by omega
    go_enter Try.func48, Try.ntmps48
    go_wp2_with fail
    go_ret
    exact ⟨ret_bool (by rw [Bool.eq_iff_iff]; simp [nameOk]; omega), rfl⟩
  have h8' : (s.size : Int) ≤ 8 := by omega
  have HB := Lib.hid (byteAt_get s 0 hpos)
  by_cases hd : 48 ≤ ((s[0]'hpos).toNat : Int)
  · by_cases hd2 : ((s[0]'hpos).toNat : Int) ≤ 57
    · go_enter Try.func48, Try.ntmps48
      go_wp2_with fail
      go_ret
      have hb := HB.out
      exact ⟨ret_bool (by rw [Bool.eq_iff_iff]; simp [nameOk]; omega), rfl⟩
    · have hd3 : 57 < ((s[0]'hpos).toNat : Int) := by omega
      have HN : Hid (1 ≤ s.size ∧ s.size ≤ 8 ∧ 57 < byteAt s 0) := ⟨by omega, by omega, by rw [← HB.out]; exact hd3⟩
      clear hd2
      go_enter Try.func48, Try.ntmps48
      go_wp2_with fail
      go_loop [24] (fun i => ∃ k : Nat, k ≤ s.size ∧ i = .int .i64 k ∧ Hid (lettersTo s k = true)) (fun i => s.size - (intOf i).toNat)
      case atStart => exact ⟨0, Nat.zero_le _, rfl, rfl⟩
      case round =>
        obtain ⟨k, hk, rfl, HK⟩ := hrel
        by_cases hlt : k < s.size
        · have HB := Lib.hid (byteAt_get s k hlt)
          have HS := Lib.hid (lettersTo_succ s k hlt)
          cases hc : letterI (byteAt s k) with
          | true =>
            have HC := Lib.hid hc; clear hc
            go_wp2_with fail
            refine (letter_any _ _).mono ?_
            rintro e w' ⟨rfl, rfl⟩
            rw [HB.out, HC.out]
            go_wp2_with fail
            go_round
            case rel => exact ⟨k + 1, by omega, by go_num, by have h1 := HK.out; have h2 := HC.out; have h3 := HS.out; rw [h1, h2] at h3; exact h3⟩
            case measure => simp [intOf]; omega
          | false =>
            have HC := Lib.hid hc; clear hc
            go_wp2_with fail
            refine (letter_any _ _).mono ?_
            rintro e w' ⟨rfl, rfl⟩
            rw [HB.out, HC.out]
            go_wp2_with fail
            go_ret
            have h := lettersTo_no s k hlt HC.out
            exact ⟨ret_bool (by simp [nameOk, h]), rfl⟩
        · go_wp2_with fail
          go_ret
          obtain rfl : k = s.size := by omega
          have h := HK.out
          have h1 := HN.out
          exact ⟨ret_bool (by rw [Bool.eq_iff_iff]; simp [nameOk, h]; omega), rfl⟩
  · have hd3 : ((s[0]'hpos).toNat : Int) < 48 := by omega
    have HN : Hid (1 ≤ s.size ∧ s.size ≤ 8 ∧ byteAt s 0 < 48) := ⟨by omega, by omega, by rw [← HB.out]; exact hd3⟩
    clear hd
    go_enter Try.func48, Try.ntmps48
    go_wp2_with fail
    go_loop [24] (fun i => ∃ k : Nat, k ≤ s.size ∧ i = .int .i64 k ∧ Hid (lettersTo s k = true)) (fun i => s.size - (intOf i).toNat)
    case atStart => exact ⟨0, Nat.zero_le _, rfl, rfl⟩
    case round =>
      obtain ⟨k, hk, rfl, HK⟩ := hrel
      by_cases hlt : k < s.size
      · have HB := Lib.hid (byteAt_get s k hlt)
        have HS := Lib.hid (lettersTo_succ s k hlt)
        cases hc : letterI (byteAt s k) with
        | true =>
          have HC := Lib.hid hc; clear hc
          go_wp2_with fail
          refine (letter_any _ _).mono ?_
          rintro e w' ⟨rfl, rfl⟩
          rw [HB.out, HC.out]
          go_wp2_with fail
          go_round
          case rel => exact ⟨k + 1, by omega, by go_num, by have h1 := HK.out; have h2 := HC.out; have h3 := HS.out; rw [h1, h2] at h3; exact h3⟩
          case measure => simp [intOf]; omega
        | false =>
          have HC := Lib.hid hc; clear hc
          go_wp2_with fail
          refine (letter_any _ _).mono ?_
          rintro e w' ⟨rfl, rfl⟩
          rw [HB.out, HC.out]
          go_wp2_with fail
          go_ret
          have h := lettersTo_no s k hlt HC.out
          exact ⟨ret_bool (by simp [nameOk, h]), rfl⟩
      · go_wp2_with fail
        go_ret
        obtain rfl : k = s.size := by omega
        have h := HK.out
        have h1 := HN.out
        exact ⟨ret_bool (by rw [Bool.eq_iff_iff]; simp [nameOk, h]; omega), rfl⟩
end Go.Proofs.Ytohgkbgpcnmdpaa

namespace Go.Proofs.Ytohgkbgpcnmdpaa
open Go Go.RowKit
set_option maxHeartbeats 400000
set_option linter.unusedVariables false

/-! ### plain -/
/-- Below behind a call -/
theorem below_call {N : Nat} {a w w' : World} (h : Below N a w) (hN : N ≤ w.heap.size) (h1 : Below w.heap.size w w') : Below N a w' := h.trans (h1.mono hN)
theorem below_alloc_call {N : Nat} {a w w' : World} {o : Obj} (h : Below N a w) (hN : N ≤ w.heap.size) (h1 : Below (w.alloc o).heap.size (w.alloc o) w') : Below N a w' :=
  (h.alloc hN o).trans (h1.mono (by simp; omega))

/-- A box of the call's own behind which nothing older has turned. -/
theorem box_below {w wr : World} {o : Obj} (hb : Below (w.heap.size + 1) (w.alloc o) wr) : Below w.heap.size w wr :=
  ((Below.refl _ _).alloc (Nat.le_refl _) o).trans (hb.mono (by omega))
theorem box_cell {w wr : World} {cs : Array Value} {T : TypeId} (hb : Below (w.heap.size + 1) (w.alloc (.cells cs T)) wr) (j : Nat) : wr.cell? ⟨w.heap.size, j, none⟩ = cs[j]? := by
  rw [hb.cell (p := ⟨w.heap.size, j, none⟩) (by simp)]
  exact World.cell?_alloc_new w cs T j

/-! ### the walks -/
def WithinAt (t : Tm) : Prop := ∀ (σ : Sto) (v : Value) (w : World) (m : Int), Fit σ w → TmV σ v t → 0 ≤ m → m ≤ 1000000000 →
    Calls Try.prog 53 #[v, .int .i64 m] w fun e w' => e = .returned (.int .i64 (lessBy t.size m)) ∧ Below w.heap.size w w'
theorem within_any : ∀ (N : Nat) (t : Tm), SizeOf.sizeOf t < N → WithinAt t := by
  intro N
  induction N with
  | zero => intro t h; omega
  | succ N ih =>
  intro t hN σ v w m hs ht hm0 hm1
  obtain ⟨p, len, cap, rfl, hn, hsl⟩ := ht
  have HL := Lib.hid hsl.length
  have hlm := hsl.max
  go_enter Try.func53, Try.ntmps53
  go_wp2_with fail
  go_loopw [1, 12] (fun n i wr => ∃ (k : Nat) (q : Int), k ≤ len ∧ i = .int .i64 k ∧ n = .int .i64 q ∧ Hid (q = lessBy (1 + Tm.sizes (t.args.take k)) m) ∧ -1 ≤ q ∧ q < m ∧ Below w.heap.size w wr) (fun _ i _ => len - (intOf i).toNat)
  case atStart => exact ⟨0, m - 1, Nat.zero_le _, rfl, rfl, by show m - 1 = lessBy _ m; unfold lessBy; simp [Tm.sizes]; omega, by omega, by omega, (Below.refl _ _).alloc (Nat.le_refl _) _⟩
  case round =>
    obtain ⟨k, q, hk, rfl, rfl, HQ, hq1, hq2, hb⟩ := hrel
    by_cases hlt : k < len
    · obtain ⟨b, o, a, q', l, c, rfl, HA, f0, f1, hn', hsl'⟩ := hsl.tm k hlt
      have hfw := hs.below hb
      have g0 := fitC hfw f0
      have g1 := fitC hfw f1
      by_cases hneg : q < 0
      · go_wp2_with fail
        go_ret
        refine ⟨ret_int ?_, hb.alloc hb.size _⟩
        have h1 := Tm.sizes_take_le t.args k
        have h2 := HQ.out
        have h3 := Tm.size_eq t
        unfold lessBy at *
        split at h2 <;> split <;> omega
      · have hnn : 0 ≤ q := by omega
        go_wp2_with fail
        refine (ih a (by have := Tm.lt_of_arg (mem_of_get HA.out); omega) σ _ _ q (hfw.alloc _) ⟨_, _, _, rfl, hn', hsl'⟩ hnn (by omega)).mono ?_
        rintro e w1 ⟨rfl, hb1⟩
        go_wp2_with fail
        go_roundw
        case rel =>
          have h2 := HQ.out
          have h3 := Tm.sizes_take HA.out
          have h4 := Tm.size_pos a
          refine ⟨k + 1, lessBy a.size q, by omega, by go_num, rfl, ?_, ?_, ?_, below_alloc_call hb hb.size hb1⟩
          · show _ = _
            rw [h3]
            unfold lessBy at *
            split at h2 <;> split <;> split <;> omega
          · unfold lessBy; split <;> omega
          · unfold lessBy; split <;> omega
        case measure => simp [intOf]; omega
    · go_wp2_with fail
      go_ret
      obtain rfl : k = len := by omega
      exact ⟨ret_int (by rw [HQ.out, List.take_of_length_le (by have := HL.out; omega), Tm.size_eq]), hb⟩

end Go.Proofs.Ytohgkbgpcnmdpaa

namespace Go.Proofs.Ytohgkbgpcnmdpaa
open Go Go.RowKit
set_option linter.unusedVariables false
set_option linter.unusedSimpArgs false
open Cod (wid dat)

/-- A type of things both ways. -/
class Both (α : Type) [Cod α] where
  enc : α → List SV
  len : ∀ a, (enc a).length = wid α
  to_ : ∀ (σ : Sto) (a : α) (cs : List Value), All2 (SRep σ) cs (enc a) → Cells σ cs a
  from_ : ∀ (σ : Sto) (a : α) (cs : List Value), Cells σ cs a → All2 (SRep σ) cs (enc a)
open Both (enc)
section
variable {α : Type} [Cod α] {σ : Sto}
theorem slc_to {f : α → List SV} (hlen : ∀ a, (f a).length = wid α) {v : Value} {xs : List α} (hto : ∀ a ∈ xs, ∀ cs, All2 (SRep σ) cs (f a) → Cells σ cs a) (h : SRep σ v (.list (xs.map f))) : ∃ p len cap, v = .slice p len cap ∧ Slc σ p len cap xs := by
  cases h with
  | @list p len cap b o w _ c h1 h2 h3 h4 h5 h6 hh h7 h8 =>
    refine ⟨p, len, cap, rfl, by simpa using h1, h2, h3, h4, b, o, h5, ?_⟩
    have key : ∀ (ys : List α) (k : Nat), xs.drop k = ys → Dat.RowIs σ (wid α) (ys.map dat) b (o + k * wid α) := by
      intro ys
      induction ys with
      | nil => intro k _; trivial
      | cons y ys ih =>
        intro k hk
        have hy : xs[k]? = some y := by
          have := congrArg (fun l => l[0]?) hk
          simpa using this
        have hfy : (xs.map f)[k]? = some (f y) := by rw [List.getElem?_map, hy]; rfl
        have hw : w = wid α := by
          rw [← hlen y]
          exact (h6 _ (List.mem_of_getElem? hfy)).symm
        subst hw
        refine ⟨⟨(List.range (wid α)).map (c k), by simp, fun j x hj => ?_, ?_⟩, ?_⟩
        · rw [List.getElem?_map, Option.map_eq_some_iff] at hj
          obtain ⟨i, hi, rfl⟩ := hj
          have hj' : j < wid α := by
            have := (List.getElem?_eq_some_iff.1 hi).1
            simpa using this
          rw [List.getElem?_range hj'] at hi
          cases hi
          exact h7 k _ j _ hfy (List.getElem?_eq_getElem (by rw [hlen y]; exact hj'))
        · refine hto y (List.mem_of_getElem? hy) _ (All2.of_get (by simp [hlen]) fun j a1 b1 ha hb => ?_)
          have hj' : j < wid α := by rw [← hlen y]; exact (List.getElem?_eq_some_iff.1 hb).1
          rw [List.getElem?_map, List.getElem?_range hj'] at ha
          cases ha
          exact h8 k _ j _ hfy hb
        · have := ih (k + 1) (by rw [← List.drop_drop, hk]; rfl)
          rw [Nat.add_mul, Nat.one_mul, ← Nat.add_assoc] at this
          exact this
    simpa using key xs 0 rfl
theorem slc_from {f : α → List SV} (hlen : ∀ a, (f a).length = wid α) {p : Option Addr} {len cap : Nat} {xs : List α} (hfrom : ∀ a ∈ xs, ∀ cs, Cells σ cs a → All2 (SRep σ) cs (f a)) (h : Slc σ p len cap xs) : SRep σ (.slice p len cap) (.list (xs.map f)) := by
  obtain ⟨h1, h2, h3, h4, b, o, h5, h6⟩ := h
  have key : ∀ k x, (xs.map f)[k]? = some x → ∃ a, xs[k]? = some a ∧ x = f a := fun k x hx => by
    rw [List.getElem?_map, Option.map_eq_some_iff] at hx
    obtain ⟨a, ha, rfl⟩ := hx
    exact ⟨a, ha, rfl⟩
  have cell : ∀ k a j y, xs[k]? = some a → (f a)[j]? = some y → ∃ v, σ ⟨b, o + k * wid α + j, none⟩ = some v ∧ SRep σ v y := fun k a j y ha hy => by
    have hk := (List.getElem?_eq_some_iff.1 ha).1
    obtain ⟨cs, c1, c2, c3⟩ := h6.get k (by simpa using hk)
    have hc : Cells σ cs a := by
      have := (List.getElem?_eq_some_iff.1 ha).2
      simpa [Cells, this] using c3
    obtain ⟨v, v1, v2⟩ := (hfrom a (List.mem_of_getElem? ha) cs hc).get hy
    exact ⟨v, c2 j v v1, v2⟩
  refine .list (b := b) (o := o) (w := wid α) (fun k j => (σ ⟨b, o + k * wid α + j, none⟩).getD undef) (by simpa using h1) h2 h3 h4 h5 (fun x hx => ?_) (fun q _ _ => absurd q (by decide)) (fun k x j y hx hy => ?_) (fun k x j y hx hy => ?_)
  · obtain ⟨a, _, rfl⟩ := List.mem_map.1 hx
    exact hlen a
  · obtain ⟨a, ha, rfl⟩ := key k x hx
    obtain ⟨v, v1, v2⟩ := cell k a j y ha hy
    rw [v1]; rfl
  · obtain ⟨a, ha, rfl⟩ := key k x hx
    obtain ⟨v, v1, v2⟩ := cell k a j y ha hy
    rw [v1]; exact v2
end
section
variable {σ : Sto}
theorem encI_to (n : Int) (cs : List Value) (h : All2 (SRep σ) cs (encI n)) : Cells σ cs n := by
  cases h with
  | cons h1 h2 =>
    cases h2
    cases h1 with
    | int h => exact cells_int.2 ⟨rfl, by rw [inR_i64] at h; simpa [Lit.wf, IntKind.min, IntKind.max, IntKind.signed, IntKind.bits] using h⟩
theorem encT_to : ∀ (N : Nat) (t : Tm), SizeOf.sizeOf t < N → ∀ cs, All2 (SRep σ) cs (encT t) → Cells σ cs t := by
  intro N
  induction N with
  | zero => intro t h; omega
  | succ N ih =>
    intro t hN cs h
    rw [encT_eq] at h
    cases h with
    | cons h1 h2 =>
      cases h2 with
      | cons h2 h3 =>
        cases h3
        cases h1 with
        | str hs =>
          obtain ⟨p, len, cap, rfl, hsl⟩ := slc_to (f := encT) (fun a => by rw [encT_eq]; rfl) (fun a ha => ih a (by have := Tm.lt_of_arg ha; omega)) h2
          exact cells_tm.2 ⟨p, len, cap, rfl, hs, hsl⟩
theorem encT_from : ∀ (N : Nat) (t : Tm), SizeOf.sizeOf t < N → ∀ cs, Cells σ cs t → All2 (SRep σ) cs (encT t) := by
  intro N
  induction N with
  | zero => intro t h; omega
  | succ N ih =>
    intro t hN cs h
    obtain ⟨p, len, cap, rfl, hs, hsl⟩ := cells_tm.1 h
    rw [encT_eq]
    exact .cons (.str hs) (.cons (slc_from (f := encT) (fun a => by rw [encT_eq]; rfl) (fun a ha => ih a (by have := Tm.lt_of_arg ha; omega)) hsl) .nil)
theorem ints_to {v : Value} {l : List Int} (h : SRep σ v (.list (l.map encI))) : ∃ p len cap, v = .slice p len cap ∧ Slc σ p len cap l := slc_to (fun a => rfl) (fun a _ cs hc => encI_to a cs hc) h
theorem ints_from {p : Option Addr} {len cap : Nat} {l : List Int} (h : Slc σ p len cap l) : SRep σ (.slice p len cap) (.list (l.map encI)) := slc_from (f := encI) (fun a => rfl) (fun a _ cs hc => by
  obtain ⟨rfl, hw⟩ := cells_int.1 hc
  exact .cons (.int (by rw [inR_i64]; exact wf_bounds hw)) .nil) h
theorem tmV_to {S : AStore} {ι : AHnd} {v : Value} {t : Tm} (h : VRep σ S ι v (aTm t)) : TmV σ v t := by
  obtain ⟨vs, rfl, hvs⟩ := vrep_agg h
  obtain ⟨cs⟩ := vs
  cases hvs with
  | cons h1 h2 =>
    cases h2 with
    | cons h2 h3 =>
      cases h3
      cases arep_st h1 with
      | str hs =>
        obtain ⟨p, len, cap, rfl, hsl⟩ := slc_to (f := encT) (fun a => by rw [encT_eq]; rfl) (fun a _ => encT_to _ a (Nat.lt_succ_self _)) (arep_st h2)
        exact ⟨p, len, cap, rfl, hs, hsl⟩
theorem tmV_from {S : AStore} {ι : AHnd} {v : Value} {t : Tm} (h : TmV σ v t) : VRep σ S ι v (aTm t) := by
  obtain ⟨p, len, cap, rfl, hs, hsl⟩ := h
  exact .agg (.cons (.st (.str hs)) (.cons (.st (slc_from (f := encT) (fun a => by rw [encT_eq]; rfl) (fun a _ => encT_from _ a (Nat.lt_succ_self _)) hsl)) .nil))
end
end Go.Proofs.Ytohgkbgpcnmdpaa

namespace Go.Proofs.Ytohgkbgpcnmdpaa
open Go Go.RowKit
set_option linter.unusedVariables false
open Cod (wid dat)
section
variable {α : Type} [Cod α] {σ : Sto} {P : Program} {w : World}

theorem add_zero_off (b o j : Nat) : (⟨b, o, none⟩ : Addr).add j = ⟨b, o + j, none⟩ := by unfold Addr.add; split <;> simp_all

/-- Behind an append: what is known of the new row and of the world. -/
structure Grew (σ : Sto) (N : Nat) (w : World) (e : TypeId) (v : Value) (xs : List α) (v' : Value) (w' : World) : Prop where
  own : Own σ N w' e v' xs
  fit : Fit σ w'
  grown : w.grownBy w' v.ownBlock
  at_ : v'.ownBlock = v.ownBlock ∨ v'.ownBlock = some w.heap.size
  shape : ∃ p n c, v' = .slice p n c

theorem run_append_none {N : Nat} {e : TypeId} {v : Value} {xs : List α} (h : Own σ N w e v xs) (t ty : TypeId) (i : TypeInfo) (ht : P.underlying t = some (.slice e)) (hi : P.info? e = some i) (c : Nat) :
    (Builtin.append_ #[t, t] ty #[v, .slice none 0 c]).run P w = .ok v w := by
  obtain ⟨cs, h1, _⟩ := h.row
  rcases h1.2 with ⟨rfl, _⟩ | ⟨g, cap, cur, rfl, _, _, hnc, _⟩
  · simp [Builtin.append_, run_underlying ht, sizeOf, typeInfo, hi, Builtin.lenOf, Builtin.firstCells]
  · simp [Builtin.append_, run_underlying ht, sizeOf, typeInfo, hi, Builtin.lenOf, Builtin.firstCells, hnc, storeCells]

theorem grownBy_refl (w : World) (row : Option Nat) : w.grownBy w row := ⟨rfl, rfl, rfl, Nat.le_refl _, fun _ _ _ => rfl⟩

/-- What append does, the source any slice. -/
theorem run_append_slc {N : Nat} {e : TypeId} {v : Value} {xs : List α} (h : Own σ N w e v xs) (hf : Fit σ w) (t ty : TypeId) (i : TypeInfo) (z : Value) (bytes : Nat)
    (ht : P.underlying t = some (.slice e)) (hi : P.info? e = some i) (hz : i.zero = some z) (hsize : i.size = wid α) (hby : i.bytes = bytes) (hzs : z.cells.size = wid α) (hsz : 0 < wid α)
    (p : Option Addr) (m c : Nat) (ys : List α) (hsl : Slc σ p m c ys) (h63 : xs.length + ys.length ≤ maxLen) (hbytes : (xs.length + ys.length) * bytes ≤ 140737488355328) (hN : N ≤ w.heap.size) :
    ∃ v' w', (Builtin.append_ #[t, t] ty #[v, .slice p m c]).run P w = .ok v' w' ∧ Grew σ N w e v (xs ++ ys) v' w' := by
  obtain ⟨h1, h2, h3, h4, b, o, h5, h6⟩ := hsl
  subst h1
  cases p with
  | none =>
    have hc := h4 rfl
    have h0 : ys.length = 0 := by omega
    have : ys = [] := List.eq_nil_of_length_eq_zero h0
    subst this
    obtain ⟨p', c', hv, _⟩ := h.shape
    exact ⟨v, w, run_append_none h t ty i ht hi c, by simpa using h, hf, grownBy_refl w _, .inl rfl, ⟨p', _, c', hv⟩⟩
  | some ad =>
    by_cases h0 : ys.length = 0
    · have : ys = [] := List.eq_nil_of_length_eq_zero h0
      subst this
      obtain ⟨v', w', hr, k1, k2, k3, k4, p', c', k5⟩ := h.snoc (P := P) hf t ty i z bytes ht hi hz hsize hby hzs hsz ad 0 c [] [] (by simp) rfl (by simp) rfl (by simpa using h63) (by simpa using hbytes) hN
      exact ⟨v', w', hr, k1, k2, k3, k4, ⟨p', _, c', k5⟩⟩
    · have hp := h5 h0
      cases hp
      obtain ⟨news, n1, n2, n3⟩ := h6.all
      obtain ⟨v', w', hr, k1, k2, k3, k4, p', c', k5⟩ := h.snoc (P := P) hf t ty i z bytes ht hi hz hsize hby hzs hsz ⟨b, o, none⟩ ys.length c ys news (by simpa using n1) rfl (fun j u hu => by rw [add_zero_off]; exact hf _ _ (n2 j u hu)) n3 h63 hbytes hN
      exact ⟨v', w', hr, k1, k2, k3, k4, ⟨p', _, c', k5⟩⟩

/-- What append does, the source one thing in a block of its own. -/
theorem run_append_one {N : Nat} {e : TypeId} {v : Value} {xs : List α} (h : Own σ N w e v xs) (hf : Fit σ w) (t ty : TypeId) (i : TypeInfo) (z : Value) (bytes : Nat)
    (ht : P.underlying t = some (.slice e)) (hi : P.info? e = some i) (hz : i.zero = some z) (hsize : i.size = wid α) (hby : i.bytes = bytes) (hzs : z.cells.size = wid α) (hsz : 0 < wid α)
    (B : Nat) (cs : Array Value) (T : TypeId) (hB : w.heap[B]? = some (.cells cs T (0, 0))) (y : α) (hc : Cells σ cs.toList y) (h63 : xs.length + 1 ≤ maxLen) (hbytes : (xs.length + 1) * bytes ≤ 140737488355328) (hN : N ≤ w.heap.size) :
    ∃ v' w', (Builtin.append_ #[t, t] ty #[v, .slice (some ⟨B, 0, none⟩) 1 1]).run P w = .ok v' w' ∧ Grew σ N w e v (xs ++ [y]) v' w' := by
  obtain ⟨v', w', hr, k1, k2, k3, k4, p', c', k5⟩ := h.snoc (P := P) hf t ty i z bytes ht hi hz hsize hby hzs hsz ⟨B, 0, none⟩ 1 1 [y] cs.toList (by have := hc.len; simpa using this) rfl (World.news_of_block hB) (Dat.AggIs.single hc) (by simpa using h63) (by simpa using hbytes) hN
  exact ⟨v', w', hr, k1, k2, k3, k4, ⟨p', _, c', k5⟩⟩

theorem wp_of_run_append {o : Oper} {a : Act} {K : Act → World → Prop} {Q : Exit → Act → World → Prop} (s x : Operand) (t : TypeId)
    (ho : o.op = .call { callee := .builtin .append, args := #[s, x], argTypes := #[t, t] }) (v y : Value) (hs : a.eval s = v) (hx : a.eval x = y)
    (R : Value → World → Prop) (hr : ∃ v' w', (Builtin.append_ #[t, t] o.type #[v, y]).run P w = .ok v' w' ∧ R v' w')
    (h : ∀ v' w', R v' w' → K (a.put o.dst v') w') : o.wp P a w K Q := by
  obtain ⟨v', w', hr, hR⟩ := hr
  unfold Oper.wp execOp
  simp only [ho, resolve, invoke, builtin, Sem.run_bind, Sem.run_pure, Result.andThen_ok, List.map_toArray, List.map_cons, List.map_nil, hs, hx, hr]
  exact h v' w' hR

/-- append at the walk's list: the source any slice. -/
theorem wpList_slc {ops : Array Oper} {rest : List Oper} {o : Oper} {a : Act} {Q : Exit → Act → World → Prop} (hgd : o.guard = none) (s x : Operand) (t : TypeId)
    (ho : o.op = .call { callee := .builtin .append, args := #[s, x], argTypes := #[t, t] })
    {N : Nat} {e : TypeId} {v : Value} {xs : List α} (h : Own σ N w e v xs) (hf : Fit σ w) (i : TypeInfo) (z : Value) (bytes : Nat)
    (ht : P.underlying t = some (.slice e)) (hi : P.info? e = some i) (hz : i.zero = some z) (hsize : i.size = wid α) (hby : i.bytes = bytes) (hzs : z.cells.size = wid α) (hsz : 0 < wid α)
    (p : Option Addr) (m c : Nat) (ys : List α) (hsl : Slc σ p m c ys) (hs : a.eval s = v) (hx : a.eval x = .slice p m c) (h63 : xs.length + ys.length ≤ maxLen) (hbytes : (xs.length + ys.length) * bytes ≤ 140737488355328) (hN : N ≤ w.heap.size)
    (k : ∀ v' w', Grew σ N w e v (xs ++ ys) v' w' → wpList P ops Q rest (a.put o.dst v') w') : wpList P ops Q (o :: rest) a w :=
  wpList_plain hgd fun _ hK => wp_of_run_append s x t ho v _ hs hx (Grew σ N w e v (xs ++ ys)) (run_append_slc h hf t o.type i z bytes ht hi hz hsize hby hzs hsz p m c ys hsl h63 hbytes hN) fun v' w' hg => hK _ _ (k v' w' hg)
theorem wpList_one {ops : Array Oper} {rest : List Oper} {o : Oper} {a : Act} {Q : Exit → Act → World → Prop} (hgd : o.guard = none) (s x : Operand) (t : TypeId)
    (ho : o.op = .call { callee := .builtin .append, args := #[s, x], argTypes := #[t, t] })
    {N : Nat} {e : TypeId} {v : Value} {xs : List α} (h : Own σ N w e v xs) (hf : Fit σ w) (i : TypeInfo) (z : Value) (bytes : Nat)
    (ht : P.underlying t = some (.slice e)) (hi : P.info? e = some i) (hz : i.zero = some z) (hsize : i.size = wid α) (hby : i.bytes = bytes) (hzs : z.cells.size = wid α) (hsz : 0 < wid α)
    (B : Nat) (cs : Array Value) (T : TypeId) (hB : w.heap[B]? = some (.cells cs T (0, 0))) (y : α) (hc : Cells σ cs.toList y) (hs : a.eval s = v) (hx : a.eval x = .slice (some ⟨B, 0, none⟩) 1 1) (h63 : xs.length + 1 ≤ maxLen) (hbytes : (xs.length + 1) * bytes ≤ 140737488355328) (hN : N ≤ w.heap.size)
    (k : ∀ v' w', Grew σ N w e v (xs ++ [y]) v' w' → wpList P ops Q rest (a.put o.dst v') w') : wpList P ops Q (o :: rest) a w :=
  wpList_plain hgd fun _ hK => wp_of_run_append s x t ho v _ hs hx (Grew σ N w e v (xs ++ [y])) (run_append_one h hf t o.type i z bytes ht hi hz hsize hby hzs hsz B cs T hB y hc h63 hbytes hN) fun v' w' hg => hK _ _ (k v' w' hg)
/-- append at a step of a region that draws its order: the source one thing in a block of its own. -/
theorem step_one {ops : Array Oper} {o : Oper} {a : Act} {K : Act → World → Prop} {Q : Exit → Act → World → Prop} {E : Prop} (hgd : o.guard = none) (s x : Operand) (t : TypeId)
    (ho : o.op = .call { callee := .builtin .append, args := #[s, x], argTypes := #[t, t] })
    {N : Nat} {e : TypeId} {v : Value} {xs : List α} (h : Own σ N w e v xs) (hf : Fit σ w) (i : TypeInfo) (z : Value) (bytes : Nat)
    (ht : P.underlying t = some (.slice e)) (hi : P.info? e = some i) (hz : i.zero = some z) (hsize : i.size = wid α) (hby : i.bytes = bytes) (hzs : z.cells.size = wid α) (hsz : 0 < wid α)
    (B : Nat) (cs : Array Value) (T : TypeId) (hB : w.heap[B]? = some (.cells cs T (0, 0))) (y : α) (hc : Cells σ cs.toList y) (hs : a.eval s = v) (hx : a.eval x = .slice (some ⟨B, 0, none⟩) 1 1) (h63 : xs.length + 1 ≤ maxLen) (hbytes : (xs.length + 1) * bytes ≤ 140737488355328) (hN : N ≤ w.heap.size)
    (k : ∀ v' w', Grew σ N w e v (xs ++ [y]) v' w' → K (a.put o.dst v') w') :
    if Region.wanted o (yielded ops a.tmps) = true then Oper.wp P o a w K Q else E := by
  have hw : Region.wanted o (yielded ops a.tmps) = true := by simp [Region.wanted, hgd]
  rw [if_pos hw]
  exact wp_of_run_append s x t ho v _ hs hx (Grew σ N w e v (xs ++ [y])) (run_append_one h hf t o.type i z bytes ht hi hz hsize hby hzs hsz B cs T hB y hc h63 hbytes hN) k

/-- A new block of one thing is a row of the call's own. -/
theorem Own.new (hf : Fit σ w) {N : Nat} {e : TypeId} {cs : Array Value} {a : α} (hc : Cells σ cs.toList a) (hN : N ≤ w.heap.size) : Own σ N (w.alloc (.cells cs e)) e (.slice (some ⟨w.heap.size, 0, none⟩) 1 1) [a] := by
  have hl := hc.len
  refine ⟨⟨cs.toList, ⟨by simpa using hl, .inr ⟨w.heap.size, 1, cs, rfl, hN, heap_alloc_new w _, Nat.le_refl _, by simp [maxLen], by simpa using hl, by rw [List.take_of_length_le (by simp at hl; simp [hl])]⟩⟩, Dat.AggIs.single hc⟩, fun g hg p hp => ?_⟩
  simp [Value.ownBlock] at hg
  subst hg
  exact hf.no (by omega)
end

/-! ### the types' rows in the program's table -/
theorem infoTm : (Try.prog.info? 24).map (fun i => (i.zero, i.size, i.bytes)) = some (some (.agg #[.string .empty, .slice none 0 0]), 2, 40) := by kernel_rfl
end Go.Proofs.Ytohgkbgpcnmdpaa

namespace Go.Proofs.Ytohgkbgpcnmdpaa
open Go Go.RowKit
set_option maxHeartbeats 400000
set_option linter.unusedVariables false

/-! ### plain -/

/-! ### the walks -/
end Go.Proofs.Ytohgkbgpcnmdpaa

namespace Go.Proofs.Ytohgkbgpcnmdpaa
open Go Go.RowKit
set_option maxHeartbeats 400000
set_option linter.unusedVariables false

/-! ### plain -/
/-! ### the walks -/
def ChkAt (t : Tm) : Prop := ∀ (σ : Sto) (v : Value) (w : World), Fit σ w → TmV σ v t →
    Calls Try.prog 54 #[v] w fun e w' => e = .returned (.int .i64 t.chk) ∧ Below w.heap.size w w'
theorem chk_any : ∀ (N : Nat) (t : Tm), SizeOf.sizeOf t < N → ChkAt t := by
  intro N
  induction N with
  | zero => intro t h; omega
  | succ N ih =>
  intro t hN σ v w hs ht
  obtain ⟨p, len, cap, rfl, hn, hsl⟩ := ht
  have HL := Lib.hid hsl.length
  have hlm := hsl.max
  cases hnm : nameOk t.name with
  | false =>
    have HM := Lib.hid hnm; clear hnm
    go_enter Try.func54, Try.ntmps54
    go_wp2_with fail
    refine (name_any _ _ hn).mono ?_
    rintro e w' ⟨rfl, rfl⟩
    rw [HM.out]
    go_wp2_with fail
    go_ret
    exact ⟨ret_int (by have h := HM.out; rw [Tm.chk_eq]; simp [chkOne, h]), (Below.refl _ _).alloc (Nat.le_refl _) _⟩
  | true =>
    have HM := Lib.hid hnm; clear hnm
    by_cases hv : isVar t.name = true ∧ 0 < len
    · obtain ⟨hv, hpos⟩ := hv
      have hposI : (0 : Int) < (len : Int) := by omega
      have HV := Lib.hid hv; clear hv
      go_enter Try.func54, Try.ntmps54
      go_wp2_with fail
      refine (name_any _ _ hn).mono ?_
      rintro e w' ⟨rfl, rfl⟩
      rw [HM.out]
      go_wp2_with fail
      refine (var_any _ _).mono ?_
      rintro e w' ⟨rfl, rfl⟩
      rw [HV.out]
      go_wp2_with fail
      go_ret
      exact ⟨ret_int (by have h := HM.out; have h2 := HV.out; have h3 := HL.out; rw [Tm.chk_eq]; simp [chkOne, h, h2, ← h3, hpos]), (Below.refl _ _).alloc (Nat.le_refl _) _⟩
    · have HO : Hid (chkOne t = 0) := by
        show _ = _
        have h := HM.out
        have h3 := HL.out
        unfold chkOne
        rw [if_pos h, if_neg (by rw [← h3]; exact hv)]
      have HV : Hid (isVar t.name = false ∨ len = 0) := by
        show _ ∨ _
        by_cases h : isVar t.name = true
        · right
          have : ¬ 0 < len := fun h' => hv ⟨h, h'⟩
          omega
        · left; simpa using h
      clear hv
      go_enter Try.func54, Try.ntmps54
      go_wp2_with fail
      refine (name_any _ _ hn).mono ?_
      rintro e w' ⟨rfl, rfl⟩
      rw [HM.out]
      go_wp2_with fail
      refine (var_any _ _).mono ?_
      rintro e w' ⟨rfl, rfl⟩
      rcases HV.out with hv | hv
      · rw [hv]
        clear hv
        go_wp2_with fail
        go_loopw [22] (fun i wr => ∃ k : Nat, k ≤ len ∧ i = .int .i64 k ∧ Hid (Tm.chkL (t.args.take k) = 0) ∧ Below w.heap.size w wr) (fun i _ => len - (intOf i).toNat)
        case atStart => exact ⟨0, Nat.zero_le _, rfl, by show Tm.chkL _ = 0; simp [Tm.chkL], (Below.refl _ _).alloc (Nat.le_refl _) _⟩
        case round =>
          obtain ⟨k, hk, rfl, HK, hb⟩ := hrel
          by_cases hlt : k < len
          · obtain ⟨b, o, a, q', l, c, rfl, HA, f0, f1, hn', hsl'⟩ := hsl.tm k hlt
            have hfw := hs.below hb
            have g0 := fitC hfw f0
            have g1 := fitC hfw f1
            go_wp2_with fail
            refine (ih a (by have := Tm.lt_of_arg (mem_of_get HA.out); omega) σ _ _ (hfw.alloc _) ⟨_, _, _, rfl, hn', hsl'⟩).mono ?_
            rintro e w1 ⟨rfl, hb1⟩
            by_cases ha : a.chk = 0
            · have HC := Lib.hid ha
              rw [ha]
              clear ha
              go_wp2_with fail
              go_roundw
              case rel => exact ⟨k + 1, by omega, by go_num, (Tm.chkL_get HA.out HK.out).1 HC.out, below_alloc_call hb hb.size hb1⟩
              case measure => simp [intOf]; omega
            · have hne := ne_true ha
              have HC := Lib.hid ha
              clear ha
              go_wp2_with fail
              go_ret
              exact ⟨ret_int (by rw [Tm.chk_eq t, if_pos HO.out, (Tm.chkL_get HA.out HK.out).2 HC.out]), below_alloc_call hb hb.size hb1⟩
          · obtain rfl : k = len := by omega
            go_wp2_with fail
            go_ret
            exact ⟨ret_int (by have h := HK.out; rw [List.take_of_length_le (by have := HL.out; omega)] at h; rw [Tm.chk_eq t, if_pos HO.out, h]), hb⟩
      · have hc0 : Tm.chkL t.args = 0 := by
          have : t.args = [] := List.eq_nil_of_length_eq_zero (by rw [← HL.out]; exact hv)
          rw [this]; rfl
        have HC := Lib.hid hc0; clear hc0
        subst hv
        rcases hV : isVar t.name with _ | _
        all_goals
          clear hV
          go_wp2_with fail
          go_loopw [22] (fun i wr => i = .int .i64 0 ∧ Below w.heap.size w wr) (fun i _ => 0)
          case atStart => exact ⟨rfl, (Below.refl _ _).alloc (Nat.le_refl _) _⟩
          case round =>
            obtain ⟨rfl, hb⟩ := hrel
            go_wp2_with fail
            go_ret
            exact ⟨ret_int (by rw [Tm.chk_eq t, if_pos HO.out, HC.out]), hb⟩

theorem check_any (t : Tm) (σ : Sto) (v : Value) (w : World) (hs : Fit σ w) (ht : TmV σ v t) :
    Calls Try.prog 30 #[v] w fun e w' => e = .returned (.int .i64 t.may) ∧ Below w.heap.size w w' := by
  obtain ⟨p, len, cap, rfl, hn, hsl⟩ := ht
  go_enter Try.func30, Try.ntmps30
  go_wp2_with fail
  refine (within_any _ t (Nat.lt_succ_self _) σ _ _ 200 (hs.alloc _) ⟨_, _, _, rfl, hn, hsl⟩ (by omega) (by omega)).mono ?_
  rintro e w1 ⟨rfl, hb1⟩
  have hb0 : Below w.heap.size w w1 := below_alloc_call (Below.refl _ _) (Nat.le_refl _) hb1
  have c0 : w1.cell? ⟨w.heap.size, 0, none⟩ = some (.string t.name) := box_cell (by simpa using hb1) 0
  have c1 : w1.cell? ⟨w.heap.size, 1, none⟩ = some (.slice p len cap) := box_cell (by simpa using hb1) 1
  by_cases hz : 200 < t.size
  · have hl : lessBy t.size 200 < 0 := by unfold lessBy; split <;> omega
    go_wp2_with fail
    go_ret
    exact ⟨ret_int (by unfold Tm.may; rw [if_pos hz]), hb0⟩
  · have hl : 0 ≤ lessBy t.size 200 := by unfold lessBy; split <;> omega
    go_wp2_with fail
    refine (chk_any _ t (Nat.lt_succ_self _) σ _ _ (hs.below hb0) ⟨_, _, _, rfl, hn, hsl⟩).mono ?_
    rintro e w2 ⟨rfl, hb2⟩
    go_wp2_with fail
    go_ret
    exact ⟨ret_int (by unfold Tm.may; rw [if_neg hz]), below_call hb0 hb0.size hb2⟩

/-- May both be? -/
def two (a b : Tm) : Int := if a.may = 0 then b.may else a.may
end Go.Proofs.Ytohgkbgpcnmdpaa

namespace Go.Proofs.Ytohgkbgpcnmdpaa
open Go Go.RowKit
set_option maxHeartbeats 400000
set_option linter.unusedVariables false

/-- A term whose row of arguments the call itself owns. -/
structure OwnTm (σ : Sto) (N : Nat) (w : World) (v : Value) (t : Tm) : Prop where
  form : ∃ u, v = .agg #[.string t.name, u] ∧ Own σ N w 24 u t.args
  size : t.name.size ≤ maxLen

theorem OwnTm.done {σ : Sto} {N M : Nat} {w : World} {v : Value} {t : Tm} (h : OwnTm σ N w v t) (hf : Fit σ w) (hM : M ≤ N) :
    ∃ σ' p l c, v = .agg #[.string t.name, .slice p l c] ∧ t.name.size ≤ maxLen ∧ Slc σ' p l c t.args ∧ Ext M σ σ' ∧ Fit σ' w := by
  obtain ⟨⟨u, rfl, ho⟩, hn⟩ := h
  obtain ⟨σ', e1, e2, _, p, l, c, rfl, hsl⟩ := ho.done hf M hM
  exact ⟨σ', p, l, c, rfl, hn, hsl, e1, e2⟩
theorem Own.notAt {α : Type} [Cod α] {σ : Sto} {N : Nat} {w : World} {e : TypeId} {v : Value} {xs : List α} (h : Own σ N w e v xs) {g : Nat} (hg : g < N) : v.ownBlock ≠ some g := fun e => by have := (h.lt g e).1; omega

def CopyAt (t : Tm) : Prop := ∀ (σ : Sto) (v : Value) (w : World), Fit σ w → TmV σ v t → t.size ≤ 1000000 →
    Calls Try.prog 34 #[v] w fun e w' => ∃ σ' v', e = .returned v' ∧ OwnTm σ' w.heap.size w' v' t ∧ Ext w.heap.size σ σ' ∧ Fit σ' w' ∧ Below w.heap.size w w'
set_option maxRecDepth 100000 in
theorem copy_any : ∀ (N : Nat) (t : Tm), SizeOf.sizeOf t < N → CopyAt t := by
  intro N
  induction N with
  | zero => intro t h; omega
  | succ N ih =>
  intro t hN σ v w hs ht hz
  obtain ⟨p, len, cap, rfl, hn, hsl⟩ := ht
  have HL := Lib.hid hsl.length
  have hlm := hsl.max
  obtain ⟨i0, hi, hz0, hz1, hz2⟩ := info_parts infoTm
  have HI := Lib.hid hi; clear hi
  have H0 := Lib.hid hz0; clear hz0
  have H1 := Lib.hid hz1; clear hz1
  have H2 := Lib.hid hz2; clear hz2
  go_enter Try.func34, Try.ntmps34
  go_wp2_with fail
  go_loopw [12] (fun i wr => ∃ (k : Nat) (σr : Sto) (q : Option Addr) (n c : Nat), k ≤ len ∧ i = .int .i64 k ∧ Blk wr (w.heap.size + 1) 24 #[.string ⟨#[]⟩, .slice none 0 0] ∧ Blk wr (w.heap.size + 1 + 1) 24 #[.string t.name, .slice q n c] ∧ Own σr (w.heap.size + 3) wr 24 (.slice q n c) (t.args.take k) ∧ Ext (w.heap.size + 3) σ σr ∧ Fit σr wr ∧ Below w.heap.size w wr) (fun i _ => len - (intOf i).toNat)
  case atStart =>
    refine ⟨0, σ, none, 0, 0, Nat.zero_le _, rfl, ?_, ?_, Own.nil _ _ _ _, Ext.refl _ _, ((hs.alloc _).alloc _).alloc _, (((Below.refl _ _).alloc (Nat.le_refl _) _).alloc (by simp) _).alloc (by simp <;> omega) _⟩
    · have := (Blk.new (w.alloc (.cells #[.string t.name, .slice p len cap] 24)) 24 #[.string ⟨#[]⟩, .slice none 0 0]).alloc (.cells #[.string t.name, .slice none 0 0] 24)
      simpa using this
    · have := Blk.new ((w.alloc (.cells #[.string t.name, .slice p len cap] 24)).alloc (.cells #[.string ⟨#[]⟩, .slice none 0 0] 24)) 24 #[.string t.name, .slice none 0 0]
      simpa using this
  case round =>
    obtain ⟨k, σr, q, n, c, hk, rfl, R, B, hown, hext, hfr, hb⟩ := hrel
    have c0 : wr.cell? ⟨w.heap.size + 1 + 1, 0, none⟩ = some (.string t.name) := B.cell 0
    have c1 : wr.cell? ⟨w.heap.size + 1 + 1, 1, none⟩ = some (.slice q n c) := B.cell 1
    have hsz := B.lt
    by_cases hlt : k < len
    · obtain ⟨b, o, a, q', l, c', rfl, HA, f0, f1, hn', hsl'⟩ := hsl.tm k hlt
      have g0 := fitC hfr (hext.keep _ _ f0)
      have g1 := fitC hfr (hext.keep _ _ f1)
      clear f0 f1
      have hsa : a.size ≤ 1000000 ∧ (t.args.take k).length + 1 ≤ maxLen ∧ ((t.args.take k).length + 1) * 40 ≤ 140737488355328 := by
        have h1 := Tm.sizes_take HA.out
        have h2 := Tm.sizes_take_le t.args (k+1)
        have h3 := Tm.size_eq t
        have h4 := Tm.length_le (t.args.take k)
        simp only [maxLen]
        omega
      obtain ⟨hsa, hsb, hsc⟩ := hsa
      have HT := Lib.hid (take_snoc HA.out)
      have hB3 : w.heap.size + 3 ≤ wr.heap.size := by omega
      go_wp2_with fail
      go_region_law
        (first
          | (refine step_one rfl _ _ _ rfl hown2 hf2' i0 _ 40 Try.underlying22 HI.out H0.out H1.out H2.out rfl (by decide) w1.heap.size _ 24 (heap_alloc_new w1 _) a hcell rfl rfl hsb hsc hw1 ?_
             intro v' w2 hg
             obtain ⟨q3, n3, c3, hv3⟩ := hg.shape
             subst hv3
             have B2 := (B1.alloc (.cells #[.string a.name, .slice p2 l2 c2] 24)).grown hg.grown (hown.notAt (by omega))
             have d1 : w2.cell? ⟨w.heap.size + 1 + 1, 1, none⟩ = some (.slice q n c) := B2.cell 1
             have d2 : w2.frozen? ⟨w.heap.size + 1 + 1, 1, none⟩ = false := B2.frozen 1)
          | (go_simp; go_at_call 34; refine (ih a (by have := Tm.lt_of_arg (mem_of_get HA.out); omega) σr _ _ (hfr.alloc _).drew ⟨_, _, _, rfl, hn', hsl'.ext hext⟩ hsa).mono ?_
             rintro e w1 ⟨σ1, v1, rfl, hown1, hext1, hf1, hb1⟩
             obtain ⟨σ2, p2, l2, c2, rfl, hn2, hsl2, hext2, hf2⟩ := hown1.done hf1 (Nat.le_refl _)
             have hext12 := hext1.trans hext2
             have B1 := ((B.alloc (.cells #[.string a.name, .slice q' l c'] 24)).drew).call hb1
             have c1' : w1.cell? ⟨w.heap.size + 1 + 1, 1, none⟩ = some (.slice q n c) := B1.cell 1
             have c1'' : (w1.alloc (.cells #[.string a.name, .slice p2 l2 c2] 24)).cell? ⟨w.heap.size + 1 + 1, 1, none⟩ = some (.slice q n c) := (B1.alloc _).cell 1
             have hown2 := (((hown.alloc (.cells #[.string a.name, .slice q' l c'] 24)).drew).call hb1 hext12).alloc (.cells #[.string a.name, .slice p2 l2 c2] 24)
             have hf2' := hf2.alloc (.cells #[.string a.name, .slice p2 l2 c2] 24)
             have hcell : Cells σ2 [.string a.name, .slice p2 l2 c2] a := cells_tm.2 ⟨p2, l2, c2, rfl, hn2, hsl2⟩
             have hw1 : w.heap.size + 3 ≤ (w1.alloc (.cells #[.string a.name, .slice p2 l2 c2] 24)).heap.size := by have := hb1.size; simp at this ⊢; omega))
      all_goals
        go_wp2_with fail
        go_roundw
        case rel =>
          have hw2 : wr.heap.size + 1 ≤ w1.heap.size := by have := hb1.size; simp at this; omega
          refine ⟨k + 1, σ2, q3, n3, c3, by omega, by go_num, ?_, B2.put 1 _, ?_, ?_, ?_, ?_⟩
          · exact (((((R.alloc (.cells #[.string a.name, .slice q' l c'] 24)).drew).call hb1).alloc (.cells #[.string a.name, .slice p2 l2 c2] 24)).grown hg.grown (hown.notAt (by omega))).far (by simp <;> omega) _
          · rw [HT.out]
            exact hg.own.setCell (hg.own.notAt (by simp <;> omega)) _
          · exact hext.trans (hext12.mono (by simp <;> omega))
          · refine hg.fit.setCell ?_ _
            rw [hext12.old _ (by simp <;> omega), hext.old _ (by simp <;> omega)]
            exact hs.no (by simp <;> omega)
          · have h1 : Below w.heap.size w w1 := ((hb.alloc (by omega) _).drew).trans (hb1.mono (by simp <;> omega))
            have h2 := (h1.alloc (by omega) (.cells #[.string a.name, .slice p2 l2 c2] 24)).grown hg.grown (by simp <;> omega) (fun g e => by have := (hown.lt g e).1; omega)
            exact h2.setCell (by simp <;> omega) _
        case measure => simp [intOf]; omega
    · obtain rfl : k = len := by omega
      have r0 : wr.cell? ⟨w.heap.size + 1, 0, none⟩ = some (.string ⟨#[]⟩) := R.cell 0
      have r1 : wr.cell? ⟨w.heap.size + 1, 1, none⟩ = some (.slice none 0 0) := R.cell 1
      have r2 : wr.frozen? ⟨w.heap.size + 1, 0, none⟩ = false := R.frozen 0
      have r3 : wr.frozen? ⟨w.heap.size + 1, 1, none⟩ = false := R.frozen 1
      go_wp2_with fail
      have Rb := (R.put 0 (.string t.name)).put 1 (.slice q n c)
      have k0 : ((wr.setCell ⟨w.heap.size + 1, 0, none⟩ (.string t.name)).setCell ⟨w.heap.size + 1, 1, none⟩ (.slice q n c)).cell? ⟨w.heap.size + 1, 0, none⟩ = some (.string t.name) := Rb.cell 0
      have k1 : ((wr.setCell ⟨w.heap.size + 1, 0, none⟩ (.string t.name)).setCell ⟨w.heap.size + 1, 1, none⟩ (.slice q n c)).cell? ⟨w.heap.size + 1, 1, none⟩ = some (.slice q n c) := Rb.cell 1
      have z0 : σr ⟨w.heap.size + 1, 0, none⟩ = none := by rw [hext.old _ (by simp)]; exact hs.no (by simp)
      have z1 : σr ⟨w.heap.size + 1, 1, none⟩ = none := by rw [hext.old _ (by simp)]; exact hs.no (by simp)
      refine bodyPost_ret (v := .agg #[.string t.name, .slice q n c]) (by simp [results, Try.results34, go_sem, k0, k1]) rfl ⟨σr, _, rfl, ⟨⟨_, rfl, ?_⟩, hn⟩, hext.mono (by omega), (hfr.setCell z0 _).setCell z1 _, ?_⟩
      · have h := (hown.setCell (hown.notAt (g := w.heap.size + 1) (by omega)) (.string t.name) (p := ⟨w.heap.size + 1, 0, none⟩)).setCell (hown.notAt (g := w.heap.size + 1) (by omega)) (.slice q n c) (p := ⟨w.heap.size + 1, 1, none⟩)
        rw [List.take_of_length_le (by have := HL.out; omega)] at h
        exact h.mono (by omega)
      · exact (hb.setCell (by simp) _).setCell (by simp) _
end Go.Proofs.Ytohgkbgpcnmdpaa
