/-
  Part 8 of the texts: IrLClone; IrLRef; BTo2; BLRef; BLRef2; BDefer3; BLParse3; PLSubQ; IrLWrite; BHand; IrBld; BBldW; BLWrite; BLWrite2; BLShow; LambdaSays; IrRaw; BRawL; BRawAt; TopNames. Conditions: none.
-/
import Derived.Test.YtaedkffopponhaaDoorToN7
import Derived.Lib.FrozenHead2
import Derived.Lib.OthersKept
import Derived.Shelf.Strings.BuilderK
namespace Go.Proofs.YtaedkffopponhaaDoor
open Go Go.RowKit
set_option maxRecDepth 100000
def ir_slices_Clone_string_string : IR :=
  (.seq (.ops [.i 2 (.mov (.c (.one (.full []))))]) (.seq (.seq (.ops [.m 3 0, .i 4 (.eqN false (.t 3))]) (.cond (.t 4) (.seq (.ops [.i 2 (.mov (.c (.one (.full []))))]) .ret) .skip)) (.seq (.ops [.i 5 (.buildFlat []), .m 6 0, .i 7 (.append true 9 1 16 (.t 5) (.t 6)), .m 2 7]) .ret)))
theorem ok_slices_Clone_string_string : OkF Tryd.prog 14 8 [7] ir_slices_Clone_string_string [.t 2] := .of Tryd.func14 rfl rfl (by kernel_rfl) rfl


set_option linter.unusedVariables false
set_option linter.unusedSimpArgs false
set_option maxHeartbeats 1000000

set_option maxHeartbeats 2000000
section
variable {s : ByteArray} {i k b : Nat} {e : Int} {S : AStore}
end

abbrev boxT0l : ABlk := .box 26 [.st (.int .i64 0), .st (.int .i64 0), .full []]

def fourth : Code → Code
  | .seq _ (.seq _ (.seq _ (.seq d _))) => d
  | c => c
section
variable {P : Program}
theorem acalls_defer3 {f : FuncId} {fn : Func} {mu : List Nat} {c : Code} {xA xB xZ xD xE : IR} {rs : List RV} {xs : List AV} {r : AV} {g t id : Nat} {caps : Array Operand} {xs' : List Opd} {oM oF : Oper} {ts : Array TypeId}
    (hf : P.funcs[f]? = some fn) (hb : fn.body = some c) (hx : trCode P fn.ntmps mu c = some (.seq xA (.seq xB (.seq xZ (.seq xD xE))))) (hr : trRes P fn.ntmps fn.results.toList = some rs) (hn : xs.length ≤ fn.ntmps)
    (hD : fourth c = .region id #[oM, oF] false) (hM1 : oM.op = .makeFunc (.func g) #[] caps) (hM2 : oM.dst = some t) (hM3 : oM.guard = none) (hF1 : oF.op = .defer { callee := .value (.tmp t), args := #[], argTypes := ts }) (hF2 : oF.dst = none) (hF3 : oF.guard = none) (ht : t < fn.ntmps)
    (hcaps : trOpds fn.ntmps caps.toList = some xs') (hpl : plainF P g = true)
    (h : ∀ C : Ctx, C.n = fn.ntmps → IWP P C mu xA (AX.then (fun s => IWP P C mu xB (AX.then (fun s => IWP P C mu xZ (AX.then (fun s => ∃ cs, s.caps xs' = some cs ∧ ∀ C' : Ctx, C'.n = fn.ntmps → IWP P C' mu xE (EndD P g (cs.map fun c => (AV.one c).ren up1) rs r) (s.put (some t) (.one (.fn g cs))).up) (FinQ rs r)) s) (FinQ rs r)) s) (FinQ rs r)) (AS.start xs)) : ACalls P f xs r := by
  intro σ w vs hglob hfit hvs
  have hl := hvs.len
  let C : Ctx := ⟨fn.ntmps, w.heap.size, fun _ => False, σ, w, noS, noH, fun i b h => by simp [noS] at h, hglob, [], none, true⟩
  obtain ⟨A, c2, rfl, hA, h2⟩ := trCode_seq hx
  obtain ⟨B, c3, rfl, hB, h3⟩ := trCode_seq h2
  obtain ⟨Z, c4, rfl, hZ, h4⟩ := trCode_seq h3
  obtain ⟨D, E, rfl, hD', hE⟩ := trCode_seq h4
  have hD : D = .region id #[oM, oF] false := hD
  subst hD
  refine calls_of_wp_defers hf hb ?_
  have R0 : Refs C σ noH (AS.start xs) { tmps := vs.toArray ++ Array.replicate (fn.ntmps - vs.toArray.size) undef, defers := [] } w := by
    refine ⟨by simp [C]; omega, fun i hi => ?_, marks_nil, hfit, fun id b h => by simp [AS.start, noS] at h, fun id id' b b' g h => by simp [AS.start, noS] at h, fun id b g h => by simp [AS.start, noS] at h, fun _ _ h => h, fun _ _ _ => rfl, ⟨rfl, rfl, rfl⟩, ⟨Nat.le_refl _, Nat.le_refl _⟩, fun _ _ _ => rfl, Upd.refl _ _⟩
    show VRep σ noS noH _ ((xs[i]?).getD (.tup []))
    rw [Array.getD_eq_getD_getElem?]
    by_cases hlt : i < vs.length
    · rw [Array.getElem?_append_left (by simpa using hlt)]
      obtain ⟨b, hb1, hb2⟩ := hvs.get' (List.getElem?_eq_getElem hlt)
      rw [hb1]
      simpa [hlt] using hb2
    · rw [Array.getElem?_append_right (by simp; omega), List.getElem?_eq_none (by omega)]
      have hi' : i < fn.ntmps := hi
      rw [Array.getElem?_replicate, if_pos (by simp; omega)]
      exact .tup (fun _ => undef) rfl (by simp) (by simp)
  have early : ∀ (s : AS) (a' : Act) (w' : World), s.result rs = some r → Holds C s a' w' → Leaves P fn a'.tmps (fun e w' => ∃ v σ', e = .returned v ∧ VRep σ' noS noH v r ∧ Fit σ' w' ∧ Ext w.heap.size σ σ' ∧ Below w.heap.size w w') a'.defers .returning w' := by
    intro s a' w' hs hH
    obtain ⟨σ', ι', R'⟩ := hH
    obtain ⟨v, v1, v2⟩ := res_val R' (fn := fn) hr hs
    have hnod : a'.defers = [] := R'.nod.none rfl
    rw [hnod]
    exact ⟨v, v1, v, σ', rfl, v2, R'.fit, ⟨R'.ext, fun p hp => R'.old p hp (fun h => h)⟩, ⟨R'.os.1, R'.os.2.1, R'.os.2.2, R'.grown.2, fun k hk => R'.same k hk (fun h => h)⟩⟩
  refine wp_seq (wp_mono (wpIn_wide.1 (h C rfl A hA _ w ⟨σ, noH, R0⟩)) fun e a' w' he => ?_)
  cases e with
  | normal =>
    obtain ⟨s, hs, hH⟩ := he
    refine wp_seq (wp_mono (wpIn_wide.1 (hs B hB a' w' hH)) fun e a' w' he => ?_)
    cases e with
    | normal =>
      obtain ⟨s, hs, hH⟩ := he
      refine wp_seq (wp_mono (wpIn_wide.1 (hs Z hZ a' w' hH)) fun e a' w' he => ?_)
      cases e with
      | normal =>
        obtain ⟨s, ⟨cs, hcs, hwalk⟩, ⟨σ1, ι1, R⟩⟩ := he
        refine wp_seq ?_
        have rc := caps_rep R hcaps hcs
        have ecap : (caps.toList.map a'.eval).toArray = caps.map a'.eval := by rw [← Array.toList_map, Array.toArray_toList]
        have hv : VRep σ1 s.S ι1 (.func (.func g) #[] (caps.map a'.eval)) (.one (.fn g cs)) := by
          rw [← ecap]
          refine .one (.fn (fun j => ((caps.toList.map a'.eval)[j]?).getD undef) (by simpa using rc.len) (fun j b hb => ?_) (fun j b hb => ?_))
          · obtain ⟨v, v1, v2⟩ := rc.get hb
            rw [v1]
            simpa using v1
          · obtain ⟨v, v1, v2⟩ := rc.get hb
            rw [v1]
            exact v2
        have rf : (execOp a'.eval oM).run P w' = .ok (.value (.func (.func g) #[] (caps.map a'.eval))) w' := by
          simp [execOp, hM1, Instr.makeFunc]
        have R1 := R.put (d := some t) hv
        have hta : t < a'.tmps.size := Nat.lt_of_lt_of_le ht R.size
        have hev : (a'.put (some t) (.func (.func g) #[] (caps.map a'.eval))).eval (.tmp t) = .func (.func g) #[] (caps.map a'.eval) := by
          simp [Act.eval, Act.put, hta]
        have rF : (execOp (a'.put (some t) (.func (.func g) #[] (caps.map a'.eval))).eval oF).run P w' = .ok (.defer { target := .fn (.func g) (caps.map a'.eval), args := #[] }) w' := by
          simp [execOp, hF1, resolve, hev, Deferred.ofValue]
        refine wp_region ?_
        show wpOps P #[oM, oF] _ [0, 1] a' w'
        rw [wpOps_cons]
        show (if Region.wanted oM _ then _ else _)
        rw [if_pos (by simp [Region.wanted, hM3])]
        refine .inl ?_
        show Oper.wp P oM a' w' _ _
        unfold Oper.wp
        rw [rf, Oper.upon_value, hM2, wpOps_cons]
        show (if Region.wanted oF _ then _ else _)
        rw [if_pos (by simp [Region.wanted, hF3])]
        refine .inl ?_
        show Oper.wp P oF _ w' _ _
        unfold Oper.wp
        rw [rF, Oper.upon_defer, hF2]
        let C' : Ctx := ⟨fn.ntmps, w.heap.size, fun _ => False, σ1, w', upS s.S, fun i => ι1 (dn1 i), clean_upS _, hglob.mono R.ext, [{ target := .fn (.func g) (caps.toList.map a'.eval).toArray, args := #[] }], none, true⟩
        have hnod0 : a'.defers = [] := R.nod.none rfl
        have RC : Refs C' σ1 (fun i => ι1 (dn1 i)) (s.put (some t) (.one (.fn g cs))).up { a'.put (some t) (.func (.func g) #[] (caps.map a'.eval)) with defers := { target := .fn (.func g) (caps.map a'.eval), args := #[] } :: (a'.put (some t) (.func (.func g) #[] (caps.map a'.eval))).defers } w' := by
          refine ⟨R1.size, fun i hi => val_up R1 (R1.env i hi), ?_, R1.fit, (owned_up R1).1, (owned_up R1).2, fun id b g hb hg => ?_, fun _ _ h => h, fun _ _ _ => rfl, ⟨rfl, rfl, rfl⟩, ⟨R.grown.1, Nat.le_refl _⟩, fun _ _ _ => rfl, Upd.refl _ _⟩
          · have e0 : ({ target := .fn (.func g) (caps.map a'.eval), args := #[] } : Deferred) :: a'.defers = C'.ds := by rw [hnod0, ← ecap]
            have m0 : Marks C' C'.ds w' := marks_nil
            rw [← e0] at m0
            exact m0
          · obtain ⟨_, b', k1, _⟩ := upS_inv hb
            exact R1.base _ _ g k1 hg
        have hvs1 : All2 (VRep σ1 (upS s.S) (fun i => ι1 (dn1 i))) (caps.toList.map a'.eval) (cs.map fun c => (AV.one c).ren up1) := (rc.mono fun _ _ x => val_up R (.one x)).map_right
        have fin : ∀ (s4 : AS) (a4 : Act) (w4 : World), s4.result rs = some r → Holds C' s4 a4 w4 → ∃ v, (results fn a4.tmps).run P w4 = .ok v w4 ∧ ∃ v1 σ', Ending.returned v = .returned v1 ∧ VRep σ' noS noH v1 r ∧ Fit σ' w4 ∧ Ext w.heap.size σ σ' ∧ Below w.heap.size w w4 := fun s4 a4 w4 hs4 hH4 => by
          obtain ⟨σ4, ι4, R4⟩ := hH4
          obtain ⟨v, v1, v2⟩ := res_val R4 (fn := fn) hr hs4
          exact ⟨v, v1, v, σ4, rfl, v2, R4.fit, ⟨fun p x hp => R4.ext p x (R.ext p x hp), fun p hp => (R4.old p hp (fun h => h)).trans (R.old p hp (fun h => h))⟩, ⟨R4.os.1.trans R.os.1, R4.os.2.1.trans R.os.2.1, R4.os.2.2.trans R.os.2.2, Nat.le_trans R.grown.2 R4.grown.2, fun k hk => (R4.same k hk (fun h => h)).trans (R.same k hk (fun h => h))⟩⟩
        refine wp_mono (wpIn_wide.1 (hwalk C' rfl E hE _ w' ⟨σ1, _, RC⟩)) fun e a3 w3 he => ?_
        cases e with
        | normal =>
          obtain ⟨s3, ⟨S', hdef, hres⟩, ⟨σ3, ι3, R3⟩⟩ := he
          show Leaves P fn a3.tmps _ a3.defers .returning w3
          rw [R3.nod.none rfl]
          exact leaves_one R3 hpl (hvs1.mono fun _ _ x => x.mono R3.ext R3.upd) (by simp) hdef rfl fun w4 hH4 => fin _ _ _ hres hH4
        | ret =>
          obtain ⟨s3, ⟨S', hdef, hres⟩, ⟨σ3, ι3, R3⟩⟩ := he
          show Leaves P fn a3.tmps _ a3.defers .returning w3
          rw [R3.nod.none rfl]
          exact leaves_one R3 hpl (hvs1.mono fun _ _ x => x.mono R3.ext R3.upd) (by simp) hdef rfl fun w4 hH4 => fin _ _ _ hres hH4
        | exit id =>
          obtain ⟨s3, h3, _⟩ := he
          exact h3.elim
        | panic ch =>
          obtain ⟨s3, v, ⟨⟨u', S', hdef, hset, hres⟩, rfl⟩, ⟨σ3, ι3, R3⟩⟩ := he
          show Leaves P fn a3.tmps _ a3.defers (.panicking _) w3
          rw [R3.nod.none rfl]
          exact leaves_one R3 hpl (hvs1.mono fun _ _ x => x.mono R3.ext R3.upd) (by simp) hdef hset fun w4 hH4 => fin _ _ _ hres hH4
        | goto l => exact he.elim
        | outgrown => exact he.elim
      | ret =>
        obtain ⟨s, h1, h2⟩ := he
        exact early s _ _ (show FinQ rs r .ret s from h1).2 h2
      | exit id =>
        obtain ⟨s, h1, h2⟩ := he
        exact (show FinQ rs r (.exit id) s from h1).1.elim
      | panic ch =>
        obtain ⟨s, v, h1, h2⟩ := he
        exact (show FinQ rs r (.pan v) s from h1.1).1.elim
      | goto l => exact he.elim
      | outgrown => exact he.elim
    | ret =>
      obtain ⟨s, h1, h2⟩ := he
      exact early s _ _ (show FinQ rs r .ret s from h1).2 h2
    | exit id =>
      obtain ⟨s, h1, h2⟩ := he
      exact (show FinQ rs r (.exit id) s from h1).1.elim
    | panic ch =>
      obtain ⟨s, v, h1, h2⟩ := he
      exact (show FinQ rs r (.pan v) s from h1.1).1.elim
    | goto l => exact he.elim
    | outgrown => exact he.elim
  | ret =>
    obtain ⟨s, h1, h2⟩ := he
    exact early s _ _ (show FinQ rs r .ret s from h1).2 h2
  | exit id =>
    obtain ⟨s, h1, h2⟩ := he
    exact (show FinQ rs r (.exit id) s from h1).1.elim
  | panic ch =>
    obtain ⟨s, v, h1, h2⟩ := he
    exact (show FinQ rs r (.pan v) s from h1.1).1.elim
  | goto l => exact he.elim
  | outgrown => exact he.elim
end

def lparse (s : ByteArray) (free : List ByteArray) : Lm × Int := if freeMay free = 0 then (if 4000 < s.size then (.nil, 3) else lrEnd s free) else (.nil, freeMay free)
def lreadV (r : Lm × Int) : AV := .tup [aLm r.1, aInt r.2]
theorem cloneS_N (l : List ByteArray) (hl : l.length ≤ 1000000) : ACallsN Tryd.prog 14 [aStrs l] 9 1 (l.map encS) true := by
  unfold ACallsN
  rw [List.length_map]
  refine ok_slices_Clone_string_string.acS fun hS C hC => ?_
  unfold ir_slices_Clone_string_string
  by_cases h0 : l.length = 0
  · have hl : l = [] := List.eq_nil_of_length_eq_zero h0
    subst hl
    repeat' (first | (with_reducible first | refine W ?_ | refine Wz0 ?_) | ((with_reducible first | refine Wo (fun K hK => ?_) | refine Wp ?_ | refine Wq ?_ | refine Wr ?_); (try simp only [go_sem, fN, seval, eT, iR, dT, dF, nL]); (repeat with_reducible refine Ai ?_); (try (refine hK _ ?_; clear hK K)); (try with_reducible refine iC ?_)))
    refine ⟨?_, ?_⟩
    · repeat' (first | (with_reducible first | refine W ?_ | refine Wz0 ?_) | ((with_reducible first | refine Wo (fun K hK => ?_) | refine Wp ?_ | refine Wq ?_ | refine Wr ?_); (try simp only [go_sem, fN, seval, eT, iR, dT, dF, nL]); (repeat with_reducible refine Ai ?_); (try (refine hK _ ?_; clear hK K)); (try with_reducible refine iC ?_)))
      refine finS_ghost (Ghost.ownM (C := C) 2 30 9 1 rfl rfl (by omega)) ?_
      exact finN (mu := true) trivial 30 (by decide) rfl (fun i hi => by show updE _ _ _ _ = _; rw [updE_ne _ (by omega)]; rfl) rfl
    · repeat' (first | (with_reducible first | refine W ?_ | refine Wz0 ?_) | ((with_reducible first | refine Wo (fun K hK => ?_) | refine Wp ?_ | refine Wq ?_ | refine Wr ?_); (try simp only [go_sem, fN, seval, eT, iR, dT, dF, nL]); (repeat with_reducible refine Ai ?_); (try (refine hK _ ?_; clear hK K)); (try with_reducible refine iC ?_)))
      exact finN (mu := true) trivial 7 (by decide) rfl (fun i hi => by show updE _ _ _ _ = _; rw [updE_ne _ (by omega)]; rfl) rfl
  · have hb : l.length * 16 ≤ 140737488355328 := by omega
    repeat' (first | (with_reducible first | refine W ?_ | refine Wz0 ?_) | ((with_reducible first | refine Wo (fun K hK => ?_) | refine Wp ?_ | refine Wq ?_ | refine Wr ?_); (try simp only [go_sem, fN, seval, eT, iR, h0, hb, dT, dF, nL]); (repeat with_reducible refine Ai ?_); (try (refine hK _ ?_; clear hK K)); (try with_reducible refine iC ?_)))
    exact finN (mu := true) trivial 7 (by decide) rfl (fun i hi => by show updE _ _ _ _ = _; rw [updE_ne _ (by omega)]; rfl) rfl
theorem lendD_pan {n : Int} (hn : inR .i64 n) {x : AS} {c1 c2 c3 : AC} {x1 : AC} (e2 : x.env 4 = .one (.ptr 1004 1 0 0)) (e3 : x.env 5 = .one (.ptr 1005 1 0 0)) (t2 : x.S 1004 = some (.box 26 [c1, c2, c3])) (t3 : x.S 1005 = some (.box 29 [x1])) :
    EndD Tryd.prog 13 [.one (.ptr 1004 1 0 0), .one (.ptr 1005 1 0 0)] [RV.cell 4 true 3, RV.cell 5 false 1] (lreadV (.nil, n)) (.pan (lfault n)) x := by
  refine ⟨_, _, lparse1_pan n hn 2004 2005 (upS x.S) (cs1 := [c1.ren up1, c2.ren up1, c3.ren up1]) (x1 := x1.ren up1) (by decide) (by decide) (by decide) ?_ rfl ?_, lsettled n, ?_⟩
  · rw [show (2004 : Nat) = up1 1004 from rfl, upS_up, t2]
    rfl
  · rw [show (2005 : Nat) = up1 1005 from rfl, upS_up, t3]
    rfl
  · unfold lgone
    rw [show (2004 : Nat) = up1 1004 from rfl, show (2005 : Nat) = up1 1005 from rfl, dnS_upd, dnS_upd, dn_upS]
    unfold AS.result
    simp only [go_sem, fN, seval, eT, iR, resAll, resOne, tupV, e2, e3]
    rfl
set_option maxRecDepth 100000 in
theorem lparse_a (s : ByteArray) (free : List ByteArray) (hl : free.length ≤ 1000) : ACalls Tryd.prog 7 [aStr s, aStrs free] (lreadV (lparse s free)) := by
  have hfr := freeMay_range free
  unfold lparse
  refine acalls_defer3 (f := 7) (g := 13) (t := 18) (rs := [.cell 4 true 3, .cell 5 false 1]) Tryd.func7 rfl tr_lambda_Parse rfl (Nat.le_of_ble_eq_true rfl) rfl rfl rfl rfl rfl rfl rfl (Nat.le_of_ble_eq_true rfl) rfl (by kernel_rfl) fun C hC => ?_
  have hC : C.n = 33 := hC
  by_cases h1 : freeMay free = 0
  case neg =>
    rw [if_neg h1]
    unfold lreadV
    repeat' (first | (with_reducible first | refine W ?_ | refine Wz0 ?_) | ((with_reducible first | refine Wx rfl (fun K hK => ?_) | refine Wp ?_ | refine Wq ?_ | refine Wr ?_); (try simp only [go_sem, fN, seval, eT, iR, h1, dT, dF, nL]); (repeat with_reducible refine Ai ?_); (try (refine hK _ ?_; clear hK K)); (try with_reducible refine iC ?_)))
    refine then_normal ?_
    repeat' (first | (with_reducible first | refine W ?_ | refine Wz0 ?_) | refine Cg _ (names_a free) ?_ | ((with_reducible first | refine Wx rfl (fun K hK => ?_) | refine Wp ?_ | refine Wq ?_ | refine Wr ?_); (try simp only [go_sem, fN, seval, eT, iR, h1, dT, dF, nL]); (repeat with_reducible refine Ai ?_); (try (refine hK _ ?_; clear hK K)); (try with_reducible refine iC ?_)))
    simp only [go_sem, fN, seval, FinQ, AS.result, resAll, resOne, tupV]
    rfl
  rw [if_pos h1]
  by_cases h0 : (4000 : Int) < s.size
  · rw [if_pos (by omega)]
    unfold lreadV
    repeat' (first | (with_reducible first | refine W ?_ | refine Wz0 ?_) | ((with_reducible first | refine Wx rfl (fun K hK => ?_) | refine Wp ?_ | refine Wq ?_ | refine Wr ?_); (try simp only [go_sem, fN, seval, eT, iR, h0, dT, dF, nL]); (repeat with_reducible refine Ai ?_); (try (refine hK _ ?_; clear hK K)); (try with_reducible refine iC ?_)))
    refine then_normal ?_
    repeat' (first | (with_reducible first | refine W ?_ | refine Wz0 ?_) | refine Cg _ (names_a free) ?_ | ((with_reducible first | refine Wx rfl (fun K hK => ?_) | refine Wp ?_ | refine Wq ?_ | refine Wr ?_); (try simp only [go_sem, fN, seval, eT, iR, h1, h0, dT, dF, nL]); (repeat with_reducible refine Ai ?_); (try (refine hK _ ?_; clear hK K)); (try with_reducible refine iC ?_)))
    refine then_normal ?_
    repeat' (first | (with_reducible first | refine W ?_ | refine Wz0 ?_) | ((with_reducible first | refine Wx rfl (fun K hK => ?_) | refine Wp ?_ | refine Wq ?_ | refine Wr ?_); (try simp only [go_sem, fN, seval, eT, iR, h0, dT, dF, nL]); (repeat with_reducible refine Ai ?_); (try (refine hK _ ?_; clear hK K)); (try with_reducible refine iC ?_)))
    simp only [go_sem, fN, seval, FinQ, AS.result, resAll, resOne, tupV]
    rfl
  have hs : s.size ≤ 100000 := by omega
  rw [if_neg (by omega)]
  repeat' (first | (with_reducible first | refine W ?_ | refine Wz0 ?_) | ((with_reducible first | refine Wx rfl (fun K hK => ?_) | refine Wp ?_ | refine Wq ?_ | refine Wr ?_); (try simp only [go_sem, fN, seval, eT, iR, h0, dT, dF, nL]); (repeat with_reducible refine Ai ?_); (try (refine hK _ ?_; clear hK K)); (try with_reducible refine iC ?_)))
  refine then_normal ?_
  repeat' (first | (with_reducible first | refine W ?_ | refine Wz0 ?_) | refine Cg _ (names_a free) ?_ | ((with_reducible first | refine Wx rfl (fun K hK => ?_) | refine Wp ?_ | refine Wq ?_ | refine Wr ?_); (try simp only [go_sem, fN, seval, eT, iR, h1, h0, dT, dF, nL]); (repeat with_reducible refine Ai ?_); (try (refine hK _ ?_; clear hK K)); (try with_reducible refine iC ?_)))
  refine then_normal ?_
  repeat' (first | (with_reducible first | refine W ?_ | refine Wz0 ?_) | ((with_reducible first | refine Wx rfl (fun K hK => ?_) | refine Wp ?_ | refine Wq ?_ | refine Wr ?_); (try simp only [go_sem, fN, seval, eT, iR, h0, dT, dF, nL]); (repeat with_reducible refine Ai ?_); (try (refine hK _ ?_; clear hK K)); (try with_reducible refine iC ?_)))
  refine then_normal ⟨_, by simp [AS.caps]; rfl, fun C' hC' => ?_⟩
  have hC' : C'.n = 33 := hC'
  generalize hT : AS.up _ = T
  have e0 : T.env 0 = aStr s := by subst hT; rfl
  have e1 : T.env 1 = aStrs free := by subst hT; rfl
  have e4 : T.env 4 = .one (.ptr 1004 1 0 0) := by subst hT; rfl
  have e5 : T.env 5 = .one (.ptr 1005 1 0 0) := by subst hT; rfl
  have t4 : T.S 1004 = some boxT0l := by subst hT; rfl
  have t5 : T.S 1005 = some (.box 29 [.st (.int .i64 0)]) := by subst hT; rfl
  have t21 : T.S 21 = none := by subst hT; rfl
  have t23 : T.S 23 = none := by subst hT; rfl
  have t900 : T.S 900 = none := by subst hT; rfl
  obtain ⟨env, S⟩ := T
  simp only at e0 e1 e4 e5 t4 t5 t21 t23 t900
  clear hT
  have h40 : free.length ≤ 40 := by
    unfold freeMay at h1
    by_cases h : 40 < free.length
    · rw [if_pos h] at h1; cases h1
    · omega
  have hcall := fun S' h1 h2 h3 => (lread_S hs (3 * s.size + 3)).1 free 0 0 (up1 23) (up1 21) (up1 900) (free.length + s.size + 2) S' (by omega) (by omega) (by omega) (by omega) (by omega) (up1_le 23) (up1_le 21) (up1_le 900) h1 h2 h3
  have hr : lrT s (3 * s.size + 3) free 0 0 = lrS s free := rfl
  rw [hr, tail_zero] at hcall
  have hok := lrT_ok s (3 * s.size + 3) free 0 0 (by omega) (by omega) (by omega)
  rw [hr] at hok
  unfold lrEnd
  generalize lrS s free = q at *
  have hrange : inR .i64 q.e := by
    rw [inR_i64]
    have := hok.err
    omega
  by_cases he : q.e = 0
  case neg =>
    rw [if_neg he]
    repeat' (first | (with_reducible first | refine W ?_ | refine Wz0 ?_) | ((with_reducible first | refine Wx rfl (fun K hK => ?_) | refine Wp ?_ | refine Wq ?_ | refine Wr ?_); (try simp only [go_sem, fN, seval, eT, iR, e0, e1, e4, e5, t4, t5, t21, t23, t900, dT, dF, nL]); (repeat with_reducible refine Ai ?_); (try (refine hK _ ?_; clear hK K)); (try with_reducible refine iC ?_)))
    refine CallNG.mk _ _ _ _ (cloneS_N free (by omega)) ⟨t21, by simp, ?_⟩
    have hml : (free.map encS).length = free.length := by simp
    repeat' (first | (with_reducible first | refine W ?_ | refine Wz0 ?_) | (first | refine IWP.opsPanE 1 ⟨some 25, none, .callS 15 [.t 24], .no⟩ rfl (by kernel_rfl) ?_) | ((with_reducible first | refine Wx rfl (fun K hK => ?_) | refine Wp ?_ | refine Wq ?_ | refine Wr ?_); (try simp only [go_sem, fN, seval, eT, iR, e0, e1, e4, e5, t4, t5, t21, t23, t900, hml, rowB, dT, dF, nL]); (repeat with_reducible refine Ai ?_); (try (refine hK _ ?_; clear hK K)); (try with_reducible refine iC ?_)))
    simp only [go_sem, fN, seval, eT, iR, PanAt, List.take_succ_cons, List.take_zero, e0, e1, e4, e5, t4, t5]
    refine ⟨_, _, (hcall _ (up_boxL (by simp only [go_sem, fN, seval, eT, iR])) (up_rowL (by simp only [go_sem, fN, seval, eT, iR])) (up_none (by simp only [go_sem, fN, seval, eT, iR, t900]))).2 he, fun envP hE => ?_⟩
    refine Wy (lendD_pan (c1 := .st (.int .i64 0)) (c2 := .st (.int .i64 0)) (c3 := .full []) (x1 := .st (.int .i64 0)) hrange ((hE 4 rfl).trans (by simp only [go_sem, fN, seval, eT, iR, e4])) ((hE 5 rfl).trans (by simp only [go_sem, fN, seval, eT, iR, e5])) ?_ ?_)
    · simp only [go_sem, fN, seval, eT, iR, dn_lfail, lfail, t4]
    · simp only [go_sem, fN, seval, eT, iR, dn_lfail, lfail, t5]
  rw [if_pos he]
  obtain ⟨o1, o2, o3, o4⟩ := hok.ok he
  have hml : (free.map encS).length = free.length := by simp
  by_cases h2 : q.i < s.size
  · have h2n : ¬ tailS s q.i = ⟨#[]⟩ := fun h => by have := (ltail_nil o1).1 h; omega
    rw [if_pos h2]
    repeat' (first | (with_reducible first | refine W ?_ | refine Wz0 ?_) | ((with_reducible first | refine Wx rfl (fun K hK => ?_) | refine Wp ?_ | refine Wq ?_ | refine Wr ?_); (try simp only [go_sem, fN, seval, eT, iR, e0, e1, e4, e5, t4, t5, t21, t23, t900, dT, dF, nL]); (repeat with_reducible refine Ai ?_); (try (refine hK _ ?_; clear hK K)); (try with_reducible refine iC ?_)))
    refine CallNG.mk _ _ _ _ (cloneS_N free (by omega)) ⟨t21, by simp, ?_⟩
    repeat' (first | (with_reducible first | refine W ?_ | refine Wz0 ?_) | ((with_reducible first | refine Wx rfl (fun K hK => ?_) | refine Wp ?_ | refine Wq ?_ | refine Wr ?_); (try simp only [go_sem, fN, seval, eT, iR, e0, e1, e4, e5, t4, t5, t21, t23, t900, hml, rowB, dT, dF, nL]); (repeat with_reducible refine Ai ?_); (try (refine hK _ ?_; clear hK K)); (try with_reducible refine iC ?_)))
    refine ⟨_, _, (hcall _ (up_boxL (by simp only [go_sem, fN, seval, eT, iR])) (up_rowL (by simp only [go_sem, fN, seval, eT, iR])) (up_none (by simp only [go_sem, fN, seval, eT, iR, t900]))).1 he, ?_⟩
    repeat' (first | (with_reducible first | refine W ?_ | refine Wz0 ?_) | ((with_reducible first | refine Wx rfl (fun K hK => ?_) | refine Wp ?_ | refine Wq ?_ | refine Wr ?_); (try simp only [go_sem, fN, seval, eT, iR, dn_ldone, ldone, e0, e1, e4, e5, t4, t5, h2n, dT, dF, nL]); (repeat with_reducible refine Ai ?_); (try (refine hK _ ?_; clear hK K)); (try with_reducible refine iC ?_)))
    refine IWP.opsPanE 1 _ rfl (by kernel_rfl) ?_
    simp only [go_sem, fN, seval, eT, iR, PanAt, List.take_succ_cons, List.take_zero, e0, e1, e4, e5, t4, t5]
    intro envP hE
    refine Wy (lendD_pan (n := 12) (c1 := .st (.int .i64 q.t.kind)) (c2 := .st (.int .i64 q.t.idx)) (c3 := .st (.list (List.map encL q.t.subs))) (x1 := .st (.int .i64 0)) (by decide) ((hE 4 rfl).trans (by simp only [go_sem, fN, seval, eT, iR, e4])) ((hE 5 rfl).trans (by simp only [go_sem, fN, seval, eT, iR, e5])) ?_ ?_)
    · simp only [go_sem, fN, seval, eT, iR, t4]
    · simp only [go_sem, fN, seval, eT, iR, t5]
  · have h2n : tailS s q.i = ⟨#[]⟩ := (ltail_nil o1).2 (by omega)
    rw [if_neg h2]
    repeat' (first | (with_reducible first | refine W ?_ | refine Wz0 ?_) | ((with_reducible first | refine Wx rfl (fun K hK => ?_) | refine Wp ?_ | refine Wq ?_ | refine Wr ?_); (try simp only [go_sem, fN, seval, eT, iR, e0, e1, e4, e5, t4, t5, t21, t23, t900, dT, dF, nL]); (repeat with_reducible refine Ai ?_); (try (refine hK _ ?_; clear hK K)); (try with_reducible refine iC ?_)))
    refine CallNG.mk _ _ _ _ (cloneS_N free (by omega)) ⟨t21, by simp, ?_⟩
    repeat' (first | (with_reducible first | refine W ?_ | refine Wz0 ?_) | ((with_reducible first | refine Wx rfl (fun K hK => ?_) | refine Wp ?_ | refine Wq ?_ | refine Wr ?_); (try simp only [go_sem, fN, seval, eT, iR, e0, e1, e4, e5, t4, t5, t21, t23, t900, hml, rowB, dT, dF, nL]); (repeat with_reducible refine Ai ?_); (try (refine hK _ ?_; clear hK K)); (try with_reducible refine iC ?_)))
    refine ⟨_, _, (hcall _ (up_boxL (by simp only [go_sem, fN, seval, eT, iR])) (up_rowL (by simp only [go_sem, fN, seval, eT, iR])) (up_none (by simp only [go_sem, fN, seval, eT, iR, t900]))).1 he, ?_⟩
    repeat' (first | (with_reducible first | refine W ?_ | refine Wz0 ?_) | ((with_reducible first | refine Wx rfl (fun K hK => ?_) | refine Wp ?_ | refine Wq ?_ | refine Wr ?_); (try simp only [go_sem, fN, seval, eT, iR, dn_ldone, ldone, e0, e1, e4, e5, t4, t5, h2n, dT, dF, nL]); (repeat with_reducible refine Ai ?_); (try (refine hK _ ?_; clear hK K)); (try with_reducible refine iC ?_)))
    refine ⟨_, lparse1_idle _ _ _, ?_⟩
    rw [dn_upS]
    unfold AS.result
    simp only [go_sem, fN, seval, eT, iR, resAll, resOne, tupV, e4, e5]
    rfl

def subB (b : UInt8) : UInt8 := if b = 120 then 113 else b
def subQ (s : ByteArray) : ByteArray := ⟨(s.data.toList.map subB).toArray⟩
theorem subQ_list (s : ByteArray) : (subQ s).data.toList = s.data.toList.map subB := by simp [subQ]
theorem subQ_app (a b : ByteArray) : subQ (a ++ b) = subQ a ++ subQ b := by
  apply bytes_of
  rw [subQ_list, data_app, data_app, subQ_list, subQ_list, List.map_append]
theorem subQ_size (s : ByteArray) : (subQ s).size = s.size := by
  have : (subQ s).data.toList.length = s.data.toList.length := by rw [subQ_list, List.length_map]
  simpa using this
theorem subQ_same {s : ByteArray} (h : ∀ b ∈ s.data.toList, b ≠ 120) : subQ s = s := by
  apply bytes_of
  rw [subQ_list]
  have : s.data.toList.map subB = s.data.toList.map id := List.map_congr_left fun b hb => if_neg (h b hb)
  rw [this, List.map_id]
theorem subQ_dec (k : Nat) : subQ (decS k) = decS k := subQ_same fun b hb e => by
  have := dec_letters k b (by simpa [decS] using hb)
  rw [e] at this
  revert this
  decide
theorem subQ_lx (k : Nat) : subQ (lxName 120 k) = lxName 113 k := by
  unfold lxName
  rw [subQ_app, subQ_dec]
  rfl
theorem subQ_brk (b : Bool) (s : ByteArray) : subQ (brk b s) = brk b (subQ s) := by
  unfold brk
  split
  · rw [subQ_app, subQ_app]
    rfl
  · rfl
theorem ltx_sub {o : Nat} {ns : List ByteArray} {t : Lm} {s : ByteArray} (h : LTx 120 o ns t s) : LTx 113 o (ns.map subQ) t (subQ s) := by
  induction h with
  | @v ns i n h hn =>
    refine .v (by rw [List.length_map]; exact h) ?_
    rw [List.length_map, List.getElem?_map, hn]
    rfl
  | c h =>
    rw [subQ_app, subQ_dec]
    exact .c h
  | @l ns b s ho h ih =>
    rw [List.map_append, List.map_cons, List.map_nil, subQ_lx] at ih
    have := LTx.l (p := 113) (o := o) (ns := ns.map subQ) (b := b) (s := subQ s) (by rw [List.length_map]; exact ho) (by rw [List.length_map]; exact ih)
    rw [List.length_map] at this
    rw [subQ_app, subQ_app, subQ_app, subQ_lx]
    exact this
  | a hf hx ihf ihx =>
    rw [subQ_app, subQ_app, subQ_brk, subQ_brk]
    exact .a ihf ihx
def freeN (n : Nat) : List ByteArray := ([⟨#[121]⟩, ⟨#[122]⟩, ⟨#[119]⟩] : List ByteArray).take n
theorem freeN_sub (n : Nat) : (freeN n).map subQ = freeN n := by
  unfold freeN
  rw [List.map_take]
  rfl
theorem freeN_len {n : Nat} (h : n < 4) : (freeN n).length = n := by
  unfold freeN
  rw [List.length_take]
  simp
  omega
theorem freeN_may : ∀ n < 4, freeMay (freeN n) = 0 := by decide +kernel
theorem freeN_byte : ∀ n < 4, ∀ m ∈ freeN n, byteAt m 0 = 121 ∨ byteAt m 0 = 122 ∨ byteAt m 0 = 119 := by
  intro n hn m hm
  have := List.mem_of_mem_take hm
  simp only [List.mem_cons, List.not_mem_nil, or_false] at this
  rcases this with rfl | rfl | rfl
  · exact .inl rfl
  · exact .inr (.inl rfl)
  · exact .inr (.inr rfl)
theorem freeN_names {p : UInt8} (hp : p = 120 ∨ p = 113) {n : Nat} (hn : n < 4) : Names p n (freeN n) := by
  obtain ⟨_, f2, f3⟩ := freeMay_ok (freeN_may n hn)
  refine ⟨f3, fun m hm => ⟨(f2 m hm).1, (f2 m hm).2.2⟩, fun k _ hm => ?_, by rw [freeN_len hn]; exact Nat.le_refl _⟩
  have := freeN_byte n hn _ hm
  rw [lx_byte] at this
  rcases hp with rfl | rfl <;> revert this <;> decide
theorem prefix_xq {p : UInt8} (hp : p = 120 ∨ p = 113) : PrefixOk p := by
  rcases hp with rfl | rfl <;> exact ⟨by decide, by decide, by decide⟩
theorem lparse_back {p : UInt8} (hp : p = 120 ∨ p = 113) {n : Nat} (hn : n < 4) {t : Lm} {s : ByteArray} (h : LTx p n (freeN n) t s) (ht : t.size ≤ 200) (hs : s.size ≤ 4000) : lparse s (freeN n) = (t, 0) := by
  obtain ⟨hT, _⟩ := back (prefix_xq hp) h (freeN_names hp hn) (by rw [freeN_len hn]; omega)
  have hq := hT s ⟨#[]⟩ (3 * s.size + 3) 0 0 (Nat.zero_le _) (by rw [tail_zero]; exact ByteArray.append_empty.symm) (.inl rfl) (by omega) (by omega)
  have hr : lrS s (freeN n) = ⟨t, 0 + s.size, 0 + t.size, 0⟩ := hq
  unfold lparse
  rw [if_pos (freeN_may n hn), if_neg (by omega)]
  unfold lrEnd
  rw [hr, if_pos rfl, if_neg (by simp)]

def ir_metaprune_lambda_writer_write : IR :=
  (.seq (.ops [.i 4 (.box 26 (.t 1))]) (.seq (.ops [.f 9 0 4, .l 10 9, .i 11 (.bin .eql (.t 10) (.n 2)), .m 12 11, .mk (some 13) (some (12, true)) (.mov (.t 2)) .no, .mk (some 14) (some (12, true)) (.bin .gtr (.t 13) (.n 0)) .no, .i 15 (.pick (.t 12) (.t 14) (.c (.one (.st (.bool false))))), .m 16 15, .mk (some 17) (some (16, false)) (.fieldAddr 0 (.t 4)) .no, .mk (some 18) (some (16, false)) (.load false 1 (.t 17)) .no, .mk (some 19) (some (16, false)) (.bin .eql (.t 18) (.n 3)) .no, .mk (some 20) (some (16, false)) (.mov (.t 19)) .no, .mk (some 21) (some (20, true)) (.mov (.t 2)) .no, .mk (some 22) (some (20, true)) (.bin .gtr (.t 21) (.n 1)) .no, .mk (some 23) (some (16, false)) (.pick (.t 20) (.t 22) (.c (.one (.st (.bool false))))) .no, .i 24 (.pick (.t 16) (.c (.one (.st (.bool true)))) (.t 23)), .m 6 24]) (.seq (.seq (.ops [.m 25 6]) (.cond (.t 25) (.ops [.m 26 0, .i 27 (.nilCheck (.t 26)), .f 28 0 27, .i 29 (.callS 37 [.t 28, .c (.one (.st (.int .u8 40)))])]) .skip)) (.seq (.seq (.ops [.f 30 0 4, .l 31 30]) (.block 0 (.seq (.ops [.i 41 (.bin .eql (.t 31) (.n 1)), .m 40 41]) (.cond (.t 40) (.seq (.ops [.m 42 0, .i 43 (.nilCheck (.t 42)), .f 44 2 43, .l 45 44, .i 46 (.len false (.t 45)), .i 47 (.bin .sub (.t 46) (.n 1)), .f 48 1 4, .l 49 48, .i 50 (.bin .sub (.t 47) (.t 49)), .m 7 50]) (.seq (.ops [.m 51 7, .i 52 (.bin .geq (.t 51) (.n 0))]) (.cond (.t 52) (.ops [.m 53 0, .i 54 (.nilCheck (.t 53)), .f 55 0 54, .m 56 0, .i 57 (.nilCheck (.t 56)), .f 58 2 57, .l 59 58, .m 60 7, .i 61 (.indexAddr 1 (.t 59) (.t 60)), .l 62 61, .i 63 (.callS 38 [.t 55, .t 62])]) (.ops [.m 64 0, .i 65 (.nilCheck (.t 64)), .f 66 0 65, .m 67 7, .i 68 (.un .neg (.t 67)), .i 69 (.call 39 [.t 68]), .i 70 (.bin .add (.c (.one (.st (.str (ByteArray.mk (#[63])))))) (.t 69)), .i 71 (.callS 38 [.t 66, .t 70])])))) (.seq (.ops [.i 73 (.bin .eql (.t 31) (.n 2)), .m 72 73]) (.cond (.t 72) (.seq (.ops [.m 74 0, .i 75 (.nilCheck (.t 74)), .f 76 2 75, .l 77 76, .i 78 (.len false (.t 77)), .m 79 0, .i 80 (.nilCheck (.t 79)), .f 81 3 80, .l 82 81, .i 83 (.bin .sub (.t 78) (.t 82)), .i 84 (.call 39 [.t 83]), .i 85 (.bin .add (.c (.one (.st (.str (ByteArray.mk (#[120])))))) (.t 84)), .m 8 85]) (.seq (.ops [.m 86 0, .i 87 (.nilCheck (.t 86)), .f 88 0 87, .m 89 8, .i 90 (.bin .add (.c (.one (.st (.str (ByteArray.mk (#[92])))))) (.t 89)), .i 91 (.bin .add (.t 90) (.c (.one (.st (.str (ByteArray.mk (#[46]))))))), .i 92 (.callS 38 [.t 88, .t 91])]) (.seq (.ops [.m 93 0, .m 94 0, .i 95 (.nilCheck (.t 94)), .f 96 2 95, .l 97 96, .m 98 8, .i 99 (.buildFlat [.t 98]), .i 100 (.append true 9 1 16 (.t 97) (.t 99)), .i 101 (.nilCheck (.t 93)), .f 102 2 101, .s 1 102 100]) (.seq (.ops [.m 103 0, .f 104 2 4, .l 105 104, .i 106 (.indexAddr 3 (.t 105) (.n 0)), .L 107 3 106, .i 108 (.callS 24 [.t 103, .t 107, .n 0])]) (.ops [.m 109 0, .m 110 0, .i 111 (.nilCheck (.t 110)), .f 112 2 111, .l 113 112, .m 114 0, .i 115 (.nilCheck (.t 114)), .f 116 2 115, .l 117 116, .i 118 (.len false (.t 117)), .i 119 (.bin .sub (.t 118) (.n 1)), .i 120 (.cutP 1 (.t 113) (.t 119)), .i 121 (.nilCheck (.t 109)), .f 122 2 121, .s 1 122 120]))))) (.seq (.ops [.i 124 (.bin .eql (.t 31) (.n 3)), .m 123 124]) (.cond (.t 123) (.seq (.ops [.m 125 0, .f 126 2 4, .l 127 126, .i 128 (.indexAddr 3 (.t 127) (.n 0)), .L 129 3 128, .i 130 (.callS 24 [.t 125, .t 129, .n 1])]) (.seq (.ops [.m 131 0, .i 132 (.nilCheck (.t 131)), .f 133 0 132, .i 134 (.callS 37 [.t 133, .c (.one (.st (.int .u8 32)))])]) (.ops [.m 135 0, .f 136 2 4, .l 137 136, .i 138 (.indexAddr 3 (.t 137) (.n 1)), .L 139 3 138, .i 140 (.callS 24 [.t 135, .t 139, .n 2])]))) (.seq (.ops [.i 142 (.bin .eql (.t 31) (.n 4)), .m 141 142]) (.cond (.t 141) (.ops [.m 143 0, .i 144 (.nilCheck (.t 143)), .f 145 0 144, .f 146 1 4, .l 147 146, .i 148 (.call 39 [.t 147]), .i 149 (.bin .add (.c (.one (.st (.str (ByteArray.mk (#[99])))))) (.t 148)), .i 150 (.callS 38 [.t 145, .t 149])]) (.ops [.m 32 0, .i 33 (.nilCheck (.t 32)), .f 34 0 33, .f 35 1 4, .l 36 35, .i 37 (.call 39 [.t 36]), .i 38 (.bin .add (.c (.one (.st (.str (ByteArray.mk (#[35])))))) (.t 37)), .i 39 (.callS 38 [.t 34, .t 38])]))))))))))) (.seq (.ops [.m 151 6]) (.cond (.t 151) (.ops [.m 152 0, .i 153 (.nilCheck (.t 152)), .f 154 0 153, .i 155 (.callS 37 [.t 154, .c (.one (.st (.int .u8 41)))])]) .skip))))))
theorem ok_metaprune_lambda_writer_write : OkF Tryd.prog 24 156 [29, 63, 71, 92, 108, 134, 130, 140, 150, 39, 155, 100, 30000120] ir_metaprune_lambda_writer_write [] := .of Tryd.func24 rfl rfl (by kernel_rfl) rfl
def ir_lambda_Show : IR :=
  (.seq (.ops [.i 2 (.box 26 (.t 0)), .i 4 (.mov (.c (.one (.st (.str (ByteArray.mk (#[])))))))]) (.seq (.ops [.m 6 1, .i 7 (.len false (.t 6)), .m 8 1, .i 9 (.callN 14 [.t 8]), .i 10 (.build [.st (.lit (.pointer none)), .full [], .full [], .st (.int .i64 0)] [(3, 1, .t 7), (2, 1, .t 9)]), .i 11 (.box 61 (.t 10)), .m 5 11]) (.seq (.ops [.m 12 5, .L 13 3 2, .i 14 (.callS 24 [.t 12, .t 13, .n 0])]) (.seq (.ops [.m 15 5, .i 16 (.nilCheck (.t 15)), .f 17 0 16, .i 18 (.callS 25 [.t 17]), .m 4 18]) .ret))))
theorem ok_lambda_Show : OkF Tryd.prog 12 19 [20000009, 14, 18] ir_lambda_Show [.t 4] := .of Tryd.func12 rfl rfl (by kernel_rfl) rfl
def ir_lambda_Text : IR :=
  (.seq (.ops [.i 2 (.box 26 (.t 0)), .i 4 (.mov (.c (.one (.st (.str (ByteArray.mk (#[]))))))), .i 5 (.mov (.n 0))]) (.seq (.ops [.m 7 1, .i 8 (.call 10 [.t 7]), .m 6 8]) (.seq (.seq (.ops [.m 9 6, .i 10 (.bin .eql (.t 9) (.n 0))]) (.cond (.t 10) (.ops [.L 11 3 2, .m 12 1, .i 13 (.len false (.t 12)), .i 14 (.call 11 [.t 11, .t 13]), .m 6 14]) .skip)) (.seq (.seq (.ops [.m 15 6, .i 16 (.bin .neq (.t 15) (.n 0))]) (.cond (.t 16) (.seq (.ops [.m 17 6, .i 4 (.mov (.c (.one (.st (.str (ByteArray.mk (#[]))))))), .m 5 17]) .ret) .skip)) (.seq (.ops [.L 18 3 2, .m 19 1, .i 20 (.call 12 [.t 18, .t 19]), .m 4 20, .i 5 (.mov (.n 0))]) .ret)))))
theorem ok_lambda_Text : OkF Tryd.prog 6 21 [] ir_lambda_Text [.t 4, .t 5] := .of Tryd.func6 rfl rfl (by kernel_rfl) rfl

theorem acallsS_hand {P : Program} {f : FuncId} {xs : List AV} {S : AStore} {r : AV} {S' : AStore} (hS' : Clean S → Clean S')
    (h : Clean S → ∀ (C : Ctx) (σ : Sto) (ι : AHnd) (vs : List Value) (w : World), C.n = xs.length → Refs C σ ι (AS.startS xs S) { tmps := vs.toArray, defers := [] } w → All2 (VRep σ S ι) vs xs → Calls P f vs.toArray w fun e w' => ∃ v σ' ι' env', e = .returned v ∧ Refs C σ' ι' ⟨env', S'⟩ { tmps := vs.toArray, defers := [] } w' ∧ VRep σ' S' ι' v r) : ACallsS P f xs S r S' := by
  intro hclean σ w vs ι hglob hfit hown hvs
  have hl := hvs.len
  let C : Ctx := ⟨xs.length, w.heap.size, fun g => ¬ notOf S ι g, σ, w, S, ι, hclean, hglob, [], none, false⟩
  have R : Refs C σ ι (AS.startS xs S) { tmps := vs.toArray, defers := [] } w := by
    refine ⟨by simp [C, hl], fun i hi => ?_, marks_nil, hfit, hown.1, hown.2, fun id b g h hg => .inr (fun hno => hno id b h hg), fun _ _ h => h, fun _ _ _ => rfl, ⟨rfl, rfl, rfl⟩, ⟨Nat.le_refl _, Nat.le_refl _⟩, fun _ _ _ => rfl, Upd.refl _ _⟩
    show VRep σ S ι _ ((xs[i]?).getD (.tup []))
    have hi : i < xs.length := hi
    have hi2 : i < vs.length := by omega
    obtain ⟨b, hb1, hb2⟩ := hvs.get' (List.getElem?_eq_getElem hi2)
    rw [Array.getD_eq_getD_getElem?, hb1]
    simpa [hi2] using hb2
  refine (h hclean C σ ι vs w rfl R hvs).mono fun e w' ⟨v, σ', ι', env', he, R', hv⟩ => ?_
  exact ⟨v, σ', ι', he, hS' hclean, R'.upd, ⟨R'.blk, R'.inj⟩, hv, R'.fit, R'.ext, fun p h1 h2 => R'.old p h1 (fun h => h h2), R'.os, R'.grown.2, fun g h1 h2 => R'.same g h1 (fun h => h h2), fun id b g h1 h2 => R'.base id b g h1 h2⟩
theorem Ghost.ownCell {C : Ctx} {s : AS} {id r : Nat} {e e' : TypeId} {cs : List AC} (j wd : Nat) (hS : s.S id = some (.box e cs)) (hj : cs[j]? = some (.full [])) (hr : s.S r = none) (hne : id ≠ r) :
    Ghost C s ((s.set r (.mrow e' wd [])).set id (.box e (cs.set j (.row r 0)))) := fun a w ⟨σ, ι, R⟩ => by
  have hb := R.blk _ _ hS
  cases hb with
  | @box _ _ g vs k1 k2 k3 k4 k5 =>
    obtain ⟨v, hv, hvr⟩ := k4.get hj
    cases hvr with
    | @full p len xs hs =>
      have hl : len = 0 := by
        obtain ⟨p', cap', e1, _⟩ := srep_slice hs
        cases e1
        rfl
      subst hl
      obtain ⟨hu, R'⟩ := R.fresh (w' := w) hr (.mrow e' wd []) ⟨p, 0, none⟩ (Ext.refl _ _) R.fit (Below.refl _ _) (by simp) (fun S' ι' hu => .mnil rfl rfl)
      have hS' : (s.set r (.mrow e' wd [])).S id = some (.box e cs) := by simp [AS.set, updE_ne _ hne, hS]
      have hι : updE ι r ⟨p, 0, none⟩ id = ι id := updE_ne _ hne _
      have hrr : (s.set r (.mrow e' wd [])).S r = some (.mrow e' wd []) := by simp [AS.set, updE_same]
      obtain ⟨hu2, R2⟩ := R'.turn (w' := w) hS' (.box e (cs.set j (.row r 0))) (updE ι r ⟨p, 0, none⟩ id) (σ' := σ) (fun _ _ h => h) (fun _ _ _ => rfl) R.fit (by simp [ABlk.len]) (fun _ => ⟨rfl, rfl⟩) ⟨rfl, rfl, rfl⟩ (Nat.le_refl _) (fun _ _ _ => rfl) (fun g h => .inl h)
        (fun hu2 => by
          rw [hι] at hu2 ⊢
          refine .box k1 k2 k3 (All2.of_get (by rw [List.length_set]; exact k4.len) fun q u c hu3 hc => ?_) k5
          by_cases e2 : q = j
          · subst e2
            rw [hv] at hu3
            cases hu3
            rw [List.getElem?_set_self (List.getElem?_eq_some_iff.1 hj).1] at hc
            cases hc
            refine .row (b := .mrow e' wd []) (by simp [AS.set, updE, Ne.symm hne]) (Nat.le_refl _) rfl fun _ => ?_
            simp [updE, Ne.symm hne]
          · rw [List.getElem?_set_ne (fun e => e2 e.symm)] at hc
            obtain ⟨u', hu', hr'⟩ := k4.get hc
            rw [hu3] at hu'
            cases hu'
            exact (hr'.mono (fun _ _ h => h) hu).mono (fun _ _ h => h) hu2)
      exact ⟨σ, _, R2⟩

def ir_strings_Builder_WriteString : IR :=
  (.seq (.ops [.i 4 (.mov (.n 0)), .i 5 (.mov (.c (.one (.st (.lit .nilIface)))))]) (.seq (.ops [.m 6 0, .i 7 (.callS 44 [.t 6])]) (.seq (.ops [.m 8 0, .m 9 0, .i 10 (.nilCheck (.t 9)), .f 11 1 10, .l 12 11, .m 13 1, .i 14 (.appS 5 (.t 12) (.t 13)), .i 15 (.nilCheck (.t 8)), .f 16 1 15, .s 1 16 14]) (.seq (.ops [.m 17 1, .i 18 (.len true (.t 17)), .m 4 18, .i 5 (.mov (.c (.one (.st (.lit .nilIface)))))]) .ret))))
theorem ok_strings_Builder_WriteString : OkF Tryd.prog 38 19 [7] ir_strings_Builder_WriteString [.t 4, .t 5] := .of Tryd.func38 rfl rfl (by kernel_rfl) rfl
def ir_strings_Builder_WriteByte : IR :=
  (.seq (.ops [.i 4 (.mov (.c (.one (.st (.lit .nilIface)))))]) (.seq (.ops [.m 5 0, .i 6 (.callS 44 [.t 5])]) (.seq (.ops [.m 7 0, .m 8 0, .i 9 (.nilCheck (.t 8)), .f 10 1 9, .l 11 10, .m 12 1, .i 13 (.buildFlat [.t 12]), .i 14 (.append true 5 1 1 (.t 11) (.t 13)), .i 15 (.nilCheck (.t 7)), .f 16 1 15, .s 1 16 14]) (.seq (.ops [.i 4 (.mov (.c (.one (.st (.lit .nilIface)))))]) .ret))))
theorem ok_strings_Builder_WriteByte : OkF Tryd.prog 37 17 [6, 14] ir_strings_Builder_WriteByte [.t 4] := .of Tryd.func37 rfl rfl (by kernel_rfl) rfl

theorem sizeBuilderW : (Tryd.prog.info? 59).map (fun i => i.size) = some 2 := by kernel_rfl
set_option maxRecDepth 100000 in
theorem copyCheck_usedW (b : Nat) (w : World) (h0 : w.cell? ⟨b, 0, none⟩ = some (.pointer (some ⟨b, 0, none⟩))) :
    Calls Tryd.prog 44 #[.pointer (some ⟨b, 0, none⟩)] w fun e w' => e = .returned (.tuple #[]) ∧ w' = w := by
  obtain ⟨j, hj, _⟩ := Option.map_eq_some_iff.1 sizeBuilderW
  go_enter Tryd.func44, Tryd.ntmps44
  go_wp2
  rw [Lib.run_neq_ptr_same w _ Tryd.underlying56 hj]
  go_wp2
  go_end0
  exact ⟨rfl, rfl⟩
set_option maxRecDepth 100000 in
theorem copyCheck_freshW (b : Nat) (w : World) (h0 : w.cell? ⟨b, 0, none⟩ = some (.pointer none)) {ty : TypeId} {n : Nat} (hsh : w.shape? b = some (ty, n)) (hn : 0 < n) (hlies : liesAt Tryd.prog (Tryd.prog).depth ty (n / (Tryd.prog).cellsOf ty) 0 59 1 = true) (hfz : w.frozen? ⟨b, 0, none⟩ = false) :
    Calls Tryd.prog 44 #[.pointer (some ⟨b, 0, none⟩)] w fun e w' => e = .returned (.tuple #[]) ∧ w' = w.setCell ⟨b, 0, none⟩ (.pointer (some ⟨b, 0, none⟩)) := by
  obtain ⟨j, hj, hjs⟩ := Option.map_eq_some_iff.1 sizeBuilderW
  go_enter Tryd.func44, Tryd.ntmps44
  go_wp2
  rw [Lib.run_to_unsafe w ⟨b, 0, none⟩ Tryd.underlying56 Tryd.underlying82 hj (by rw [hjs]; decide) hsh hn]
  simp only [Result.andThen]
  rw [Oper.upon_value]
  go_wp2
  rw [run_callFunc_extern Tryd.func49 (by kernel_rfl) (by kernel_rfl) (by kernel_rfl) (e := Extern.AbiNoEscape.same) (by kernel_rfl)]
  rw [Lib.run_noEscape]
  simp only [Result.andThen]
  rw [Oper.upon_value]
  go_wp2
  rw [Lib.run_from_unsafe w ⟨b, 0, none⟩ Tryd.underlying82 Tryd.underlying56 hj hsh hlies]
  simp only [Result.andThen]
  rw [Oper.upon_value]
  go_wp2
  go_end0
  exact ⟨rfl, rfl⟩
def FrzW (w w' : World) (g : Nat) : Prop := w'.heap.size = w.heap.size ∧ (∀ k, k ≠ g → w'.heap[k]? = w.heap[k]?) ∧ w'.os = w.os ∧ w'.tape = w.tape ∧ w'.output = w.output ∧ ∀ cs e f, w.heap[g]? = some (.cells cs e f) → ∃ f', w'.heap[g]? = some (.cells cs e f')
theorem frzW_freeze (w : World) (g n : Nat) : FrzW w (w.drew.freeze ⟨g, 0, none⟩ n) g := by
  unfold World.freeze
  split
  · exact ⟨rfl, fun _ _ => rfl, rfl, rfl, rfl, fun cs e f h => ⟨f, h⟩⟩
  · refine ⟨by simp, fun k hk => ?_, rfl, rfl, rfl, fun cs e f h => ?_⟩
    · simp only [Array.getElem?_modify]
      rw [if_neg (fun e => hk e.symm)]
      rfl
    · obtain ⟨lo, hi⟩ := f
      have h' : w.drew.heap[g]? = some (.cells cs e (lo, hi)) := h
      refine ⟨if lo == hi then (0, 0 + n) else (min lo 0, max hi (0 + n)), ?_⟩
      simp only [Array.getElem?_modify, if_true, h', Option.map_some]
set_option maxRecDepth 100000 in
theorem builderStringW_at (b g cap : Nat) (vs : Array Value) (ty : TypeId) (cur : Array Value) (l : List UInt8) (w : World) (h0 : l ≠ []) (hbk : w.heap[b]? = some (.cells vs ty (0, 0))) (hv1 : vs[1]? = some (.slice (some ⟨g, 0, none⟩) l.length cap)) (hbg : w.heap[g]? = some (.cells cur 5 (0, 0)))
    (hcm : cap ≤ maxLen) (hnc : l.length ≤ cap) (hsz : l.length ≤ cur.size) (hcur : ∀ (j : Nat) (x : UInt8), l[j]? = some x → cur[j]? = some (Value.int .u8 (x.toNat : Int))) :
    Calls Tryd.prog 25 #[.pointer (some ⟨b, 0, none⟩)] w fun e w' => e = .returned (.string ⟨l.toArray⟩) ∧ FrzW w w' g := by
  have hl0 : l.length ≠ 0 := by simpa using h0
  have c1 : w.drew.cell? ⟨b, 1, none⟩ = some (.slice (some ⟨g, 0, none⟩) l.length cap) := by
    have : w.drew.heap[b]? = some (.cells vs ty (0, 0)) := hbk
    rw [Lib.cell_of_heap this]
    exact hv1
  have hSD : (Builtin.unsafeSliceData_ #[57] 75 #[.slice (some ⟨g, 0, none⟩) l.length cap]).run Tryd.prog w.drew = .ok (.pointer (some ⟨g, 0, none⟩)) w.drew :=
    Lib.run_unsafeSliceData_row _ _ _ _ _ _ (by omega)
  have hUS : (Builtin.unsafeString_ #[75, 3] 9 #[.pointer (some ⟨g, 0, none⟩), .int .i64 l.length]).run Tryd.prog w.drew = .ok (.string ⟨l.toArray⟩) (w.drew.freeze ⟨g, 0, none⟩ l.length) := by
    refine Lib.run_unsafeString_row w.drew 75 3 9 5 Tryd.underlying75 (by kernel_rfl) g cur.size (by have hg' : w.drew.heap[g]? = some (.cells cur 5 (0, 0)) := hbg; simp [World.shape?, hg']) l h0 (by omega) (by unfold maxLen at hcm; omega) ?_
    intro j x hx
    have hg' : w.drew.heap[g]? = some (.cells cur 5 (0, 0)) := hbg
    rw [addr_add, Nat.zero_add, cell_of_row w.drew g _ _ _ _ hg']
    exact hcur j x hx
  go_enter Tryd.func25, Tryd.ntmps25
  go_wp2
  have mixed : Tryd.prog.follows Departure.mixedOrders = true := by kernel_rfl
  go_region_o
  all_goals (go_wp2; go_ret; exact ⟨rfl, frzW_freeze w g l.length⟩)
abbrev bTW : TypeId := 59
abbrev u8W : TypeId := 5
structure BldW (ty : TypeId) (ex : List AC) (S : AStore) (a0 r : Nat) (bs : ByteArray) : Prop where
  ha : 1000 ≤ a0
  hr : 1000 ≤ r
  ne : a0 ≠ r
  hex : AC.highs ex = true
  lies : liesAt Tryd.prog (Tryd.prog).depth ty ((2 + ex.length) / (Tryd.prog).cellsOf ty) 0 bTW 1 = true
  box : ∃ p, (p = .st (.lit (.pointer none)) ∨ p = .ptr a0 1 0 0) ∧ S a0 = some (.box ty (p :: .row r bs.size :: ex))
  row : S r = some (.mrow u8W 1 (byteRow bs))
def bldWS (ty : TypeId) (ex : List AC) (S : AStore) (a0 r : Nat) (bs : ByteArray) : AStore := updE (updE S a0 (some (.box ty (.ptr a0 1 0 0 :: .row r bs.size :: ex)))) r (some (.mrow u8W 1 (byteRow bs)))
theorem ptrW_val {σ : Sto} {S : AStore} {ι : AHnd} {v : Value} {a0 : Nat} {e : TypeId} {cs : List AC} (h : VRep σ S ι v (.one (.ptr a0 1 0 0))) (hS : S a0 = some (.box e cs)) : ∃ g, (ι a0).g = some g ∧ v = .pointer (some ⟨g, 0, none⟩) := by
  have h := vrep_one h
  cases h with
  | @ptr _ _ _ _ _ b h1 h2 h3 h4 =>
    rw [hS] at h1
    cases h1
    obtain ⟨g, g1, g2⟩ := h4 rfl
    exact ⟨g, g1, by rw [g2]; rfl⟩
theorem aptrW_val {σ : Sto} {S : AStore} {ι : AHnd} {v : Value} {a0 : Nat} {e : TypeId} {cs : List AC} (h : ARep σ S ι v (.ptr a0 1 0 0)) (hS : S a0 = some (.box e cs)) : ∃ g, (ι a0).g = some g ∧ v = .pointer (some ⟨g, 0, none⟩) := ptrW_val (.one h) hS
theorem list_two_more {α : Type} {l : List α} {n : Nat} (h : l.length = 2 + n) : ∃ a b m, l = a :: b :: m := by
  match l, h with
  | [], h => simp at h; omega
  | [_], h => simp at h; omega
  | a :: b :: m, _ => exact ⟨a, b, m, rfl⟩
theorem bldW_high {ty : TypeId} {ex : List AC} {a0 r n : Nat} (ha : 1000 ≤ a0) (hr : 1000 ≤ r) (hex : AC.highs ex = true) : (ABlk.box ty (.ptr a0 1 0 0 :: .row r n :: ex)).high = true := by simp only [ABlk.high, AC.highs, AC.high, decide_eq_true ha, decide_eq_true hr, hex, Bool.and_self]
theorem copyCheckW_S {ty : TypeId} {ex : List AC} {a0 r : Nat} {bs : ByteArray} {S : AStore} (h : BldW ty ex S a0 r bs) : ACallsS Tryd.prog 44 [.one (.ptr a0 1 0 0)] S (.tup []) (updE S a0 (some (.box ty (.ptr a0 1 0 0 :: .row r bs.size :: ex)))) := by
  obtain ⟨p, hp, hSa⟩ := h.box
  refine acallsS_hand (fun hc => clean_upd hc h.ha (bldW_high h.ha h.hr h.hex)) fun hclean C σ ι vs w hn R hvs => ?_
  obtain ⟨v, rfl⟩ : ∃ v, vs = [v] := by
    have := hvs.len
    match vs, this with
    | [v], _ => exact ⟨v, rfl⟩
  have hv : VRep σ S ι v (.one (.ptr a0 1 0 0)) := by cases hvs with | cons h _ => exact h
  obtain ⟨g, hg, rfl⟩ := ptrW_val hv hSa
  have hb := R.blk a0 _ hSa
  cases hb with
  | @box _ _ g' vs k1 k2 k3 k4 k5 =>
  rw [hg] at k1
  cases k1
  obtain ⟨v0, v1, vm, hvs2⟩ := list_two_more (n := ex.length) (show vs.toList.length = 2 + ex.length by rw [k4.len]; simp; omega)
  have hsz : vs.size = 2 + ex.length := by
    have := k4.len
    simp at this
    omega
  obtain rfl : vs = (v0 :: v1 :: vm).toArray := by rw [← hvs2]
  have r0 : ARep σ S ι v0 p := by cases k4 with | cons h _ => exact h
  have r1 : All2 (ARep σ S ι) (v1 :: vm) (.row r bs.size :: ex) := by cases k4 with | cons _ h => exact h
  have c0 : w.cell? ⟨g, 0, none⟩ = some v0 := by rw [Lib.cell_of_heap k3]; rfl
  have key : ∀ w', w' = w.setRow g (.pointer (some ⟨g, 0, none⟩) :: v1 :: vm).toArray → ∃ σ' ι' env', Refs C σ' ι' ⟨env', updE S a0 (some (.box ty (.ptr a0 1 0 0 :: .row r bs.size :: ex)))⟩ { tmps := #[.pointer (some ⟨g, 0, none⟩)], defers := [] } w' ∧ VRep σ' (updE S a0 (some (.box ty (.ptr a0 1 0 0 :: .row r bs.size :: ex)))) ι' (.tuple #[]) (.tup []) := fun w' hw' => by
    subst hw'
    obtain ⟨hu, R'⟩ := R.turn (w' := w.setRow g (.pointer (some ⟨g, 0, none⟩) :: v1 :: vm).toArray) hSa (.box ty (.ptr a0 1 0 0 :: .row r bs.size :: ex)) (ι a0) (σ' := σ) (fun _ _ h => h) (fun _ _ _ => rfl) (R.fit.row k5 fun k hk => setRow_other _ _ _ _ hk) (by simp [ABlk.len]) (fun _ => ⟨rfl, rfl⟩) (setRow_frame _ _) (by simp)
      (fun k hk hne => setRow_other _ _ _ _ (fun e => hne (by rw [e]; exact hg))) (fun g h => .inl h) (fun hu => .box hg k2 (setRow_heap w _ _ _ _ _ k3) (.cons (.ptr (b := .box ty (.ptr a0 1 0 0 :: .row r bs.size :: ex)) (by simp [AS.set, updE_same]) (by simp [ABlk.len]) rfl fun _ => ⟨g, by rw [updE_same]; exact hg, by simp [ABlk.wid]⟩) (r1.mono fun _ _ x => x.mono (fun _ _ h => h) hu)) k5)
    exact ⟨σ, _, _, R', .tup (fun _ => undef) rfl (by simp) (by simp)⟩
  rcases hp with rfl | rfl
  · have e0 : v0 = .pointer none := by cases r0 with | st h => cases h with | lit _ => rfl
    subst e0
    refine (copyCheck_freshW g w c0 (ty := ty) (n := 2 + ex.length) (by simp [World.shape?, k3]; simpa using hsz) (by omega) h.lies (Lib.frozen_of_heap k3 0)).mono ?_
    rintro e w' ⟨rfl, rfl⟩
    obtain ⟨σ', ι', env', R', hv'⟩ := key _ (setCell_eq_setRow w g 0 _ _ _ _ k3)
    exact ⟨_, σ', ι', env', rfl, R', hv'⟩
  · obtain ⟨g2, hg2, e0⟩ := aptrW_val r0 hSa
    rw [hg] at hg2
    cases hg2
    subst e0
    refine (copyCheck_usedW g w c0).mono ?_
    rintro e w' ⟨rfl, rfl⟩
    obtain ⟨σ', ι', env', R', hv'⟩ := key _ (setRow_self w' g _ _ _ k3).symm
    exact ⟨_, σ', ι', env', rfl, R', hv'⟩
theorem byteRowW_app (a b : ByteArray) : byteRow (a ++ b) = byteRow a ++ byteRow b := by unfold byteRow; simp
theorem rens_len (ρ : Nat → Nat) (ex : List AC) : (AC.rens ρ ex).length = ex.length := by rw [AC.rens_eq, List.length_map]
theorem bldW_up {ty : TypeId} {ex : List AC} {a0 r : Nat} {bs : ByteArray} {S : AStore} (h : BldW ty ex S a0 r bs) : BldW ty (AC.rens up1 ex) (upS S) (up1 a0) (up1 r) bs := by
  obtain ⟨p, hp, hSa⟩ := h.box
  refine ⟨up1_le _, up1_le _, fun e => h.ne (Nat.add_right_cancel e), ?_, by rw [rens_len]; exact h.lies, ?_, by rw [upS_some h.row]; rfl⟩
  · have := AC.rens_high ex
    exact this
  rcases hp with rfl | rfl
  · exact ⟨_, .inl rfl, by rw [upS_some hSa]; rfl⟩
  · exact ⟨_, .inr rfl, by rw [upS_some hSa]; rfl⟩
theorem rens_dn (ex : List AC) : AC.rens dn1 (AC.rens up1 ex) = ex := AC.rens_rens up1 dn1 dn_up ex
theorem writeStringW_S {ty : TypeId} {ex : List AC} {a0 r : Nat} {bs : ByteArray} {S : AStore} (h : BldW ty ex S a0 r bs) (s : ByteArray) (hz : bs.size + s.size ≤ 140737488355328) : ACallsS Tryd.prog 38 [.one (.ptr a0 1 0 0), aStr s] S (.tup [aInt s.size, .one (.st (.lit .nilIface))]) (bldWS ty ex S a0 r (bs ++ s)) := by
  obtain ⟨p, hp, hSa⟩ := h.box
  have hSr := h.row
  have ha := h.ha
  have hr := h.hr
  have hne := h.ne
  have hne2 : ¬ r = a0 := fun e => hne e.symm
  have hbl := byteRow_len bs
  refine ok_strings_Builder_WriteString.acS fun hS C hC => ?_
  unfold ir_strings_Builder_WriteString
  repeat' (first | (with_reducible first | refine W ?_ | refine Wz0 ?_) | ((with_reducible first | refine Wo (fun K hK => ?_) | refine Wp ?_ | refine Wq ?_ | refine Wr ?_); (try simp only [go_sem, fN, seval, eT, iR, hSa, dT, dF, nL]); (repeat with_reducible refine Ai ?_); (try (refine hK _ ?_; clear hK K)); (try with_reducible refine iC ?_)))
  refine ⟨_, _, copyCheckW_S (bldW_up h), ?_⟩
  repeat' (first | (with_reducible first | refine W ?_ | refine Wz0 ?_) | ((with_reducible first | refine Wo (fun K hK => ?_) | refine Wp ?_ | refine Wq ?_ | refine Wr ?_); (try simp only [go_sem, fN, seval, eT, iR, hSa, hSr, hne, hne2, hbl, rens_dn, dT, dF, nL]); (repeat with_reducible refine Ai ?_); (try (refine hK _ ?_; clear hK K)); (try with_reducible refine iC ?_)))
  refine finS_two (.tup [aInt s.size, .one (.st (.lit .nilIface))]) hS ha hr hne2 (bldW_high ha hr h.hex) rfl trivial ?_ ?_ ?_ ?_ fun i hi i1 i2 => ?_
  · simp only [go_sem, fN, seval, eT, iR, resAll, resOne, tupV]
  · simp only [go_sem, fN, seval, eT, iR]
    try rfl
  · simp only [go_sem, fN, seval, eT, iR, hne, hne2]
    try (rw [ByteArray.size_append])
  · simp only [go_sem, fN, seval, eT, iR, hne, hne2, byteRowW_app]
  · simp only [go_sem, fN, seval, eT, iR, i1, i2]
theorem byteRowW_one (c : UInt8) : byteRow ⟨#[c]⟩ = [[.int .u8 (c.toNat : Int)]] := rfl
theorem writeByteW_S {ty : TypeId} {ex : List AC} {a0 r : Nat} {bs : ByteArray} {S : AStore} (h : BldW ty ex S a0 r bs) (c : UInt8) (hz : bs.size + 1 ≤ 140737488355328) : ACallsS Tryd.prog 37 [.one (.ptr a0 1 0 0), .one (.st (.int .u8 (c.toNat : Int)))] S (.one (.st (.lit .nilIface))) (bldWS ty ex S a0 r (bs ++ ⟨#[c]⟩)) := by
  obtain ⟨p, hp, hSa⟩ := h.box
  have hSr := h.row
  have ha := h.ha
  have hr := h.hr
  have hne := h.ne
  have hne2 : ¬ r = a0 := fun e => hne e.symm
  have hbl := byteRow_len bs
  have hsz : (bs ++ ⟨#[c]⟩).size = bs.size + 1 := by rw [ByteArray.size_append]; rfl
  refine ok_strings_Builder_WriteByte.acS fun hS C hC => ?_
  unfold ir_strings_Builder_WriteByte
  repeat' (first | (with_reducible first | refine W ?_ | refine Wz0 ?_) | ((with_reducible first | refine Wo (fun K hK => ?_) | refine Wp ?_ | refine Wq ?_ | refine Wr ?_); (try simp only [go_sem, fN, seval, eT, iR, hSa, dT, dF, nL]); (repeat with_reducible refine Ai ?_); (try (refine hK _ ?_; clear hK K)); (try with_reducible refine iC ?_)))
  refine ⟨_, _, copyCheckW_S (bldW_up h), ?_⟩
  have h63 : bs.size + 1 ≤ maxLen := by rw [maxLen_eq]; omega
  repeat' (first | (with_reducible first | refine W ?_ | refine Wz0 ?_) | ((with_reducible first | refine Wo (fun K hK => ?_) | refine Wp ?_ | refine Wq ?_ | refine Wr ?_); (try simp only [go_sem, fN, seval, eT, iR, hSa, hSr, hne, hne2, hbl, h63, rens_dn, dT, dF, nL]); (repeat with_reducible refine Ai ?_); (try (refine hK _ ?_; clear hK K)); (try with_reducible refine iC ?_)))
  refine finS_two (.one (.st (.lit .nilIface))) hS ha hr hne2 (bldW_high ha hr h.hex) rfl trivial ?_ ?_ ?_ ?_ fun i hi i1 i2 => ?_
  · simp only [go_sem, fN, seval, eT, iR, resAll, resOne, tupV]
  · simp only [go_sem, fN, seval, eT, iR]
    try rfl
  · simp only [go_sem, fN, seval, eT, iR, hne, hne2, hbl, hsz]
  · simp only [go_sem, fN, seval, eT, iR, hne, hne2, byteRowW_app, byteRowW_one]
  · simp only [go_sem, fN, seval, eT, iR, i1, i2]
theorem builderStringW_S {ty : TypeId} {ex : List AC} {a0 r : Nat} {bs : ByteArray} {S : AStore} (h : BldW ty ex S a0 r bs) (h0 : 0 < bs.size) (hmx : bs.size ≤ 140737488355328) : ACallsS Tryd.prog 25 [.one (.ptr a0 1 0 0)] S (aStr bs) (updE S r (some (.dead bs.size 1))) := by
  obtain ⟨p, hp, hSa⟩ := h.box
  refine acallsS_hand (fun hc => clean_upd hc h.hr rfl) fun hclean C σ ι vs w hn R hvs => ?_
  obtain ⟨v, rfl⟩ : ∃ v, vs = [v] := by
    have := hvs.len
    match vs, this with
    | [v], _ => exact ⟨v, rfl⟩
  have hv : VRep σ S ι v (.one (.ptr a0 1 0 0)) := by cases hvs with | cons h _ => exact h
  obtain ⟨g, hg, rfl⟩ := ptrW_val hv hSa
  have hb := R.blk a0 _ hSa
  have hbr := R.blk r _ h.row
  have hlen : (byteRow bs).length = bs.size := byteRow_len bs
  cases hb with
  | @box _ _ g' vs k1 k2 k3 k4 k5 =>
  rw [hg] at k1
  cases k1
  obtain ⟨v0, v1, vm, hvs2⟩ := list_two_more (n := ex.length) (show vs.toList.length = 2 + ex.length by rw [k4.len]; simp; omega)
  obtain rfl : vs = (v0 :: v1 :: vm).toArray := by rw [← hvs2]
  have r1 : ARep σ S ι v1 (.row r bs.size) := by cases k4 with | cons _ h => cases h with | cons h _ => exact h
  generalize hrow : byteRow bs = row at hbr hlen
  cases hbr with
  | mnil m1 m2 => simp at hlen; omega
  | @mrow _ _ _ gr cur m1 m2 m3 m4 m5 m6 m7 m8 m9 =>
  subst hrow
  have e1 : v1 = .slice (some ⟨gr, 0, none⟩) bs.size (ι r).cap := by
    cases r1 with
    | row q1 q2 q3 q4 =>
      rw [h.row] at q1
      cases q1
      rw [q4 hlen.symm, m2]
  subst e1
  have hl : bs.data.toList.length = bs.size := by rw [Array.length_toList]; rfl
  refine (builderStringW_at g gr (ι r).cap _ ty cur bs.data.toList w (fun e => by rw [e] at hl; simp at hl; omega) k3 (by rw [hl]; rfl) m3 m5 (by omega) (by rw [m6, hl]; omega) fun j x hx => ?_).mono ?_
  · have hx' : (byteRow bs)[j]? = some [SV.int .u8 (x.toNat : Int)] := by
      unfold byteRow
      rw [List.getElem?_map, hx]
      rfl
    obtain ⟨u, u1, u2⟩ := m8 j _ 0 _ hx' rfl
    rw [Nat.mul_one, Nat.add_zero] at u1
    rw [u1]
    cases u2
    rfl
  · rintro e w' ⟨rfl, f1, f2, f3, f4, f5, f6⟩
    obtain ⟨hu, R'⟩ := R.turn (w' := w') h.row (.dead bs.size 1) (ι r) (σ' := σ) (fun _ _ h => h) (fun _ _ _ => rfl) (R.fit.row m9 f2) (by simp [ABlk.len, hlen]) (fun _ => ⟨rfl, rfl⟩) ⟨f3, f4, f5⟩ (by omega)
      (fun k hk hne => f2 k (fun e => hne (by rw [e]; exact m1))) (fun g h => .inl h) (fun hu => .dead fun g hg => by
        rw [m1] at hg
        cases hg
        obtain ⟨f', h'⟩ := f6 _ _ _ m3
        exact ⟨_, h', rfl⟩)
    refine ⟨_, σ, _, _, rfl, R', .one (.st (.str ?_))⟩
    show bs.size ≤ maxLen
    rw [maxLen_eq]
    omega

theorem hiw_ne {b c : Nat} (hb : 1000 ≤ b) (hc : c < 1000) : (b = c) = False := eq_false (by omega)
theorem low_ne {b c : Nat} (hb : 1000 ≤ b) (hc : c < 1000) : (c = b) = False := eq_false (by omega)
theorem itoaS_a (k : Nat) (hk : k < 1000000) : ACalls Tryd.prog 39 [aInt k] (aStr (decS k)) := by
  have h := itoaAll_a (k : Int)
  have hd : (⟨(Lib.itoa (k : Int)).toArray⟩ : ByteArray) = decS k := by rw [Lib.itoa_nonneg]; rfl
  rw [hd] at h
  exact h
abbrev wT : TypeId := 61
abbrev rowW (xs : List ByteArray) : ABlk := .mrow 9 1 (xs.map encS)
abbrev boxW (p : AC) (r n : Nat) (c : AC) (o : Int) : ABlk := .box wT [p, .row r n, c, .st (.int .i64 o)]
theorem liesW : liesAt Tryd.prog (Tryd.prog).depth wT (4 / (Tryd.prog).cellsOf wT) 0 bTW 1 = true := by kernel_rfl
theorem bldW_mkU {S : AStore} {b r : Nat} {bs : ByteArray} {c p : AC} {o : Int} (hbr : b ≠ r) (hp : p = .st (.lit (.pointer none)) ∨ p = .ptr b 1 0 0) (h1 : S b = some (boxW p r bs.size c o)) (h2 : S r = some (.mrow u8W 1 (byteRow bs))) : BldW wT (AC.rens up1 [c, .st (.int .i64 o)]) (upS S) (up1 b) (up1 r) bs := by
  refine ⟨up1_le _, up1_le _, fun e => hbr (Nat.add_right_cancel e), AC.rens_high _, by rw [rens_len]; exact liesW, ?_, by rw [upS_some h2]; rfl⟩
  rcases hp with rfl | rfl
  · exact ⟨_, .inl rfl, by rw [upS_some h1]; rfl⟩
  · exact ⟨_, .inr rfl, by rw [upS_some h1]; rfl⟩
theorem dn_bldWS {ty : TypeId} {ex : List AC} {S : AStore} {b r : Nat} {bs : ByteArray} : dnS (bldWS ty (AC.rens up1 ex) (upS S) (up1 b) (up1 r) bs) = bldWS ty ex S b r bs := by
  unfold bldWS
  rw [dnS_upd, dnS_upd, dn_upS]
  show updE (updE S b (some (ABlk.box ty (AC.ptr (dn1 (up1 b)) 1 0 0 :: AC.row (dn1 (up1 r)) _ :: AC.rens dn1 (AC.rens up1 ex))))) r _ = _
  rw [dn_up, dn_up, rens_dn]
  rfl
def wdone (S : AStore) (b r i ni N : Nat) (ns : List ByteArray) (bs : ByteArray) (o : Int) : AStore := updE (updE (updE (updE S i (some (.dead N 1))) ni (some (rowW ns))) b (some (boxW (.ptr b 1 0 0) r bs.size (.row ni ns.length) o))) r (some (.mrow u8W 1 (byteRow bs)))
theorem dn_wdone {S : AStore} {b r i ni N : Nat} {ns : List ByteArray} {bs : ByteArray} {o : Int} : dnS (wdone (upS S) (up1 b) (up1 r) (up1 i) (up1 ni) N ns bs o) = wdone S b r i ni N ns bs o := by
  unfold wdone
  rw [dnS_upd, dnS_upd, dnS_upd, dnS_upd, dn_upS]
  show updE (updE _ b (some (ABlk.box wT [AC.ptr (dn1 (up1 b)) 1 0 0, AC.row (dn1 (up1 r)) _, AC.row (dn1 (up1 ni)) _, _]))) r _ = _
  rw [dn_up, dn_up, dn_up]
  rfl
theorem boxW_high {p : AC} {r n i m : Nat} {o : Int} (hp : p.high = true) (hr : 1000 ≤ r) (hi : 1000 ≤ i) : (boxW p r n (.row i m) o).high = true := by
  show AC.highs [p, .row r n, .row i m, _] = true
  simp only [AC.highs, AC.high, hp, decide_eq_true hr, decide_eq_true hi, Bool.and_self]
theorem clean_wdone {S : AStore} {b r i ni N : Nat} {ns : List ByteArray} {bs : ByteArray} {o : Int} (hb : 1000 ≤ b) (hr : 1000 ≤ r) (hi : 1000 ≤ i) (hn : 1000 ≤ ni) (hS : Clean S) : Clean (wdone S b r i ni N ns bs o) :=
  clean_upd (clean_upd (clean_upd (clean_upd hS hi rfl) hn rfl) hb (boxW_high (high_ptr hb) hr hn)) hr rfl
theorem up_boxW {S : AStore} {b r n i m : Nat} {o : Int} (h : S b = some (boxW (.ptr b 1 0 0) r n (.row i m) o)) : upS S (up1 b) = some (boxW (.ptr (up1 b) 1 0 0) (up1 r) n (.row (up1 i) m) o) := upS_some h
theorem up_boxW0 {S : AStore} {b r n i m : Nat} {o : Int} (h : S b = some (boxW (.st (.lit (.pointer none))) r n (.row i m) o)) : upS S (up1 b) = some (boxW (.st (.lit (.pointer none))) (up1 r) n (.row (up1 i) m) o) := upS_some h
theorem up_rowW {S : AStore} {i : Nat} {ns : List ByteArray} (h : S i = some (rowW ns)) : upS S (up1 i) = some (rowW ns) := upS_some h
theorem up_mrowW {S : AStore} {r : Nat} {bs : ByteArray} (h : S r = some (.mrow u8W 1 (byteRow bs))) : upS S (up1 r) = some (.mrow u8W 1 (byteRow bs)) := upS_some h
theorem up_noneW {S : AStore} {i : Nat} (h : S i = none) : upS S (up1 i) = none := by rw [upS_up, h]; rfl
theorem wend {C : Ctx} {x : AS} {S : AStore} {b r i j ni N : Nat} {ns xs : List ByteArray} {bs : ByteArray} {o : Int} {c : AC} {e : AX} (hS : Clean S) (he : match e with | .normal => True | .ret => True | _ => False) (hb1 : 1000 ≤ b) (hr1 : 1000 ≤ r) (hi1 : 1000 ≤ i) (hb : x.S b = some (boxW (.ptr b 1 0 0) r bs.size c o)) (hr : x.S r = some (.mrow u8W 1 (byteRow bs))) (hj : x.S j = some (rowW xs)) (hN : xs.length < N) (hc : c = .part j ns.length xs.length ∨ (c = .row j ns.length ∧ ns.length = xs.length)) (hx : xs.take ns.length = ns) (hni : x.S ni = none) (hbn : b ≠ ni) (hrn : r ≠ ni) (hrb : r ≠ b) (hrj : r ≠ j) (h1000 : 1000 ≤ ni)
    (hi : (j = i) ∨ (j < 1000 ∧ x.S i = some (.dead N 1) ∧ i ≠ ni ∧ i ≠ b ∧ i ≠ r)) (h3 : ∀ j, 1000 ≤ j → j ≠ b → j ≠ r → j ≠ i → x.S j = S j) : FinS C [] (.tup []) (wdone S b r i ni N ns bs o) e x := by
  have hjb : b ≠ j := fun e => by subst e; rw [hb] at hj; cases hj
  have hjn : j ≠ ni := fun e => by subst e; rw [hj] at hni; cases hni
  have hg := Ghost.rebase (C := C) (s := x) b j ni 2 ns.length N (xs := xs.map encS) (by simpa using hN) hb hj hni (by
    rw [List.length_map]
    rcases hc with rfl | ⟨rfl, h⟩
    · exact .inl rfl
    · exact .inr ⟨rfl, h⟩)
  refine finS_ghost hg (finS_same (.tup []) (clean_wdone hb1 hr1 hi1 h1000 hS) he rfl rfl fun k hk => ?_)
  show updE (updE (updE x.S j (some (.dead N 1))) ni (some (ABlk.mrow _ 1 ((xs.map encS).take ns.length)))) b (some (ABlk.box _ ([_, _, c, _].set 2 (.row ni ns.length)))) k = _
  rw [← List.map_take, hx]
  unfold wdone
  by_cases e0 : k = r
  · subst e0
    rw [updE_ne _ hrb, updE_ne _ hrn, updE_ne _ hrj, hr, updE_same]
  rw [updE_ne _ e0]
  by_cases e1 : k = b
  · subst e1
    rw [updE_same, updE_same]
    rfl
  rw [updE_ne _ e1, updE_ne _ e1]
  by_cases e2 : k = ni
  · subst e2
    rw [updE_same, updE_same]
  rw [updE_ne _ e2, updE_ne _ e2]
  rcases hi with rfl | ⟨q1, q2, q3, q4, q5⟩
  · by_cases e3 : k = j
    · subst e3
      rw [updE_same, updE_same]
    · rw [updE_ne _ e3, updE_ne _ e3, h3 k hk e1 e0 e3]
  · rw [updE_ne _ (show k ≠ j by omega)]
    by_cases e3 : k = i
    · subst e3
      rw [updE_same, q2]
    · rw [updE_ne _ e3, h3 k hk e1 e0 e3]

def brP (t : Lm) (place : Int) : Bool := decide (t.kind = 2 ∧ 0 < place ∨ t.kind = 3 ∧ 1 < place)
def WrS (o : Nat) (ns : List ByteArray) (t : Lm) (s : ByteArray) : Prop := ∀ (place : Int) (bs : ByteArray) (p : AC) (b r i ni N : Nat) (S : AStore), 0 ≤ place ∧ place ≤ 2 → ns.length + t.size < N → N ≤ 1000000 → bs.size + s.size + 4 * t.size ≤ 1000000000 → 1000 ≤ b → 1000 ≤ r → 1000 ≤ i → 1000 ≤ ni → (p = .st (.lit (.pointer none)) ∨ p = .ptr b 1 0 0) → S b = some (boxW p r bs.size (.row i ns.length) o) → S r = some (.mrow u8W 1 (byteRow bs)) → S i = some (rowW ns) → S ni = none →
  ACallsS Tryd.prog 24 [.one (.ptr b 1 0 0), aLm t, aInt place] S (.tup []) (wdone S b r i ni N ns (bs ++ brk (brP t place) s) o)
theorem up_boxWp {S : AStore} {b r n i m : Nat} {o : Int} {p : AC} (hp : p = .st (.lit (.pointer none)) ∨ p = .ptr b 1 0 0) (h : S b = some (boxW p r n (.row i m) o)) : ∃ p', (p' = .st (.lit (.pointer none)) ∨ p' = .ptr (up1 b) 1 0 0) ∧ upS S (up1 b) = some (boxW p' (up1 r) n (.row (up1 i) m) o) := by
  rcases hp with rfl | rfl
  · exact ⟨_, .inl rfl, upS_some h⟩
  · exact ⟨_, .inr rfl, upS_some h⟩
set_option maxRecDepth 100000 in
theorem write_v {o : Nat} {ns : List ByteArray} {j : Nat} {n : ByteArray} (h : j < ns.length) (hn : ns[ns.length - 1 - j]? = some n) : WrS o ns (.v j) n := by
  intro place bs p b r i ni N S hpl hN hN2 hz hb hr hi hni hp sb sr si sni
  have hbr : ¬ b = r := fun e => by subst e; rw [sb] at sr; cases sr
  have hbi : ¬ b = i := fun e => by subst e; rw [sb] at si; cases si
  have hbn : ¬ b = ni := fun e => by subst e; rw [sb] at sni; cases sni
  have hri : ¬ r = i := fun e => by subst e; rw [sr] at si; injection si with si; injection si with si; exact absurd si (by decide)
  have hrn : ¬ r = ni := fun e => by subst e; rw [sr] at sni; cases sni
  have hin : ¬ i = ni := fun e => by subst e; rw [si] at sni; cases sni
  have hrb : ¬ r = b := fun e => hbr e.symm
  have hib : ¬ i = b := fun e => hbi e.symm
  have hnb : ¬ ni = b := fun e => hbn e.symm
  have hir : ¬ i = r := fun e => hri e.symm
  have hnr : ¬ ni = r := fun e => hrn e.symm
  have hnj : ¬ ni = i := fun e => hin e.symm
  have hbk : brk (brP (.v j) place) n = n := by
    unfold brP brk
    rw [if_neg]
    simp [Lm.v, Lm.kind]
  rw [hbk]
  refine ok_metaprune_lambda_writer_write.acS fun hS C hC => ?_
  unfold ir_metaprune_lambda_writer_write
  have n4 : S 4 = none := clean_none hS (by omega)
  have n901 : S 901 = none := clean_none hS (by omega)
  have n902 : S 902 = none := clean_none hS (by omega)
  have hge : (0 : Int) ≤ (ns.length : Int) - 1 - j := by omega
  have hidx : (ns.length : Int) - 1 - j = ((ns.length - 1 - j : Nat) : Int) := by omega
  have hge2 : (0 : Int) ≤ ((ns.length - 1 - j : Nat) : Int) := by omega
  have hml : (ns.map encS).length = ns.length := by simp
  repeat' (first | (with_reducible first | refine W ?_ | refine Wz0 ?_) | ((with_reducible first | refine Wo (fun K hK => ?_) | refine Wp ?_ | refine Wq ?_ | refine Wr ?_); (try simp only [go_sem, fN, seval, eT, iR, AS.startS, hiw_ne, low_ne, hb, hr, hi, hni, n4, n901, n902, hbr, hrb, hbi, hib, hbn, hnb, hri, hir, hrn, hnr, hin, hnj, dn_bldWS, bldWS, sb, sr, si, Lm.v, Lm.kind_mk, Lm.idx_mk, Lm.subs_mk, hidx, hge2, hn, hml, encS, dT, dF, nL]); (repeat with_reducible refine Ai ?_); (try (refine hK _ ?_; clear hK K)); (try with_reducible refine iC ?_)))
  refine ⟨_, _, writeStringW_S (bldW_mkU (bs := bs) (c := .row i ns.length) (o := o) hbr hp (by simp only [go_sem, fN, seval, eT, iR, hiw_ne, low_ne, hb, hr, hi, hni, n4, n901, n902, hbr, hrb, hbi, hib, hbn, hnb, hri, hir, hrn, hnr, hin, hnj, dn_bldWS, bldWS, sb, sr]) (by simp only [go_sem, fN, seval, eT, iR, hiw_ne, low_ne, hb, hr, hi, hni, n4, n901, n902, hbr, hrb, hbi, hib, hbn, hnb, hri, hir, hrn, hnr, hin, hnj, dn_bldWS, bldWS, sb, sr])) (n) (by first | omega | (simp only [ByteArray.size_append] at *; omega)), ?_⟩
  repeat' (first | (with_reducible first | refine W ?_ | refine Wz0 ?_) | ((with_reducible first | refine Wo (fun K hK => ?_) | refine Wp ?_ | refine Wq ?_ | refine Wr ?_); (try simp only [go_sem, fN, seval, eT, iR, hiw_ne, low_ne, hb, hr, hi, hni, n4, n901, n902, hbr, hrb, hbi, hib, hbn, hnb, hri, hir, hrn, hnr, hin, hnj, dn_bldWS, bldWS, sb, sr, si, dT, dF, nL]); (repeat with_reducible refine Ai ?_); (try (refine hK _ ?_; clear hK K)); (try with_reducible refine iC ?_)))
  refine wend hS trivial hb hr hi (j := i) (xs := ns) (c := .row i ns.length) ?_ ?_ ?_ (by omega) (.inr ⟨rfl, rfl⟩) List.take_length ?_ hbn hrn hrb hri hni (.inl rfl) fun k k1 k2 k3 k4 => ?_
  · simp only [go_sem, fN, seval, eT, iR, hiw_ne, low_ne, hb, hr, hi, hni, n4, n901, n902, hbr, hrb, hbi, hib, hbn, hnb, hri, hir, hrn, hnr, hin, hnj, dn_bldWS, bldWS]
  · simp only [go_sem, fN, seval, eT, iR, hiw_ne, low_ne, hb, hr, hi, hni, n4, n901, n902, hbr, hrb, hbi, hib, hbn, hnb, hri, hir, hrn, hnr, hin, hnj, dn_bldWS, bldWS]
  · simp only [go_sem, fN, seval, eT, iR, hiw_ne, low_ne, hb, hr, hi, hni, n4, n901, n902, hbr, hrb, hbi, hib, hbn, hnb, hri, hir, hrn, hnr, hin, hnj, dn_bldWS, bldWS, si]
  · simp only [go_sem, fN, seval, eT, iR, hiw_ne, low_ne, hb, hr, hi, hni, n4, n901, n902, hbr, hrb, hbi, hib, hbn, hnb, hri, hir, hrn, hnr, hin, hnj, dn_bldWS, bldWS, sni]
  · simp only [go_sem, fN, seval, eT, iR, hiw_ne, low_ne, k1, k2, k3, k4, dn_bldWS, bldWS]
set_option maxRecDepth 100000 in
theorem write_c {o : Nat} {ns : List ByteArray} {j : Nat} (h : j < 40) : WrS o ns (.mk 4 j []) (⟨#[99]⟩ ++ decS j) := by
  intro place bs p b r i ni N S hpl hN hN2 hz hb hr hi hni hp sb sr si sni
  have hbr : ¬ b = r := fun e => by subst e; rw [sb] at sr; cases sr
  have hbi : ¬ b = i := fun e => by subst e; rw [sb] at si; cases si
  have hbn : ¬ b = ni := fun e => by subst e; rw [sb] at sni; cases sni
  have hri : ¬ r = i := fun e => by subst e; rw [sr] at si; injection si with si; injection si with si; exact absurd si (by decide)
  have hrn : ¬ r = ni := fun e => by subst e; rw [sr] at sni; cases sni
  have hin : ¬ i = ni := fun e => by subst e; rw [si] at sni; cases sni
  have hrb : ¬ r = b := fun e => hbr e.symm
  have hib : ¬ i = b := fun e => hbi e.symm
  have hnb : ¬ ni = b := fun e => hbn e.symm
  have hir : ¬ i = r := fun e => hri e.symm
  have hnr : ¬ ni = r := fun e => hrn e.symm
  have hnj : ¬ ni = i := fun e => hin e.symm
  have hbk : brk (brP (.mk 4 j []) place) (⟨#[99]⟩ ++ decS j) = ⟨#[99]⟩ ++ decS j := by
    unfold brP brk
    rw [if_neg]
    simp [Lm.kind]
  rw [hbk]
  refine ok_metaprune_lambda_writer_write.acS fun hS C hC => ?_
  unfold ir_metaprune_lambda_writer_write
  have n4 : S 4 = none := clean_none hS (by omega)
  have n901 : S 901 = none := clean_none hS (by omega)
  have n902 : S 902 = none := clean_none hS (by omega)
  have hds := decS_size_le (n := j) (by omega)
  have h99 : (⟨#[99]⟩ : ByteArray).size = 1 := rfl
  repeat' (first | (with_reducible first | refine W ?_ | refine Wz0 ?_) | refine Cg _ (itoaS_a j (by omega)) ?_ | ((with_reducible first | refine Wo (fun K hK => ?_) | refine Wp ?_ | refine Wq ?_ | refine Wr ?_); (try simp only [go_sem, fN, seval, eT, iR, AS.startS, hiw_ne, low_ne, hb, hr, hi, hni, n4, n901, n902, hbr, hrb, hbi, hib, hbn, hnb, hri, hir, hrn, hnr, hin, hnj, dn_bldWS, bldWS, sb, sr, si, Lm.kind_mk, Lm.idx_mk, Lm.subs_mk, h99, dT, dF, nL]); (repeat with_reducible refine Ai ?_); (try (refine hK _ ?_; clear hK K)); (try with_reducible refine iC ?_)))
  refine ⟨_, _, writeStringW_S (bldW_mkU (bs := bs) (c := .row i ns.length) (o := o) hbr hp (by simp only [go_sem, fN, seval, eT, iR, hiw_ne, low_ne, hb, hr, hi, hni, n4, n901, n902, hbr, hrb, hbi, hib, hbn, hnb, hri, hir, hrn, hnr, hin, hnj, dn_bldWS, bldWS, sb, sr]) (by simp only [go_sem, fN, seval, eT, iR, hiw_ne, low_ne, hb, hr, hi, hni, n4, n901, n902, hbr, hrb, hbi, hib, hbn, hnb, hri, hir, hrn, hnr, hin, hnj, dn_bldWS, bldWS, sb, sr])) (⟨#[99]⟩ ++ decS j) (by first | omega | (simp only [ByteArray.size_append] at *; omega)), ?_⟩
  repeat' (first | (with_reducible first | refine W ?_ | refine Wz0 ?_) | ((with_reducible first | refine Wo (fun K hK => ?_) | refine Wp ?_ | refine Wq ?_ | refine Wr ?_); (try simp only [go_sem, fN, seval, eT, iR, hiw_ne, low_ne, hb, hr, hi, hni, n4, n901, n902, hbr, hrb, hbi, hib, hbn, hnb, hri, hir, hrn, hnr, hin, hnj, dn_bldWS, bldWS, sb, sr, si, dT, dF, nL]); (repeat with_reducible refine Ai ?_); (try (refine hK _ ?_; clear hK K)); (try with_reducible refine iC ?_)))
  refine wend hS trivial hb hr hi (j := i) (xs := ns) (c := .row i ns.length) ?_ ?_ ?_ (by omega) (.inr ⟨rfl, rfl⟩) List.take_length ?_ hbn hrn hrb hri hni (.inl rfl) fun k k1 k2 k3 k4 => ?_
  · simp only [go_sem, fN, seval, eT, iR, hiw_ne, low_ne, hb, hr, hi, hni, n4, n901, n902, hbr, hrb, hbi, hib, hbn, hnb, hri, hir, hrn, hnr, hin, hnj, dn_bldWS, bldWS]
  · simp only [go_sem, fN, seval, eT, iR, hiw_ne, low_ne, hb, hr, hi, hni, n4, n901, n902, hbr, hrb, hbi, hib, hbn, hnb, hri, hir, hrn, hnr, hin, hnj, dn_bldWS, bldWS]
  · simp only [go_sem, fN, seval, eT, iR, hiw_ne, low_ne, hb, hr, hi, hni, n4, n901, n902, hbr, hrb, hbi, hib, hbn, hnb, hri, hir, hrn, hnr, hin, hnj, dn_bldWS, bldWS, si]
  · simp only [go_sem, fN, seval, eT, iR, hiw_ne, low_ne, hb, hr, hi, hni, n4, n901, n902, hbr, hrb, hbi, hib, hbn, hnb, hri, hir, hrn, hnr, hin, hnj, dn_bldWS, bldWS, sni]
  · simp only [go_sem, fN, seval, eT, iR, hiw_ne, low_ne, k1, k2, k3, k4, dn_bldWS, bldWS]
theorem brk0 (t : Lm) (s : ByteArray) : brk (brP t 0) s = s := by
  unfold brP brk
  rw [if_neg]
  simp
set_option maxRecDepth 100000 in
theorem write_l {o : Nat} {ns : List ByteArray} {t : Lm} {s : ByteArray} (ho : o ≤ ns.length) (ih : WrS o (ns ++ [lxName 120 (ns.length - o)]) t s) : WrS o ns (.l t) (⟨#[92]⟩ ++ lxName 120 (ns.length - o) ++ ⟨#[46]⟩ ++ s) := by
  intro place bs p b r i ni N S hpl hN hN2 hz hb hr hi hni hp sb sr si sni
  have hbr : ¬ b = r := fun e => by subst e; rw [sb] at sr; cases sr
  have hbi : ¬ b = i := fun e => by subst e; rw [sb] at si; cases si
  have hbn : ¬ b = ni := fun e => by subst e; rw [sb] at sni; cases sni
  have hri : ¬ r = i := fun e => by subst e; rw [sr] at si; injection si with si; injection si with si; exact absurd si (by decide)
  have hrn : ¬ r = ni := fun e => by subst e; rw [sr] at sni; cases sni
  have hin : ¬ i = ni := fun e => by subst e; rw [si] at sni; cases sni
  have hrb : ¬ r = b := fun e => hbr e.symm
  have hib : ¬ i = b := fun e => hbi e.symm
  have hnb : ¬ ni = b := fun e => hbn e.symm
  have hir : ¬ i = r := fun e => hri e.symm
  have hnr : ¬ ni = r := fun e => hrn e.symm
  have hnj : ¬ ni = i := fun e => hin e.symm
  rw [Lm.size_l] at hN hz
  refine ok_metaprune_lambda_writer_write.acS fun hS C hC => ?_
  unfold ir_metaprune_lambda_writer_write
  have n4 : S 4 = none := clean_none hS (by omega)
  have n901 : S 901 = none := clean_none hS (by omega)
  have n902 : S 902 = none := clean_none hS (by omega)
  have hsub : (ns.length : Int) - o = ((ns.length - o : Nat) : Int) := by omega
  have hds := decS_size_le (n := ns.length - o) (by omega)
  have h120 : (⟨#[120]⟩ : ByteArray).size = 1 := rfl
  have h92 : (⟨#[92]⟩ : ByteArray).size = 1 := rfl
  have h46 : (⟨#[46]⟩ : ByteArray).size = 1 := rfl
  have h40 : (⟨#[40]⟩ : ByteArray).size = 1 := rfl
  have h41 : (⟨#[41]⟩ : ByteArray).size = 1 := rfl
  have hml : (ns.map encS).length = ns.length := by simp
  have hxs : (lxName 120 (ns.length - o)).size ≤ 7 := lxName_size (by omega)
  have hx : ⟨#[120]⟩ ++ decS (ns.length - o) = lxName 120 (ns.length - o) := rfl
  generalize lxName 120 (ns.length - o) = nm at *
  have hlen : (ns ++ [nm]).length = ns.length + 1 := by simp
  have hmap : (ns ++ [nm]).map encS = ns.map encS ++ [[.str nm]] := by simp [encS]
  have hl2 : ((ns ++ [nm]).map encS).length = ns.length + 1 := by simp
  have hl3 : (((ns.length + 1 : Nat) : Int) - 1).toNat = ns.length := by omega
  simp only [ByteArray.size_append] at hz
  by_cases hp0 : 0 < place
  · have hbk : bs ++ brk (brP (.l t) place) (⟨#[92]⟩ ++ nm ++ ⟨#[46]⟩ ++ s) = bs ++ ⟨#[40]⟩ ++ (⟨#[92]⟩ ++ nm ++ ⟨#[46]⟩) ++ s ++ ⟨#[41]⟩ := by
      unfold brP brk
      rw [if_pos]
      · simp only [ByteArray.append_assoc]
      · simp [Lm.l, Lm.kind, hp0]
    rw [hbk]
    obtain ⟨Sd, hW⟩ : ∃ Sd, wdone S b r i ni N ns (bs ++ ⟨#[40]⟩ ++ (⟨#[92]⟩ ++ nm ++ ⟨#[46]⟩) ++ s ++ ⟨#[41]⟩) o = Sd := ⟨_, rfl⟩
    rw [hW]
    repeat' (first | (with_reducible first | refine W ?_ | refine Wz0 ?_) | ((with_reducible first | refine Wo (fun K hK => ?_) | refine Wp ?_ | refine Wq ?_ | refine Wr ?_); (try simp only [go_sem, fN, seval, eT, iR, AS.startS, hiw_ne, low_ne, hb, hr, hi, hni, n4, n901, n902, hbr, hrb, hbi, hib, hbn, hnb, hri, hir, hrn, hnr, hin, hnj, dn_bldWS, bldWS, sb, sr, si, Lm.l, Lm.kind_mk, Lm.idx_mk, Lm.subs_mk, hp0, dT, dF, nL]); (repeat with_reducible refine Ai ?_); (try (refine hK _ ?_; clear hK K)); (try with_reducible refine iC ?_)))
    refine ⟨_, _, writeByteW_S (bldW_mkU (bs := bs) (c := .row i ns.length) (o := o) hbr hp (by simp only [go_sem, fN, seval, eT, iR, hiw_ne, low_ne, hb, hr, hi, hni, n4, n901, n902, hbr, hrb, hbi, hib, hbn, hnb, hri, hir, hrn, hnr, hin, hnj, dn_bldWS, bldWS, sb, sr]) (by simp only [go_sem, fN, seval, eT, iR, hiw_ne, low_ne, hb, hr, hi, hni, n4, n901, n902, hbr, hrb, hbi, hib, hbn, hnb, hri, hir, hrn, hnr, hin, hnj, dn_bldWS, bldWS, sb, sr])) 40 (by first | omega | (simp only [ByteArray.size_append] at *; omega)), ?_⟩
    repeat' (first | (with_reducible first | refine W ?_ | refine Wz0 ?_) | refine Cg _ (itoaS_a (ns.length - o) (by omega)) ?_ | ((with_reducible first | refine Wo (fun K hK => ?_) | refine Wp ?_ | refine Wq ?_ | refine Wr ?_); (try simp only [go_sem, fN, seval, eT, iR, AS.startS, hiw_ne, low_ne, hb, hr, hi, hni, n4, n901, n902, hbr, hrb, hbi, hib, hbn, hnb, hri, hir, hrn, hnr, hin, hnj, dn_bldWS, bldWS, sb, sr, si, Lm.l, Lm.kind_mk, Lm.idx_mk, Lm.subs_mk, hp0, hsub, hx, h120, h92, h46, dT, dF, nL]); (repeat with_reducible refine Ai ?_); (try (refine hK _ ?_; clear hK K)); (try with_reducible refine iC ?_)))
    refine ⟨_, _, writeStringW_S (bldW_mkU (bs := bs ++ ⟨#[40]⟩) (c := .row i ns.length) (o := o) hbr (.inr rfl) (by simp only [go_sem, fN, seval, eT, iR, hiw_ne, low_ne, hb, hr, hi, hni, n4, n901, n902, hbr, hrb, hbi, hib, hbn, hnb, hri, hir, hrn, hnr, hin, hnj, dn_bldWS, bldWS, sb, sr]) (by simp only [go_sem, fN, seval, eT, iR, hiw_ne, low_ne, hb, hr, hi, hni, n4, n901, n902, hbr, hrb, hbi, hib, hbn, hnb, hri, hir, hrn, hnr, hin, hnj, dn_bldWS, bldWS, sb, sr])) (⟨#[92]⟩ ++ nm ++ ⟨#[46]⟩) (by first | omega | (simp only [ByteArray.size_append] at *; omega)), ?_⟩
    repeat' (first | (with_reducible first | refine W ?_ | refine Wz0 ?_) | ((with_reducible first | refine Wo (fun K hK => ?_) | refine Wp ?_ | refine Wq ?_ | refine Wr ?_); (try simp only [go_sem, fN, seval, eT, iR, hiw_ne, low_ne, hb, hr, hi, hni, n4, n901, n902, hbr, hrb, hbi, hib, hbn, hnb, hri, hir, hrn, hnr, hin, hnj, dn_bldWS, bldWS, sb, sr, si, Lm.l, Lm.kind_mk, Lm.idx_mk, Lm.subs_mk, hml, dT, dF, nL]); (repeat with_reducible refine Ai ?_); (try (refine hK _ ?_; clear hK K)); (try with_reducible refine iC ?_)))
    refine ⟨_, _, ih 0 (bs ++ ⟨#[40]⟩ ++ (⟨#[92]⟩ ++ nm ++ ⟨#[46]⟩)) _ (up1 b) (up1 r) (up1 i) (up1 901) N _ (by decide) (by omega) hN2 (by simp only [ByteArray.size_append]; omega) (up1_le _) (up1_le _) (up1_le _) (up1_le _) (.inr rfl) (up_boxW (by simp only [go_sem, fN, seval, eT, iR, hiw_ne, low_ne, hb, hr, hi, hni, n4, n901, n902, hbr, hrb, hbi, hib, hbn, hnb, hri, hir, hrn, hnr, hin, hnj, dn_bldWS, bldWS, hlen])) (up_mrowW (by simp only [go_sem, fN, seval, eT, iR, hiw_ne, low_ne, hb, hr, hi, hni, n4, n901, n902, hbr, hrb, hbi, hib, hbn, hnb, hri, hir, hrn, hnr, hin, hnj, dn_bldWS, bldWS])) (up_rowW (by simp only [go_sem, fN, seval, eT, iR, hiw_ne, low_ne, hb, hr, hi, hni, n4, n901, n902, hbr, hrb, hbi, hib, hbn, hnb, hri, hir, hrn, hnr, hin, hnj, dn_bldWS, bldWS, hmap, rowW])) (up_noneW (by simp only [go_sem, fN, seval, eT, iR, hiw_ne, low_ne, hb, hr, hi, hni, n4, n901, n902, hbr, hrb, hbi, hib, hbn, hnb, hri, hir, hrn, hnr, hin, hnj, dn_bldWS, bldWS])), ?_⟩
    rw [brk0]
    repeat' (first | (with_reducible first | refine W ?_ | refine Wz0 ?_) | ((with_reducible first | refine Wo (fun K hK => ?_) | refine Wp ?_ | refine Wq ?_ | refine Wr ?_); (try simp only [go_sem, fN, seval, eT, iR, dn_wdone, wdone, hiw_ne, low_ne, hb, hr, hi, hni, n4, n901, n902, hbr, hrb, hbi, hib, hbn, hnb, hri, hir, hrn, hnr, hin, hnj, dn_bldWS, bldWS, hlen, hl2, hl3, dT, dF, nL]); (repeat with_reducible refine Ai ?_); (try (refine hK _ ?_; clear hK K)); (try with_reducible refine iC ?_)))
    refine ⟨_, _, writeByteW_S (bldW_mkU (bs := bs ++ ⟨#[40]⟩ ++ (⟨#[92]⟩ ++ nm ++ ⟨#[46]⟩) ++ s) (c := .part 901 ns.length (ns.length + 1)) (o := o) hbr (.inr rfl) (by simp only [go_sem, fN, seval, eT, iR, hiw_ne, low_ne, hb, hr, hi, hni, n4, n901, n902, hbr, hrb, hbi, hib, hbn, hnb, hri, hir, hrn, hnr, hin, hnj, dn_bldWS, bldWS, sb, sr]) (by simp only [go_sem, fN, seval, eT, iR, hiw_ne, low_ne, hb, hr, hi, hni, n4, n901, n902, hbr, hrb, hbi, hib, hbn, hnb, hri, hir, hrn, hnr, hin, hnj, dn_bldWS, bldWS, sb, sr])) 41 (by first | omega | (simp only [ByteArray.size_append] at *; omega)), ?_⟩
    repeat' (first | (with_reducible first | refine W ?_ | refine Wz0 ?_) | ((with_reducible first | refine Wo (fun K hK => ?_) | refine Wp ?_ | refine Wq ?_ | refine Wr ?_); (try simp only [go_sem, fN, seval, eT, iR, hiw_ne, low_ne, hb, hr, hi, hni, n4, n901, n902, hbr, hrb, hbi, hib, hbn, hnb, hri, hir, hrn, hnr, hin, hnj, dn_bldWS, bldWS, hlen, hl2, hl3, dT, dF, nL]); (repeat with_reducible refine Ai ?_); (try (refine hK _ ?_; clear hK K)); (try with_reducible refine iC ?_)))
    rw [← hW]
    refine wend hS trivial hb hr hi (j := 901) (xs := ns ++ [nm]) (c := .part 901 ns.length (ns ++ [nm]).length) ?_ ?_ ?_ (by first | omega | (simp only [List.length_append, List.length_cons, List.length_nil]; omega)) (by first | exact .inl rfl | exact .inr ⟨rfl, rfl⟩) (by simp) ?_ hbn hrn hrb (by omega) hni (.inr ⟨by decide, ?_, hin, hib, hir⟩) fun k k1 k2 k3 k4 => ?_
    · simp only [go_sem, fN, seval, eT, iR, hiw_ne, low_ne, hb, hr, hi, hni, n4, n901, n902, hbr, hrb, hbi, hib, hbn, hnb, hri, hir, hrn, hnr, hin, hnj, dn_bldWS, bldWS, hlen]
    · simp only [go_sem, fN, seval, eT, iR, hiw_ne, low_ne, hb, hr, hi, hni, n4, n901, n902, hbr, hrb, hbi, hib, hbn, hnb, hri, hir, hrn, hnr, hin, hnj, dn_bldWS, bldWS]
    · simp only [go_sem, fN, seval, eT, iR, hiw_ne, low_ne, hb, hr, hi, hni, n4, n901, n902, hbr, hrb, hbi, hib, hbn, hnb, hri, hir, hrn, hnr, hin, hnj, dn_bldWS, bldWS]
    · simp only [go_sem, fN, seval, eT, iR, hiw_ne, low_ne, hb, hr, hi, hni, n4, n901, n902, hbr, hrb, hbi, hib, hbn, hnb, hri, hir, hrn, hnr, hin, hnj, dn_bldWS, bldWS, sni]
    · simp only [go_sem, fN, seval, eT, iR, hiw_ne, low_ne, hb, hr, hi, hni, n4, n901, n902, hbr, hrb, hbi, hib, hbn, hnb, hri, hir, hrn, hnr, hin, hnj, dn_bldWS, bldWS]
    · simp only [go_sem, fN, seval, eT, iR, hiw_ne, low_ne, k1, k2, k3, k4, dn_bldWS, bldWS]
  · have hbk : bs ++ brk (brP (.l t) place) (⟨#[92]⟩ ++ nm ++ ⟨#[46]⟩ ++ s) = bs ++ (⟨#[92]⟩ ++ nm ++ ⟨#[46]⟩) ++ s := by
      unfold brP brk
      rw [if_neg]
      · simp only [ByteArray.append_assoc]
      · simp [Lm.l, Lm.kind, hp0]
    rw [hbk]
    obtain ⟨Sd, hW⟩ : ∃ Sd, wdone S b r i ni N ns (bs ++ (⟨#[92]⟩ ++ nm ++ ⟨#[46]⟩) ++ s) o = Sd := ⟨_, rfl⟩
    rw [hW]
    repeat' (first | (with_reducible first | refine W ?_ | refine Wz0 ?_) | refine Cg _ (itoaS_a (ns.length - o) (by omega)) ?_ | ((with_reducible first | refine Wo (fun K hK => ?_) | refine Wp ?_ | refine Wq ?_ | refine Wr ?_); (try simp only [go_sem, fN, seval, eT, iR, AS.startS, hiw_ne, low_ne, hb, hr, hi, hni, n4, n901, n902, hbr, hrb, hbi, hib, hbn, hnb, hri, hir, hrn, hnr, hin, hnj, dn_bldWS, bldWS, sb, sr, si, Lm.l, Lm.kind_mk, Lm.idx_mk, Lm.subs_mk, hp0, hsub, hx, h120, h92, h46, dT, dF, nL]); (repeat with_reducible refine Ai ?_); (try (refine hK _ ?_; clear hK K)); (try with_reducible refine iC ?_)))
    refine ⟨_, _, writeStringW_S (bldW_mkU (bs := bs) (c := .row i ns.length) (o := o) hbr hp (by simp only [go_sem, fN, seval, eT, iR, hiw_ne, low_ne, hb, hr, hi, hni, n4, n901, n902, hbr, hrb, hbi, hib, hbn, hnb, hri, hir, hrn, hnr, hin, hnj, dn_bldWS, bldWS, sb, sr]) (by simp only [go_sem, fN, seval, eT, iR, hiw_ne, low_ne, hb, hr, hi, hni, n4, n901, n902, hbr, hrb, hbi, hib, hbn, hnb, hri, hir, hrn, hnr, hin, hnj, dn_bldWS, bldWS, sb, sr])) (⟨#[92]⟩ ++ nm ++ ⟨#[46]⟩) (by first | omega | (simp only [ByteArray.size_append] at *; omega)), ?_⟩
    repeat' (first | (with_reducible first | refine W ?_ | refine Wz0 ?_) | ((with_reducible first | refine Wo (fun K hK => ?_) | refine Wp ?_ | refine Wq ?_ | refine Wr ?_); (try simp only [go_sem, fN, seval, eT, iR, hiw_ne, low_ne, hb, hr, hi, hni, n4, n901, n902, hbr, hrb, hbi, hib, hbn, hnb, hri, hir, hrn, hnr, hin, hnj, dn_bldWS, bldWS, sb, sr, si, Lm.l, Lm.kind_mk, Lm.idx_mk, Lm.subs_mk, hml, dT, dF, nL]); (repeat with_reducible refine Ai ?_); (try (refine hK _ ?_; clear hK K)); (try with_reducible refine iC ?_)))
    refine ⟨_, _, ih 0 (bs ++ (⟨#[92]⟩ ++ nm ++ ⟨#[46]⟩)) _ (up1 b) (up1 r) (up1 i) (up1 901) N _ (by decide) (by omega) hN2 (by simp only [ByteArray.size_append]; omega) (up1_le _) (up1_le _) (up1_le _) (up1_le _) (.inr rfl) (up_boxW (by simp only [go_sem, fN, seval, eT, iR, hiw_ne, low_ne, hb, hr, hi, hni, n4, n901, n902, hbr, hrb, hbi, hib, hbn, hnb, hri, hir, hrn, hnr, hin, hnj, dn_bldWS, bldWS, hlen])) (up_mrowW (by simp only [go_sem, fN, seval, eT, iR, hiw_ne, low_ne, hb, hr, hi, hni, n4, n901, n902, hbr, hrb, hbi, hib, hbn, hnb, hri, hir, hrn, hnr, hin, hnj, dn_bldWS, bldWS])) (up_rowW (by simp only [go_sem, fN, seval, eT, iR, hiw_ne, low_ne, hb, hr, hi, hni, n4, n901, n902, hbr, hrb, hbi, hib, hbn, hnb, hri, hir, hrn, hnr, hin, hnj, dn_bldWS, bldWS, hmap, rowW])) (up_noneW (by simp only [go_sem, fN, seval, eT, iR, hiw_ne, low_ne, hb, hr, hi, hni, n4, n901, n902, hbr, hrb, hbi, hib, hbn, hnb, hri, hir, hrn, hnr, hin, hnj, dn_bldWS, bldWS])), ?_⟩
    rw [brk0]
    repeat' (first | (with_reducible first | refine W ?_ | refine Wz0 ?_) | ((with_reducible first | refine Wo (fun K hK => ?_) | refine Wp ?_ | refine Wq ?_ | refine Wr ?_); (try simp only [go_sem, fN, seval, eT, iR, dn_wdone, wdone, hiw_ne, low_ne, hb, hr, hi, hni, n4, n901, n902, hbr, hrb, hbi, hib, hbn, hnb, hri, hir, hrn, hnr, hin, hnj, dn_bldWS, bldWS, hlen, hl2, hl3, dT, dF, nL]); (repeat with_reducible refine Ai ?_); (try (refine hK _ ?_; clear hK K)); (try with_reducible refine iC ?_)))
    rw [← hW]
    refine wend hS trivial hb hr hi (j := 901) (xs := ns ++ [nm]) (c := .part 901 ns.length (ns ++ [nm]).length) ?_ ?_ ?_ (by first | omega | (simp only [List.length_append, List.length_cons, List.length_nil]; omega)) (by first | exact .inl rfl | exact .inr ⟨rfl, rfl⟩) (by simp) ?_ hbn hrn hrb (by omega) hni (.inr ⟨by decide, ?_, hin, hib, hir⟩) fun k k1 k2 k3 k4 => ?_
    · simp only [go_sem, fN, seval, eT, iR, hiw_ne, low_ne, hb, hr, hi, hni, n4, n901, n902, hbr, hrb, hbi, hib, hbn, hnb, hri, hir, hrn, hnr, hin, hnj, dn_bldWS, bldWS, hlen]
    · simp only [go_sem, fN, seval, eT, iR, hiw_ne, low_ne, hb, hr, hi, hni, n4, n901, n902, hbr, hrb, hbi, hib, hbn, hnb, hri, hir, hrn, hnr, hin, hnj, dn_bldWS, bldWS]
    · simp only [go_sem, fN, seval, eT, iR, hiw_ne, low_ne, hb, hr, hi, hni, n4, n901, n902, hbr, hrb, hbi, hib, hbn, hnb, hri, hir, hrn, hnr, hin, hnj, dn_bldWS, bldWS]
    · simp only [go_sem, fN, seval, eT, iR, hiw_ne, low_ne, hb, hr, hi, hni, n4, n901, n902, hbr, hrb, hbi, hib, hbn, hnb, hri, hir, hrn, hnr, hin, hnj, dn_bldWS, bldWS, sni]
    · simp only [go_sem, fN, seval, eT, iR, hiw_ne, low_ne, hb, hr, hi, hni, n4, n901, n902, hbr, hrb, hbi, hib, hbn, hnb, hri, hir, hrn, hnr, hin, hnj, dn_bldWS, bldWS]
    · simp only [go_sem, fN, seval, eT, iR, hiw_ne, low_ne, k1, k2, k3, k4, dn_bldWS, bldWS]
set_option maxRecDepth 100000 in
theorem write_a {o : Nat} {ns : List ByteArray} {f x : Lm} {s t : ByteArray} (ihf : WrS o ns f s) (ihx : WrS o ns x t) : WrS o ns (.a f x) (brk (decide (f.kind = 2)) s ++ ⟨#[32]⟩ ++ brk (decide (x.kind = 2 ∨ x.kind = 3)) t) := by
  intro place bs p b r i ni N S hpl hN hN2 hz hb hr hi hni hp sb sr si sni
  have hbr : ¬ b = r := fun e => by subst e; rw [sb] at sr; cases sr
  have hbi : ¬ b = i := fun e => by subst e; rw [sb] at si; cases si
  have hbn : ¬ b = ni := fun e => by subst e; rw [sb] at sni; cases sni
  have hri : ¬ r = i := fun e => by subst e; rw [sr] at si; injection si with si; injection si with si; exact absurd si (by decide)
  have hrn : ¬ r = ni := fun e => by subst e; rw [sr] at sni; cases sni
  have hin : ¬ i = ni := fun e => by subst e; rw [si] at sni; cases sni
  have hrb : ¬ r = b := fun e => hbr e.symm
  have hib : ¬ i = b := fun e => hbi e.symm
  have hnb : ¬ ni = b := fun e => hbn e.symm
  have hir : ¬ i = r := fun e => hri e.symm
  have hnr : ¬ ni = r := fun e => hrn e.symm
  have hnj : ¬ ni = i := fun e => hin e.symm
  rw [Lm.size_a] at hN hz
  refine ok_metaprune_lambda_writer_write.acS fun hS C hC => ?_
  unfold ir_metaprune_lambda_writer_write
  have n4 : S 4 = none := clean_none hS (by omega)
  have n901 : S 901 = none := clean_none hS (by omega)
  have n902 : S 902 = none := clean_none hS (by omega)
  have h32 : (⟨#[32]⟩ : ByteArray).size = 1 := rfl
  have h40 : (⟨#[40]⟩ : ByteArray).size = 1 := rfl
  have h41 : (⟨#[41]⟩ : ByteArray).size = 1 := rfl
  have hlen : ns.length = ns.length := rfl
  have hbf : brk (decide (f.kind = 2)) s = brk (brP f 1) s := by
    unfold brP
    congr 1
    simp
  have hbx : brk (decide (x.kind = 2 ∨ x.kind = 3)) t = brk (brP x 2) t := by
    unfold brP
    congr 1
    simp
  simp only [ByteArray.size_append] at hz
  rw [hbf, hbx] at hz
  rw [hbf, hbx]
  clear hbf hbx
  have hs1 := brk_size (brP f 1) s
  have ht1 := brk_size (brP x 2) t
  generalize hS1 : brk (brP f 1) s = s1 at *
  generalize hT1 : brk (brP x 2) t = t1 at *
  obtain ⟨p1, hp1, sb1⟩ := up_boxWp (S := S) (b := b) (i := i) (p := p) hp sb
  by_cases hp0 : 1 < place
  · have hbk : bs ++ brk (brP (.a f x) place) (s1 ++ ⟨#[32]⟩ ++ t1) = bs ++ ⟨#[40]⟩ ++ s1 ++ ⟨#[32]⟩ ++ t1 ++ ⟨#[41]⟩ := by
      unfold brP brk
      rw [if_pos]
      · simp only [ByteArray.append_assoc]
      · simp [Lm.a, Lm.kind, hp0]
    rw [hbk]
    obtain ⟨Sd, hW⟩ : ∃ Sd, wdone S b r i ni N ns (bs ++ ⟨#[40]⟩ ++ s1 ++ ⟨#[32]⟩ ++ t1 ++ ⟨#[41]⟩) o = Sd := ⟨_, rfl⟩
    rw [hW]
    repeat' (first | (with_reducible first | refine W ?_ | refine Wz0 ?_) | ((with_reducible first | refine Wo (fun K hK => ?_) | refine Wp ?_ | refine Wq ?_ | refine Wr ?_); (try simp only [go_sem, fN, seval, eT, iR, AS.startS, hiw_ne, low_ne, hb, hr, hi, hni, n4, n901, n902, hbr, hrb, hbi, hib, hbn, hnb, hri, hir, hrn, hnr, hin, hnj, dn_bldWS, bldWS, sb, sr, si, Lm.a, Lm.kind_mk, Lm.idx_mk, Lm.subs_mk, hp0, dT, dF, nL]); (repeat with_reducible refine Ai ?_); (try (refine hK _ ?_; clear hK K)); (try with_reducible refine iC ?_)))
    refine ⟨_, _, writeByteW_S (bldW_mkU (bs := bs) (c := .row i ns.length) (o := o) hbr hp (by simp only [go_sem, fN, seval, eT, iR, hiw_ne, low_ne, hb, hr, hi, hni, n4, n901, n902, hbr, hrb, hbi, hib, hbn, hnb, hri, hir, hrn, hnr, hin, hnj, dn_bldWS, bldWS, sb, sr]) (by simp only [go_sem, fN, seval, eT, iR, hiw_ne, low_ne, hb, hr, hi, hni, n4, n901, n902, hbr, hrb, hbi, hib, hbn, hnb, hri, hir, hrn, hnr, hin, hnj, dn_bldWS, bldWS, sb, sr])) 40 (by first | omega | (simp only [ByteArray.size_append] at *; omega)), ?_⟩
    repeat' (first | (with_reducible first | refine W ?_ | refine Wz0 ?_) | ((with_reducible first | refine Wo (fun K hK => ?_) | refine Wp ?_ | refine Wq ?_ | refine Wr ?_); (try simp only [go_sem, fN, seval, eT, iR, AS.startS, hiw_ne, low_ne, hb, hr, hi, hni, n4, n901, n902, hbr, hrb, hbi, hib, hbn, hnb, hri, hir, hrn, hnr, hin, hnj, dn_bldWS, bldWS, sb, sr, si, Lm.a, Lm.kind_mk, Lm.idx_mk, Lm.subs_mk, hp0, dT, dF, nL]); (repeat with_reducible refine Ai ?_); (try (refine hK _ ?_; clear hK K)); (try with_reducible refine iC ?_)))
    have hc1 := ihf 1 (bs ++ ⟨#[40]⟩) (.ptr (up1 b) 1 0 0) (up1 b) (up1 r) (up1 i) (up1 901) N
    rw [hS1] at hc1
    refine ⟨_, _, hc1 _ (by decide) (by omega) hN2 (by simp only [ByteArray.size_append]; omega) (up1_le _) (up1_le _) (up1_le _) (up1_le _) (.inr rfl) (up_boxW (by simp only [go_sem, fN, seval, eT, iR, hiw_ne, low_ne, hb, hr, hi, hni, n4, n901, n902, hbr, hrb, hbi, hib, hbn, hnb, hri, hir, hrn, hnr, hin, hnj, dn_bldWS, bldWS])) (up_mrowW (by simp only [go_sem, fN, seval, eT, iR, hiw_ne, low_ne, hb, hr, hi, hni, n4, n901, n902, hbr, hrb, hbi, hib, hbn, hnb, hri, hir, hrn, hnr, hin, hnj, dn_bldWS, bldWS])) (up_rowW (by simp only [go_sem, fN, seval, eT, iR, hiw_ne, low_ne, hb, hr, hi, hni, n4, n901, n902, hbr, hrb, hbi, hib, hbn, hnb, hri, hir, hrn, hnr, hin, hnj, dn_bldWS, bldWS, si])) (up_noneW (by simp only [go_sem, fN, seval, eT, iR, hiw_ne, low_ne, hb, hr, hi, hni, n4, n901, n902, hbr, hrb, hbi, hib, hbn, hnb, hri, hir, hrn, hnr, hin, hnj, dn_bldWS, bldWS])), ?_⟩
    repeat' (first | (with_reducible first | refine W ?_ | refine Wz0 ?_) | ((with_reducible first | refine Wo (fun K hK => ?_) | refine Wp ?_ | refine Wq ?_ | refine Wr ?_); (try simp only [go_sem, fN, seval, eT, iR, dn_wdone, wdone, hiw_ne, low_ne, hb, hr, hi, hni, n4, n901, n902, hbr, hrb, hbi, hib, hbn, hnb, hri, hir, hrn, hnr, hin, hnj, dn_bldWS, bldWS, hp0, dT, dF, nL]); (repeat with_reducible refine Ai ?_); (try (refine hK _ ?_; clear hK K)); (try with_reducible refine iC ?_)))
    refine ⟨_, _, writeByteW_S (bldW_mkU (bs := bs ++ ⟨#[40]⟩ ++ s1) (c := .row 901 ns.length) (o := o) hbr (.inr rfl) (by simp only [go_sem, fN, seval, eT, iR, hiw_ne, low_ne, hb, hr, hi, hni, n4, n901, n902, hbr, hrb, hbi, hib, hbn, hnb, hri, hir, hrn, hnr, hin, hnj, dn_bldWS, bldWS, sb, sr]) (by simp only [go_sem, fN, seval, eT, iR, hiw_ne, low_ne, hb, hr, hi, hni, n4, n901, n902, hbr, hrb, hbi, hib, hbn, hnb, hri, hir, hrn, hnr, hin, hnj, dn_bldWS, bldWS, sb, sr])) 32 (by first | omega | (simp only [ByteArray.size_append] at *; omega)), ?_⟩
    repeat' (first | (with_reducible first | refine W ?_ | refine Wz0 ?_) | ((with_reducible first | refine Wo (fun K hK => ?_) | refine Wp ?_ | refine Wq ?_ | refine Wr ?_); (try simp only [go_sem, fN, seval, eT, iR, AS.startS, hiw_ne, low_ne, hb, hr, hi, hni, n4, n901, n902, hbr, hrb, hbi, hib, hbn, hnb, hri, hir, hrn, hnr, hin, hnj, dn_bldWS, bldWS, sb, sr, si, Lm.a, Lm.kind_mk, Lm.idx_mk, Lm.subs_mk, hp0, dT, dF, nL]); (repeat with_reducible refine Ai ?_); (try (refine hK _ ?_; clear hK K)); (try with_reducible refine iC ?_)))
    have hc2 := ihx 2 (bs ++ ⟨#[40]⟩ ++ s1 ++ ⟨#[32]⟩) (.ptr (up1 b) 1 0 0) (up1 b) (up1 r) (up1 901) (up1 902) N
    rw [hT1] at hc2
    refine ⟨_, _, hc2 _ (by decide) (by omega) hN2 (by simp only [ByteArray.size_append]; omega) (up1_le _) (up1_le _) (up1_le _) (up1_le _) (.inr rfl) (up_boxW (by simp only [go_sem, fN, seval, eT, iR, hiw_ne, low_ne, hb, hr, hi, hni, n4, n901, n902, hbr, hrb, hbi, hib, hbn, hnb, hri, hir, hrn, hnr, hin, hnj, dn_bldWS, bldWS])) (up_mrowW (by simp only [go_sem, fN, seval, eT, iR, hiw_ne, low_ne, hb, hr, hi, hni, n4, n901, n902, hbr, hrb, hbi, hib, hbn, hnb, hri, hir, hrn, hnr, hin, hnj, dn_bldWS, bldWS])) (up_rowW (by simp only [go_sem, fN, seval, eT, iR, hiw_ne, low_ne, hb, hr, hi, hni, n4, n901, n902, hbr, hrb, hbi, hib, hbn, hnb, hri, hir, hrn, hnr, hin, hnj, dn_bldWS, bldWS])) (up_noneW (by simp only [go_sem, fN, seval, eT, iR, hiw_ne, low_ne, hb, hr, hi, hni, n4, n901, n902, hbr, hrb, hbi, hib, hbn, hnb, hri, hir, hrn, hnr, hin, hnj, dn_bldWS, bldWS])), ?_⟩
    repeat' (first | (with_reducible first | refine W ?_ | refine Wz0 ?_) | ((with_reducible first | refine Wo (fun K hK => ?_) | refine Wp ?_ | refine Wq ?_ | refine Wr ?_); (try simp only [go_sem, fN, seval, eT, iR, dn_wdone, wdone, hiw_ne, low_ne, hb, hr, hi, hni, n4, n901, n902, hbr, hrb, hbi, hib, hbn, hnb, hri, hir, hrn, hnr, hin, hnj, dn_bldWS, bldWS, hp0, dT, dF, nL]); (repeat with_reducible refine Ai ?_); (try (refine hK _ ?_; clear hK K)); (try with_reducible refine iC ?_)))
    refine ⟨_, _, writeByteW_S (bldW_mkU (bs := bs ++ ⟨#[40]⟩ ++ s1 ++ ⟨#[32]⟩ ++ t1) (c := .row 902 ns.length) (o := o) hbr (.inr rfl) (by simp only [go_sem, fN, seval, eT, iR, hiw_ne, low_ne, hb, hr, hi, hni, n4, n901, n902, hbr, hrb, hbi, hib, hbn, hnb, hri, hir, hrn, hnr, hin, hnj, dn_bldWS, bldWS, sb, sr]) (by simp only [go_sem, fN, seval, eT, iR, hiw_ne, low_ne, hb, hr, hi, hni, n4, n901, n902, hbr, hrb, hbi, hib, hbn, hnb, hri, hir, hrn, hnr, hin, hnj, dn_bldWS, bldWS, sb, sr])) 41 (by first | omega | (simp only [ByteArray.size_append] at *; omega)), ?_⟩
    repeat' (first | (with_reducible first | refine W ?_ | refine Wz0 ?_) | ((with_reducible first | refine Wo (fun K hK => ?_) | refine Wp ?_ | refine Wq ?_ | refine Wr ?_); (try simp only [go_sem, fN, seval, eT, iR, AS.startS, hiw_ne, low_ne, hb, hr, hi, hni, n4, n901, n902, hbr, hrb, hbi, hib, hbn, hnb, hri, hir, hrn, hnr, hin, hnj, dn_bldWS, bldWS, dT, dF, nL]); (repeat with_reducible refine Ai ?_); (try (refine hK _ ?_; clear hK K)); (try with_reducible refine iC ?_)))
    rw [← hW]
    refine wend hS trivial hb hr hi (j := 902) (xs := ns) (c := .row 902 ns.length) ?_ ?_ ?_ (by first | omega | (simp only [List.length_append, List.length_cons, List.length_nil]; omega)) (by first | exact .inl rfl | exact .inr ⟨rfl, rfl⟩) (by simp) ?_ hbn hrn hrb (by omega) hni (.inr ⟨by decide, ?_, hin, hib, hir⟩) fun k k1 k2 k3 k4 => ?_
    · simp only [go_sem, fN, seval, eT, iR, hiw_ne, low_ne, hb, hr, hi, hni, n4, n901, n902, hbr, hrb, hbi, hib, hbn, hnb, hri, hir, hrn, hnr, hin, hnj, dn_bldWS, bldWS, hlen]
    · simp only [go_sem, fN, seval, eT, iR, hiw_ne, low_ne, hb, hr, hi, hni, n4, n901, n902, hbr, hrb, hbi, hib, hbn, hnb, hri, hir, hrn, hnr, hin, hnj, dn_bldWS, bldWS]
    · simp only [go_sem, fN, seval, eT, iR, hiw_ne, low_ne, hb, hr, hi, hni, n4, n901, n902, hbr, hrb, hbi, hib, hbn, hnb, hri, hir, hrn, hnr, hin, hnj, dn_bldWS, bldWS]
    · simp only [go_sem, fN, seval, eT, iR, hiw_ne, low_ne, hb, hr, hi, hni, n4, n901, n902, hbr, hrb, hbi, hib, hbn, hnb, hri, hir, hrn, hnr, hin, hnj, dn_bldWS, bldWS, sni]
    · simp only [go_sem, fN, seval, eT, iR, hiw_ne, low_ne, hb, hr, hi, hni, n4, n901, n902, hbr, hrb, hbi, hib, hbn, hnb, hri, hir, hrn, hnr, hin, hnj, dn_bldWS, bldWS]
    · simp only [go_sem, fN, seval, eT, iR, hiw_ne, low_ne, k1, k2, k3, k4, dn_bldWS, bldWS]
  · have hbk : bs ++ brk (brP (.a f x) place) (s1 ++ ⟨#[32]⟩ ++ t1) = bs ++ s1 ++ ⟨#[32]⟩ ++ t1 := by
      unfold brP brk
      rw [if_neg]
      · simp only [ByteArray.append_assoc]
      · simp [Lm.a, Lm.kind, hp0]
    rw [hbk]
    obtain ⟨Sd, hW⟩ : ∃ Sd, wdone S b r i ni N ns (bs ++ s1 ++ ⟨#[32]⟩ ++ t1) o = Sd := ⟨_, rfl⟩
    rw [hW]
    repeat' (first | (with_reducible first | refine W ?_ | refine Wz0 ?_) | ((with_reducible first | refine Wo (fun K hK => ?_) | refine Wp ?_ | refine Wq ?_ | refine Wr ?_); (try simp only [go_sem, fN, seval, eT, iR, AS.startS, hiw_ne, low_ne, hb, hr, hi, hni, n4, n901, n902, hbr, hrb, hbi, hib, hbn, hnb, hri, hir, hrn, hnr, hin, hnj, dn_bldWS, bldWS, sb, sr, si, Lm.a, Lm.kind_mk, Lm.idx_mk, Lm.subs_mk, hp0, dT, dF, nL]); (repeat with_reducible refine Ai ?_); (try (refine hK _ ?_; clear hK K)); (try with_reducible refine iC ?_)))
    have hc1 := fun S' => ihf 1 bs p1 (up1 b) (up1 r) (up1 i) (up1 901) N S'
    rw [hS1] at hc1
    have sbx : ∀ S' : AStore, S' b = some (boxW p r bs.size (.row i ns.length) o) → upS S' (up1 b) = some (boxW p1 (up1 r) bs.size (.row (up1 i) ns.length) o) := fun S' h => by rw [upS_up, h, ← sb, ← upS_up, sb1]
    refine ⟨_, _, hc1 _ (by decide) (by omega) hN2 (by omega) (up1_le _) (up1_le _) (up1_le _) (up1_le _) hp1 (sbx _ (by simp only [go_sem, fN, seval, eT, iR, hiw_ne, low_ne, hb, hr, hi, hni, n4, n901, n902, hbr, hrb, hbi, hib, hbn, hnb, hri, hir, hrn, hnr, hin, hnj, dn_bldWS, bldWS, sb])) (up_mrowW (by simp only [go_sem, fN, seval, eT, iR, hiw_ne, low_ne, hb, hr, hi, hni, n4, n901, n902, hbr, hrb, hbi, hib, hbn, hnb, hri, hir, hrn, hnr, hin, hnj, dn_bldWS, bldWS, sr])) (up_rowW (by simp only [go_sem, fN, seval, eT, iR, hiw_ne, low_ne, hb, hr, hi, hni, n4, n901, n902, hbr, hrb, hbi, hib, hbn, hnb, hri, hir, hrn, hnr, hin, hnj, dn_bldWS, bldWS, si])) (up_noneW (by simp only [go_sem, fN, seval, eT, iR, hiw_ne, low_ne, hb, hr, hi, hni, n4, n901, n902, hbr, hrb, hbi, hib, hbn, hnb, hri, hir, hrn, hnr, hin, hnj, dn_bldWS, bldWS])), ?_⟩
    repeat' (first | (with_reducible first | refine W ?_ | refine Wz0 ?_) | ((with_reducible first | refine Wo (fun K hK => ?_) | refine Wp ?_ | refine Wq ?_ | refine Wr ?_); (try simp only [go_sem, fN, seval, eT, iR, dn_wdone, wdone, hiw_ne, low_ne, hb, hr, hi, hni, n4, n901, n902, hbr, hrb, hbi, hib, hbn, hnb, hri, hir, hrn, hnr, hin, hnj, dn_bldWS, bldWS, hp0, dT, dF, nL]); (repeat with_reducible refine Ai ?_); (try (refine hK _ ?_; clear hK K)); (try with_reducible refine iC ?_)))
    refine ⟨_, _, writeByteW_S (bldW_mkU (bs := bs ++ s1) (c := .row 901 ns.length) (o := o) hbr (.inr rfl) (by simp only [go_sem, fN, seval, eT, iR, hiw_ne, low_ne, hb, hr, hi, hni, n4, n901, n902, hbr, hrb, hbi, hib, hbn, hnb, hri, hir, hrn, hnr, hin, hnj, dn_bldWS, bldWS, sb, sr]) (by simp only [go_sem, fN, seval, eT, iR, hiw_ne, low_ne, hb, hr, hi, hni, n4, n901, n902, hbr, hrb, hbi, hib, hbn, hnb, hri, hir, hrn, hnr, hin, hnj, dn_bldWS, bldWS, sb, sr])) 32 (by first | omega | (simp only [ByteArray.size_append] at *; omega)), ?_⟩
    repeat' (first | (with_reducible first | refine W ?_ | refine Wz0 ?_) | ((with_reducible first | refine Wo (fun K hK => ?_) | refine Wp ?_ | refine Wq ?_ | refine Wr ?_); (try simp only [go_sem, fN, seval, eT, iR, AS.startS, hiw_ne, low_ne, hb, hr, hi, hni, n4, n901, n902, hbr, hrb, hbi, hib, hbn, hnb, hri, hir, hrn, hnr, hin, hnj, dn_bldWS, bldWS, sb, sr, si, Lm.a, Lm.kind_mk, Lm.idx_mk, Lm.subs_mk, hp0, dT, dF, nL]); (repeat with_reducible refine Ai ?_); (try (refine hK _ ?_; clear hK K)); (try with_reducible refine iC ?_)))
    have hc2 := ihx 2 (bs ++ s1 ++ ⟨#[32]⟩) (.ptr (up1 b) 1 0 0) (up1 b) (up1 r) (up1 901) (up1 902) N
    rw [hT1] at hc2
    refine ⟨_, _, hc2 _ (by decide) (by omega) hN2 (by simp only [ByteArray.size_append]; omega) (up1_le _) (up1_le _) (up1_le _) (up1_le _) (.inr rfl) (up_boxW (by simp only [go_sem, fN, seval, eT, iR, hiw_ne, low_ne, hb, hr, hi, hni, n4, n901, n902, hbr, hrb, hbi, hib, hbn, hnb, hri, hir, hrn, hnr, hin, hnj, dn_bldWS, bldWS])) (up_mrowW (by simp only [go_sem, fN, seval, eT, iR, hiw_ne, low_ne, hb, hr, hi, hni, n4, n901, n902, hbr, hrb, hbi, hib, hbn, hnb, hri, hir, hrn, hnr, hin, hnj, dn_bldWS, bldWS])) (up_rowW (by simp only [go_sem, fN, seval, eT, iR, hiw_ne, low_ne, hb, hr, hi, hni, n4, n901, n902, hbr, hrb, hbi, hib, hbn, hnb, hri, hir, hrn, hnr, hin, hnj, dn_bldWS, bldWS])) (up_noneW (by simp only [go_sem, fN, seval, eT, iR, hiw_ne, low_ne, hb, hr, hi, hni, n4, n901, n902, hbr, hrb, hbi, hib, hbn, hnb, hri, hir, hrn, hnr, hin, hnj, dn_bldWS, bldWS])), ?_⟩
    repeat' (first | (with_reducible first | refine W ?_ | refine Wz0 ?_) | ((with_reducible first | refine Wo (fun K hK => ?_) | refine Wp ?_ | refine Wq ?_ | refine Wr ?_); (try simp only [go_sem, fN, seval, eT, iR, dn_wdone, wdone, hiw_ne, low_ne, hb, hr, hi, hni, n4, n901, n902, hbr, hrb, hbi, hib, hbn, hnb, hri, hir, hrn, hnr, hin, hnj, dn_bldWS, bldWS, hp0, dT, dF, nL]); (repeat with_reducible refine Ai ?_); (try (refine hK _ ?_; clear hK K)); (try with_reducible refine iC ?_)))
    rw [← hW]
    refine wend hS trivial hb hr hi (j := 902) (xs := ns) (c := .row 902 ns.length) ?_ ?_ ?_ (by first | omega | (simp only [List.length_append, List.length_cons, List.length_nil]; omega)) (by first | exact .inl rfl | exact .inr ⟨rfl, rfl⟩) (by simp) ?_ hbn hrn hrb (by omega) hni (.inr ⟨by decide, ?_, hin, hib, hir⟩) fun k k1 k2 k3 k4 => ?_
    · simp only [go_sem, fN, seval, eT, iR, hiw_ne, low_ne, hb, hr, hi, hni, n4, n901, n902, hbr, hrb, hbi, hib, hbn, hnb, hri, hir, hrn, hnr, hin, hnj, dn_bldWS, bldWS, hlen]
    · simp only [go_sem, fN, seval, eT, iR, hiw_ne, low_ne, hb, hr, hi, hni, n4, n901, n902, hbr, hrb, hbi, hib, hbn, hnb, hri, hir, hrn, hnr, hin, hnj, dn_bldWS, bldWS]
    · simp only [go_sem, fN, seval, eT, iR, hiw_ne, low_ne, hb, hr, hi, hni, n4, n901, n902, hbr, hrb, hbi, hib, hbn, hnb, hri, hir, hrn, hnr, hin, hnj, dn_bldWS, bldWS]
    · simp only [go_sem, fN, seval, eT, iR, hiw_ne, low_ne, hb, hr, hi, hni, n4, n901, n902, hbr, hrb, hbi, hib, hbn, hnb, hri, hir, hrn, hnr, hin, hnj, dn_bldWS, bldWS, sni]
    · simp only [go_sem, fN, seval, eT, iR, hiw_ne, low_ne, hb, hr, hi, hni, n4, n901, n902, hbr, hrb, hbi, hib, hbn, hnb, hri, hir, hrn, hnr, hin, hnj, dn_bldWS, bldWS]
    · simp only [go_sem, fN, seval, eT, iR, hiw_ne, low_ne, k1, k2, k3, k4, dn_bldWS, bldWS]
theorem write_S {o : Nat} {ns : List ByteArray} {t : Lm} {s : ByteArray} (h : LTx 120 o ns t s) : WrS o ns t s := by
  induction h with
  | v h hn => exact write_v h hn
  | c h => exact write_c h
  | l ho h ih => exact write_l ho ih
  | a hf hx ihf ihx => exact write_a ihf ihx

theorem cloneW_N (l : List ByteArray) (hl : l.length ≤ 1000000) : ACallsN Tryd.prog 14 [aStrs l] 9 1 (l.map encS) true := by
  unfold ACallsN
  rw [List.length_map]
  refine ok_slices_Clone_string_string.acS fun hS C hC => ?_
  unfold ir_slices_Clone_string_string
  by_cases h0 : l.length = 0
  · have hl : l = [] := List.eq_nil_of_length_eq_zero h0
    subst hl
    repeat' (first | (with_reducible first | refine W ?_ | refine Wz0 ?_) | ((with_reducible first | refine Wo (fun K hK => ?_) | refine Wp ?_ | refine Wq ?_ | refine Wr ?_); (try simp only [go_sem, fN, seval, eT, iR, dT, dF, nL]); (repeat with_reducible refine Ai ?_); (try (refine hK _ ?_; clear hK K)); (try with_reducible refine iC ?_)))
    refine ⟨?_, ?_⟩
    · repeat' (first | (with_reducible first | refine W ?_ | refine Wz0 ?_) | ((with_reducible first | refine Wo (fun K hK => ?_) | refine Wp ?_ | refine Wq ?_ | refine Wr ?_); (try simp only [go_sem, fN, seval, eT, iR, dT, dF, nL]); (repeat with_reducible refine Ai ?_); (try (refine hK _ ?_; clear hK K)); (try with_reducible refine iC ?_)))
      refine finS_ghost (Ghost.ownM (C := C) 2 30 9 1 rfl rfl (by omega)) ?_
      exact finN (mu := true) trivial 30 (by decide) rfl (fun i hi => by show updE _ _ _ _ = _; rw [updE_ne _ (by omega)]; rfl) rfl
    · repeat' (first | (with_reducible first | refine W ?_ | refine Wz0 ?_) | ((with_reducible first | refine Wo (fun K hK => ?_) | refine Wp ?_ | refine Wq ?_ | refine Wr ?_); (try simp only [go_sem, fN, seval, eT, iR, dT, dF, nL]); (repeat with_reducible refine Ai ?_); (try (refine hK _ ?_; clear hK K)); (try with_reducible refine iC ?_)))
      exact finN (mu := true) trivial 7 (by decide) rfl (fun i hi => by show updE _ _ _ _ = _; rw [updE_ne _ (by omega)]; rfl) rfl
  · have hb : l.length * 16 ≤ 140737488355328 := by omega
    repeat' (first | (with_reducible first | refine W ?_ | refine Wz0 ?_) | ((with_reducible first | refine Wo (fun K hK => ?_) | refine Wp ?_ | refine Wq ?_ | refine Wr ?_); (try simp only [go_sem, fN, seval, eT, iR, h0, hb, dT, dF, nL]); (repeat with_reducible refine Ai ?_); (try (refine hK _ ?_; clear hK K)); (try with_reducible refine iC ?_)))
    exact finN (mu := true) trivial 7 (by decide) rfl (fun i hi => by show updE _ _ _ _ = _; rw [updE_ne _ (by omega)]; rfl) rfl
set_option maxRecDepth 100000 in
theorem lshow_a {free : List ByteArray} {t : Lm} {s : ByteArray} (h : LTx 120 free.length free t s) (h0 : 0 < s.size) (hz : s.size + 4 * t.size ≤ 100000000) (hl : free.length + t.size ≤ 900000) : ACalls Tryd.prog 12 [aLm t, aStrs free] (aStr s) := by
  have hw := write_S h
  refine ok_lambda_Show.ac fun C hC => ?_
  unfold ir_lambda_Show
  repeat' (first | (with_reducible first | refine W ?_ | refine Wz0 ?_) | ((with_reducible first | refine Wo (fun K hK => ?_) | refine Wp ?_ | refine Wq ?_ | refine Wr ?_); (try simp only [go_sem, fN, seval, eT, iR, dT, dF, nL]); (repeat with_reducible refine Ai ?_); (try (refine hK _ ?_; clear hK K)); (try with_reducible refine iC ?_)))
  refine CallNG.mk _ _ _ _ (cloneW_N free (by omega)) ⟨rfl, by simp, ?_⟩
  have hml : (free.map encS).length = free.length := by simp
  repeat' (first | (with_reducible first | refine W ?_ | refine Wz0 ?_) | (first | refine IWP.ghost (Ghost.ownCell (e' := u8W) (id := 11) (r := 900) 1 1 rfl rfl rfl (by decide)) ?_) | ((with_reducible first | refine Wo (fun K hK => ?_) | refine Wp ?_ | refine Wq ?_ | refine Wr ?_); (try simp only [go_sem, fN, seval, eT, iR, hml, rowB, dT, dF, nL]); (repeat with_reducible refine Ai ?_); (try (refine hK _ ?_; clear hK K)); (try with_reducible refine iC ?_)))
  have hc := fun S' => hw 0 ⟨#[]⟩ (.st (.lit (.pointer none))) (up1 11) (up1 900) (up1 9) (up1 901) (free.length + t.size + 1) S' (by decide) (by omega) (by omega) (by show 0 + s.size + _ ≤ _; omega) (up1_le _) (up1_le _) (up1_le _) (up1_le _) (.inl rfl)
  rw [brk0] at hc
  have he : ⟨#[]⟩ ++ s = s := ByteArray.empty_append
  rw [he] at hc
  refine ⟨_, _, hc _ (up_boxW0 (r := 900) (i := 9) (n := 0) (m := free.length) (o := free.length) ?_) (up_mrowW (bs := ⟨#[]⟩) ?_) (up_rowW (ns := free) ?_) (up_noneW ?_), ?_⟩
  · rfl
  · rfl
  · rfl
  · rfl
  repeat' (first | (with_reducible first | refine W ?_ | refine Wz0 ?_) | ((with_reducible first | refine Wo (fun K hK => ?_) | refine Wp ?_ | refine Wq ?_ | refine Wr ?_); (try simp only [go_sem, fN, seval, eT, iR, dn_wdone, wdone, dT, dF, nL]); (repeat with_reducible refine Ai ?_); (try (refine hK _ ?_; clear hK K)); (try with_reducible refine iC ?_)))
  refine ⟨_, _, builderStringW_S (bldW_mkU (b := 11) (r := 900) (bs := s) (c := .row 901 free.length) (o := free.length) (by decide) (.inr rfl) (by simp only [go_sem, fN, seval, eT, iR]) (by simp only [go_sem, fN, seval, eT, iR])) h0 (by omega), ?_⟩
  repeat' (first | (with_reducible first | refine W ?_ | refine Wz0 ?_) | ((with_reducible first | refine Wo (fun K hK => ?_) | refine Wp ?_ | refine Wq ?_ | refine Wr ?_); (try simp only [go_sem, fN, seval, eT, iR, dT, dF, nL]); (repeat with_reducible refine Ai ?_); (try (refine hK _ ?_; clear hK K)); (try with_reducible refine iC ?_)))
  simp only [go_sem, fN, seval, FinQ, AS.result, resAll, resOne, tupV]

theorem ltext_ok {t : Lm} {free : List ByteArray} {s : ByteArray} (hf : freeMay free = 0) (hm : t.may 0 free.length = 0) (hs : LTx 120 free.length free t s) (h0 : 0 < s.size) (hz : s.size ≤ 4000) : ACalls Tryd.prog 6 [aLm t, aStrs free] (.tup [aStr s, aInt 0]) := by
  have h200 : t.size ≤ 200 := by
    unfold Lm.may at hm
    split at hm
    · cases hm
    · split at hm
      · cases hm
      · omega
  have h40 := (freeMay_ok hf).1
  have hc := lCheck_a t free.length
  have hn := names_a free
  have hw := lshow_a hs h0 (by omega) (by omega)
  rw [hf] at hn
  rw [hm] at hc
  refine ok_lambda_Text.ac fun C hC => ?_
  unfold ir_lambda_Text
  repeat' (first | (with_reducible first | refine W ?_ | refine Wz0 ?_) | refine Cg _ (hn) ?_ | refine Cg _ (hc) ?_ | refine Cg _ (hw) ?_ | ((with_reducible first | refine Wo (fun K hK => ?_) | refine Wp ?_ | refine Wq ?_ | refine Wr ?_); (try simp only [go_sem, fN, seval, eT, iR, dT, dF, nL]); (repeat with_reducible refine Ai ?_); (try (refine hK _ ?_; clear hK K)); (try with_reducible refine iC ?_)))
  simp only [go_sem, fN, seval, FinQ, AS.result, resAll, resOne, tupV]

def ir_R_Pick : IR :=
  (.seq (.ops [.i 4 (.mov (.n 0))]) (.seq (.seq (.ops [.m 5 0, .i 6 (.bin .lss (.t 5) (.n 0))]) (.cond (.t 6) (.ops [.m 7 0, .i 8 (.bin .add (.t 7) (.n 1)), .i 9 (.un .neg (.t 8)), .m 0 9]) .skip)) (.seq (.ops [.m 10 0, .m 11 1, .i 12 (.bin .rem (.t 10) (.t 11)), .m 4 12]) .ret)))
theorem ok_R_Pick : OkF Tryd.prog 4 13 [] ir_R_Pick [.t 4] := .of Tryd.func4 rfl rfl (by kernel_rfl) rfl
def ir_R_Raw : IR :=
  (.seq (.ops [.i 4 (.mov (.n 0))]) (.seq (.seq (.ops [.m 5 0, .i 6 (.len false (.t 5)), .i 7 (.bin .eql (.t 6) (.n 0))]) (.cond (.t 7) (.seq (.ops [.m 8 1, .i 9 (.bin .mul (.t 8) (.n 31)), .m 4 9]) .ret) .skip)) (.seq (.ops [.m 10 0, .m 11 1, .m 12 0, .i 13 (.len false (.t 12)), .i 14 (.bin .rem (.t 11) (.t 13)), .i 15 (.indexAddr 1 (.t 10) (.t 14)), .l 16 15, .i 17 (.call 4 [.t 16, .n 1000003]), .m 18 1, .m 19 0, .i 20 (.len false (.t 19)), .i 21 (.bin .quo (.t 18) (.t 20)), .i 22 (.bin .mul (.t 21) (.n 7919)), .i 23 (.bin .add (.t 17) (.t 22)), .m 4 23]) .ret)))
theorem ok_R_Raw : OkF Tryd.prog 16 24 [] ir_R_Raw [.t 4] := .of Tryd.func16 rfl rfl (by kernel_rfl) rfl
def ir_R_LamFrom : IR :=
  (.seq (.ops [.i 10 (.alloc 26 [.st (.int .i64 0), .st (.int .i64 0), .full []]), .i 11 (.mov (.n 0))]) (.seq (.ops [.m 18 0, .m 19 1, .i 20 (.call 16 [.t 18, .t 19]), .m 12 20]) (.seq (.ops [.m 21 1, .i 22 (.bin .add (.t 21) (.n 1)), .m 1 22]) (.seq (.seq (.ops [.m 23 2, .i 24 (.bin .lss (.t 23) (.n 3)), .m 25 24, .mk (some 26) (some (25, false)) (.mov (.t 12)) .no, .mk (some 27) (some (25, false)) (.call 4 [.t 26, .n 6]) .no, .mk (some 28) (some (25, false)) (.bin .eql (.t 27) (.n 0)) .no, .i 29 (.pick (.t 25) (.c (.one (.st (.bool true)))) (.t 28))]) (.cond (.t 29) (.seq (.seq (.ops [.m 30 3, .i 31 (.bin .eql (.t 30) (.n 0)), .m 32 31, .mk (some 33) (some (32, true)) (.mov (.t 4)) .no, .mk (some 34) (some (32, true)) (.bin .eql (.t 33) (.n 0)) .no, .i 35 (.pick (.t 32) (.t 34) (.c (.one (.st (.bool false)))))]) (.cond (.t 35) (.seq (.ops [.i 36 (.call 18 [.n 0]), .i 37 (.call 17 [.t 36]), .m 38 1, .s 3 10 37, .m 11 38]) .ret) .skip)) (.seq (.seq (.ops [.m 39 3, .i 40 (.bin .eql (.t 39) (.n 0)), .m 41 40, .mk (some 42) (some (41, false)) (.mov (.t 4)) .no, .mk (some 43) (some (41, false)) (.bin .gtr (.t 42) (.n 0)) .no, .mk (some 44) (some (41, false)) (.mov (.t 43)) .no, .mk (some 45) (some (44, true)) (.mov (.t 12)) .no, .mk (some 46) (some (44, true)) (.bin .quo (.t 45) (.n 6)) .no, .mk (some 47) (some (44, true)) (.call 4 [.t 46, .n 4]) .no, .mk (some 48) (some (44, true)) (.bin .eql (.t 47) (.n 0)) .no, .mk (some 49) (some (41, false)) (.pick (.t 44) (.t 48) (.c (.one (.st (.bool false))))) .no, .i 50 (.pick (.t 41) (.c (.one (.st (.bool true)))) (.t 49))]) (.cond (.t 50) (.seq (.ops [.m 51 12, .i 52 (.bin .quo (.t 51) (.n 24)), .m 53 4, .i 54 (.call 4 [.t 52, .t 53]), .i 55 (.call 19 [.t 54]), .m 56 1, .s 3 10 55, .m 11 56]) .ret) .skip)) (.seq (.ops [.m 57 12, .i 58 (.bin .quo (.t 57) (.n 6)), .m 59 3, .i 60 (.call 4 [.t 58, .t 59]), .i 61 (.call 18 [.t 60]), .m 62 1, .s 3 10 61, .m 11 62]) .ret))) .skip)) (.seq (.seq (.ops [.m 63 12, .i 64 (.call 4 [.t 63, .n 6]), .i 65 (.bin .lss (.t 64) (.n 3))]) (.cond (.t 65) (.seq (.ops [.m 67 0, .m 68 1, .m 69 2, .i 70 (.bin .sub (.t 69) (.n 1)), .m 71 3, .i 72 (.bin .add (.t 71) (.n 1)), .m 73 4, .i 74 (.call 9 [.t 67, .t 68, .t 70, .t 72, .t 73]), .m 66 74, .i 75 (.extract 0 (.t 66)), .i 76 (.extract 1 (.t 66)), .i 13 (.alloc 26 [.st (.int .i64 0), .st (.int .i64 0), .full []]), .s 3 13 75, .m 14 76]) (.seq (.ops [.L 77 3 13, .i 78 (.call 17 [.t 77]), .m 79 14, .s 3 10 78, .m 11 79]) .ret)) .skip)) (.seq (.ops [.m 81 0, .m 82 1, .m 83 2, .i 84 (.bin .quo (.t 83) (.n 2)), .m 85 3, .m 86 4, .i 87 (.call 9 [.t 81, .t 82, .t 84, .t 85, .t 86]), .m 80 87, .i 88 (.extract 0 (.t 80)), .i 89 (.extract 1 (.t 80)), .i 15 (.alloc 26 [.st (.int .i64 0), .st (.int .i64 0), .full []]), .s 3 15 88, .m 16 89]) (.seq (.ops [.m 91 0, .m 92 16, .m 93 2, .i 94 (.bin .quo (.t 93) (.n 2)), .m 95 3, .m 96 4, .i 97 (.call 9 [.t 91, .t 92, .t 94, .t 95, .t 96]), .m 90 97, .i 98 (.extract 0 (.t 90)), .i 99 (.extract 1 (.t 90)), .i 17 (.alloc 26 [.st (.int .i64 0), .st (.int .i64 0), .full []]), .s 3 17 98, .m 16 99]) (.seq (.ops [.L 100 3 15, .L 101 3 17, .i 102 (.call 20 [.t 100, .t 101]), .m 103 16, .s 3 10 102, .m 11 103]) .ret))))))))
theorem ok_R_LamFrom : OkF Tryd.prog 9 104 [] ir_R_LamFrom [.cell 10 true 3, .t 11] := .of Tryd.func9 rfl rfl (by kernel_rfl) rfl
def ir_R_LamOfRaw : IR :=
  (.seq (.ops [.i 10 (.alloc 26 [.st (.int .i64 0), .st (.int .i64 0), .full []])]) (.seq (.ops [.m 14 0, .m 15 1, .m 16 2, .m 17 3, .m 18 4, .i 19 (.call 9 [.t 14, .t 15, .t 16, .t 17, .t 18]), .m 13 19, .i 20 (.extract 0 (.t 13)), .i 21 (.extract 1 (.t 13)), .i 11 (.alloc 26 [.st (.int .i64 0), .st (.int .i64 0), .full []]), .s 3 11 20, .m 12 21]) (.seq (.ops [.L 22 3 11, .s 3 10 22]) .ret)))
theorem ok_R_LamOfRaw : OkF Tryd.prog 5 23 [] ir_R_LamOfRaw [.cell 10 true 3] := .of Tryd.func5 rfl rfl (by kernel_rfl) rfl

def pickI (c n : Int) : Int := (if c < 0 then -(c + 1) else c) % n
theorem pickI_range (c n : Int) (hn : 1 ≤ n) : 0 ≤ pickI c n ∧ pickI c n < n := ⟨Int.emod_nonneg _ (by omega), Int.emod_lt_of_pos _ (by omega)⟩
theorem tmod_range {x n : Int} (hx : 0 ≤ x) (hn : 1 ≤ n) : x.tmod n = x % n ∧ 0 ≤ x % n ∧ x % n < n ∧ x % n ≤ x := by
  rw [Int.tmod_eq_emod_of_nonneg hx]
  refine ⟨rfl, Int.emod_nonneg _ (by omega), Int.emod_lt_of_pos _ (by omega), ?_⟩
  by_cases h : x < n
  · rw [Int.emod_eq_of_lt hx h]; exact Int.le_refl _
  · have := Int.emod_lt_of_pos x (show 0 < n by omega); omega
theorem tdiv_range {x n : Int} (hx : 0 ≤ x) (hn : 1 ≤ n) : x.tdiv n = x / n ∧ 0 ≤ x / n ∧ x / n ≤ x := by
  rw [Int.tdiv_eq_ediv_of_nonneg hx]
  exact ⟨rfl, Int.ediv_nonneg hx (by omega), Int.ediv_le_self _ hx⟩
theorem pick_a (c n : Int) (hc : inR .i64 c) (hn : 1 ≤ n) : ACalls Tryd.prog 4 [aInt c, aInt n] (aInt (pickI c n)) := by
  rw [inR_i64] at hc
  refine ok_R_Pick.ac fun C hC => ?_
  unfold ir_R_Pick
  repeat' (first | (with_reducible first | refine W ?_ | refine Wz0 ?_) | ((with_reducible first | refine Wo (fun K hK => ?_) | refine Wq ?_ | refine Wr ?_); (try simp only [go_sem, fN, seval, eT, iR]); (repeat with_reducible refine Ai ?_); (try (refine hK _ ?_; clear hK K))))
  with_reducible refine Wp ?_
  simp only [go_sem, fN, seval, true_implies, false_implies, implies_true, dT, dF, nL]
  (try with_reducible refine iC ?_)
  refine ⟨fun h0 => ?_, fun h0 => ?_⟩
  · have h1 := tmod_range (x := 0 - (c + 1)) (n := n) (by omega) hn
    repeat' (first | (with_reducible first | refine W ?_ | refine Wz0 ?_) | ((with_reducible first | refine Wo (fun K hK => ?_) | refine Wq ?_ | refine Wr ?_); (try simp only [go_sem, fN, seval, eT, iR, h1.1]); (repeat with_reducible refine Ai ?_); (try (refine hK _ ?_; clear hK K))))
    simp only [go_sem, fN, seval, FinQ, AS.result, resAll, resOne, tupV]
    unfold pickI
    rw [if_pos h0]
    congr 5
    omega
  · have h1 := tmod_range (x := c) (n := n) (by omega) hn
    repeat' (first | (with_reducible first | refine W ?_ | refine Wz0 ?_) | ((with_reducible first | refine Wo (fun K hK => ?_) | refine Wq ?_ | refine Wr ?_); (try simp only [go_sem, fN, seval, eT, iR, h1.1]); (repeat with_reducible refine Ai ?_); (try (refine hK _ ?_; clear hK K))))
    simp only [go_sem, fN, seval, FinQ, AS.result, resAll, resOne, tupV]
    unfold pickI
    rw [if_neg h0]
def rawI (l : List Int) (i : Nat) : Int := if l.length = 0 then i * 31 else pickI (l.getD (i % l.length) 0) 1000003 + ((i / l.length : Nat) : Int) * 7919
theorem rawI_range (l : List Int) (i : Nat) : 0 ≤ rawI l i ∧ rawI l i ≤ 1000003 + i * 7919 := by
  unfold rawI
  split
  · omega
  · have := pickI_range (l.getD (i % l.length) 0) 1000003 (by omega)
    have h2 : i / l.length ≤ i := Nat.div_le_self _ _
    generalize i / l.length = q at *
    omega
theorem raw_a (l : List Int) (i : Nat) (hi : i ≤ 1000000) (hl : ∀ n ∈ l, inR .i64 n) (hm : l.length ≤ maxLen) : ACalls Tryd.prog 16 [aInts l, aInt i] (aInt (rawI l i)) := by
  rw [maxLen_eq] at hm
  refine ok_R_Raw.ac fun C hC => ?_
  unfold ir_R_Raw
  repeat' (first | (with_reducible first | refine W ?_ | refine Wz0 ?_) | ((with_reducible first | refine Wo (fun K hK => ?_) | refine Wq ?_ | refine Wr ?_); (try simp only [go_sem, fN, seval, eT, iR]); (repeat with_reducible refine Ai ?_); (try (refine hK _ ?_; clear hK K))))
  with_reducible refine Wp ?_
  simp only [go_sem, fN, seval, true_implies, false_implies, implies_true, dT, dF, nL]
  (try with_reducible refine iC ?_)
  refine ⟨fun h0 => ?_, fun h0 => ?_⟩
  · repeat' (first | (with_reducible first | refine W ?_ | refine Wz0 ?_) | ((with_reducible first | refine Wo (fun K hK => ?_) | refine Wq ?_ | refine Wr ?_); (try simp only [go_sem, fN, seval, eT, iR]); (repeat with_reducible refine Ai ?_); (try (refine hK _ ?_; clear hK K))))
    simp only [go_sem, fN, seval, FinQ, AS.result, resAll, resOne, tupV]
    unfold rawI
    rw [if_pos (by omega)]
  · have h1 := tmod_range (x := (i : Int)) (n := (l.length : Int)) (by omega) (by omega)
    have h2 := tdiv_range (x := (i : Int)) (n := (l.length : Int)) (by omega) (by omega)
    have hlt : i % l.length < l.length := Nat.mod_lt _ (by omega)
    obtain ⟨a, ha⟩ := get_lt hlt
    have e1 : ((i : Int) % (l.length : Int)) = ((i % l.length : Nat) : Int) := by omega
    have e2 : ((i : Int) / (l.length : Int)) = ((i / l.length : Nat) : Int) := by omega
    have h3 : i / l.length ≤ i := Nat.div_le_self _ _
    repeat' (first | (with_reducible first | refine W ?_ | refine Wz0 ?_) | ((with_reducible first | refine Wo (fun K hK => ?_) | refine Wq ?_ | refine Wr ?_); (try simp only [go_sem, fN, seval, eT, iR, h1.1, h2.1, e1, e2, ha]); (repeat with_reducible refine Ai ?_); (try (refine hK _ ?_; clear hK K))))
    refine ⟨_, pick_a a 1000003 (hl a (mem_of_get ha)) (by omega), ?_⟩
    have hp := pickI_range a 1000003 (by omega)
    repeat' (first | (with_reducible first | refine W ?_ | refine Wz0 ?_) | ((with_reducible first | refine Wo (fun K hK => ?_) | refine Wq ?_ | refine Wr ?_); (try simp only [go_sem, fN, seval, eT, iR, h1.1, h2.1, e1, e2]); (repeat with_reducible refine Ai ?_); (try (refine hK _ ?_; clear hK K))))
    simp only [go_sem, fN, seval, FinQ, AS.result, resAll, resOne, tupV]
    unfold rawI
    rw [if_neg (by omega), List.getD_eq_getElem?_getD, ha]
    rfl
def LamAt (l : List Int) (at_ : Nat) (most under consts : Int) (t : Lm) (n : Nat) : Prop :=
  ACalls Tryd.prog 9 [aInts l, aInt at_, aInt most, aInt under, aInt consts] (.tup [aLm t, aInt n])
theorem chk_leaf {k i m u : Int} (h : (k = 1 ∧ 0 ≤ i ∧ i < u) ∨ (k = 4 ∧ 0 ≤ i ∧ i < 40)) : (Lm.mk k i []).chk m u = 0 := by
  rw [Lm.chk_eq]
  rcases h with ⟨rfl, h1, h2⟩ | ⟨rfl, h1, h2⟩ <;> simp [Lm.kind_mk, Lm.idx_mk, Lm.subs_mk, nSubs, mostIdx, h1, h2, Lm.chks]
theorem chk_fun {t : Lm} {m u : Int} (h : t.chk m (u + 1) = 0) : (Lm.l t).chk m u = 0 := by
  rw [Lm.chk_eq]
  simp [Lm.l, Lm.kind_mk, Lm.idx_mk, Lm.subs_mk, nSubs, mostIdx, under, Lm.chks, h]
theorem chk_app {f x : Lm} {m u : Int} (h1 : f.chk m u = 0) (h2 : x.chk m u = 0) : (Lm.a f x).chk m u = 0 := by
  rw [Lm.chk_eq]
  simp [Lm.a, Lm.kind_mk, Lm.idx_mk, Lm.subs_mk, nSubs, mostIdx, under, Lm.chks, h1, h2]
theorem lamFrom_a (l : List Int) (hl : ∀ n ∈ l, inR .i64 n) (hm : l.length ≤ maxLen) (consts : Int) (hc : 0 ≤ consts ∧ consts ≤ 40) : ∀ (most : Nat) (at_ under : Nat), 0 ≤ most → most ≤ 1000 → at_ + 3 * most ≤ 900000 → under + most ≤ 2000 →
    ∃ (t : Lm) (n : Nat), LamAt l at_ most under consts t n ∧ t.size + 1 ≤ 3 * max most 1 ∧ n ≤ at_ + t.size ∧ t.chk 0 under = 0 ∧ (consts = 0 → t.pure = true) := by
  intro most
  induction most using Nat.strongRecOn with
  | _ most ih =>
  intro at_ under h1 h1000 hat hund
  have hraw := raw_a l at_ (by omega) hl hm
  have hr := rawI_range l at_
  generalize rawI l at_ = c at hraw hr
  have d6 := tdiv_range (x := c) (n := 6) (by omega) (by omega)
  have d24 := tdiv_range (x := c) (n := 24) (by omega) (by omega)
  have p6 := pick_a c 6 (by rw [inR_i64]; omega) (by omega)
  have q6 := pickI_range c 6 (by omega)
  have p64 := pick_a (c / 6) 4 (by rw [inR_i64]; omega) (by omega)
  have q64 := pickI_range (c / 6) 4 (by omega)
  have p24 : 1 ≤ consts → _ := fun h => pick_a (c / 24) consts (by rw [inR_i64]; omega) h
  have q24 : 1 ≤ consts → _ := fun h => pickI_range (c / 24) consts h
  have p6u : 1 ≤ (under : Int) → _ := fun h => pick_a (c / 6) under (by rw [inR_i64]; omega) h
  have q6u : 1 ≤ (under : Int) → _ := fun h => pickI_range (c / 6) under h
  generalize pickI c 6 = x6 at *
  generalize pickI (c / 6) 4 = x64 at *
  generalize pickI (c / 24) consts = x24 at *
  generalize pickI (c / 6) under = x6u at *
  by_cases hleaf : (most : Int) < 3 ∨ x6 = 0
  · by_cases hu0 : (under : Int) = 0
    · by_cases hc0 : consts = 0
      · refine ⟨.l (.v 0), at_ + 1, ?_, by simp only [Lm.l, Lm.v, Lm.size, Lm.sizes]; omega, by simp only [Lm.l, Lm.v, Lm.size, Lm.sizes]; omega, chk_fun (chk_leaf (Or.inl ⟨rfl, by omega, by omega⟩)), fun _ => by simp [Lm.l, Lm.v, Lm.pure, Lm.pures]⟩
        by_cases hm3 : (most : Int) < 3
        · unfold LamAt
          refine ok_R_LamFrom.ac fun C hC => ?_
          unfold ir_R_LamFrom
          repeat' (first | (with_reducible first | refine W ?_ | refine Wz0 ?_) | refine Cg _ (hraw) ?_ | refine Cg _ (lVar_a 0) ?_ | refine Cg _ (lFun_a (.v 0)) ?_ | ((with_reducible first | refine Wo (fun K hK => ?_) | refine Wp ?_ | refine Wq ?_ | refine Wr ?_); (try simp only [go_sem, fN, seval, eT, iR, hm3, hu0, hc0, dT, dF, nL]); (repeat with_reducible refine Ai ?_); (try (refine hK _ ?_; clear hK K)); (try with_reducible refine iC ?_)))
          simp only [go_sem, fN, seval, FinQ, AS.result, resAll, resOne, tupV]
          all_goals first | done | rfl | skip
        · have hx6 : x6 = 0 := by omega
          unfold LamAt
          refine ok_R_LamFrom.ac fun C hC => ?_
          unfold ir_R_LamFrom
          repeat' (first | (with_reducible first | refine W ?_ | refine Wz0 ?_) | refine Cg _ (hraw) ?_ | refine Cg _ (p6) ?_ | refine Cg _ (lVar_a 0) ?_ | refine Cg _ (lFun_a (.v 0)) ?_ | ((with_reducible first | refine Wo (fun K hK => ?_) | refine Wp ?_ | refine Wq ?_ | refine Wr ?_); (try simp only [go_sem, fN, seval, eT, iR, hm3, hx6, hu0, hc0, dT, dF, nL]); (repeat with_reducible refine Ai ?_); (try (refine hK _ ?_; clear hK K)); (try with_reducible refine iC ?_)))
          simp only [go_sem, fN, seval, FinQ, AS.result, resAll, resOne, tupV]
          all_goals first | done | rfl | skip
      · have hc1 : 1 ≤ consts := by omega
        have q := q24 hc1
        refine ⟨.mk 4 x24 [], at_ + 1, ?_, by simp only [Lm.size, Lm.sizes]; omega, by simp only [Lm.size, Lm.sizes]; omega, chk_leaf (Or.inr ⟨rfl, by omega, by omega⟩), fun h => by omega⟩
        by_cases hm3 : (most : Int) < 3
        · unfold LamAt
          refine ok_R_LamFrom.ac fun C hC => ?_
          unfold ir_R_LamFrom
          repeat' (first | (with_reducible first | refine W ?_ | refine Wz0 ?_) | refine Cg _ (hraw) ?_ | refine Cg _ (p24 hc1) ?_ | refine Cg _ (lCon_a x24) ?_ | ((with_reducible first | refine Wo (fun K hK => ?_) | refine Wp ?_ | refine Wq ?_ | refine Wr ?_); (try simp only [go_sem, fN, seval, eT, iR, hm3, hu0, hc0, d24.1, dT, dF, nL]); (repeat with_reducible refine Ai ?_); (try (refine hK _ ?_; clear hK K)); (try with_reducible refine iC ?_)))
          simp only [go_sem, fN, seval, FinQ, AS.result, resAll, resOne, tupV]
          all_goals first | done | rfl | skip
        · have hx6 : x6 = 0 := by omega
          unfold LamAt
          refine ok_R_LamFrom.ac fun C hC => ?_
          unfold ir_R_LamFrom
          repeat' (first | (with_reducible first | refine W ?_ | refine Wz0 ?_) | refine Cg _ (hraw) ?_ | refine Cg _ (p6) ?_ | refine Cg _ (p24 hc1) ?_ | refine Cg _ (lCon_a x24) ?_ | ((with_reducible first | refine Wo (fun K hK => ?_) | refine Wp ?_ | refine Wq ?_ | refine Wr ?_); (try simp only [go_sem, fN, seval, eT, iR, hm3, hx6, hu0, hc0, d24.1, dT, dF, nL]); (repeat with_reducible refine Ai ?_); (try (refine hK _ ?_; clear hK K)); (try with_reducible refine iC ?_)))
          simp only [go_sem, fN, seval, FinQ, AS.result, resAll, resOne, tupV]
          all_goals first | done | rfl | skip
    · have hu1 : 1 ≤ (under : Int) := by omega
      have qu := q6u hu1
      by_cases hc0 : consts = 0
      · refine ⟨.mk 1 x6u [], at_ + 1, ?_, by simp only [Lm.size, Lm.sizes]; omega, by simp only [Lm.size, Lm.sizes]; omega, chk_leaf (Or.inl ⟨rfl, by omega, by omega⟩), fun _ => by simp [Lm.pure, Lm.pures]⟩
        by_cases hm3 : (most : Int) < 3
        · unfold LamAt
          refine ok_R_LamFrom.ac fun C hC => ?_
          unfold ir_R_LamFrom
          repeat' (first | (with_reducible first | refine W ?_ | refine Wz0 ?_) | refine Cg _ (hraw) ?_ | refine Cg _ (p6u hu1) ?_ | refine Cg _ (lVar_a x6u) ?_ | ((with_reducible first | refine Wo (fun K hK => ?_) | refine Wp ?_ | refine Wq ?_ | refine Wr ?_); (try simp only [go_sem, fN, seval, eT, iR, hm3, hu0, hc0, d6.1, dT, dF, nL]); (repeat with_reducible refine Ai ?_); (try (refine hK _ ?_; clear hK K)); (try with_reducible refine iC ?_)))
          simp only [go_sem, fN, seval, FinQ, AS.result, resAll, resOne, tupV]
          all_goals first | done | rfl | skip
        · have hx6 : x6 = 0 := by omega
          unfold LamAt
          refine ok_R_LamFrom.ac fun C hC => ?_
          unfold ir_R_LamFrom
          repeat' (first | (with_reducible first | refine W ?_ | refine Wz0 ?_) | refine Cg _ (hraw) ?_ | refine Cg _ (p6) ?_ | refine Cg _ (p6u hu1) ?_ | refine Cg _ (lVar_a x6u) ?_ | ((with_reducible first | refine Wo (fun K hK => ?_) | refine Wp ?_ | refine Wq ?_ | refine Wr ?_); (try simp only [go_sem, fN, seval, eT, iR, hm3, hx6, hu0, hc0, d6.1, dT, dF, nL]); (repeat with_reducible refine Ai ?_); (try (refine hK _ ?_; clear hK K)); (try with_reducible refine iC ?_)))
          simp only [go_sem, fN, seval, FinQ, AS.result, resAll, resOne, tupV]
          all_goals first | done | rfl | skip
      · have hc0' : 0 < consts := by omega
        have hc1 : 1 ≤ consts := by omega
        have q := q24 hc1
        by_cases hx4 : x64 = 0
        · refine ⟨.mk 4 x24 [], at_ + 1, ?_, by simp only [Lm.size, Lm.sizes]; omega, by simp only [Lm.size, Lm.sizes]; omega, chk_leaf (Or.inr ⟨rfl, by omega, by omega⟩), fun h => by omega⟩
          by_cases hm3 : (most : Int) < 3
          · unfold LamAt
            refine ok_R_LamFrom.ac fun C hC => ?_
            unfold ir_R_LamFrom
            repeat' (first | (with_reducible first | refine W ?_ | refine Wz0 ?_) | refine Cg _ (hraw) ?_ | refine Cg _ (p64) ?_ | refine Cg _ (p24 hc1) ?_ | refine Cg _ (lCon_a x24) ?_ | ((with_reducible first | refine Wo (fun K hK => ?_) | refine Wp ?_ | refine Wq ?_ | refine Wr ?_); (try simp only [go_sem, fN, seval, eT, iR, hm3, hu0, hc0', d6.1, hx4, d24.1, dT, dF, nL]); (repeat with_reducible refine Ai ?_); (try (refine hK _ ?_; clear hK K)); (try with_reducible refine iC ?_)))
            simp only [go_sem, fN, seval, FinQ, AS.result, resAll, resOne, tupV]
            all_goals first | done | rfl | skip
          · have hx6 : x6 = 0 := by omega
            unfold LamAt
            refine ok_R_LamFrom.ac fun C hC => ?_
            unfold ir_R_LamFrom
            repeat' (first | (with_reducible first | refine W ?_ | refine Wz0 ?_) | refine Cg _ (hraw) ?_ | refine Cg _ (p6) ?_ | refine Cg _ (p64) ?_ | refine Cg _ (p24 hc1) ?_ | refine Cg _ (lCon_a x24) ?_ | ((with_reducible first | refine Wo (fun K hK => ?_) | refine Wp ?_ | refine Wq ?_ | refine Wr ?_); (try simp only [go_sem, fN, seval, eT, iR, hm3, hx6, hu0, hc0', d6.1, hx4, d24.1, dT, dF, nL]); (repeat with_reducible refine Ai ?_); (try (refine hK _ ?_; clear hK K)); (try with_reducible refine iC ?_)))
            simp only [go_sem, fN, seval, FinQ, AS.result, resAll, resOne, tupV]
            all_goals first | done | rfl | skip
        · refine ⟨.mk 1 x6u [], at_ + 1, ?_, by simp only [Lm.size, Lm.sizes]; omega, by simp only [Lm.size, Lm.sizes]; omega, chk_leaf (Or.inl ⟨rfl, by omega, by omega⟩), fun _ => by simp [Lm.pure, Lm.pures]⟩
          by_cases hm3 : (most : Int) < 3
          · unfold LamAt
            refine ok_R_LamFrom.ac fun C hC => ?_
            unfold ir_R_LamFrom
            repeat' (first | (with_reducible first | refine W ?_ | refine Wz0 ?_) | refine Cg _ (hraw) ?_ | refine Cg _ (p64) ?_ | refine Cg _ (p6u hu1) ?_ | refine Cg _ (lVar_a x6u) ?_ | ((with_reducible first | refine Wo (fun K hK => ?_) | refine Wp ?_ | refine Wq ?_ | refine Wr ?_); (try simp only [go_sem, fN, seval, eT, iR, hm3, hu0, hc0', d6.1, hx4, dT, dF, nL]); (repeat with_reducible refine Ai ?_); (try (refine hK _ ?_; clear hK K)); (try with_reducible refine iC ?_)))
            simp only [go_sem, fN, seval, FinQ, AS.result, resAll, resOne, tupV]
            all_goals first | done | rfl | skip
          · have hx6 : x6 = 0 := by omega
            unfold LamAt
            refine ok_R_LamFrom.ac fun C hC => ?_
            unfold ir_R_LamFrom
            repeat' (first | (with_reducible first | refine W ?_ | refine Wz0 ?_) | refine Cg _ (hraw) ?_ | refine Cg _ (p6) ?_ | refine Cg _ (p64) ?_ | refine Cg _ (p6u hu1) ?_ | refine Cg _ (lVar_a x6u) ?_ | ((with_reducible first | refine Wo (fun K hK => ?_) | refine Wp ?_ | refine Wq ?_ | refine Wr ?_); (try simp only [go_sem, fN, seval, eT, iR, hm3, hx6, hu0, hc0', d6.1, hx4, dT, dF, nL]); (repeat with_reducible refine Ai ?_); (try (refine hK _ ?_; clear hK K)); (try with_reducible refine iC ?_)))
            simp only [go_sem, fN, seval, FinQ, AS.result, resAll, resOne, tupV]
            all_goals first | done | rfl | skip
  · have hm3 : ¬ (most : Int) < 3 := by omega
    have hx6 : ¬ x6 = 0 := by omega
    by_cases h3 : x6 < 3
    · obtain ⟨t, n, ht, hs, hn, hk, hp⟩ := ih (most - 1) (by omega) (at_ + 1) (under + 1) (by omega) (by omega) (by omega) (by omega)
      unfold LamAt at ht
      rw [show (((at_ + 1 : Nat) : Int)) = (at_ : Int) + 1 by omega, show (((most - 1 : Nat) : Int)) = (most : Int) - 1 by omega, show (((under + 1 : Nat) : Int)) = (under : Int) + 1 by omega] at ht
      rw [show (((under + 1 : Nat) : Int)) = (under : Int) + 1 by omega] at hk
      refine ⟨.l t, n, ?_, by simp only [Lm.l, Lm.size, Lm.sizes]; omega, by simp only [Lm.l, Lm.size, Lm.sizes]; omega, chk_fun hk, fun h => by simp [Lm.l, Lm.pure, Lm.pures, hp h]⟩
      unfold LamAt
      refine ok_R_LamFrom.ac fun C hC => ?_
      unfold ir_R_LamFrom
      repeat' (first | (with_reducible first | refine W ?_ | refine Wz0 ?_) | refine Cg _ (hraw) ?_ | refine Cg _ (p6) ?_ | refine Cg _ (ht) ?_ | refine Cg _ (lFun_a t) ?_ | ((with_reducible first | refine Wo (fun K hK => ?_) | refine Wp ?_ | refine Wq ?_ | refine Wr ?_); (try simp only [go_sem, fN, seval, eT, iR, hm3, hx6, h3, dT, dF, nL]); (repeat with_reducible refine Ai ?_); (try (refine hK _ ?_; clear hK K)); (try with_reducible refine iC ?_)))
      simp only [go_sem, fN, seval, FinQ, AS.result, resAll, resOne, tupV]
    · have d2 := tdiv_range (x := (most : Int)) (n := 2) (by omega) (by omega)
      have e2 : (most : Int) / 2 = ((most / 2 : Nat) : Int) := by omega
      obtain ⟨t, n, ht, hs, hn, hk, hp⟩ := ih (most / 2) (by omega) (at_ + 1) under (by omega) (by omega) (by omega) (by omega)
      obtain ⟨u, n2, hu, hs2, hn2, hk2, hp2⟩ := ih (most / 2) (by omega) n under (by omega) (by omega) (by omega) (by omega)
      unfold LamAt at ht hu
      rw [show (((at_ + 1 : Nat) : Int)) = (at_ : Int) + 1 by omega] at ht
      refine ⟨.a t u, n2, ?_, by simp only [Lm.a, Lm.size, Lm.sizes]; omega, by simp only [Lm.a, Lm.size, Lm.sizes]; omega, chk_app hk hk2, fun h => by simp [Lm.a, Lm.pure, Lm.pures, hp h, hp2 h]⟩
      unfold LamAt
      refine ok_R_LamFrom.ac fun C hC => ?_
      unfold ir_R_LamFrom
      repeat' (first | (with_reducible first | refine W ?_ | refine Wz0 ?_) | refine Cg _ (hraw) ?_ | refine Cg _ (p6) ?_ | refine Cg _ (ht) ?_ | refine Cg _ (hu) ?_ | refine Cg _ (lApp_a t u) ?_ | ((with_reducible first | refine Wo (fun K hK => ?_) | refine Wp ?_ | refine Wq ?_ | refine Wr ?_); (try simp only [go_sem, fN, seval, eT, iR, hm3, hx6, h3, d2.1, e2, dT, dF, nL]); (repeat with_reducible refine Ai ?_); (try (refine hK _ ?_; clear hK K)); (try with_reducible refine iC ?_)))
      simp only [go_sem, fN, seval, FinQ, AS.result, resAll, resOne, tupV]

theorem lamOfRawAt_a (l : List Int) (hl : ∀ n ∈ l, inR .i64 n) (hm : l.length ≤ maxLen) (consts : Int) (hc : 0 ≤ consts ∧ consts ≤ 40) (at_ most under : Nat) (h2 : most ≤ 1000) (h3 : under ≤ 1000) (h4 : at_ ≤ 10000) :
    ∃ t : Lm, ACalls Tryd.prog 5 [aInts l, aInt at_, aInt most, aInt under, aInt consts] (aLm t) ∧ t.size + 1 ≤ 3 * max most 1 ∧ t.chk 0 under = 0 ∧ (consts = 0 → t.pure = true) := by
  obtain ⟨t, n, ht, hs, _, hk, hp⟩ := lamFrom_a l hl hm consts hc most at_ under (Nat.zero_le _) h2 (by omega) (by omega)
  refine ⟨t, ?_, hs, hk, hp⟩
  unfold LamAt at ht
  refine ok_R_LamOfRaw.ac fun C hC => ?_
  unfold ir_R_LamOfRaw
  repeat' (first | (with_reducible first | refine W ?_ | refine Wz0 ?_) | refine Cg _ (ht) ?_ | ((with_reducible first | refine Wo (fun K hK => ?_) | refine Wp ?_ | refine Wq ?_ | refine Wr ?_); (try simp only [go_sem, fN, seval, eT, iR, dT, dF, nL]); (repeat with_reducible refine Ai ?_); (try (refine hK _ ?_; clear hK K)); (try with_reducible refine iC ?_)))
  simp only [go_sem, fN, seval, FinQ, AS.result, resAll, resOne, tupV]

theorem ext_snoc {s : ByteArray} {i : Nat} (h : i < s.size) : s.extract 0 (i + 1) = s.extract 0 i ++ s.extract i (i + 1) := by
  apply bytes_of
  have hl : s.data.toList.length = s.size := by simp
  rw [data_app]
  simp only [ByteArray.data_extract, Array.toList_extract, List.extract_eq_take_drop, List.drop_zero, Nat.sub_zero]
  rw [show i + 1 - i = 1 by omega, List.take_add_one]
  have : i < s.data.toList.length := by omega
  rw [List.getElem?_eq_getElem this, List.drop_eq_getElem_cons this]
  rfl
theorem ext_byte {s : ByteArray} {i : Nat} (h : i < s.size) : s.extract i (i + 1) = ⟨#[s.data.toList[i]'(by simpa using h)]⟩ := by
  apply bytes_of
  simp only [ByteArray.data_extract, Array.toList_extract, List.extract_eq_take_drop]
  rw [show i + 1 - i = 1 by omega, List.drop_eq_getElem_cons (by simpa using h)]
  rfl
theorem subQ_step {s : ByteArray} {i : Nat} (h : i < s.size) : (byteAt s i = 120 → subQ (s.extract 0 (i + 1)) = subQ (s.extract 0 i) ++ ⟨#[113]⟩) ∧ (¬ byteAt s i = 120 → subQ (s.extract 0 (i + 1)) = subQ (s.extract 0 i) ++ s.extract i (i + 1)) := by
  have hi : i < s.data.toList.length := by simpa using h
  have hb : byteAt s i = (s.data.toList[i].toNat : Int) := by
    unfold byteAt
    rw [List.getD_eq_getElem?_getD, List.getElem?_eq_getElem hi]
    rfl
  rw [ext_snoc h, subQ_app]
  refine ⟨fun e => ?_, fun e => ?_⟩
  · congr 1
    rw [ext_byte h]
    have : s.data.toList[i] = 120 := UInt8.toNat_inj.1 (by rw [hb] at e; show _ = 120; omega)
    rw [this]
    rfl
  · congr 1
    rw [ext_byte h]
    refine subQ_same fun b hm e' => e ?_
    have : b = s.data.toList[i] := by simpa using hm
    rw [hb, ← this, e']
    rfl
theorem topNames_a (l : List Int) (m1 m2 : Int) (hm : l.length ≤ maxLen) (hl : ∀ n ∈ l, inR .i64 n) (h1 : inR .i64 m1) (h2 : inR .i64 m2) : ACalls Tryd.prog 3 [aInts l, aInt m1, aInt m2] (aBool true) := by
  have p2 := pick_a m2 4 h2 (by decide)
  have p1 := pick_a m1 40 h1 (by decide)
  obtain ⟨a1, a2⟩ := pickI_range m2 4 (by decide)
  obtain ⟨b1, b2⟩ := pickI_range m1 40 (by decide)
  generalize pickI m2 4 = n at *
  generalize pickI m1 40 = x1 at *
  obtain ⟨n, rfl⟩ : ∃ k : Nat, n = k := ⟨n.toNat, by omega⟩
  obtain ⟨x1, rfl⟩ : ∃ k : Nat, x1 = k := ⟨x1.toNat, by omega⟩
  have hn4 : n < 4 := by omega
  obtain ⟨t, ht, hz, hk, _⟩ := lamOfRawAt_a l hl hm 3 (by decide) 0 x1 n (by omega) (by omega) (by omega)
  rw [show ((0 : Nat) : Int) = 0 from rfl] at ht
  have hfl := freeN_len hn4
  have hfm := freeN_may n hn4
  have hmay : t.may 0 (freeN n).length = 0 := by
    unfold Lm.may
    rw [hfl, if_neg (by omega), if_neg (by omega)]
    exact hk
  obtain ⟨s, hs, h0, hsz⟩ := text_ex hfm hmay
  have hT := ltext_ok hfm hmay hs h0 (by omega)
  rw [hfl] at hs
  have hP := lparse_a s (freeN n) (by omega)
  rw [lparse_back (.inl rfl) hn4 hs (by omega) (by omega)] at hP
  have hs2 := ltx_sub hs
  rw [freeN_sub] at hs2
  have hQ := lparse_a (subQ s) (freeN n) (by omega)
  rw [lparse_back (.inr rfl) hn4 hs2 (by omega) (by rw [subQ_size]; omega)] at hQ
  have hE := sameLam_a t
  unfold lreadV at hP hQ
  dsimp only at hP hQ
  have htk : (n : Int).toNat = n := by omega
  have efr : List.take n [[SV.str ⟨#[121]⟩], [SV.str ⟨#[122]⟩], [SV.str ⟨#[119]⟩]] = (freeN n).map encS := by
    unfold freeN
    rw [List.map_take]
    rfl
  refine ok_metaprunetop_TopNames.ac fun C hC => ?_
  unfold ir_metaprunetop_TopNames
  by_cases hq : (256 : Int) < l.length
  · repeat' (first | (with_reducible first | refine W ?_ | refine Wz0 ?_) | ((with_reducible first | refine Wo (fun K hK => ?_) | refine Wp ?_ | refine Wq ?_ | refine Wr ?_); (try simp only [go_sem, fN, seval, eT, iR, hq, dT, dF, nL]); (repeat with_reducible refine Ai ?_); (try (refine hK _ ?_; clear hK K)); (try with_reducible refine iC ?_)))
    simp only [go_sem, fN, seval, FinQ, AS.result, resAll, resOne, tupV]
  repeat' (first | (with_reducible first | refine W ?_ | refine Wz0 ?_) | refine Cg _ (p1) ?_ | refine Cg _ (p2) ?_ | refine Cg _ (ht) ?_ | refine Cg _ (hT) ?_ | refine Cg _ (hP) ?_ | refine Cg _ (hE) ?_ | ((with_reducible first | refine Wo (fun K hK => ?_) | refine Wp ?_ | refine Wq ?_ | refine Wr ?_); (try simp only [go_sem, fN, seval, eT, iR, hq, htk, efr, dT, dF, nL]); (repeat with_reducible refine Ai ?_); (try (refine hK _ ?_; clear hK K)); (try with_reducible refine iC ?_)))
  refine IWP.loop (fun m x => ∃ i, i ≤ s.size ∧ m = s.size - i ∧ x.env 8 = .one (.ptr 8 1 0 0) ∧ x.env 9 = aStrs (freeN n) ∧ x.env 10 = aStr s ∧ x.env 14 = aStr (subQ (s.extract 0 i)) ∧ x.env 15 = aInt i ∧ x.S 8 = some (.box 26 [.st (.int .i64 t.kind), .st (.int .i64 t.idx), .st (.list (t.subs.map encL))]) ∧ x.S 16 = none) s.size ⟨0, Nat.zero_le _, rfl, ?_⟩ ?_
  · have hnil : subQ (s.extract 0 0) = ⟨#[]⟩ := ByteArray.size_eq_zero_iff.1 (by rw [subQ_size, ByteArray.size_extract]; omega)
    simp only [go_sem, fN, seval, eT, iR, AS.start, hnil]
  rintro m ⟨env, S⟩ ⟨i, hi, rfl, v8, v9, v10, v14, v15, t8, t16⟩
  simp only at v8 v9 v10 v14 v15 t8 t16
  by_cases hlt : (i : Int) < s.size
  · have hlt' : i < s.size := by omega
    obtain ⟨q1, q2⟩ := subQ_step hlt'
    have hz1 : (subQ (s.extract 0 i)).size ≤ 4000 := by rw [subQ_size, ByteArray.size_extract]; omega
    have hz2 : (s.extract i (i + 1)).size ≤ 1 := by rw [ByteArray.size_extract]; omega
    have h113 : (⟨#[113]⟩ : ByteArray).size = 1 := rfl
    have hii : ((i : Int) + 1).toNat = i + 1 := by omega
    by_cases hx : byteAt s i = 120
    · repeat' (first | (with_reducible first | refine W ?_ | refine Wz0 ?_) | ((with_reducible first | refine Wo (fun K hK => ?_) | refine Wp ?_ | refine Wq ?_ | refine Wr ?_); (try simp only [go_sem, fN, seval, eT, iR, v8, v9, v10, v14, v15, t8, hlt, hlt', byteN_eq, hx, h113, dT, dF, nL]); (repeat with_reducible refine Ai ?_); (try (refine hK _ ?_; clear hK K)); (try with_reducible refine iC ?_)))
      refine then_normal ⟨s.size - (i + 1), by omega, i + 1, by omega, rfl, ?_⟩
      simp only [go_sem, fN, seval, eT, iR, v8, v9, v10, v14, v15, t8, t16]
      refine ⟨?_, by congr 3⟩
      rw [q1 hx]
    · repeat' (first | (with_reducible first | refine W ?_ | refine Wz0 ?_) | ((with_reducible first | refine Wo (fun K hK => ?_) | refine Wp ?_ | refine Wq ?_ | refine Wr ?_); (try simp only [go_sem, fN, seval, eT, iR, v8, v9, v10, v14, v15, t8, hlt, hlt', byteN_eq, hx, h113, hii, dT, dF, nL]); (repeat with_reducible refine Ai ?_); (try (refine hK _ ?_; clear hK K)); (try with_reducible refine iC ?_)))
      refine then_normal ⟨s.size - (i + 1), by omega, i + 1, by omega, rfl, ?_⟩
      simp only [go_sem, fN, seval, eT, iR, v8, v9, v10, v14, v15, t8, t16]
      refine ⟨?_, by congr 3⟩
      rw [q2 hx]
  · have hall : s.extract 0 i = s := by
      rw [show i = s.size by omega, ByteArray.extract_zero_size]
    rw [hall] at v14
    repeat' (first | (with_reducible first | refine W ?_ | refine Wz0 ?_) | refine Cg _ (hQ) ?_ | refine Cg _ (hE) ?_ | ((with_reducible first | refine Wo (fun K hK => ?_) | refine Wp ?_ | refine Wq ?_ | refine Wr ?_); (try simp only [go_sem, fN, seval, eT, iR, v8, v9, v10, v14, v15, t8, t16, hlt, dT, dF, nL]); (repeat with_reducible refine Ai ?_); (try (refine hK _ ?_; clear hK K)); (try with_reducible refine iC ?_)))
    simp only [go_sem, fN, seval, FinQ, AS.result, resAll, resOne, tupV]

end Go.Proofs.YtaedkffopponhaaDoor
