/-
  Proved: for all equations, unification gives the bindings or the error that D1 says: the law UnifySays returns true. Conditions: none.
-/
import Derived.Test.YtnbdpkgndhacfaaBUnify4
import Derived.Test.YtnbdpkgndhacfaaBRow
namespace Go.Proofs.Ytnbdpkgndhacfaa.unifySays
open Go Go.RowKit Go.ChangeShapes Go.WideShapes Go.ChangeAt
set_option linter.unusedVariables false

section
variable {H : Type} {enc : TypeId × Value → H} {W : World} {sp : Nat → Bool} {hd : Bool} {base : Nat}
set_option maxRecDepth 100000 in
theorem pr_trod (fuel : Nat) (cs : List Value) (x : DataW H × List MemPlace) (h : DataW.trod enc Try.prog W base sp hd fuel 57 cs = some x) : ∃ p : Pr, All2 (SRep (sto W)) cs (encP p) := by
  obtain ⟨a, b, y0, y1, n, hn, rfl, h0, h1⟩ := trod_two Try.underlying57 rfl rfl (show Try.prog.cellsOf 42 = 2 by kernel_rfl) (show Try.prog.cellsOf 42 = 2 by kernel_rfl) (show Try.prog.cellsOf 57 = 4 by kernel_rfl) h
  obtain ⟨s, hs⟩ := tm_trod _ _ _ h0
  obtain ⟨t, ht⟩ := tm_trod _ _ _ h1
  rw [encT_eq] at hs ht
  exact ⟨(s, t), hs.append ht⟩
set_option maxRecDepth 100000 in
theorem arg_prs {r : Reach} {b0 : Nat} {v : Value} {d : DataW H} {p : List MemPlace} (hv : Value.okWide Try.prog W r b0 30 v) (h : DataW.Trod enc Try.prog W base sp hd 30 v d p) : ∃ l : List Pr, VRep (sto W) noS noH v (aPrs l) :=
  arg_list (k := 4) Try.underlying30 (by kernel_rfl) (fun _ => rfl) (by decide) hv pr_trod h
end

theorem own : ownKnob Try.prog.godebug = none := by kernel_rfl
theorem laid : laidOutB Try.prog = true := by kernel_rfl

set_option maxRecDepth 100000 in
/-- What the walk gives. -/
theorem contract (H : Type) (enc : TypeId × Value → H) (W : World) (base : Nat) (args : Array Value) (ds gs : List (DataW H)) (before : List MemPlace)
    (hval : ∀ (j : Nat) t v, Try.f4.params[j]? = some t → args[j]? = some v → Value.okWide Try.prog W .any base t v)
    (hW : DataW.Whole enc Try.prog Try.f4.params.toList Rows.unifySaysSpec.vars false W args.toList ds gs before) :
    Calls Try.prog 4 args W fun e W' => ∃ v, e = .returned v ∧ Rows.unifySaysSpec.post enc Try.prog Try.f4 false true false false W args v W' := by
  obtain ⟨p, q, hA0, hV, rfl, hfz, hnd⟩ := id hW
  obtain ⟨rfl, rfl⟩ := trodVars_none hV
  have hA : DataW.TrodAll enc Try.prog W 0 (fun _ => true) true Try.f4.params.toList args.toList ds p := hA0
  rw [Try.params4] at hA hval
  obtain ⟨v0, d0, rfl, rfl, h0⟩ := trodAll_one hA
  obtain ⟨l, r0⟩ := arg_prs (hval 0 30 v0 rfl rfl) h0
  refine (acalls_true (unifySays_a l) globIn_nil (fit_sto W) (vs := [v0]) (.cons r0 .nil)).mono fun e W' ⟨he, hb⟩ => ⟨_, he, ?_⟩
  exact law_post hW rfl rfl Try.underlying4 rfl rfl rfl laid (by kernel_rfl) hb

set_option maxRecDepth 100000 in
theorem lifted (os : Os) (started : os.Started) (H : Type) (enc : TypeId × Value → H) :
    ReturnsInHanded {} Try.checked os 4 .any (Rows.unifySaysSpec.pre6 enc Try.prog Try.f4 Rows.unifySaysRow.domain false) (Rows.unifySaysSpec.post enc Try.prog Try.f4 false true false false) := by
  refine returnsInHanded_of_change (C := Try.checked) own started (by kernel_rfl) Try.func4
    (ChangeSpec.witness6 (enc := enc) (C := Try.checked) false ⟨#[], #[.slice none 0 0], []⟩ 8 (by kernel_rfl) (by kernel_rfl) (by kernel_rfl) (by kernel_rfl)) ?_
  intro W base args ds gs before hval hW _ _
  exact contract H enc W base args ds gs before hval hW

theorem proved : Rows.UnifySaysSaid :=
  OpenClaim.holds_of_wide 4 Try.f4 rfl rfl rfl rfl rfl rfl rfl ⟨rfl, rfl, rfl, rfl, rfl⟩ rfl rfl rfl rfl rfl (by kernel_rfl) Try.func4 (by kernel_rfl)
    (of_decide_eq_true (by kernel_rfl)) (by unfold Func.isWrapper; first | (rw [if_pos (by decide +kernel)]; kernel_rfl) | (rw [if_neg (by decide +kernel)]; exact ⟨rfl, rfl⟩))
    (fun os started H enc _ => lifted os started H enc)
end Go.Proofs.Ytnbdpkgndhacfaa.unifySays
