/-
  Proved: for all bindings and terms, checking, applying and classing the bindings give what B1 and B2 say: the law SubstSays returns true. Conditions: none.
-/
import Derived.Test.YtkjbaabkaboaoaaBKind
import Derived.Test.YtkjbaabkaboaoaaBRow
namespace Go.Proofs.Ytkjbaabkaboaoaa.substSays
open Go Go.RowKit Go.ChangeShapes Go.WideShapes Go.ChangeAt
set_option linter.unusedVariables false

section
variable {H : Type} {enc : TypeId × Value → H} {W : World} {sp : Nat → Bool} {hd : Bool} {base : Nat}
set_option maxRecDepth 100000 in
theorem bd_trod (fuel : Nat) (cs : List Value) (x : DataW H × List MemPlace) (h : DataW.trod enc Try.prog W base sp hd fuel 110 cs = some x) : ∃ b : Bd, All2 (SRep (sto W)) cs (encB b) := by
  obtain ⟨a, b, y0, y1, n, hn, rfl, h0, h1⟩ := trod_two Try.underlying110 rfl rfl (show Try.prog.cellsOf 9 = 1 by kernel_rfl) (show Try.prog.cellsOf 25 = 2 by kernel_rfl) (show Try.prog.cellsOf 110 = 3 by kernel_rfl) h
  obtain ⟨s, hs⟩ := str_trod Try.underlying9 _ _ _ h0
  obtain ⟨t, ht⟩ := tm_trod _ _ _ h1
  rw [encT_eq] at ht
  exact ⟨(s, t), hs.append ht⟩
set_option maxRecDepth 100000 in
theorem arg_bds {r : Reach} {b0 : Nat} {v : Value} {d : DataW H} {p : List MemPlace} (hv : Value.okWide Try.prog W r b0 71 v) (h : DataW.Trod enc Try.prog W base sp hd 71 v d p) : ∃ l : List Bd, VRep (sto W) noS noH v (aBds l) :=
  arg_list (k := 3) Try.underlying71 (by kernel_rfl) (fun _ => rfl) (by decide) hv bd_trod h
end

theorem own : ownKnob Try.prog.godebug = none := by kernel_rfl
theorem laid : laidOutB Try.prog = true := by kernel_rfl

set_option maxRecDepth 100000 in
/-- What the walk gives. -/
theorem contract (H : Type) (enc : TypeId × Value → H) (W : World) (base : Nat) (args : Array Value) (ds gs : List (DataW H)) (before : List MemPlace)
    (hval : ∀ (j : Nat) t v, Try.f10.params[j]? = some t → args[j]? = some v → Value.okWide Try.prog W .any base t v)
    (hW : DataW.Whole enc Try.prog Try.f10.params.toList Rows.substSaysSpec.vars false W args.toList ds gs before) :
    Calls Try.prog 10 args W fun e W' => ∃ v, e = .returned v ∧ Rows.substSaysSpec.post enc Try.prog Try.f10 false true false false W args v W' := by
  obtain ⟨p, q, hA0, hV, rfl, hfz, hnd⟩ := id hW
  obtain ⟨rfl, rfl⟩ := trodVars_none hV
  have hA : DataW.TrodAll enc Try.prog W 0 (fun _ => true) true Try.f10.params.toList args.toList ds p := hA0
  rw [Try.params10] at hA hval
  obtain ⟨v0, v1, d0, d1, p0, p1, hargs, rfl, rfl, h0, h1⟩ := trodAll_two hA
  obtain rfl : args = #[v0, v1] := by cases args; simp_all
  obtain ⟨s, r0⟩ := arg_bds (hval 0 71 v0 rfl rfl) h0
  obtain ⟨t, r1⟩ := arg_tm (hval 1 25 v1 rfl rfl) h1
  refine (acalls_true (substSays_a s t) globIn_nil (fit_sto W) (vs := [v0, v1]) (.cons r0 (.cons r1 .nil))).mono fun e W' ⟨he, hb⟩ => ⟨_, he, ?_⟩
  exact law_post hW rfl rfl Try.underlying4 rfl rfl rfl laid (by kernel_rfl) hb

set_option maxRecDepth 100000 in
theorem lifted (os : Os) (started : os.Started) (H : Type) (enc : TypeId × Value → H) :
    ReturnsInHanded {} Try.checked os 10 .any (Rows.substSaysSpec.pre6 enc Try.prog Try.f10 Rows.substSaysRow.domain false) (Rows.substSaysSpec.post enc Try.prog Try.f10 false true false false) := by
  refine returnsInHanded_of_change (C := Try.checked) own started (by kernel_rfl) Try.func10
    (ChangeSpec.witness6 (enc := enc) (C := Try.checked) false ⟨#[], #[.slice none 0 0, .agg #[.string .empty, .slice none 0 0]], []⟩ 8 (by kernel_rfl) (by kernel_rfl) (by kernel_rfl) (by kernel_rfl)) ?_
  intro W base args ds gs before hval hW _ _
  exact contract H enc W base args ds gs before hval hW

theorem proved : Rows.SubstSaysSaid :=
  OpenClaim.holds_of_wide 10 Try.f10 rfl rfl rfl rfl rfl rfl rfl ⟨rfl, rfl, rfl, rfl, rfl⟩ rfl rfl rfl rfl rfl (by kernel_rfl) Try.func10 (by kernel_rfl)
    (of_decide_eq_true (by kernel_rfl)) (by unfold Func.isWrapper; first | (rw [if_pos (by decide +kernel)]; kernel_rfl) | (rw [if_neg (by decide +kernel)]; exact ⟨rfl, rfl⟩))
    (fun os started H enc _ => lifted os started H enc)
end Go.Proofs.Ytkjbaabkaboaoaa.substSays
