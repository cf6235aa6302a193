/-
  Proved: for all terms and places, putting one term at a place of another one gives what A3 says, or its error: the law TermPuts returns true. Conditions: none.
-/
import Derived.Test.YtkjbaabkaboaoaaTermPuts
import Derived.Test.YtkjbaabkaboaoaaRow
namespace Go.Proofs.Ytkjbaabkaboaoaa.termPuts
open Go Go.RowKit Go.ChangeShapes Go.WideShapes Go.ChangeAt
set_option linter.unusedVariables false

theorem own : ownKnob Try.prog.godebug = none := by kernel_rfl
theorem laid : laidOutB Try.prog = true := by kernel_rfl

set_option maxRecDepth 100000 in
/-- What the walk gives. -/
theorem contract (H : Type) (enc : TypeId × Value → H) (W : World) (base : Nat) (args : Array Value) (ds gs : List (DataW H)) (before : List MemPlace)
    (hval : ∀ (j : Nat) t v, Try.f5.params[j]? = some t → args[j]? = some v → Value.okWide Try.prog W .any base t v)
    (hW : DataW.Whole enc Try.prog Try.f5.params.toList Rows.termPutsSpec.vars false W args.toList ds gs before) :
    Calls Try.prog 5 args W fun e W' => ∃ v, e = .returned v ∧ Rows.termPutsSpec.post enc Try.prog Try.f5 false true false false W args v W' := by
  obtain ⟨p, q, hA0, hV, rfl, hfz, hnd⟩ := id hW
  obtain ⟨rfl, rfl⟩ := trodVars_none hV
  have hA : DataW.TrodAll enc Try.prog W 0 (fun _ => true) true Try.f5.params.toList args.toList ds p := hA0
  rw [Try.params5] at hA hval
  obtain ⟨v0, v1, v2, d0, d1, d2, p0, p1, p2, hargs, rfl, rfl, h0, h1, h2⟩ := trodAll_three hA
  obtain rfl : args = #[v0, v1, v2] := by cases args; simp_all
  obtain ⟨t, ht⟩ := open_tm (hval 0 25 v0 rfl rfl) h0
  obtain ⟨is, q, l, c, rfl, hq⟩ := open_intsl (hval 1 31 v1 rfl rfl) h1
  obtain ⟨x, hx⟩ := open_tm (hval 2 25 v2 rfl rfl) h2
  refine (termPuts_walk t x is (sto W) v0 v2 q l c W (fit_sto W) ht hx hq).mono fun e W' ⟨he, hb⟩ => ⟨_, he, ?_⟩
  exact law_post hW rfl rfl Try.underlying4 rfl rfl rfl laid (by kernel_rfl) hb

set_option maxRecDepth 100000 in
theorem lifted (os : Os) (started : os.Started) (H : Type) (enc : TypeId × Value → H) :
    ReturnsInHanded {} Try.checked os 5 .any (Rows.termPutsSpec.pre6 enc Try.prog Try.f5 Rows.termPutsRow.domain false) (Rows.termPutsSpec.post enc Try.prog Try.f5 false true false false) := by
  refine returnsInHanded_of_change (C := Try.checked) own started (by kernel_rfl) Try.func5
    (ChangeSpec.witness6 (enc := enc) (C := Try.checked) false ⟨#[], #[.agg #[.string .empty, .slice none 0 0], .slice none 0 0, .agg #[.string .empty, .slice none 0 0]], []⟩ 8 (by kernel_rfl) (by kernel_rfl) (by kernel_rfl) (by kernel_rfl)) ?_
  intro W base args ds gs before hval hW _ _
  exact contract H enc W base args ds gs before hval hW

theorem proved : Rows.TermPutsSaid :=
  OpenClaim.holds_of_wide 5 Try.f5 rfl rfl rfl rfl rfl rfl rfl ⟨rfl, rfl, rfl, rfl, rfl⟩ rfl rfl rfl rfl rfl (by kernel_rfl) Try.func5 (by kernel_rfl)
    (of_decide_eq_true (by kernel_rfl)) (by unfold Func.isWrapper; first | (rw [if_pos (by decide +kernel)]; kernel_rfl) | (rw [if_neg (by decide +kernel)]; exact ⟨rfl, rfl⟩))
    (fun os started H enc _ => lifted os started H enc)
end Go.Proofs.Ytkjbaabkaboaoaa.termPuts
