/-
  Proved: for every variable and term, abstraction without binders, and translation into a lambda term, give what O1 and O2 say: the law CombSays returns true; as a tied card. Conditions: none.
-/
import Derived.Test.YtecjikegppjdiaaDoorBToLaw
import Derived.Test.YtecjikegppjdiaaDoorGlobRow
import Derived.Test.YtecjikegppjdiaaDoorBRow
namespace Go.Proofs.YtecjikegppjdiaaDoor.combSays
open Go Go.RowKit Go.ChangeShapes Go.WideShapes Go.ChangeAt
set_option linter.unusedVariables false

theorem globIn5 {W : World} (h : laidMetH Tryd.prog Rows.combSaysRow.laid W) : GlobIn (sto W) := by
  rw [MakeChecks.laidMetH_plain _ _ _ (by kernel_rfl)] at h
  obtain ⟨ps, h, _, _⟩ := h
  obtain ⟨_, h1⟩ := laid_at (x := ("internal/strconv.uint64pow10", Rows.laid_internal_strconv_uint64pow10)) h (by simp [Rows.combSaysRow])
  obtain ⟨_, h2⟩ := laid_at (x := ("strconv.ErrSyntax", Rows.laid_strconv_ErrSyntax)) h (by simp [Rows.combSaysRow])
  intro y hy
  simp only [globs, List.mem_cons, List.not_mem_nil, or_false] at hy
  rcases hy with rfl | rfl
  · exact glob_pow h1
  · exact glob_syn h2

theorem own : ownKnob Tryd.prog.godebug = none := by kernel_rfl
theorem laid : laidOutB Tryd.prog = true := by kernel_rfl

set_option maxRecDepth 100000 in
/-- What the walk gives. -/
theorem contract (H : Type) (enc : TypeId × Value → H) (W : World) (base : Nat) (args : Array Value) (ds gs : List (DataW H)) (before : List MemPlace) (hL : laidMetH Tryd.prog Rows.combSaysRow.laid W)
    (hval : ∀ (j : Nat) t v, Tryd.f3.params[j]? = some t → args[j]? = some v → Value.okWide Tryd.prog W .any base t v)
    (hW : DataW.Whole enc Tryd.prog Tryd.f3.params.toList Rows.combSaysSpec.vars false W args.toList ds gs before) :
    Calls Tryd.prog 3 args W fun e W' => ∃ v, e = .returned v ∧ Rows.combSaysSpec.post enc Tryd.prog Tryd.f3 false true false false W args v W' := by
  have hG := globIn5 hL
  obtain ⟨p, q, hA0, hV, rfl, hfz, hnd⟩ := id hW
  obtain ⟨rfl, rfl⟩ := trodVars_none hV
  have hA : DataW.TrodAll enc Tryd.prog W 0 (fun _ => true) true Tryd.f3.params.toList args.toList ds p := hA0
  rw [Tryd.params3] at hA hval
  obtain ⟨v0, v1, d0, d1, p0, p1, hargs, rfl, rfl, h0, h1⟩ := trodAll_two hA
  obtain rfl : args = #[v0, v1] := by cases args; simp_all
  obtain ⟨s, r0⟩ := arg_str Tryd.underlying9 (hval 0 9 v0 rfl rfl) h0
  obtain ⟨t, r1⟩ := arg_tm (hval 1 24 v1 rfl rfl) h1
  refine (acalls_true (combSays_a s t) hG (fit_sto W) (vs := [v0, v1]) (.cons r0 (.cons r1 .nil))).mono fun e W' ⟨he, hb⟩ => ⟨_, he, ?_⟩
  exact law_post hW rfl rfl Tryd.underlying4 rfl rfl rfl laid (by kernel_rfl) hb

theorem door_met (os : Os) (args : Array Value) : laidMetH Tryd.prog Rows.combSaysRow.laid ((World.doorLaid Tryd.prog 400 os).forCall (fun _ _ => 0) ⟨#[], args, []⟩).memory :=
  laidMetH_of_parts3 (fuel := 8) (laidMet_of_run' 8 (by kernel_rfl) (by kernel_rfl)) (by kernel_rfl) (by kernel_rfl)

set_option maxRecDepth 100000 in
theorem lifted (os : Os) (started : os.Started) (H : Type) (enc : TypeId × Value → H) :
    ReturnsInHanded {} Tryd.checked os 3 .any (fun w args => (Rows.combSaysSpec.pre enc Tryd.prog Tryd.f3 [] false w args ∧ laidMetH Tryd.prog Rows.combSaysRow.laid w) ∧ sizedMet enc Tryd.prog Tryd.f3 (OpenSpec.ofChange Rows.combSaysSpec) false w args)
      (Rows.combSaysSpec.post enc Tryd.prog Tryd.f3 false true false false) := by
  refine returnsInHanded_of_change_and (C := Tryd.checked) (X := fun w _ => laidMetH Tryd.prog Rows.combSaysRow.laid w) (fun _ _ _ hh h => h.of_heap hh) own started (by kernel_rfl) Tryd.func3
    (ChangeSpec.witness_shaped (enc := enc) (C := Tryd.checked) (os := os) (X := fun w _ => laidMetH Tryd.prog Rows.combSaysRow.laid w) false (World.doorLaid Tryd.prog 400 os) #[.string .empty, .agg #[.string .empty, .slice none 0 0]] 8 rfl (World.shaped_of_RefB (by kernel_rfl) (by kernel_rfl)) (by kernel_rfl) (by kernel_rfl) (by kernel_rfl) (door_met os _)) ?_
  intro W base args ds gs before hval hW _ _ hL _
  exact contract H enc W base args ds gs before hL hval hW

theorem row_holds : Rows.CombSaysSaid :=
  OpenClaim.holds_of_wide 3 Tryd.f3 rfl rfl rfl rfl rfl rfl rfl ⟨rfl, rfl, rfl, rfl, rfl⟩ rfl rfl rfl rfl rfl (by kernel_rfl) Tryd.func3 (by kernel_rfl)
    (of_decide_eq_true (by kernel_rfl)) (by unfold Func.isWrapper; first | (rw [if_pos (by decide +kernel)]; kernel_rfl) | (rw [if_neg (by decide +kernel)]; exact ⟨rfl, rfl⟩))
    (fun os started H enc _ => lifted os started H enc)

theorem no_stand : (Tryd.f3.params.toList.all fun t => !Tryd.prog.wantsStandIn t) = true := by kernel_rfl
theorem proved : Rows.CombSaysCardSaid :=
  Claim7.holds_tied_plain_at .later [] [.data, .data, .data, .sentinel, .sentinel] true Rows.combSaysCard.stood.harness Rows.combSaysCard.stood.looks
    row_holds (fun _ h => by cases h) (by kernel_rfl) (fun _ h => by cases h) combSays_row_tie rfl ⟨rfl, rfl⟩ (by kernel_rfl) rfl
    (fun f fn hf hfn => by
      obtain rfl : f = 3 := Option.some.inj ((show Tryd.prog.funcNamed "metaprune/metaprunelaw.CombSays" = some 3 by kernel_rfl).symm.trans hf) |>.symm
      obtain rfl : fn = Tryd.f3 := (Option.some.inj (Tryd.func3.symm.trans hfn)).symm
      exact ⟨by kernel_rfl, fun j t ht => by
        have h1 := List.all_eq_true.1 no_stand t (by rw [Array.mem_toList_iff]; exact Array.mem_of_getElem? ht)
        have h2 : Tryd.prog.wantsStandIn t = false := by simpa using h1
        exact h2⟩)
    (by kernel_rfl)
end Go.Proofs.YtecjikegppjdiaaDoor.combSays
