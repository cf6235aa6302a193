/-
  Proved: for any two automata and a term, the automata that are told accept it just if both, or one of both, do: the law AutoPairs returns true. Conditions: none.
-/
import Derived.Test.YtghjdcfoaackoaaBAuto7
import Derived.Test.YtghjdcfoaackoaaBRow
namespace Go.Proofs.Ytghjdcfoaackoaa.autoPairs
open Go Go.RowKit Go.ChangeShapes Go.WideShapes Go.ChangeAt
set_option linter.unusedVariables false

def encAu (a : Au) : List SV := [.int .i64 a.states, .list (a.moves.map encMv), .list (a.last.map encI)]
section
variable {H : Type} {enc : TypeId × Value → H} {W : World} {sp : Nat → Bool} {hd : Bool} {base : Nat}
theorem mv_trod (fuel : Nat) (cs : List Value) (x : DataW H × List MemPlace) (h : DataW.trod enc Try.prog W base sp hd fuel 38 cs = some x) : ∃ m : Mv, All2 (SRep (sto W)) cs (encMv m) := by
  obtain ⟨a, b, c, y0, y1, y2, n, hn, rfl, h0, h1, h2⟩ := trod_three Try.underlying38 rfl rfl rfl (show Try.prog.cellsOf 9 = 1 by kernel_rfl) (show Try.prog.cellsOf 23 = 1 by kernel_rfl) (show Try.prog.cellsOf 3 = 1 by kernel_rfl) (show Try.prog.cellsOf 38 = 3 by kernel_rfl) h
  obtain ⟨s, hs⟩ := str_trod Try.underlying9 _ _ _ h0
  obtain ⟨l, hl⟩ := list_of_trod (e0 := encI) (k := 1) Try.underlying23 (by kernel_rfl) (fun _ => rfl) (by decide) (fun m cs y _ hy => int_trod Try.underlying3 m cs y hy) h1
  obtain ⟨k, hk⟩ := int_trod Try.underlying3 _ _ _ h2
  exact ⟨⟨s, l, k⟩, hs.append (hl.append hk)⟩
theorem au_trod (fuel : Nat) (cs : List Value) (x : DataW H × List MemPlace) (h : DataW.trod enc Try.prog W base sp hd fuel 25 cs = some x) : ∃ a : Au, All2 (SRep (sto W)) cs (encAu a) := by
  obtain ⟨a, b, c, y0, y1, y2, n, hn, rfl, h0, h1, h2⟩ := trod_three Try.underlying25 rfl rfl rfl (show Try.prog.cellsOf 3 = 1 by kernel_rfl) (show Try.prog.cellsOf 22 = 1 by kernel_rfl) (show Try.prog.cellsOf 23 = 1 by kernel_rfl) (show Try.prog.cellsOf 25 = 3 by kernel_rfl) h
  obtain ⟨k, hk⟩ := int_trod Try.underlying3 _ _ _ h0
  obtain ⟨ms, hms⟩ := list_of_trod (e0 := encMv) (k := 3) Try.underlying22 (by kernel_rfl) (fun _ => rfl) (by decide) (fun m cs y _ hy => mv_trod m cs y hy) h1
  obtain ⟨l, hl⟩ := list_of_trod (e0 := encI) (k := 1) Try.underlying23 (by kernel_rfl) (fun _ => rfl) (by decide) (fun m cs y _ hy => int_trod Try.underlying3 m cs y hy) h2
  exact ⟨⟨k, ms, l⟩, hk.append (hms.append hl)⟩
/-- An argument that is an automaton. -/
theorem arg_au {r : Reach} {b0 : Nat} {v : Value} {d : DataW H} {p : List MemPlace} (hv : Value.okWide Try.prog W r b0 25 v) (h : DataW.Trod enc Try.prog W base sp hd 25 v d p) : ∃ a : Au, VRep (sto W) noS noH v (aAu a) := by
  obtain ⟨a, ha⟩ := arg_struct Try.underlying25 hv au_trod h
  exact ⟨a, ha⟩
end
theorem own : ownKnob Try.prog.godebug = none := by kernel_rfl
theorem laid : laidOutB Try.prog = true := by kernel_rfl

set_option maxRecDepth 100000 in
/-- What the walk gives. -/
theorem contract (H : Type) (enc : TypeId × Value → H) (W : World) (base : Nat) (args : Array Value) (ds gs : List (DataW H)) (before : List MemPlace)
    (hval : ∀ (j : Nat) t v, Try.f3.params[j]? = some t → args[j]? = some v → Value.okWide Try.prog W .any base t v)
    (hW : DataW.Whole enc Try.prog Try.f3.params.toList Rows.autoPairsSpec.vars false W args.toList ds gs before) :
    Calls Try.prog 3 args W fun e W' => ∃ v, e = .returned v ∧ Rows.autoPairsSpec.post enc Try.prog Try.f3 false true false false W args v W' := by
  obtain ⟨p, q, hA0, hV, rfl, hfz, hnd⟩ := id hW
  obtain ⟨rfl, rfl⟩ := trodVars_none hV
  have hA : DataW.TrodAll enc Try.prog W 0 (fun _ => true) true Try.f3.params.toList args.toList ds p := hA0
  rw [Try.params3] at hA hval
  obtain ⟨v0, v1, v2, d0, d1, d2, p0, p1, p2, hargs, rfl, rfl, h0, h1, h2⟩ := trodAll_three hA
  obtain rfl : args = #[v0, v1, v2] := by cases args; simp_all
  obtain ⟨a, r0⟩ := arg_au (hval 0 25 v0 rfl rfl) h0
  obtain ⟨b, r1⟩ := arg_au (hval 1 25 v1 rfl rfl) h1
  obtain ⟨t, r2⟩ := arg_tm (hval 2 28 v2 rfl rfl) h2
  refine (acalls_true (autoPairs_a a b t) globIn_nil (fit_sto W) (vs := [v0, v1, v2]) (.cons r0 (.cons r1 (.cons r2 .nil)))).mono fun e W' ⟨he, hb⟩ => ⟨_, he, ?_⟩
  exact law_post hW rfl rfl Try.underlying4 rfl rfl rfl laid (by kernel_rfl) hb

set_option maxRecDepth 100000 in
theorem lifted (os : Os) (started : os.Started) (H : Type) (enc : TypeId × Value → H) :
    ReturnsInHanded {} Try.checked os 3 .any (Rows.autoPairsSpec.pre6 enc Try.prog Try.f3 Rows.autoPairsRow.domain false) (Rows.autoPairsSpec.post enc Try.prog Try.f3 false true false false) := by
  refine returnsInHanded_of_change (C := Try.checked) own started (by kernel_rfl) Try.func3
    (ChangeSpec.witness6 (enc := enc) (C := Try.checked) false ⟨#[], #[.agg #[.int .i64 0, .slice none 0 0, .slice none 0 0], .agg #[.int .i64 0, .slice none 0 0, .slice none 0 0], .agg #[.string .empty, .slice none 0 0]], []⟩ 8 (by kernel_rfl) (by kernel_rfl) (by kernel_rfl) (by kernel_rfl)) ?_
  intro W base args ds gs before hval hW _ _
  exact contract H enc W base args ds gs before hval hW

theorem proved : Rows.AutoPairsSaid :=
  OpenClaim.holds_of_wide 3 Try.f3 rfl rfl rfl rfl rfl rfl rfl ⟨rfl, rfl, rfl, rfl, rfl⟩ rfl rfl rfl rfl rfl (by kernel_rfl) Try.func3 (by kernel_rfl)
    (of_decide_eq_true (by kernel_rfl)) (by unfold Func.isWrapper; first | (rw [if_pos (by decide +kernel)]; kernel_rfl) | (rw [if_neg (by decide +kernel)]; exact ⟨rfl, rfl⟩))
    (fun os started H enc _ => lifted os started H enc)
end Go.Proofs.Ytghjdcfoaackoaa.autoPairs
