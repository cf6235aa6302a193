/-
  Terms, slices of ints as a law's arguments.
  Conditions: none.
-/
import Derived.Test.YtpajlfdhmjgpnaaRowG
namespace Go.Proofs.Ytpajlfdhmjgpnaa
open Go Go.RowKit Go.ChangeShapes Go.WideShapes Go.ChangeAt
set_option maxHeartbeats 400000
set_option linter.unusedVariables false

section
variable {H : Type} {enc : TypeId × Value → H} {W : World} {sp : Nat → Bool} {hd : Bool} {base : Nat}
set_option maxRecDepth 100000 in
theorem tm_trod : ∀ (fuel : Nat) (cs : List Value) (x : DataW H × List MemPlace), DataW.trod enc Try.prog W base sp hd fuel 24 cs = some x → ∃ t : Tm, All2 (SRep (sto W)) cs (encT t) := by
  intro fuel
  induction fuel using Nat.strongRecOn with
  | _ fuel ih =>
  intro cs x h
  obtain ⟨a, b, y0, y1, n, hn, rfl, h0, h1⟩ := trod_two Try.underlying24 rfl rfl (show Try.prog.cellsOf 9 = 1 by kernel_rfl) (show Try.prog.cellsOf 22 = 1 by kernel_rfl) (show Try.prog.cellsOf 24 = 2 by kernel_rfl) h
  obtain ⟨s, hs⟩ := str_trod Try.underlying9 _ _ _ h0
  obtain ⟨xs, hxs⟩ := list_of_trod (e0 := encT) Try.underlying22 (show Try.prog.cellsOf 24 = 2 by kernel_rfl) (fun a => by rw [encT_eq]; rfl) (by decide) (fun m cs y hm hy => ih m (by omega) cs y hy) h1
  exact ⟨.mk s xs, by rw [encT_eq]; exact hs.append hxs⟩
set_option maxRecDepth 100000 in
/-- An argument that is a term. -/
theorem arg_tm {r : Reach} {b0 : Nat} {v : Value} {d : DataW H} {p : List MemPlace} (hv : Value.okWide Try.prog W r b0 24 v) (h : DataW.Trod enc Try.prog W base sp hd 24 v d p) : ∃ t : Tm, VRep (sto W) noS noH v (aTm t) := by
  obtain ⟨t, ht⟩ := arg_struct Try.underlying24 hv tm_trod h
  exact ⟨t, by rw [encT_eq] at ht; exact ht⟩
set_option maxRecDepth 100000 in
/-- An argument that is a slice of ints. -/
theorem arg_ints {r : Reach} {b0 : Nat} {v : Value} {d : DataW H} {p : List MemPlace} (hv : Value.okWide Try.prog W r b0 37 v) (h : DataW.Trod enc Try.prog W base sp hd 37 v d p) : ∃ l : List Int, VRep (sto W) noS noH v (aInts l) :=
  arg_list (k := 1) Try.underlying37 (by kernel_rfl) (fun _ => rfl) (by decide) hv (int_trod Try.underlying3) h
end
end Go.Proofs.Ytpajlfdhmjgpnaa
