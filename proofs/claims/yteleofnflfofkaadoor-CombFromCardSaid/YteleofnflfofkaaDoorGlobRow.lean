/-
  From a row's condition on the package-level variable that it lists to its cells; lambda terms as a law's arguments.
  Conditions: none.
-/
import Derived.Test.YteleofnflfofkaaDoorRowG
import Derived.Test.YteleofnflfofkaaDoorPLam
import Derived.Test.YteleofnflfofkaaDoorTie
import Derived.Test.YteleofnflfofkaaDoorCards
import Derived.LaidMore
import Derived.MakeChecks
import Derived.Stop.Joined
namespace Go.Proofs.YteleofnflfofkaaDoor
open Go Go.RowKit Go.ChangeShapes Go.WideShapes Go.ChangeAt
set_option maxHeartbeats 400000
set_option linter.unusedVariables false

theorem gSubs : Tryd.prog.globalNamed "metaprune/lambda.subs" = some 0 := by kernel_rfl
theorem tSubs : (Tryd.prog.globals[0]?).map (·.type) = some 73 := by kernel_rfl
theorem globIn_of_vars {W : World} {ps : List MemPlace} (h : DataW.LaidVars Tryd.prog W [("metaprune/lambda.subs", Rows.laid_metaprune_lambda_subs)] ps) : GlobIn (sto W) := by
  obtain ⟨g0, t0, cs0, f0, p0, q0, hg0, ht0, hv0, hd0, _, _⟩ := h
  obtain rfl := Option.some.inj (gSubs.symm.trans hg0)
  obtain rfl := Option.some.inj (tSubs.symm.trans ht0)
  obtain ⟨xs, m1, rfl, hx1, hlen, hn, hel⟩ := DataW.trod_array Tryd.underlying73 hd0
  have c1 : Tryd.prog.cellsOf 3 = 1 := by kernel_rfl
  have c6 : Tryd.prog.cellsOf 73 = 6 := by kernel_rfl
  rw [c6] at hlen
  simp only [c1, Nat.mul_one] at hel
  match xs, hn, hx1, hel with
  | [x0, x1, x2, x3, x4, x5], _, hx1, hel =>
  simp only [Rows.laid_metaprune_lambda_subs, Prod.mk.injEq, DataW.agg.injEq, List.map_cons, List.map_nil, List.cons.injEq] at hx1
  have key : ∀ (i : Nat) (x : DataW Unit × List MemPlace) (n : Int), i < 6 → [x0, x1, x2, x3, x4, x5][i]? = some x → DataW.lit (.int .i64 n) = x.1 → sto W ⟨0, 0 + i, none⟩ = some (.int .i64 n) := fun i x n hi hx hxn => by
    obtain ⟨k, e1, e2, _⟩ := DataW.trod_int Tryd.underlying3 ((hel i hi).trans hx)
    have hk : n = k := by
      rw [e2] at hxn
      simpa using hxn
    subst hk
    have h1 := World.var?_cell hg0 hv0 i
    have h2 : cs0[i]? = some (.int .i64 n) := by
      have h3 := congrArg (fun l : List Value => l[0]?) e1
      simp only [List.getElem?_take, List.getElem?_drop] at h3
      simpa using h3
    unfold sto
    rw [Nat.zero_add, h1, h2]
  obtain ⟨⟨k0, k1, k2, k3, k4, k5, _⟩, _⟩ := hx1
  intro y hy
  have hy' : y = (0, [.int .i64 0, .int .i64 0, .int .i64 1, .int .i64 2, .int .i64 0, .int .i64 0]) := by simpa [globs] using hy
  subst hy'
  have in0 : inR .i64 0 := by rw [inR_i64]; omega
  have in1 : inR .i64 1 := by rw [inR_i64]; omega
  have in2 : inR .i64 2 := by rw [inR_i64]; omega
  refine ⟨fun j => match j with | 2 => .int .i64 1 | 3 => .int .i64 2 | _ => .int .i64 0, fun j a ha => ?_, fun j a ha => ?_⟩
  · match j, ha with
    | 0, _ => exact key 0 x0 0 (by decide) rfl k0
    | 1, _ => exact key 1 x1 0 (by decide) rfl k1
    | 2, _ => exact key 2 x2 1 (by decide) rfl k2
    | 3, _ => exact key 3 x3 2 (by decide) rfl k3
    | 4, _ => exact key 4 x4 0 (by decide) rfl k4
    | 5, _ => exact key 5 x5 0 (by decide) rfl k5
    | j + 6, ha => simp at ha
  · match j, ha with
    | 0, ha => cases ha; exact .int in0
    | 1, ha => cases ha; exact .int in0
    | 2, ha => cases ha; exact .int in1
    | 3, ha => cases ha; exact .int in2
    | 4, ha => cases ha; exact .int in0
    | 5, ha => cases ha; exact .int in0
    | j + 6, ha => simp at ha

theorem globIn_of_laid {W : World} (h : laidMetH Tryd.prog [("metaprune/lambda.subs", Rows.laid_metaprune_lambda_subs)] W) : GlobIn (sto W) := by
  rw [MakeChecks.laidMetH_plain _ _ _ (by kernel_rfl)] at h
  obtain ⟨ps, h, _, _⟩ := h
  exact globIn_of_vars h
theorem laid_tail {P : Program} {W : World} {x : String × DataW Unit} {l : List (String × DataW Unit)} {ps : List MemPlace} (h : DataW.LaidVars P W (x :: l) ps) : ∃ q, DataW.LaidVars P W l q := by
  obtain ⟨_, _, _, _, _, q, _, _, _, _, h, _⟩ := h
  exact ⟨q, h⟩

section
variable {H : Type} {enc : TypeId × Value → H} {W : World} {sp : Nat → Bool} {hd : Bool} {base : Nat}
set_option maxRecDepth 100000 in
theorem lm_trod : ∀ (fuel : Nat) (cs : List Value) (x : DataW H × List MemPlace), DataW.trod enc Tryd.prog W base sp hd fuel 24 cs = some x → ∃ t : Lm, All2 (SRep (sto W)) cs (encL t) := by
  intro fuel
  induction fuel using Nat.strongRecOn with
  | _ fuel ih =>
  intro cs x h
  obtain ⟨a, b, c, y0, y1, y2, n, hn, rfl, h0, h1, h2⟩ := trod_three Tryd.underlying24 rfl rfl rfl (show Tryd.prog.cellsOf 3 = 1 by kernel_rfl) (show Tryd.prog.cellsOf 3 = 1 by kernel_rfl) (show Tryd.prog.cellsOf 22 = 1 by kernel_rfl) (show Tryd.prog.cellsOf 24 = 3 by kernel_rfl) h
  obtain ⟨k, hk⟩ := int_trod Tryd.underlying3 _ _ _ h0
  obtain ⟨i, hi⟩ := int_trod Tryd.underlying3 _ _ _ h1
  obtain ⟨xs, hxs⟩ := list_of_trod (e0 := encL) Tryd.underlying22 (show Tryd.prog.cellsOf 24 = 3 by kernel_rfl) (fun a => by rw [encL_eq]; rfl) (by decide) (fun m cs y hm hy => ih m (by omega) cs y hy) h2
  exact ⟨.mk k i xs, by rw [encL_eq]; exact hk.append (hi.append hxs)⟩
set_option maxRecDepth 100000 in
/-- An argument that is a lambda term. -/
theorem arg_lm {r : Reach} {b0 : Nat} {v : Value} {d : DataW H} {p : List MemPlace} (hv : Value.okWide Tryd.prog W r b0 24 v) (h : DataW.Trod enc Tryd.prog W base sp hd 24 v d p) : ∃ t : Lm, VRep (sto W) noS noH v (aLm t) := by
  obtain ⟨t, ht⟩ := arg_struct Tryd.underlying24 hv lm_trod h
  exact ⟨t, by rw [encL_eq] at ht; exact ht⟩
end
end Go.Proofs.YteleofnflfofkaaDoor
