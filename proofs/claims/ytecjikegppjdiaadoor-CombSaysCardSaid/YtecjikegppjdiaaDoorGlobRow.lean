/-
  From a row's condition on the package-level variable that it lists to its cells; lambda terms as a law's arguments.
  Conditions: none.
-/
import Derived.Test.YtecjikegppjdiaaDoorRowG
import Derived.Test.YtecjikegppjdiaaDoorPLam
import Derived.Test.YtecjikegppjdiaaDoorTie
import Derived.Test.YtecjikegppjdiaaDoorCards
import Derived.LaidMore
import Derived.MakeChecks
import Derived.Stop.Joined
import Derived.Lib.LaidTab
import Derived.Lib.ItoaNum
import Derived.LaidLaws
namespace Go.Proofs.YtecjikegppjdiaaDoor
open Go Go.RowKit Go.ChangeShapes Go.WideShapes Go.ChangeAt
set_option maxHeartbeats 400000
set_option linter.unusedVariables false

/-- What one package-level variable of those that are laid reads as. -/
theorem laid_at {P : Program} {W : World} {x : String × DataW Unit} : ∀ {l : List (String × DataW Unit)} {ps : List MemPlace}, DataW.LaidVars P W l ps → x ∈ l → ∃ q, DataW.LaidVars P W [x] q
  | [], _, _, hx => by simp at hx
  | y :: l, ps, h, hx => by
    obtain ⟨n, d⟩ := y
    obtain ⟨g, t, cs, fuel, p, q, a1, a2, a3, a4, a5, a6⟩ := h
    rcases List.mem_cons.1 hx with rfl | hx
    · exact ⟨_, g, t, cs, fuel, p, [], a1, a2, a3, a4, rfl, rfl⟩
    · exact laid_at a5 hx
theorem size_sto {P : Program} {W : World} {n : String} {g : Nat} {cs : Array Value} (hg : P.globalNamed n = some g) (h : W.var? P n = some cs) : sto W ⟨g, cs.size, some 0⟩ = some .nilFunc := by
  unfold World.var? at h
  rw [hg] at h
  simp only [Option.bind_some] at h
  show look W _ = _
  unfold look
  simp only
  cases hb : W.heap[g]? with
  | none => rw [hb] at h; cases h
  | some o =>
    rw [hb] at h
    cases o <;> simp_all
theorem glob_tab {P : Program} {W : World} {name : String} {g : Nat} {t e : TypeId} {n : Nat} {k : IntKind} {zs : List Int} (hg : P.globalNamed name = some g) (hty : (P.globals[g]?).map (·.type) = some t) (ht : P.underlying t = some (.array n e)) (he : P.underlying e = some (.int k))
    (hce : P.cellsOf e = 1) (hct : P.cellsOf t = n) (hin : ∀ z ∈ zs, inR k z) {ps : List MemPlace} (h : DataW.LaidVars P W [(name, Lib.tabData k zs)] ps) : GlobAt (sto W) (g, zs.map fun z => .int k z) := by
  obtain ⟨g0, t0, cs0, f0, p0, q0, hg0, ht0, hv0, hd0, _, _⟩ := h
  obtain rfl := Option.some.inj (hg.symm.trans hg0)
  obtain rfl := Option.some.inj (hty.symm.trans ht0)
  have hc := Lib.cells_of_tab ht he hce hct hd0
  have hs : cs0.size = zs.length := by
    have := congrArg List.length hc
    simpa using this
  refine ⟨⟨fun j => (zs[j]?).elim .nilFunc (.int k), fun j a ha => ?_, fun j a ha => ?_⟩, ?_⟩
  · rw [List.getElem?_map, Option.map_eq_some_iff] at ha
    obtain ⟨z, hz, rfl⟩ := ha
    have h1 := World.var?_cell hg0 hv0 j
    have h2 : cs0[j]? = some (.int k z) := by
      have h3 := congrArg (fun l : List Value => l[j]?) hc
      simpa [hz] using h3
    show look W _ = _
    rw [look_none rfl, Nat.zero_add, h1, h2]
    simp only [hz, Option.elim]
  · rw [List.getElem?_map, Option.map_eq_some_iff] at ha
    obtain ⟨z, hz, rfl⟩ := ha
    simp only [hz, Option.elim]
    exact .int (hin z (List.mem_of_getElem? hz))
  · have := size_sto hg0 hv0
    rw [hs] at this
    simpa using this
theorem glob_err {P : Program} {W : World} {name nm : String} {d : DataW Unit} {g : Nat} {t : TypeId} {ms : Array (String × TypeId)} (hg : P.globalNamed name = some g) (hty : (P.globals[g]?).map (·.type) = some t) (ht : P.underlying t = some (.interface ms))
    {ps : List MemPlace} (h : DataW.LaidVars P W [(name, .iface nm d)] ps) : GlobAt (sto W) (g, [.err]) := by
  obtain ⟨g0, t0, cs0, f0, p0, q0, hg0, ht0, hv0, hd0, _, _⟩ := h
  obtain rfl := Option.some.inj (hg.symm.trans hg0)
  obtain rfl := Option.some.inj (hty.symm.trans ht0)
  obtain ⟨f1, u, v, hc, _, _⟩ := iface_of_trod ht hd0
  have hs : cs0.size = 1 := by
    have := congrArg List.length hc
    simpa using this
  refine ⟨⟨fun j => .iface u v, fun j a ha => ?_, fun j a ha => ?_⟩, ?_⟩
  · match j, ha with
    | 0, _ =>
      have h1 := World.var?_cell hg0 hv0 0
      have h2 : cs0[0]? = some (.iface u v) := by
        have h3 := congrArg (fun l : List Value => l[0]?) hc
        simpa using h3
      show look W _ = _
      rw [look_none rfl, Nat.zero_add, h1, h2]
    | j + 1, ha => simp at ha
  · match j, ha with
    | 0, ha =>
      cases ha
      exact .err
    | j + 1, ha => simp at ha
  · have := size_sto hg0 hv0
    rw [hs] at this
    simpa using this
theorem in_i64 {zs : List Int} (h : zs.all (fun z => decide (-9223372036854775808 ≤ z) && decide (z ≤ 9223372036854775807)) = true) : ∀ z ∈ zs, inR .i64 z := fun z hz => by
  have := List.all_eq_true.1 h z hz
  rw [inR_i64]
  simpa using this
theorem in_u64 {zs : List Int} (h : zs.all (fun z => decide (0 ≤ z) && decide (z ≤ 18446744073709551615)) = true) : ∀ z ∈ zs, inR .u64 z := fun z hz => by
  have := List.all_eq_true.1 h z hz
  simp only [Bool.and_eq_true, decide_eq_true_eq] at this
  simp [inR, IntKind.min, IntKind.max, IntKind.signed, IntKind.bits]
  omega
theorem glob_pow {W : World} {ps : List MemPlace} (h : DataW.LaidVars Tryd.prog W [("internal/strconv.uint64pow10", Rows.laid_internal_strconv_uint64pow10)] ps) : GlobAt (sto W) (2, pow10s) := glob_tab (k := .u64) (zs := Lib.pow10Tab) (by kernel_rfl) (by kernel_rfl) Tryd.underlying96 Tryd.underlying76 (by kernel_rfl) (by kernel_rfl) (in_u64 (by decide)) h
theorem glob_syn {W : World} {ps : List MemPlace} (h : DataW.LaidVars Tryd.prog W [("strconv.ErrSyntax", Rows.laid_strconv_ErrSyntax)] ps) : GlobAt (sto W) (0, [.err]) := glob_err (by kernel_rfl) (by kernel_rfl) Tryd.underlying62 h
theorem laid_tail {P : Program} {W : World} {x : String × DataW Unit} {l : List (String × DataW Unit)} {ps : List MemPlace} (h : DataW.LaidVars P W (x :: l) ps) : ∃ q, DataW.LaidVars P W l q := by
  obtain ⟨_, _, _, _, _, q, _, _, _, _, h, _⟩ := h
  exact ⟨q, h⟩

section
variable {H : Type} {enc : TypeId × Value → H} {W : World} {sp : Nat → Bool} {hd : Bool} {base : Nat}
set_option maxRecDepth 100000 in
theorem lm_trod : ∀ (fuel : Nat) (cs : List Value) (x : DataW H × List MemPlace), DataW.trod enc Tryd.prog W base sp hd fuel 36 cs = some x → ∃ t : Lm, All2 (SRep (sto W)) cs (encL t) := by
  intro fuel
  induction fuel using Nat.strongRecOn with
  | _ fuel ih =>
  intro cs x h
  obtain ⟨a, b, c, y0, y1, y2, n, hn, rfl, h0, h1, h2⟩ := trod_three Tryd.underlying36 rfl rfl rfl (show Tryd.prog.cellsOf 3 = 1 by kernel_rfl) (show Tryd.prog.cellsOf 3 = 1 by kernel_rfl) (show Tryd.prog.cellsOf 34 = 1 by kernel_rfl) (show Tryd.prog.cellsOf 36 = 3 by kernel_rfl) h
  obtain ⟨k, hk⟩ := int_trod Tryd.underlying3 _ _ _ h0
  obtain ⟨i, hi⟩ := int_trod Tryd.underlying3 _ _ _ h1
  obtain ⟨xs, hxs⟩ := list_of_trod (e0 := encL) Tryd.underlying34 (show Tryd.prog.cellsOf 36 = 3 by kernel_rfl) (fun a => by rw [encL_eq]; rfl) (by decide) (fun m cs y hm hy => ih m (by omega) cs y hy) h2
  exact ⟨.mk k i xs, by rw [encL_eq]; exact hk.append (hi.append hxs)⟩
set_option maxRecDepth 100000 in
/-- An argument that is a lambda term. -/
theorem arg_lm {r : Reach} {b0 : Nat} {v : Value} {d : DataW H} {p : List MemPlace} (hv : Value.okWide Tryd.prog W r b0 36 v) (h : DataW.Trod enc Tryd.prog W base sp hd 36 v d p) : ∃ t : Lm, VRep (sto W) noS noH v (aLm t) := by
  obtain ⟨t, ht⟩ := arg_struct Tryd.underlying36 hv lm_trod h
  exact ⟨t, by rw [encL_eq] at ht; exact ht⟩
end
end Go.Proofs.YtecjikegppjdiaaDoor
