/-
  The library's numbers and texts, as calls told by abstract values: Atoi, Itoa.
  Conditions: none.
-/
import Derived.Test.YtecjikegppjdiaaDoorShelf
import Derived.Test.YtecjikegppjdiaaDoorPTo
import Derived.Test.YtecjikegppjdiaaDoorBFrom4
import Derived.Lib.AppendIntMem
import Derived.Lib.ItoaLen
namespace Go.Proofs.YtecjikegppjdiaaDoor
open Go Go.RowKit
set_option linter.unusedVariables false
set_option maxHeartbeats 1000000

def aErr : AV := .one (.st .err)
def aNilI : AV := .one (.st (.lit .nilIface))
theorem tup2 {σ : Sto} {a b : Value} {x y : AV} (ha : VRep σ noS noH a x) (hb : VRep σ noS noH b y) : VRep σ noS noH (.tuple #[a, b]) (.tup [x, y]) :=
  .tup (fun j => if j = 0 then a else b) rfl (fun j u hj => by
    match j, hj with
    | 0, _ => rfl
    | 1, _ => rfl
    | j + 2, hj => simp at hj) (fun j u hj => by
    match j, hj with
    | 0, hj => cases hj; exact ha
    | 1, hj => cases hj; exact hb
    | j + 2, hj => simp at hj)
theorem one_arg {σ : Sto} {vs : List Value} {x : AV} (h : All2 (VRep σ noS noH) vs [x]) : ∃ v, vs = [v] ∧ VRep σ noS noH v x := by
  cases h with
  | cons h1 h2 =>
    cases h2
    exact ⟨_, rfl, h1⟩
theorem atoi_a (s : ByteArray) (n : Int) (hz : s.size ≤ 18) (h : Lib.atoi s.data.toList = some n) : ACalls Tryd.prog 48 [aStr s] (.tup [aInt n, aNilI]) := by
  intro σ w vs hG hF hv
  obtain ⟨v, rfl, h1⟩ := one_arg hv
  obtain ⟨rfl, _⟩ := vrep_str h1
  refine (Any.strconv_Atoi Tryd.lays172 s n hz h w).mono fun e w' ⟨he, t, hw⟩ => ?_
  have hb : Below w.heap.size w w' := by
    rw [hw]
    exact Lib.bytesWorld_below _ _ _
  have hr := atoi_range hz h
  exact ⟨_, σ, he, tup2 (.one (.st (.int (by rw [inR_i64]; exact hr)))) (.one (.st (.lit rfl))), hF.below hb, Ext.refl _ _, hb⟩
theorem atoi_no (s : ByteArray) (hz : s.size ≤ 18) (h : Lib.atoi s.data.toList = none) : ACalls Tryd.prog 48 [aStr s] (.tup [aInt 0, aErr]) := by
  intro σ w vs hG hF hv
  obtain ⟨v, rfl, h1⟩ := one_arg hv
  obtain ⟨rfl, _⟩ := vrep_str h1
  obtain ⟨ev, h2, h3⟩ := hG.cell hF (g := 0) (a := .err) (by kernel_rfl)
  obtain ⟨te, pe, rfl⟩ : ∃ te pe, ev = .iface te pe := by
    cases h3
    exact ⟨_, _, rfl⟩
  refine (Any.strconv_Atoi_err Tryd.laysC172 s hz h _ w h2 (Or.inr ⟨te, pe, rfl⟩)).mono fun e w' ⟨N, he, _, _, hb⟩ => ?_
  exact ⟨_, σ, he, tup2 (.one (.st (.int (by rw [inR_i64]; omega)))) (.one (.st .err)), hF.below hb, Ext.refl _ _, hb⟩
theorem itoaAll_a (n : Int) : ACalls Tryd.prog 49 [aInt n] (aStr ⟨(Lib.itoa n).toArray⟩) := by
  intro σ w vs hG hF hv
  obtain ⟨v, rfl, h1⟩ := one_arg hv
  obtain ⟨rfl, hn⟩ := vrep_int h1
  rw [inR_i64] at hn
  have ht : Lib.TabIs Tryd.prog w "internal/strconv.uint64pow10" .u64 Lib.pow10Tab := hG.ints hF (g := 2) (by kernel_rfl) (by kernel_rfl)
  refine (Any.strconv_Itoa Tryd.laysM171 n hn.1 hn.2 w ht).mono fun e w' ⟨he, k, os, hw⟩ => ?_
  have hb : Below w.heap.size w w' := by
    rw [hw]
    exact Lib.below_grow _ _ (Nat.le_refl _) _ _
  refine ⟨_, σ, he, .one (.st (.str ?_)), hF.below hb, Ext.refl _ _, hb⟩
  have hl := Lib.itoa_length_le n hn.1 hn.2
  have hs : (⟨(Lib.itoa n).toArray⟩ : ByteArray).size = (Lib.itoa n).length := by simp [ByteArray.size]
  rw [hs, maxLen_eq]
  omega
end Go.Proofs.YtecjikegppjdiaaDoor
