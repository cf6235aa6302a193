/-
  Between the two ways to tell data: trees of cells, and abstract values.
  Conditions: none.
-/
import Derived.Test.YtkjbaabkaboaoaaAbsT
import Derived.Test.YtkjbaabkaboaoaaSize
namespace Go.Proofs.Ytkjbaabkaboaoaa
open Go Go.RowKit
set_option linter.unusedVariables false
set_option linter.unusedSimpArgs false
open Cod (wid dat)

/-- A type of things both ways. -/
class Both (α : Type) [Cod α] where
  enc : α → List SV
  len : ∀ a, (enc a).length = wid α
  to_ : ∀ (σ : Sto) (a : α) (cs : List Value), All2 (SRep σ) cs (enc a) → Cells σ cs a
  from_ : ∀ (σ : Sto) (a : α) (cs : List Value), Cells σ cs a → All2 (SRep σ) cs (enc a)
open Both (enc)
section
variable {α : Type} [Cod α] {σ : Sto}
theorem slc_to {f : α → List SV} (hlen : ∀ a, (f a).length = wid α) {v : Value} {xs : List α} (hto : ∀ a ∈ xs, ∀ cs, All2 (SRep σ) cs (f a) → Cells σ cs a) (h : SRep σ v (.list (xs.map f))) : ∃ p len cap, v = .slice p len cap ∧ Slc σ p len cap xs := by
  cases h with
  | @list p len cap b o w _ c h1 h2 h3 h4 h5 h6 h7 h8 =>
    refine ⟨p, len, cap, rfl, by simpa using h1, h2, h3, h4, b, o, h5, ?_⟩
    have key : ∀ (ys : List α) (k : Nat), xs.drop k = ys → Dat.RowIs σ (wid α) (ys.map dat) b (o + k * wid α) := by
      intro ys
      induction ys with
      | nil => intro k _; trivial
      | cons y ys ih =>
        intro k hk
        have hy : xs[k]? = some y := by
          have := congrArg (fun l => l[0]?) hk
          simpa using this
        have hfy : (xs.map f)[k]? = some (f y) := by rw [List.getElem?_map, hy]; rfl
        have hw : w = wid α := by
          rw [← hlen y]
          exact (h6 _ (List.mem_of_getElem? hfy)).symm
        subst hw
        refine ⟨⟨(List.range (wid α)).map (c k), by simp, fun j x hj => ?_, ?_⟩, ?_⟩
        · rw [List.getElem?_map, Option.map_eq_some_iff] at hj
          obtain ⟨i, hi, rfl⟩ := hj
          have hj' : j < wid α := by
            have := (List.getElem?_eq_some_iff.1 hi).1
            simpa using this
          rw [List.getElem?_range hj'] at hi
          cases hi
          exact h7 k _ j _ hfy (List.getElem?_eq_getElem (by rw [hlen y]; exact hj'))
        · refine hto y (List.mem_of_getElem? hy) _ (All2.of_get (by simp [hlen]) fun j a1 b1 ha hb => ?_)
          have hj' : j < wid α := by rw [← hlen y]; exact (List.getElem?_eq_some_iff.1 hb).1
          rw [List.getElem?_map, List.getElem?_range hj'] at ha
          cases ha
          exact h8 k _ j _ hfy hb
        · have := ih (k + 1) (by rw [← List.drop_drop, hk]; rfl)
          rw [Nat.add_mul, Nat.one_mul, ← Nat.add_assoc] at this
          exact this
    simpa using key xs 0 rfl
theorem slc_from {f : α → List SV} (hlen : ∀ a, (f a).length = wid α) {p : Option Addr} {len cap : Nat} {xs : List α} (hfrom : ∀ a ∈ xs, ∀ cs, Cells σ cs a → All2 (SRep σ) cs (f a)) (h : Slc σ p len cap xs) : SRep σ (.slice p len cap) (.list (xs.map f)) := by
  obtain ⟨h1, h2, h3, h4, b, o, h5, h6⟩ := h
  have key : ∀ k x, (xs.map f)[k]? = some x → ∃ a, xs[k]? = some a ∧ x = f a := fun k x hx => by
    rw [List.getElem?_map, Option.map_eq_some_iff] at hx
    obtain ⟨a, ha, rfl⟩ := hx
    exact ⟨a, ha, rfl⟩
  have cell : ∀ k a j y, xs[k]? = some a → (f a)[j]? = some y → ∃ v, σ ⟨b, o + k * wid α + j, none⟩ = some v ∧ SRep σ v y := fun k a j y ha hy => by
    have hk := (List.getElem?_eq_some_iff.1 ha).1
    obtain ⟨cs, c1, c2, c3⟩ := h6.get k (by simpa using hk)
    have hc : Cells σ cs a := by
      have := (List.getElem?_eq_some_iff.1 ha).2
      simpa [Cells, this] using c3
    obtain ⟨v, v1, v2⟩ := (hfrom a (List.mem_of_getElem? ha) cs hc).get hy
    exact ⟨v, c2 j v v1, v2⟩
  refine .list (b := b) (o := o) (w := wid α) (fun k j => (σ ⟨b, o + k * wid α + j, none⟩).getD undef) (by simpa using h1) h2 h3 h4 h5 (fun x hx => ?_) (fun k x j y hx hy => ?_) (fun k x j y hx hy => ?_)
  · obtain ⟨a, _, rfl⟩ := List.mem_map.1 hx
    exact hlen a
  · obtain ⟨a, ha, rfl⟩ := key k x hx
    obtain ⟨v, v1, v2⟩ := cell k a j y ha hy
    rw [v1]; rfl
  · obtain ⟨a, ha, rfl⟩ := key k x hx
    obtain ⟨v, v1, v2⟩ := cell k a j y ha hy
    rw [v1]; exact v2
end
section
variable {σ : Sto}
theorem encI_to (n : Int) (cs : List Value) (h : All2 (SRep σ) cs (encI n)) : Cells σ cs n := by
  cases h with
  | cons h1 h2 =>
    cases h2
    cases h1 with
    | int h => exact cells_int.2 ⟨rfl, by rw [inR_i64] at h; simpa [Lit.wf, IntKind.min, IntKind.max, IntKind.signed, IntKind.bits] using h⟩
theorem encT_to : ∀ (N : Nat) (t : Tm), SizeOf.sizeOf t < N → ∀ cs, All2 (SRep σ) cs (encT t) → Cells σ cs t := by
  intro N
  induction N with
  | zero => intro t h; omega
  | succ N ih =>
    intro t hN cs h
    rw [encT_eq] at h
    cases h with
    | cons h1 h2 =>
      cases h2 with
      | cons h2 h3 =>
        cases h3
        cases h1 with
        | str hs =>
          obtain ⟨p, len, cap, rfl, hsl⟩ := slc_to (f := encT) (fun a => by rw [encT_eq]; rfl) (fun a ha => ih a (by have := Tm.lt_of_arg ha; omega)) h2
          exact cells_tm.2 ⟨p, len, cap, rfl, hs, hsl⟩
theorem encT_from : ∀ (N : Nat) (t : Tm), SizeOf.sizeOf t < N → ∀ cs, Cells σ cs t → All2 (SRep σ) cs (encT t) := by
  intro N
  induction N with
  | zero => intro t h; omega
  | succ N ih =>
    intro t hN cs h
    obtain ⟨p, len, cap, rfl, hs, hsl⟩ := cells_tm.1 h
    rw [encT_eq]
    exact .cons (.str hs) (.cons (slc_from (f := encT) (fun a => by rw [encT_eq]; rfl) (fun a ha => ih a (by have := Tm.lt_of_arg ha; omega)) hsl) .nil)
theorem ints_to {v : Value} {l : List Int} (h : SRep σ v (.list (l.map encI))) : ∃ p len cap, v = .slice p len cap ∧ Slc σ p len cap l := slc_to (fun a => rfl) (fun a _ cs hc => encI_to a cs hc) h
theorem ints_from {p : Option Addr} {len cap : Nat} {l : List Int} (h : Slc σ p len cap l) : SRep σ (.slice p len cap) (.list (l.map encI)) := slc_from (f := encI) (fun a => rfl) (fun a _ cs hc => by
  obtain ⟨rfl, hw⟩ := cells_int.1 hc
  exact .cons (.int (by rw [inR_i64]; exact wf_bounds hw)) .nil) h
theorem tmV_to {S : AStore} {ι : AHnd} {v : Value} {t : Tm} (h : VRep σ S ι v (aTm t)) : TmV σ v t := by
  obtain ⟨vs, rfl, hvs⟩ := vrep_agg h
  obtain ⟨cs⟩ := vs
  cases hvs with
  | cons h1 h2 =>
    cases h2 with
    | cons h2 h3 =>
      cases h3
      cases arep_st h1 with
      | str hs =>
        obtain ⟨p, len, cap, rfl, hsl⟩ := slc_to (f := encT) (fun a => by rw [encT_eq]; rfl) (fun a _ => encT_to _ a (Nat.lt_succ_self _)) (arep_st h2)
        exact ⟨p, len, cap, rfl, hs, hsl⟩
theorem tmV_from {S : AStore} {ι : AHnd} {v : Value} {t : Tm} (h : TmV σ v t) : VRep σ S ι v (aTm t) := by
  obtain ⟨p, len, cap, rfl, hs, hsl⟩ := h
  exact .agg (.cons (.st (.str hs)) (.cons (.st (slc_from (f := encT) (fun a => by rw [encT_eq]; rfl) (fun a _ => encT_from _ a (Nat.lt_succ_self _)) hsl)) .nil))
end
end Go.Proofs.Ytkjbaabkaboaoaa
