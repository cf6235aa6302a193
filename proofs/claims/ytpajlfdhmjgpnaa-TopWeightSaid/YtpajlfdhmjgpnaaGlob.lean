/-
  The package-level variables that a row lays: what their cells hold, and how many they are.
  Conditions: none.
-/
import Derived.Test.YtpajlfdhmjgpnaaAbsA
namespace Go.Proofs.Ytpajlfdhmjgpnaa
open Go Go.RowKit
/-- The powers of ten. -/
def pow10s : List SV := (List.range 20).map fun i => .int .u64 ((10 ^ i : Nat) : Int)
/-- The variables of the program that are looked at: number, cells. -/
def globs : List (Nat × List SV) :=
  []
/-- A variable's cells are told, and that there are no more. -/
def GlobAt (σ : Sto) (x : Nat × List SV) : Prop := (∃ c : Nat → Value, (∀ j a, x.2[j]? = some a → σ ⟨x.1, 0 + j, none⟩ = some (c j)) ∧ (∀ j a, x.2[j]? = some a → SRep σ (c j) a)) ∧ σ ⟨x.1, x.2.length, some 0⟩ = some .nilFunc
def GlobIn (σ : Sto) : Prop := ∀ x ∈ globs, GlobAt σ x
theorem GlobIn.mono {σ σ' : Sto} (h : GlobIn σ) (hs : ∀ p x, σ p = some x → σ' p = some x) : GlobIn σ' := fun x hx => by
  obtain ⟨⟨c, h1, h2⟩, h3⟩ := h x hx
  exact ⟨⟨c, fun j a ha => hs _ _ (h1 j a ha), fun j a ha => (h2 j a ha).mono hs⟩, hs _ _ h3⟩
def globOf (g : Nat) : Option (List SV) := (globs.find? fun x => x.1 == g).map (·.2)
theorem GlobIn.at {σ : Sto} (h : GlobIn σ) {g : Nat} {cs : List SV} (hg : globOf g = some cs) : GlobAt σ (g, cs) := by
  unfold globOf at hg
  rw [Option.map_eq_some_iff] at hg
  obtain ⟨x, h1, rfl⟩ := hg
  have hm := List.mem_of_find?_eq_some h1
  have hp := List.find?_some h1
  have he : x.1 = g := by simpa using hp
  rw [← he]
  exact h x hm
theorem GlobIn.of {σ : Sto} {S : AStore} {ι : AHnd} (h : GlobIn σ) {g : Nat} {cs : List SV} (hg : globOf g = some cs) : ARep σ S ι (.pointer (some ⟨g, 0, none⟩)) (.eptr cs) := by
  obtain ⟨⟨c, k1, k2⟩, _⟩ := h.at hg
  exact .eptr c k1 k2
/-- A variable of integers: all of its cells in the world. -/
theorem GlobIn.ints {σ : Sto} {w : World} (h : GlobIn σ) (hf : Fit σ w) {P : Program} {name : String} {g : Nat} (hn : P.globalNamed name = some g) {k : IntKind} {zs : List Int} (hg : globOf g = some (zs.map fun z => .int k z)) :
    w.var? P name = some (zs.map fun z => Value.int k z).toArray := by
  obtain ⟨⟨c, k1, k2⟩, k3⟩ := h.at hg
  have h3 := hf _ _ k3
  unfold look at h3
  simp only at h3
  unfold World.var?
  rw [hn]
  simp only [Option.bind_some]
  cases hb : w.heap[g]? with
  | none => rw [hb] at h3; cases h3
  | some o =>
    rw [hb] at h3
    cases o with
    | cells cs T x =>
      simp only at h3
      split at h3
      · rename_i hsz
        simp only [List.length_map] at hsz
        simp only [Option.some.injEq]
        apply Array.ext
        · simpa using hsz
        · intro i h1 h2
          have hi : i < zs.length := by omega
          have e1 := k1 i (.int k zs[i]) (by simp [hi])
          have e2 := k2 i (.int k zs[i]) (by simp [hi])
          have e3 := hf _ _ e1
          rw [look_none rfl] at e3
          have e4 : c i = .int k zs[i] := by
            generalize c i = u at e2
            cases e2
            rfl
          rw [e4] at e3
          unfold World.cell? at e3
          simp only [Nat.zero_add] at e3
          rw [hb] at e3
          simp only at e3
          rw [Array.getElem?_eq_getElem h1] at e3
          simpa using e3
      · cases h3
    | _ => cases h3
/-- A variable of one cell. -/
theorem GlobIn.cell {σ : Sto} {w : World} (h : GlobIn σ) (hf : Fit σ w) {g : Nat} {a : SV} (hg : globOf g = some [a]) : ∃ v, w.cell? ⟨g, 0, none⟩ = some v ∧ SRep σ v a := by
  obtain ⟨⟨c, k1, k2⟩, _⟩ := h.at hg
  have e := hf _ _ (k1 0 a rfl)
  rw [look_none rfl] at e
  exact ⟨c 0, e, k2 0 a rfl⟩
end Go.Proofs.Ytpajlfdhmjgpnaa
