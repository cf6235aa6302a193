/-
  The package-level variables that a row lays: what their cells hold.
  Conditions: none.
-/
import Derived.Test.YteleofnflfofkaaDoorAbsA
namespace Go.Proofs.YteleofnflfofkaaDoor
open Go Go.RowKit
/-- The variables of the program that are looked at: number, cells. -/
def globs : List (Nat × List SV) := [
  (0, [.int .i64 0, .int .i64 0, .int .i64 1, .int .i64 2, .int .i64 0, .int .i64 0])
  ]
def GlobIn (σ : Sto) : Prop := ∀ x ∈ globs, ∃ c : Nat → Value, (∀ j a, x.2[j]? = some a → σ ⟨x.1, 0 + j, none⟩ = some (c j)) ∧ (∀ j a, x.2[j]? = some a → SRep σ (c j) a)
theorem GlobIn.mono {σ σ' : Sto} (h : GlobIn σ) (hs : ∀ p x, σ p = some x → σ' p = some x) : GlobIn σ' := fun x hx => by
  obtain ⟨c, h1, h2⟩ := h x hx
  exact ⟨c, fun j a ha => hs _ _ (h1 j a ha), fun j a ha => (h2 j a ha).mono hs⟩
def globOf (g : Nat) : Option (List SV) := (globs.find? fun x => x.1 == g).map (·.2)
theorem GlobIn.of {σ : Sto} {S : AStore} {ι : AHnd} (h : GlobIn σ) {g : Nat} {cs : List SV} (hg : globOf g = some cs) : ARep σ S ι (.pointer (some ⟨g, 0, none⟩)) (.eptr cs) := by
  unfold globOf at hg
  rw [Option.map_eq_some_iff] at hg
  obtain ⟨x, h1, rfl⟩ := hg
  have hm := List.mem_of_find?_eq_some h1
  have hp := List.find?_some h1
  obtain ⟨c, k1, k2⟩ := h x hm
  have he : x.1 = g := by simpa using hp
  rw [he] at k1
  exact .eptr c k1 k2
end Go.Proofs.YteleofnflfofkaaDoor
