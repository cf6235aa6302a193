/-
  A walk through a row in any order, each place once. No program in sight.
  Conditions: none.
-/
import Derived.Test.YtpajlfdhmjgpnaaAbsU
namespace Go.Proofs.Ytpajlfdhmjgpnaa
open Go Go.RowKit
set_option linter.unusedVariables false

/-- A walk through a row in any order, each place once. -/
def met {α : Type} (l : List α) (seen : List Nat) : List α := seen.filterMap fun j => l[j]?
theorem met_snoc {α : Type} {l : List α} {seen : List Nat} {j : Nat} {b : α} (h : l[j]? = some b) : met l (seen ++ [j]) = met l seen ++ [b] := by
  unfold met
  rw [List.filterMap_append, List.filterMap_cons_some h]
  rfl
theorem met_len {α : Type} {l : List α} : ∀ {seen : List Nat}, (∀ j ∈ seen, j < l.length) → (met l seen).length = seen.length
  | [], _ => rfl
  | j :: seen, h => by
    have hj := h j (by simp)
    unfold met
    rw [List.filterMap_cons_some (List.getElem?_eq_getElem hj), List.length_cons, List.length_cons]
    exact congrArg (· + 1) (met_len fun i hi => h i (by simp [hi]))
theorem seen_len {n : Nat} {seen : List Nat} (hn : seen.Nodup) (h : ∀ j ∈ seen, j < n) : seen.length ≤ n := by
  have h1 : seen.Perm ((List.range n).filter fun j => decide (j ∈ seen)) := (List.perm_ext_iff_of_nodup hn (List.nodup_range.filter _)).2 fun j => by
    rw [List.mem_filter, List.mem_range, decide_eq_true_eq]
    exact ⟨fun hj => ⟨h j hj, hj⟩, fun hj => hj.2⟩
  rw [h1.length_eq]
  exact Nat.le_trans (List.length_filter_le _ _) (Nat.le_of_eq List.length_range)
theorem met_perm {α : Type} {l : List α} {seen : List Nat} (hn : seen.Nodup) (h : ∀ j ∈ seen, j < l.length) (hall : ∀ j, j < l.length → j ∈ seen) : (met l seen).Perm l := by
  have hp : seen.Perm (List.range l.length) := (List.perm_ext_iff_of_nodup hn List.nodup_range).2 fun j => ⟨fun hj => List.mem_range.2 (h j hj), fun hj => hall j (List.mem_range.1 hj)⟩
  have := hp.filterMap fun j => l[j]?
  rw [filterMap_range] at this
  exact this
end Go.Proofs.Ytpajlfdhmjgpnaa
