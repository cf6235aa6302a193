/-
  One list of bindings behind another, in plain Lean. No program in sight.
  Conditions: none.
-/
import Derived.Test.YtpajlfdhmjgpnaaPSort
namespace Go.Proofs.Ytpajlfdhmjgpnaa
open Go Go.RowKit
set_option linter.unusedVariables false

/-- It stands for itself. -/
def selfB (b : Bd) : Bool := decide (b.2.name = b.1)
def keepB (l : List Bd) : List Bd := l.filter fun b => !selfB b
theorem keepB_append (l m : List Bd) : keepB (l ++ m) = keepB l ++ keepB m := List.filter_append _ _
theorem keepB_all {l : List Bd} (h : ∀ c ∈ l, selfB c = false) : keepB l = l := List.filter_eq_self.2 fun c hc => by rw [h c hc]; rfl
theorem keepB_len (l : List Bd) : (keepB l).length ≤ l.length := List.length_filter_le _ _
theorem keepB_yes {b : Bd} (h : selfB b = false) : keepB [b] = [b] := by unfold keepB; rw [List.filter_cons_of_pos (by rw [h]; rfl)]; rfl
theorem keepB_no {b : Bd} (h : selfB b = true) : keepB [b] = [] := by unfold keepB; rw [List.filter_cons_of_neg (by rw [h]; simp)]; rfl
def putIn (r : List Bd) (l : List Bd) : List Bd := l.map fun b => (b.1, b.2.on r)
def newIn (s : List Bd) (l : List Bd) : List Bd := l.filter fun b => !(lookup s b.1).isSome
theorem newIn_append (s l m : List Bd) : newIn s (l ++ m) = newIn s l ++ newIn s m := List.filter_append _ _
theorem newIn_yes {s : List Bd} {b : Bd} (h : (lookup s b.1).isSome = false) : newIn s [b] = [b] := by unfold newIn; rw [List.filter_cons_of_pos (by rw [h]; rfl)]; rfl
theorem newIn_no {s : List Bd} {b : Bd} (h : (lookup s b.1).isSome = true) : newIn s [b] = [] := by unfold newIn; rw [List.filter_cons_of_neg (by rw [h]; simp)]; rfl
def joined (s r : List Bd) : List Bd := putIn r s ++ newIn s r
def thenOf (s r : List Bd) : List Bd × Int := if (s.all fun b => decide ((b.2.on r).size ≤ 2000)) = true then (sortB (keepB (joined s r)), 0) else ([], 8)
theorem joined_named {s r : List Bd} (hs : Ordered s) (hr : Ordered r) : Named (joined s r) := by
  have h1 := ordered_named hs
  have h2 := ordered_named hr
  unfold Named at *
  unfold joined putIn newIn
  rw [List.map_append, List.map_map, List.nodup_append]
  refine ⟨h1, h2.sublist (List.Sublist.map _ List.filter_sublist), fun a ha b hb e => ?_⟩
  obtain ⟨c, hc, rfl⟩ := List.mem_map.1 ha
  obtain ⟨d, hd, rfl⟩ := List.mem_map.1 hb
  obtain ⟨hd1, hd2⟩ := List.mem_filter.1 hd
  cases hl : lookup s d.1 with
  | some x => rw [hl] at hd2; simp at hd2
  | none =>
    have hdom : ∀ b ∈ s, b.1 ≠ d.1 := by
      unfold lookup at hl
      rw [Option.map_eq_none_iff, List.find?_eq_none] at hl
      exact fun b hb e => hl b hb (by simpa using e)
    exact hdom c hc e
theorem keep_named {l : List Bd} (h : Named l) : Named (keepB l) := by
  unfold Named at *
  exact h.sublist (List.Sublist.map _ List.filter_sublist)
/-- The first that stands for itself. -/
theorem first_self : ∀ {l : List Bd}, ¬ (∀ c ∈ l, selfB c = false) → ∃ k b, l[k]? = some b ∧ selfB b = true ∧ ∀ c ∈ l.take k, selfB c = false
  | [], h => absurd (by simp) h
  | b :: l, h => by
    cases hb : selfB b with
    | true => exact ⟨0, b, rfl, hb, by simp⟩
    | false =>
      obtain ⟨k, c, h1, h2, h3⟩ := first_self (l := l) fun hall => h fun c hc => by
        rcases List.mem_cons.1 hc with rfl | hc
        · exact hb
        · exact hall c hc
      refine ⟨k + 1, c, h1, h2, fun d hd => ?_⟩
      rw [List.take_succ_cons] at hd
      rcases List.mem_cons.1 hd with rfl | hd
      · exact hb
      · exact h3 d hd
end Go.Proofs.Ytpajlfdhmjgpnaa
