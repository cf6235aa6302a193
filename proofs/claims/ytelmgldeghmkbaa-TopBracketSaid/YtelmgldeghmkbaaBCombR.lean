/-
  Terms without what is bound: one step, by the document.
  Conditions: none.
-/
import Derived.Test.YtelmgldeghmkbaaBComb
namespace Go.Proofs.Ytelmgldeghmkbaa
open Go Go.RowKit
set_option linter.unusedVariables false
set_option linter.unusedSimpArgs false
set_option maxHeartbeats 1000000

def Tm.stepR (t : Tm) : AV := .tup [aTm (t.step.getD t), aBool t.step.isSome]
theorem drop_take_snoc {l : List Tm} {u k : Nat} {a : Tm} (hu : u ≤ k) (ha : l[k]? = some a) : (l.take (k + 1)).drop u = (l.take k).drop u ++ [a] := by
  have hk : k < l.length := (List.getElem?_eq_some_iff.1 ha).1
  rw [take_snoc ha, List.drop_append_of_le_length (by rw [List.length_take]; omega)]
theorem set_get {l : List Tm} {i k : Nat} {x a : Tm} (hi : i < l.length) (ha : l[k]? = some a) : (l.set i x)[k]? = some (if k = i then x else a) := by
  by_cases h : k = i
  · subst h
    rw [List.getElem?_set_self hi, if_pos rfl]
  · rw [List.getElem?_set_ne (fun e => h e.symm), if_neg h, ha]
theorem ik : ¬ (⟨#[105]⟩ : ByteArray) = ⟨#[107]⟩ := by decide
theorem is_ : ¬ (⟨#[105]⟩ : ByteArray) = ⟨#[115]⟩ := by decide
theorem ki : ¬ (⟨#[107]⟩ : ByteArray) = ⟨#[105]⟩ := by decide
theorem ks : ¬ (⟨#[107]⟩ : ByteArray) = ⟨#[115]⟩ := by decide
theorem si : ¬ (⟨#[115]⟩ : ByteArray) = ⟨#[105]⟩ := by decide
theorem sk : ¬ (⟨#[115]⟩ : ByteArray) = ⟨#[107]⟩ := by decide
/-- How a row's front may stand. -/
theorem red_cases (n : ByteArray) (l : List Tm) :
    (n = ⟨#[105]⟩ ∧ 1 ≤ (l.length : Int) ∧ ∃ x r, l = x :: r ∧ redOf n l = some (x, 1)) ∨
    (n = ⟨#[107]⟩ ∧ 2 ≤ (l.length : Int) ∧ ∃ x a r, l = x :: a :: r ∧ redOf n l = some (x, 2)) ∨
    (n = ⟨#[115]⟩ ∧ 3 ≤ (l.length : Int) ∧ ∃ a b c r, l = a :: b :: c :: r ∧ redOf n l = some (ap2 (ap2 a c) (ap2 b c), 3)) ∨
    (redOf n l = none ∧ ((n = ⟨#[105]⟩ ∧ ¬ 1 ≤ (l.length : Int)) ∨ (n = ⟨#[107]⟩ ∧ ¬ 2 ≤ (l.length : Int)) ∨ (n = ⟨#[115]⟩ ∧ ¬ 3 ≤ (l.length : Int)) ∨ (¬ n = ⟨#[105]⟩ ∧ ¬ n = ⟨#[107]⟩ ∧ ¬ n = ⟨#[115]⟩))) := by
  by_cases h1 : n = ⟨#[105]⟩
  · subst h1
    match l with
    | [] => exact Or.inr (Or.inr (Or.inr ⟨rfl, Or.inl ⟨rfl, by simp⟩⟩))
    | x :: r => exact Or.inl ⟨rfl, by simp only [List.length_cons]; omega, x, r, rfl, rfl⟩
  · by_cases h2 : n = ⟨#[107]⟩
    · subst h2
      match l with
      | [] => exact Or.inr (Or.inr (Or.inr ⟨rfl, Or.inr (Or.inl ⟨rfl, by simp⟩)⟩))
      | [x] => exact Or.inr (Or.inr (Or.inr ⟨rfl, Or.inr (Or.inl ⟨rfl, by simp⟩)⟩))
      | x :: a :: r => exact Or.inr (Or.inl ⟨rfl, by simp only [List.length_cons]; omega, x, a, r, rfl, rfl⟩)
    · by_cases h3 : n = ⟨#[115]⟩
      · subst h3
        match l with
        | [] => exact Or.inr (Or.inr (Or.inr ⟨rfl, Or.inr (Or.inr (Or.inl ⟨rfl, by simp⟩))⟩))
        | [x] => exact Or.inr (Or.inr (Or.inr ⟨rfl, Or.inr (Or.inr (Or.inl ⟨rfl, by simp⟩))⟩))
        | [x, y] => exact Or.inr (Or.inr (Or.inr ⟨rfl, Or.inr (Or.inr (Or.inl ⟨rfl, by simp⟩))⟩))
        | a :: b :: c :: r => exact Or.inr (Or.inr (Or.inl ⟨rfl, by simp only [List.length_cons]; omega, a, b, c, r, rfl, rfl⟩))
      · refine Or.inr (Or.inr (Or.inr ⟨?_, Or.inr (Or.inr (Or.inr ⟨h1, h2, h3⟩))⟩))
        unfold redOf
        rw [if_neg (show ¬ n = iS from h1), if_neg (show ¬ n = kS from h2), if_neg (show ¬ n = sS from h3)]
end Go.Proofs.Ytelmgldeghmkbaa
