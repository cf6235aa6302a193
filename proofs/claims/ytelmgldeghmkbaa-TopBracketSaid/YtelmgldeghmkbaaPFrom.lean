/-
  Lambda terms into terms without what is bound, in plain Lean. No program in sight.
  Conditions: none.
-/
import Derived.Test.YtelmgldeghmkbaaPComb
import Derived.Test.YtelmgldeghmkbaaPLam
namespace Go.Proofs.Ytelmgldeghmkbaa
open Go Go.RowKit
set_option linter.unusedVariables false

/-! ### is a name there? -/
mutual
def Tm.hasN (v : ByteArray) : Tm → Bool
  | .mk n xs => decide (n = v) || Tm.hasNs v xs
def Tm.hasNs (v : ByteArray) : List Tm → Bool
  | [] => false
  | t :: ts => t.hasN v || Tm.hasNs v ts
end
theorem Tm.hasN_eq (v : ByteArray) (t : Tm) : t.hasN v = (decide (t.name = v) || Tm.hasNs v t.args) := by cases t; rfl
theorem Tm.hasNs_append (v : ByteArray) (xs ys : List Tm) : Tm.hasNs v (xs ++ ys) = (Tm.hasNs v xs || Tm.hasNs v ys) := by
  induction xs with
  | nil => simp [Tm.hasNs]
  | cons x xs ih => simp [Tm.hasNs, ih, Bool.or_assoc]
theorem Tm.hasNs_take {v : ByteArray} {xs : List Tm} {k : Nat} {a : Tm} (ha : xs[k]? = some a) (h : Tm.hasNs v (xs.take k) = false) : Tm.hasNs v (xs.take (k + 1)) = a.hasN v := by
  rw [take_snoc ha, Tm.hasNs_append, h]
  simp [Tm.hasNs]
theorem Tm.hasNs_yes {v : ByteArray} {xs : List Tm} {k : Nat} (h : Tm.hasNs v (xs.take k) = true) : Tm.hasNs v xs = true := by
  have := Tm.hasNs_append v (xs.take k) (xs.drop k)
  rw [List.take_append_drop, h] at this
  simpa using this
/-- how often, among some -/
def oftenL (v : ByteArray) : List Tm → Nat
  | [] => 0
  | t :: ts => (if t.name = v then 1 else 0) + oftenL v ts
theorem oftenL_append (v : ByteArray) (xs ys : List Tm) : oftenL v (xs ++ ys) = oftenL v xs + oftenL v ys := by
  induction xs with
  | nil => simp [oftenL]
  | cons x xs ih => simp only [List.cons_append, oftenL, ih]; omega
theorem oftenL_take {v : ByteArray} {xs : List Tm} {k : Nat} {a : Tm} (ha : xs[k]? = some a) : oftenL v (xs.take (k + 1)) = oftenL v (xs.take k) + (if a.name = v then 1 else 0) := by
  rw [take_snoc ha, oftenL_append]
  simp [oftenL]
theorem oftenL_le (v : ByteArray) : ∀ xs : List Tm, oftenL v xs ≤ xs.length
  | [] => Nat.le_refl _
  | t :: ts => by
    have := oftenL_le v ts
    simp only [oftenL, List.length_cons]
    split <;> omega
def Tm.often (v : ByteArray) (t : Tm) : Nat := oftenL v t.knots
mutual
theorem Tm.often_has (v : ByteArray) : ∀ t : Tm, t.hasN v = decide (0 < oftenL v t.knots)
  | .mk n xs => by
    rw [Tm.hasN, Tm.knots, oftenL, Tm.oftens_has v xs, Tm.name_mk]
    by_cases h : n = v
    · simp [h]
      omega
    · simp [h]
theorem Tm.oftens_has (v : ByteArray) : ∀ xs : List Tm, Tm.hasNs v xs = decide (0 < oftenL v (Tm.knotsL xs))
  | [] => rfl
  | t :: ts => by
    rw [Tm.hasNs, Tm.knotsL, oftenL_append, Tm.often_has v t, Tm.oftens_has v ts, ← Bool.decide_or]
    congr 1
    simp only [eq_iff_iff]
    omega
end

/-! ### without a name -/
def leafOf (n : ByteArray) : Tm := .mk n []
/-- Of one put to another: the parts, and what they are without the name. -/
def brAp (v : ByteArray) (d : Tm) : List Tm → List Tm → Tm
  | f :: x :: _, f' :: x' :: _ => if x.name = v ∧ f.hasN v = false then f else ap2 (ap2 (leafOf sS) f') x'
  | _, _ => d
mutual
def Tm.br (v : ByteArray) : Tm → Tm
  | .mk n xs => if (Tm.mk n xs).hasN v = false then ap2 (leafOf kS) (.mk n xs) else if n = v then leafOf iS else brAp v (.mk n xs) xs (Tm.brs v xs)
def Tm.brs (v : ByteArray) : List Tm → List Tm
  | [] => []
  | t :: ts => t.br v :: Tm.brs v ts
end
theorem Tm.br_none {v : ByteArray} {t : Tm} (h : t.hasN v = false) : t.br v = ap2 (leafOf kS) t := by
  cases t
  rw [Tm.br, if_pos h]
theorem Tm.br_self {v : ByteArray} {t : Tm} (h : t.hasN v = true) (hn : t.name = v) : t.br v = leafOf iS := by
  cases t
  rw [Tm.name_mk] at hn
  rw [Tm.br, if_neg (by rw [h]; decide), if_pos hn]
theorem Tm.br_ap {v : ByteArray} {t f x : Tm} (h : t.hasN v = true) (hn : ¬ t.name = v) (ha : t.args = [f, x]) : t.br v = if x.name = v ∧ f.hasN v = false then f else ap2 (ap2 (leafOf sS) (f.br v)) (x.br v) := by
  cases t
  rw [Tm.name_mk] at hn
  rw [Tm.args_mk] at ha
  subst ha
  rw [Tm.br, if_neg (by rw [h]; decide), if_neg hn, Tm.brs, Tm.brs, brAp]
theorem leaf_has {v : ByteArray} {t : Tm} (h : t.hasN v = true) (hn : ¬ t.name = v) : ¬ t.args = [] := by
  intro ha
  rw [Tm.hasN_eq, ha] at h
  simp [Tm.hasNs, hn] at h
theorem leafOf_fm (n : ByteArray) : (leafOf n).fm = true := by simp [leafOf, Tm.fm, fmOne, Tm.fms, Tm.args_mk]
theorem leafOf_size (n : ByteArray) : (leafOf n).size = 1 := rfl
theorem Tm.br_all : ∀ (N : Nat) (v : ByteArray) (t : Tm), SizeOf.sizeOf t < N → t.fm = true → (t.br v).fm = true ∧ (t.br v).size ≤ 3 * t.size := by
  intro N
  induction N with
  | zero => intro v t h; omega
  | succ N ih =>
    intro v t hN hf
    have hp := Tm.size_pos t
    by_cases h : t.hasN v = true
    · by_cases hn : t.name = v
      · rw [Tm.br_self h hn]
        exact ⟨leafOf_fm _, by rw [leafOf_size]; omega⟩
      · rcases Tm.fm_cases hf with h0 | ⟨f, x, _, ha, hf1, hx1⟩
        · exact absurd h0 (leaf_has h hn)
        · rw [Tm.br_ap h hn ha]
          have hs := Tm.size_eq t
          rw [ha] at hs
          simp only [Tm.sizes] at hs
          split
          · exact ⟨hf1, by omega⟩
          · obtain ⟨a1, a2⟩ := ih v f (by have := Tm.lt_of_arg (a := f) (t := t) (by rw [ha]; simp); omega) hf1
            obtain ⟨b1, b2⟩ := ih v x (by have := Tm.lt_of_arg (a := x) (t := t) (by rw [ha]; simp); omega) hx1
            refine ⟨ap2_fm (ap2_fm (leafOf_fm _) a1) b1, ?_⟩
            rw [ap2_size, ap2_size, leafOf_size]
            omega
    · have h' : t.hasN v = false := by simpa using h
      rw [Tm.br_none h']
      refine ⟨ap2_fm (leafOf_fm _) hf, ?_⟩
      rw [ap2_size, leafOf_size]
      omega

/-! ### numbers as texts -/
def digit (n : Nat) : ByteArray := ⟨#[UInt8.ofNat (48 + n)]⟩
def dec2 (n : Nat) : ByteArray := if n < 10 then digit n else digit (n / 10) ++ digit (n % 10)
end Go.Proofs.Ytelmgldeghmkbaa
