/-
  Lambda terms, in plain Lean: sizes, checks, moving what is bound, putting in. No program in sight.
  Conditions: none.
-/
import Derived.Test.YtelmgldeghmkbaaPTerm
namespace Go.Proofs.Ytelmgldeghmkbaa
open Go Go.RowKit
set_option linter.unusedVariables false

inductive Lm where
  | mk (kind idx : Int) (subs : List Lm)
def Lm.kind : Lm → Int | .mk k _ _ => k
def Lm.idx : Lm → Int | .mk _ i _ => i
def Lm.subs : Lm → List Lm | .mk _ _ xs => xs
theorem Lm.kind_mk (k i : Int) (xs : List Lm) : (Lm.mk k i xs).kind = k := rfl
theorem Lm.idx_mk (k i : Int) (xs : List Lm) : (Lm.mk k i xs).idx = i := rfl
theorem Lm.subs_mk (k i : Int) (xs : List Lm) : (Lm.mk k i xs).subs = xs := rfl
theorem Lm.eta (t : Lm) : Lm.mk t.kind t.idx t.subs = t := by cases t; rfl
mutual
def encL : Lm → List SV
  | .mk k i xs => [.int .i64 k, .int .i64 i, .list (encLs xs)]
def encLs : List Lm → List (List SV)
  | [] => []
  | t :: ts => encL t :: encLs ts
end
theorem encLs_eq : ∀ xs : List Lm, encLs xs = xs.map encL
  | [] => rfl
  | t :: ts => by rw [encLs, encLs_eq ts]; rfl
theorem encL_eq (t : Lm) : encL t = [.int .i64 t.kind, .int .i64 t.idx, .list (t.subs.map encL)] := by
  cases t
  rw [encL, encLs_eq]
  rfl
theorem len_encL (t : Lm) : (encL t).length = 3 := by rw [encL_eq]; rfl
theorem lens_encL {ts : List Lm} : ∀ x ∈ ts.map encL, x.length = 3 := by
  intro x hx
  obtain ⟨a, _, rfl⟩ := List.mem_map.1 hx
  exact len_encL a
abbrev aLm (t : Lm) : AV := .agg [.st (.int .i64 t.kind), .st (.int .i64 t.idx), .st (.list (t.subs.map encL))]
abbrev aLms (l : List Lm) : AV := .one (.st (.list (l.map encL)))
theorem known_lm {S : AStore} {t : Lm} (h : (aLm t).known S) : (-9223372036854775808 ≤ t.kind ∧ t.kind ≤ 9223372036854775807) ∧ (-9223372036854775808 ≤ t.idx ∧ t.idx ≤ 9223372036854775807) ∧ t.subs.length ≤ 9223372036854775807 := by
  have h1 : inR .i64 t.kind := by
    have := h (.st (.int .i64 t.kind)) (by simp)
    simpa [AC.known, SV.known] using this
  have h2 : inR .i64 t.idx := by
    have := h (.st (.int .i64 t.idx)) (by simp)
    simpa [AC.known, SV.known] using this
  have h3 : t.subs.length ≤ maxLen := by
    have := h (.st (.list (t.subs.map encL))) (by simp)
    simp only [AC.known, SV.known, List.length_map] at this
    exact this.1
  rw [inR_i64] at h1 h2
  rw [maxLen_eq] at h3
  exact ⟨h1, h2, h3⟩
theorem Lm.lt_of_mem {a : Lm} {k i : Int} {xs : List Lm} (h : a ∈ xs) : SizeOf.sizeOf a < SizeOf.sizeOf (Lm.mk k i xs) := by
  have := List.sizeOf_lt_of_mem h
  simp only [Lm.mk.sizeOf_spec]
  omega
theorem Lm.lt_of_sub {a t : Lm} (h : a ∈ t.subs) : SizeOf.sizeOf a < SizeOf.sizeOf t := by
  cases t
  exact Lm.lt_of_mem h

attribute [go_sem] Lm.kind_mk Lm.idx_mk Lm.subs_mk encL_eq
/-! ### sizes -/
mutual
def Lm.size : Lm → Nat
  | .mk _ _ xs => 1 + Lm.sizes xs
def Lm.sizes : List Lm → Nat
  | [] => 0
  | t :: ts => t.size + Lm.sizes ts
end
theorem Lm.sizes_append (xs ys : List Lm) : Lm.sizes (xs ++ ys) = Lm.sizes xs + Lm.sizes ys := by
  induction xs with
  | nil => simp [Lm.sizes]
  | cons t ts ih => simp only [List.cons_append, Lm.sizes, ih]; omega
theorem Lm.sizes_take {xs : List Lm} {k : Nat} {a : Lm} (h : xs[k]? = some a) : Lm.sizes (xs.take (k+1)) = Lm.sizes (xs.take k) + a.size := by
  rw [take_snoc h, Lm.sizes_append]; simp [Lm.sizes]
theorem Lm.sizes_take_le (xs : List Lm) (k : Nat)  : Lm.sizes (xs.take k) ≤ Lm.sizes xs := by
  have := Lm.sizes_append (xs.take k) (xs.drop k)
  rw [List.take_append_drop] at this
  omega
theorem Lm.size_eq (t : Lm) : t.size = 1 + Lm.sizes t.subs := by cases t; rfl
theorem Lm.size_pos (t : Lm) : 1 ≤ t.size := by rw [Lm.size_eq]; omega
theorem Lm.size_mem {a : Lm} {xs : List Lm} (h : a ∈ xs) : a.size ≤ Lm.sizes xs := by
  induction xs with
  | nil => simp at h
  | cons t ts ih =>
    rcases List.mem_cons.1 h with rfl | h
    · simp only [Lm.sizes]; omega
    · have := ih h; simp only [Lm.sizes]; omega
theorem Lm.size_sub {a t : Lm} (h : a ∈ t.subs) : a.size + 1 ≤ t.size := by
  have := Lm.size_mem h
  rw [Lm.size_eq t]
  omega
theorem Lm.length_le (xs : List Lm) : xs.length ≤ Lm.sizes xs := by
  induction xs with
  | nil => simp [Lm.sizes]
  | cons t ts ih => have := Lm.size_pos t; simp only [Lm.sizes, List.length_cons]; omega

/-! ### what may be -/
/-- how many are below a knot of a kind -/
def nSubs (k : Int) : Int := if k = 2 then 1 else if k = 3 then 2 else 0
/-- the first number that is too great -/
def mostIdx (k u m : Int) : Int := if k = 1 then u else if k = 4 then 40 else if k = 5 then m else 1
/-- how many binders stand around what is below -/
def under (k u : Int) : Int := if k = 2 then u + 1 else u
mutual
def Lm.chk (m : Int) : Lm → Int → Int
  | .mk k i xs, u => if 1 ≤ k ∧ k ≤ 5 ∧ (xs.length : Int) = nSubs k then (if 0 ≤ i ∧ i < mostIdx k u m then Lm.chks m xs (under k u) else 15) else 2
def Lm.chks (m : Int) : List Lm → Int → Int
  | [], _ => 0
  | t :: ts, u => if t.chk m u = 0 then Lm.chks m ts u else t.chk m u
end
theorem Lm.chk_eq (m : Int) (t : Lm) (u : Int) : t.chk m u = if 1 ≤ t.kind ∧ t.kind ≤ 5 ∧ (t.subs.length : Int) = nSubs t.kind then (if 0 ≤ t.idx ∧ t.idx < mostIdx t.kind u m then Lm.chks m t.subs (under t.kind u) else 15) else 2 := by cases t; rfl
theorem Lm.chks_append (m u : Int) (xs ys : List Lm) : Lm.chks m (xs ++ ys) u = if Lm.chks m xs u = 0 then Lm.chks m ys u else Lm.chks m xs u := by
  induction xs with
  | nil => simp [Lm.chks]
  | cons t ts ih =>
    simp only [List.cons_append, Lm.chks]
    by_cases h : t.chk m u = 0
    · simp only [h, if_true, ih]
    · simp only [h, if_false]
theorem Lm.chks_take {m u : Int} {xs : List Lm} {k : Nat} {a : Lm} (h : xs[k]? = some a) (h0 : Lm.chks m (xs.take k) u = 0) : Lm.chks m (xs.take (k+1)) u = a.chk m u := by
  rw [take_snoc h, Lm.chks_append, if_pos h0]
  simp only [Lm.chks]
  split <;> simp_all
theorem Lm.chks_bad {m u : Int} {xs : List Lm} {k : Nat} (h0 : Lm.chks m (xs.take k) u ≠ 0) : Lm.chks m xs u = Lm.chks m (xs.take k) u := by
  have := Lm.chks_append m u (xs.take k) (xs.drop k)
  rw [List.take_append_drop, if_neg h0] at this
  exact this

/-! ### terms of a form, with no great numbers -/
mutual
def Lm.good (b : Int) : Lm → Prop
  | .mk k i xs => (k = 1 → xs = []) ∧ 0 ≤ i ∧ i ≤ b ∧ Lm.goods b xs
def Lm.goods (b : Int) : List Lm → Prop
  | [] => True
  | t :: ts => t.good b ∧ Lm.goods b ts
end
theorem Lm.good_eq (b : Int) (t : Lm) : t.good b ↔ ((t.kind = 1 → t.subs = []) ∧ 0 ≤ t.idx ∧ t.idx ≤ b ∧ Lm.goods b t.subs) := by cases t; exact Iff.rfl
theorem Lm.goods_mem {b : Int} {xs : List Lm} (h : Lm.goods b xs) : ∀ t ∈ xs, t.good b := by
  induction xs with
  | nil => intro t ht; simp at ht
  | cons x xs ih =>
    intro t ht
    rcases List.mem_cons.1 ht with rfl | ht
    · exact h.1
    · exact ih h.2 t ht
theorem Lm.good_sub {b : Int} {t a : Lm} (h : t.good b) (ha : a ∈ t.subs) : a.good b := Lm.goods_mem ((Lm.good_eq b t).1 h).2.2.2 a ha
mutual
theorem Lm.good_chk {m : Int} (h1 : m ≤ 40) : ∀ (t : Lm) (u b : Int), 0 ≤ u → u + t.size ≤ b → 40 ≤ b → t.chk m u = 0 → t.good b
  | .mk k i xs, u, b, hu, hb, hb4, h => by
    rw [Lm.chk] at h
    rw [Lm.size] at hb
    split at h
    · rename_i hk
      split at h
      · rename_i hi
        refine ⟨fun e => ?_, hi.1, ?_, ?_⟩
        · subst e
          have := hk.2.2
          simp [nSubs] at this
          exact this
        · have := hi.2
          simp only [mostIdx] at this
          split at this
          · omega
          · split at this
            · omega
            · split at this <;> omega
        · have hu2 : under k u ≤ u + 1 ∧ 0 ≤ under k u := by unfold under; split <;> omega
          exact Lm.goods_chk h1 xs (under k u) b hu2.2 (by omega) hb4 h
      · omega
    · omega
theorem Lm.goods_chk {m : Int} (h1 : m ≤ 40) : ∀ (xs : List Lm) (u b : Int), 0 ≤ u → u + Lm.sizes xs ≤ b → 40 ≤ b → Lm.chks m xs u = 0 → Lm.goods b xs
  | [], _, _, _, _, _, _ => trivial
  | t :: ts, u, b, hu, hb, hb4, h => by
    rw [Lm.chks] at h
    rw [Lm.sizes] at hb
    split at h
    · rename_i e
      exact ⟨Lm.good_chk h1 t u b hu (by omega) hb4 e, Lm.goods_chk h1 ts u b hu (by omega) hb4 h⟩
    · rename_i e
      exact absurd h e
end

/-! ### moving what is bound -/
mutual
def Lm.mv (by_ : Int) : Int → Lm → Lm
  | d, .mk k i xs => .mk k (if k = 1 ∧ d ≤ i then i + by_ else i) (Lm.mvs by_ (under k d) xs)
def Lm.mvs (by_ : Int) : Int → List Lm → List Lm
  | _, [] => []
  | d, t :: ts => Lm.mv by_ d t :: Lm.mvs by_ d ts
end
theorem Lm.mvs_eq (b d : Int) : ∀ xs : List Lm, Lm.mvs b d xs = xs.map (Lm.mv b d)
  | [] => rfl
  | t :: ts => by rw [Lm.mvs, Lm.mvs_eq b d ts]; rfl
theorem Lm.mv_eq (b d : Int) (t : Lm) : Lm.mv b d t = .mk t.kind (if t.kind = 1 ∧ d ≤ t.idx then t.idx + b else t.idx) (t.subs.map (Lm.mv b (under t.kind d))) := by
  cases t
  rw [Lm.mv, Lm.mvs_eq]
  rfl
mutual
theorem Lm.size_mv (b : Int) : ∀ (d : Int) (t : Lm), (Lm.mv b d t).size = t.size
  | d, .mk k i xs => by rw [Lm.mv, Lm.size, Lm.size, Lm.sizes_mv b _ xs]
theorem Lm.sizes_mv (b : Int) : ∀ (d : Int) (xs : List Lm), Lm.sizes (Lm.mvs b d xs) = Lm.sizes xs
  | _, [] => rfl
  | d, t :: ts => by rw [Lm.mvs, Lm.sizes, Lm.sizes, Lm.size_mv b d t, Lm.sizes_mv b d ts]
end

/-! ### putting in -/
mutual
def Lm.put (x : Lm) : Int → Lm → Lm
  | d, .mk k i xs => if k = 1 then (if i = d then Lm.mv d 0 x else if d < i then .mk 1 (i - 1) [] else .mk 1 i []) else .mk k i (Lm.puts x (under k d) xs)
def Lm.puts (x : Lm) : Int → List Lm → List Lm
  | _, [] => []
  | d, t :: ts => Lm.put x d t :: Lm.puts x d ts
end
theorem Lm.puts_eq (x : Lm) (d : Int) : ∀ xs : List Lm, Lm.puts x d xs = xs.map (Lm.put x d)
  | [] => rfl
  | t :: ts => by rw [Lm.puts, Lm.puts_eq x d ts]; rfl
theorem Lm.put_eq (x : Lm) (d : Int) (t : Lm) : Lm.put x d t = if t.kind = 1 then (if t.idx = d then Lm.mv d 0 x else if d < t.idx then .mk 1 (t.idx - 1) [] else .mk 1 t.idx []) else .mk t.kind t.idx (t.subs.map (Lm.put x (under t.kind d))) := by
  cases t
  rw [Lm.put, Lm.puts_eq]
  rfl
theorem mul_succ_le {a b c : Nat} (h : a ≤ b * c) (hc : 1 ≤ c) : 1 + a ≤ (1 + b) * c := by
  rw [Nat.add_mul, Nat.one_mul]
  omega
mutual
theorem Lm.size_put (x : Lm) : ∀ (d : Int) (t : Lm), (Lm.put x d t).size ≤ t.size * x.size
  | d, .mk k i xs => by
    have hx := Lm.size_pos x
    have h1 : 1 ≤ (1 + Lm.sizes xs) * x.size := by
      rw [Nat.add_mul]; omega
    have h2 : x.size ≤ (1 + Lm.sizes xs) * x.size := by
      rw [Nat.add_mul]; omega
    rw [Lm.put, Lm.size]
    split
    · split
      · rw [Lm.size_mv]; exact h2
      · split
        · simpa only [Lm.size, Lm.sizes, Nat.add_zero] using h1
        · simpa only [Lm.size, Lm.sizes, Nat.add_zero] using h1
    · rw [Lm.size]
      exact mul_succ_le (Lm.sizes_put x _ xs) hx
theorem Lm.sizes_put (x : Lm) : ∀ (d : Int) (xs : List Lm), Lm.sizes (Lm.puts x d xs) ≤ Lm.sizes xs * x.size
  | _, [] => by simp [Lm.puts, Lm.sizes]
  | d, t :: ts => by
    have h1 := Lm.size_put x d t
    have h2 := Lm.sizes_put x d ts
    rw [Lm.puts, Lm.sizes, Lm.sizes, Nat.add_mul]
    omega
end

/-! ### sameness -/
mutual
def Lm.same : Lm → Lm → Bool
  | .mk k i xs, .mk l j ys => decide (k = l) && decide (i = j) && Lm.sames xs ys
def Lm.sames : List Lm → List Lm → Bool
  | [], [] => true
  | x :: xs, y :: ys => x.same y && Lm.sames xs ys
  | [], _ :: _ => false
  | _ :: _, [] => false
end
mutual
theorem Lm.same_self : ∀ t : Lm, t.same t = true
  | .mk k i xs => by simp [Lm.same, Lm.sames_self xs]
theorem Lm.sames_self : ∀ xs : List Lm, Lm.sames xs xs = true
  | [] => rfl
  | t :: ts => by simp [Lm.sames, Lm.same_self t, Lm.sames_self ts]
end
/-- What a term that is given must be. -/
def Lm.may (m u : Int) (t : Lm) : Int := if u < 0 ∨ 40 < u then 10 else if 200 < t.size then 3 else t.chk m u
theorem Lm.may_ok {m u : Int} {t : Lm} (h : Lm.may m u t = 0) : 0 ≤ u ∧ u ≤ 40 ∧ t.size ≤ 200 ∧ t.chk m u = 0 := by
  unfold Lm.may at h
  split at h
  · omega
  · split at h
    · omega
    · omega
def Lm.nil : Lm := .mk 0 0 []
end Go.Proofs.Ytelmgldeghmkbaa
