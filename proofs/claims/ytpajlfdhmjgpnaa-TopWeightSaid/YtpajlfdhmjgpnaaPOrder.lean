/-
  Counts of variables with a sign, rows of symbols, in plain Lean. No program in sight.
  Conditions: none.
-/
import Derived.Test.YtpajlfdhmjgpnaaPWeight
namespace Go.Proofs.Ytpajlfdhmjgpnaa
open Go Go.RowKit
set_option linter.unusedVariables false

/-- The first that is not zero. -/
def firstNZ : List Int → Int
  | [] => 0
  | x :: xs => if x ≠ 0 then x else firstNZ xs
theorem symI_first (row : List ByteArray) (a b : Tm) : symI row a b = firstNZ [cmpZ (rankOf row a.name) (rankOf row b.name), cmpI a.name b.name, cmpZ a.args.length b.args.length] := by
  unfold symI
  simp only [firstNZ]
  split
  · rfl
  · split
    · rfl
    · split
      · rfl
      · omega
/-- A row of symbols: what is wrong with it. -/
def rowGo : List ByteArray → List ByteArray → Int
  | _, [] => 0
  | seen, x :: xs => if nameOk x = true ∧ isVar x = false then (if isIn x seen = true then 4 else rowGo (seen ++ [x]) xs) else 1
def rowMay (row : List ByteArray) : Int := if 40 < row.length then 3 else rowGo [] row

/-! ### counts -/
abbrev Ct := ByteArray × Int
def findC (l : List Ct) (v : ByteArray) : Option Int := (l.find? fun b => decide (b.1 = v)).map (·.2)
def getC (l : List Ct) (v : ByteArray) : Int := (findC l v).getD 0
def putC : List Ct → ByteArray → Int → List Ct
  | [], v, n => [(v, n)]
  | b :: l, v, n => if b.1 = v then (v, n) :: l else b :: putC l v n
mutual
/-- So much more for each variable's knot. -/
def Tm.cnt (by_ : Int) : Tm → List Ct → List Ct
  | .mk n xs, l => Tm.cntL by_ xs (if isVar n = true then putC l n (getC l n + by_) else l)
def Tm.cntL (by_ : Int) : List Tm → List Ct → List Ct
  | [], l => l
  | t :: ts, l => Tm.cntL by_ ts (t.cnt by_ l)
end
theorem Tm.cntL_append (by_ : Int) : ∀ (xs ys : List Tm) (l : List Ct), Tm.cntL by_ (xs ++ ys) l = Tm.cntL by_ ys (Tm.cntL by_ xs l)
  | [], ys, l => rfl
  | x :: xs, ys, l => by
    simp only [List.cons_append, Tm.cntL]
    exact Tm.cntL_append by_ xs ys _
theorem Tm.cntL_take {by_ : Int} {xs : List Tm} {k : Nat} {a : Tm} {l : List Ct} (h : xs[k]? = some a) : Tm.cntL by_ (xs.take (k + 1)) l = a.cnt by_ (Tm.cntL by_ (xs.take k) l) := by
  rw [take_snoc h, Tm.cntL_append]
  rfl
theorem findC_cons (b : Ct) (l : List Ct) (v : ByteArray) : findC (b :: l) v = if b.1 = v then some b.2 else findC l v := by
  unfold findC
  by_cases h : b.1 = v
  · rw [List.find?_cons_of_pos (by simpa using h), if_pos h]; rfl
  · rw [List.find?_cons_of_neg (by simpa using h), if_neg h]
theorem getC_put (l : List Ct) (v u : ByteArray) (n : Int) : getC (putC l v n) u = if v = u then n else getC l u := by
  unfold getC
  induction l with
  | nil =>
    rw [putC, findC_cons]
    split
    · rfl
    · rfl
  | cons b l ih =>
    rw [putC]
    by_cases h : b.1 = v
    · rw [if_pos h, findC_cons, findC_cons]
      by_cases e : v = u
      · rw [if_pos e, if_pos e]; rfl
      · rw [if_neg e, if_neg e, if_neg (by rw [h]; exact e)]
    · rw [if_neg h, findC_cons, findC_cons]
      by_cases e : b.1 = u
      · rw [if_pos e, if_pos e, if_neg (fun e2 => h (e.trans e2.symm))]
      · rw [if_neg e, if_neg e]
        exact ih
theorem putC_keys (l : List Ct) (v : ByteArray) (n : Int) : ∀ b ∈ putC l v n, b.1 = v ∨ b ∈ l := by
  induction l with
  | nil => intro b hb; rw [putC, List.mem_singleton] at hb; subst hb; exact .inl rfl
  | cons c l ih =>
    intro b hb
    rw [putC] at hb
    split at hb
    · rcases List.mem_cons.1 hb with rfl | hb
      · exact .inl rfl
      · exact .inr (by simp [hb])
    · rcases List.mem_cons.1 hb with rfl | hb
      · exact .inr (by simp)
      · rcases ih b hb with h | h
        · exact .inl h
        · exact .inr (by simp [h])
def NamedC (l : List Ct) : Prop := (l.map (·.1)).Nodup
theorem namedC_put {l : List Ct} (h : NamedC l) (v : ByteArray) (n : Int) : NamedC (putC l v n) := by
  unfold NamedC at *
  induction l with
  | nil => simp [putC]
  | cons c l ih =>
    rw [List.map_cons, List.nodup_cons] at h
    rw [putC]
    split
    · rename_i e
      subst e
      rw [List.map_cons, List.nodup_cons]
      exact h
    · rename_i e
      rw [List.map_cons, List.nodup_cons]
      refine ⟨fun hm => ?_, ih h.2⟩
      obtain ⟨b, hb, e2⟩ := List.mem_map.1 hm
      rcases putC_keys l v n b hb with h3 | h3
      · exact e (e2.symm.trans h3)
      · exact h.1 (by rw [← e2]; exact List.mem_map_of_mem h3)
/-- What counting keeps. -/
structure CntOk (l : List Ct) : Prop where
  named : NamedC l
  vars : ∀ b ∈ l, isVar b.1 = true
theorem cntOk_put {l : List Ct} (h : CntOk l) {v : ByteArray} (hv : isVar v = true) (n : Int) : CntOk (putC l v n) :=
  ⟨namedC_put h.named v n, fun b hb => by
    rcases putC_keys l v n b hb with h1 | h1
    · rw [h1]; exact hv
    · exact h.vars b h1⟩
mutual
theorem cnt_ok (by_ : Int) : ∀ (t : Tm) (l : List Ct), CntOk l → CntOk (t.cnt by_ l)
  | .mk n xs, l, h => by
    rw [Tm.cnt]
    refine cntL_ok by_ xs _ ?_
    split
    · rename_i hv
      exact cntOk_put h hv _
    · exact h
theorem cntL_ok (by_ : Int) : ∀ (xs : List Tm) (l : List Ct), CntOk l → CntOk (Tm.cntL by_ xs l)
  | [], l, h => h
  | t :: ts, l, h => cntL_ok by_ ts _ (cnt_ok by_ t l h)
end
mutual
theorem getC_cnt (by_ : Int) (v : ByteArray) (hv : isVar v = true) : ∀ (t : Tm) (l : List Ct), getC (t.cnt by_ l) v = getC l v + by_ * t.occN v
  | .mk n xs, l => by
    rw [Tm.cnt, getC_cntL by_ v hv xs, Tm.occN]
    by_cases e : n = v
    · subst e
      rw [if_pos hv, getC_put, if_pos rfl, if_pos rfl, Int.natCast_add, Int.mul_add]
      simp only [Int.natCast_one, Int.mul_one]
      omega
    · rw [if_neg e, Nat.zero_add]
      split
      · rw [getC_put, if_neg e]
      · rfl
theorem getC_cntL (by_ : Int) (v : ByteArray) (hv : isVar v = true) : ∀ (xs : List Tm) (l : List Ct), getC (Tm.cntL by_ xs l) v = getC l v + by_ * Tm.occNs v xs
  | [], l => by simp [Tm.cntL, Tm.occNs]
  | t :: ts, l => by
    rw [Tm.cntL, getC_cntL by_ v hv ts, getC_cnt by_ v hv t, Tm.occNs, Int.natCast_add, Int.mul_add]
    omega
end
mutual
theorem occN_le (v : ByteArray) : ∀ t : Tm, t.occN v ≤ t.size
  | .mk n xs => by
    rw [Tm.occN, Tm.size]
    have := occNs_le v xs
    split <;> omega
theorem occNs_le (v : ByteArray) : ∀ xs : List Tm, Tm.occNs v xs ≤ Tm.sizes xs
  | [] => Nat.le_refl _
  | t :: ts => by
    rw [Tm.occNs, Tm.sizes]
    have := occN_le v t
    have := occNs_le v ts
    omega
end
theorem findC_mem {l : List Ct} {v : ByteArray} {n : Int} (h : findC l v = some n) : (v, n) ∈ l := by
  induction l with
  | nil => cases h
  | cons b l ih =>
    rw [findC_cons] at h
    split at h
    · rename_i e
      cases h
      rw [← e]
      simp
    · exact List.mem_cons_of_mem _ (ih h)
theorem findC_of {l : List Ct} (hn : NamedC l) {b : Ct} (h : b ∈ l) : findC l b.1 = some b.2 := by
  unfold NamedC at hn
  induction l with
  | nil => cases h
  | cons c l ih =>
    rw [List.map_cons, List.nodup_cons] at hn
    rw [findC_cons]
    rcases List.mem_cons.1 h with rfl | h
    · rw [if_pos rfl]
    · rw [if_neg fun e => hn.1 (by rw [e]; exact List.mem_map_of_mem h)]
      exact ih hn.2 h
/-- Each variable with how often it stands in the first, less how often in the second. -/
def diffC (a b : Tm) : List Ct := b.cnt (-1) (a.cnt 1 [])
theorem diffC_ok (a b : Tm) : CntOk (diffC a b) := cnt_ok _ _ _ (cnt_ok _ _ _ ⟨List.nodup_nil, by simp⟩)
theorem diffC_get (a b : Tm) {v : ByteArray} (hv : isVar v = true) : getC (diffC a b) v = (a.occN v : Int) - b.occN v := by
  unfold diffC
  rw [getC_cnt _ _ hv, getC_cnt _ _ hv]
  show (0 : Int) + 1 * _ + -1 * _ = _
  omega
theorem diffC_all {a b : Tm} : (∀ c ∈ diffC a b, 0 ≤ c.2) ↔ okV a b := by
  constructor
  · intro h v hv
    have hg := diffC_get a b hv
    unfold getC at hg
    cases hf : findC (diffC a b) v with
    | none => rw [hf] at hg; simp only [Option.getD_none] at hg; omega
    | some n =>
      rw [hf] at hg
      simp only [Option.getD_some] at hg
      have := h _ (findC_mem hf)
      simp only at this
      omega
  · intro h c hc
    have hv := (diffC_ok a b).vars c hc
    have hg := diffC_get a b hv
    unfold getC at hg
    rw [findC_of (diffC_ok a b).named hc] at hg
    simp only [Option.getD_some] at hg
    have := h c.1 hv
    omega
end Go.Proofs.Ytpajlfdhmjgpnaa
