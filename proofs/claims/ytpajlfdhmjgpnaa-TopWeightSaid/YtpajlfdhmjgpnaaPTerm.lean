/-
  Terms, in plain Lean: letters and names, sizes, knots, checks, variables, places. No program in sight.
  Conditions: none.
-/
import Derived.Test.YtpajlfdhmjgpnaaAbsU
namespace Go.Proofs.Ytpajlfdhmjgpnaa
open Go Go.RowKit
set_option linter.unusedVariables false

def letterI (n : Int) : Bool := decide (97 ≤ n ∧ n ≤ 122) || decide (65 ≤ n ∧ n ≤ 90) || decide (48 ≤ n ∧ n ≤ 57)
def byteAt (s : ByteArray) (k : Nat) : Int := ((s.data.toList.getD k 0).toNat : Int)
theorem byteAt_get (s : ByteArray) (k : Nat) (h : k < s.size) : ((s[k]'h).toNat : Int) = byteAt s k := by
  unfold byteAt
  have h2 : k < s.data.toList.length := by simpa using h
  rw [List.getD_eq_getElem?_getD, List.getElem?_eq_getElem h2]
  rfl
theorem byteAt_range (s : ByteArray) (k : Nat) : 0 ≤ byteAt s k ∧ byteAt s k ≤ 255 := by
  unfold byteAt
  have := (s.data.toList.getD k 0).toNat_lt
  omega
def isVar (s : ByteArray) : Bool := decide (0 < s.size) && decide (65 ≤ byteAt s 0) && decide (byteAt s 0 ≤ 90)
def lettersTo (s : ByteArray) (k : Nat) : Bool := (s.data.toList.take k).all fun c => letterI c.toNat
def nameOk (s : ByteArray) : Bool := decide (1 ≤ s.size) && decide (s.size ≤ 8) && !(decide (48 ≤ byteAt s 0) && decide (byteAt s 0 ≤ 57)) && lettersTo s s.size
theorem lettersTo_succ (s : ByteArray) (k : Nat) (h : k < s.size) : lettersTo s (k + 1) = (lettersTo s k && letterI (byteAt s k)) := by
  unfold lettersTo byteAt
  have h2 : k < s.data.toList.length := by simpa using h
  rw [List.take_add_one, List.getD_eq_getElem?_getD, List.getElem?_eq_getElem h2]
  simp
theorem lettersTo_no (s : ByteArray) (k : Nat) (h : k < s.size) (hn : letterI (byteAt s k) = false) : lettersTo s s.size = false := by
  unfold lettersTo byteAt at *
  have h2 : k < s.data.toList.length := by simpa using h
  rw [List.getD_eq_getElem?_getD, List.getElem?_eq_getElem h2] at hn
  rw [List.all_eq_false]
  refine ⟨s.data.toList[k], ?_, by simpa using hn⟩
  rw [List.take_of_length_le (by simp)]
  exact List.getElem_mem h2
theorem toList_nil (s : ByteArray) : s.toList = [] ↔ s.size = 0 := by
  rw [ByteArray.toList_eq]
  constructor
  · intro h
    have := congrArg List.length h
    simpa using this
  · intro h
    exact List.eq_nil_of_length_eq_zero (by simpa using h)



mutual
def Tm.size : Tm → Nat
  | .mk _ xs => 1 + Tm.sizes xs
def Tm.sizes : List Tm → Nat
  | [] => 0
  | t :: ts => t.size + Tm.sizes ts
end
theorem Tm.sizes_append (xs ys : List Tm) : Tm.sizes (xs ++ ys) = Tm.sizes xs + Tm.sizes ys := by
  induction xs with
  | nil => simp [Tm.sizes]
  | cons t ts ih => simp only [List.cons_append, Tm.sizes, ih]; omega
theorem Tm.sizes_take {xs : List Tm} {k : Nat} {a : Tm} (h : xs[k]? = some a) : Tm.sizes (xs.take (k+1)) = Tm.sizes (xs.take k) + a.size := by
  rw [take_snoc h, Tm.sizes_append]; simp [Tm.sizes]
theorem Tm.sizes_take_le (xs : List Tm) (k : Nat)  : Tm.sizes (xs.take k) ≤ Tm.sizes xs := by
  have := Tm.sizes_append (xs.take k) (xs.drop k)
  rw [List.take_append_drop] at this
  omega
theorem Tm.size_eq (t : Tm) : t.size = 1 + Tm.sizes t.args := by cases t; rfl
theorem Tm.size_pos (t : Tm) : 1 ≤ t.size := by rw [Tm.size_eq]; omega
theorem Tm.size_mem {a : Tm} {xs : List Tm} (h : a ∈ xs) : a.size ≤ Tm.sizes xs := by
  induction xs with
  | nil => simp at h
  | cons t ts ih =>
    rcases List.mem_cons.1 h with rfl | h
    · simp only [Tm.sizes]; omega
    · have := ih h; simp only [Tm.sizes]; omega
theorem Tm.length_le (xs : List Tm) : xs.length ≤ Tm.sizes xs := by
  induction xs with
  | nil => simp [Tm.sizes]
  | cons t ts ih => have := Tm.size_pos t; simp only [Tm.sizes, List.length_cons]; omega
theorem Tm.lt_of_arg {a t : Tm} (h : a ∈ t.args) : SizeOf.sizeOf a < SizeOf.sizeOf t := by
  cases t
  exact Tm.lt_of_mem h
/-- m less s, but -1 at the least -/
def lessBy (s : Nat) (m : Int) : Int := if m < s then -1 else m - s
/-- s, but m + 1 at the most -/
def capTo (s : Nat) (m : Int) : Int := if m < s then m + 1 else s



mutual
def Tm.knots : Tm → List Tm
  | .mk n xs => .mk n xs :: Tm.knotsL xs
def Tm.knotsL : List Tm → List Tm
  | [] => []
  | t :: ts => t.knots ++ Tm.knotsL ts
end
theorem Tm.knots_eq (t : Tm) : t.knots = t :: Tm.knotsL t.args := by cases t; rfl
theorem Tm.knotsL_append (xs ys : List Tm) : Tm.knotsL (xs ++ ys) = Tm.knotsL xs ++ Tm.knotsL ys := by
  induction xs with
  | nil => simp [Tm.knotsL]
  | cons t ts ih => simp [Tm.knotsL, ih]
theorem Tm.knotsL_take {xs : List Tm} {k : Nat} {a : Tm} (h : xs[k]? = some a) : Tm.knotsL (xs.take (k+1)) = Tm.knotsL (xs.take k) ++ a.knots := by
  rw [take_snoc h, Tm.knotsL_append]; simp [Tm.knotsL]
mutual
theorem Tm.knots_length : ∀ t : Tm, t.knots.length = t.size
  | .mk n xs => by simp only [Tm.knots, Tm.size, List.length_cons, Tm.knotsL_length xs]; omega
theorem Tm.knotsL_length : ∀ xs : List Tm, (Tm.knotsL xs).length = Tm.sizes xs
  | [] => rfl
  | t :: ts => by simp only [Tm.knotsL, Tm.sizes, List.length_append, Tm.knots_length t, Tm.knotsL_length ts]
end


def chkOne (t : Tm) : Int := if nameOk t.name = true then (if isVar t.name = true ∧ 0 < t.args.length then 2 else 0) else 1
mutual
def Tm.chk : Tm → Int
  | .mk n xs => if chkOne (.mk n xs) = 0 then Tm.chkL xs else chkOne (.mk n xs)
def Tm.chkL : List Tm → Int
  | [] => 0
  | t :: ts => if t.chk = 0 then Tm.chkL ts else t.chk
end
def firstErr : List Tm → Int
  | [] => 0
  | t :: ts => if chkOne t = 0 then firstErr ts else chkOne t
theorem Tm.chk_eq (t : Tm) : t.chk = if chkOne t = 0 then Tm.chkL t.args else chkOne t := by cases t; rfl
theorem firstErr_append (xs ys : List Tm) : firstErr (xs ++ ys) = if firstErr xs = 0 then firstErr ys else firstErr xs := by
  induction xs with
  | nil => simp [firstErr]
  | cons t ts ih =>
    simp only [List.cons_append, firstErr]
    by_cases h : chkOne t = 0
    · simp only [h, if_true, ih]
    · simp only [h, if_false]
mutual
theorem Tm.firstErr_knots : ∀ t : Tm, firstErr t.knots = t.chk
  | .mk n xs => by
    simp only [Tm.knots, firstErr, Tm.chk]
    split
    · exact Tm.firstErr_knotsL xs
    · rfl
theorem Tm.firstErr_knotsL : ∀ xs : List Tm, firstErr (Tm.knotsL xs) = Tm.chkL xs
  | [] => rfl
  | t :: ts => by
    simp only [Tm.knotsL, firstErr_append, Tm.firstErr_knots t, Tm.firstErr_knotsL ts, Tm.chkL]
end
theorem Tm.chkL_append (xs ys : List Tm) : Tm.chkL (xs ++ ys) = if Tm.chkL xs = 0 then Tm.chkL ys else Tm.chkL xs := by
  induction xs with
  | nil => simp [Tm.chkL]
  | cons t ts ih =>
    simp only [List.cons_append, Tm.chkL]
    by_cases h : t.chk = 0
    · simp only [h, if_true, ih]
    · simp only [h, if_false]
theorem Tm.chkL_get {xs : List Tm} {k : Nat} {a : Tm} (h : xs[k]? = some a) (h0 : Tm.chkL (xs.take k) = 0) : (a.chk = 0 → Tm.chkL (xs.take (k+1)) = 0) ∧ (a.chk ≠ 0 → Tm.chkL xs = a.chk) := by
  constructor
  · intro ha
    rw [take_snoc h, Tm.chkL_append, if_pos h0]
    simp [Tm.chkL, ha]
  · intro ha
    rw [← List.take_append_drop k xs, Tm.chkL_append, if_pos h0]
    have hd : xs.drop k = a :: xs.drop (k+1) := by
      have hk := lt_of_get h
      rw [List.getElem?_eq_getElem hk] at h
      rw [List.drop_eq_getElem_cons hk]
      simp at h
      rw [h]
    rw [hd]
    simp [Tm.chkL, ha]
theorem firstErr_get {xs : List Tm} {k : Nat} {a : Tm} (h : xs[k]? = some a) (h0 : firstErr (xs.take k) = 0) : (chkOne a = 0 → firstErr (xs.take (k+1)) = 0) ∧ (chkOne a ≠ 0 → firstErr xs = chkOne a) := by
  constructor
  · intro ha
    rw [take_snoc h, firstErr_append, if_pos h0]
    simp [firstErr, ha]
  · intro ha
    rw [← List.take_append_drop k xs, firstErr_append, if_pos h0]
    have hd : xs.drop k = a :: xs.drop (k+1) := by
      have hk := lt_of_get h
      rw [List.getElem?_eq_getElem hk] at h
      rw [List.drop_eq_getElem_cons hk]
      simp at h
      rw [h]
    rw [hd]
    simp [firstErr, ha]
/-- may it be? 0: yes; else what is wrong. -/
def Tm.may (t : Tm) : Int := if 200 < t.size then 3 else t.chk
theorem chkOne_range (t : Tm) : 0 ≤ chkOne t ∧ chkOne t ≤ 2 := by unfold chkOne; split <;> (try split) <;> omega
mutual
theorem Tm.chk_range : ∀ t : Tm, 0 ≤ t.chk ∧ t.chk ≤ 2
  | .mk n xs => by
    have h1 := chkOne_range (.mk n xs)
    have h2 := Tm.chkL_range xs
    simp only [Tm.chk]
    split <;> omega
theorem Tm.chkL_range : ∀ xs : List Tm, 0 ≤ Tm.chkL xs ∧ Tm.chkL xs ≤ 2
  | [] => by simp [Tm.chkL]
  | t :: ts => by
    have h1 := Tm.chk_range t
    have h2 := Tm.chkL_range ts
    simp only [Tm.chkL]
    split <;> omega
end
theorem Tm.may_range (t : Tm) : 0 ≤ t.may ∧ t.may ≤ 3 := by
  have := Tm.chk_range t
  unfold Tm.may
  split <;> omega
theorem ne_true {a : Int} (h : a ≠ 0) : (a != 0) = true := by simpa using h
theorem eq_false' {a : Int} (h : a ≠ 0) : (a == 0) = false := by simpa using h


def isIn (x : ByteArray) (l : List ByteArray) : Bool := l.any fun y => decide (y = x)
theorem isIn_iff {x : ByteArray} {l : List ByteArray} : isIn x l = true ↔ x ∈ l := by simp [isIn]
theorem isIn_no {x : ByteArray} {l : List ByteArray} : isIn x l = false ↔ x ∉ l := by rw [← Bool.not_eq_true, isIn_iff]


/-- one name more, if it is a variable's and new -/
def addVar (l : List ByteArray) (n : ByteArray) : List ByteArray := if isVar n && !isIn n l then l ++ [n] else l
def addVars (l : List ByteArray) (ks : List Tm) : List ByteArray := ks.foldl (fun l t => addVar l t.name) l
def Tm.varsOf (t : Tm) : List ByteArray := addVars [] t.knots
theorem addVars_nil (l : List ByteArray) : addVars l [] = l := rfl
theorem addVars_snoc (l : List ByteArray) (ks : List Tm) (t : Tm) : addVars l (ks ++ [t]) = addVar (addVars l ks) t.name := by simp [addVars]
theorem addVars_append (l : List ByteArray) (ks ms : List Tm) : addVars l (ks ++ ms) = addVars (addVars l ks) ms := by simp [addVars]
theorem addVar_yes {l : List ByteArray} {n : ByteArray} (h : isVar n = true) (h' : isIn n l = false) : addVar l n = l ++ [n] := by simp [addVar, h, h']
theorem addVar_in {l : List ByteArray} {n : ByteArray} (h' : isIn n l = true) : addVar l n = l := by simp [addVar, h']
theorem addVar_no {l : List ByteArray} {n : ByteArray} (h : isVar n = false) : addVar l n = l := by simp [addVar, h]
theorem addVar_length (l : List ByteArray) (n : ByteArray) : (addVar l n).length ≤ l.length + 1 := by unfold addVar; split <;> simp
theorem addVars_length : ∀ (ks : List Tm) (l : List ByteArray), (addVars l ks).length ≤ l.length + ks.length
  | [], l => by simp [addVars_nil]
  | t :: ts, l => by
    have h1 := addVars_length ts (addVar l t.name)
    have h2 := addVar_length l t.name
    have h3 : addVars l (t :: ts) = addVars (addVar l t.name) ts := rfl
    rw [h3, List.length_cons]
    omega



mutual
def Tm.places : Tm → List (List Int)
  | .mk _ xs => [] :: Tm.placesFrom 0 xs
def Tm.placesFrom : Nat → List Tm → List (List Int)
  | _, [] => []
  | k, t :: ts => t.places.map (fun p => (k : Int) :: p) ++ Tm.placesFrom (k+1) ts
end
theorem Tm.places_eq (t : Tm) : t.places = [] :: Tm.placesFrom 0 t.args := by cases t; rfl
theorem Tm.placesFrom_snoc (a : Tm) : ∀ (k : Nat) (xs : List Tm), Tm.placesFrom k (xs ++ [a]) = Tm.placesFrom k xs ++ a.places.map (fun p => ((k + xs.length : Nat) : Int) :: p)
  | k, [] => by simp [Tm.placesFrom]
  | k, t :: ts => by
    rw [List.cons_append, Tm.placesFrom, Tm.placesFrom_snoc a (k+1) ts, Tm.placesFrom, List.length_cons, show k + 1 + ts.length = k + (ts.length + 1) by omega, List.append_assoc]
/-- the places ahead of those within the k-th argument -/
def Tm.placesTo (t : Tm) (k : Nat) : List (List Int) := [] :: Tm.placesFrom 0 (t.args.take k)
theorem Tm.placesTo_zero (t : Tm) : t.placesTo 0 = [[]] := rfl
theorem Tm.placesTo_succ {t : Tm} {k : Nat} {a : Tm} (h : t.args[k]? = some a) : t.placesTo (k+1) = t.placesTo k ++ a.places.map (fun p => (k : Int) :: p) := by
  have hl := lt_of_get h
  unfold Tm.placesTo
  rw [take_snoc h, Tm.placesFrom_snoc, List.length_take, Nat.min_eq_left (by omega), Nat.zero_add, List.cons_append]
theorem Tm.placesTo_all {t : Tm} {k : Nat} (h : k = t.args.length) : t.placesTo k = t.places := by
  subst h
  rw [Tm.places_eq, Tm.placesTo, List.take_length]
mutual
theorem Tm.places_length : ∀ t : Tm, t.places.length = t.size
  | .mk n xs => by simp only [Tm.places, Tm.size, List.length_cons, Tm.placesFrom_length 0 xs]; omega
theorem Tm.placesFrom_length : ∀ (k : Nat) (xs : List Tm), (Tm.placesFrom k xs).length = Tm.sizes xs
  | _, [] => rfl
  | k, t :: ts => by simp only [Tm.placesFrom, Tm.sizes, List.length_append, List.length_map, Tm.places_length t, Tm.placesFrom_length (k+1) ts]
end
mutual
theorem Tm.places_deep : ∀ (t : Tm) (p : List Int), p ∈ t.places → p.length ≤ t.size
  | .mk n xs, p, h => by
    simp only [Tm.places, List.mem_cons] at h
    rcases h with rfl | h
    · simp
    · have := Tm.placesFrom_deep 0 xs p h
      simp only [Tm.size]
      omega
theorem Tm.placesFrom_deep : ∀ (k : Nat) (xs : List Tm) (p : List Int), p ∈ Tm.placesFrom k xs → p.length ≤ 1 + Tm.sizes xs
  | _, [], p, h => by simp [Tm.placesFrom] at h
  | k, t :: ts, p, h => by
    simp only [Tm.placesFrom, List.mem_append, List.mem_map] at h
    simp only [Tm.sizes]
    rcases h with ⟨q, hq, rfl⟩ | h
    · have := Tm.places_deep t q hq
      simp only [List.length_cons]
      omega
    · have := Tm.placesFrom_deep (k+1) ts p h
      omega
end
theorem Tm.placesTo_length (t : Tm) (k : Nat) : (t.placesTo k).length = 1 + Tm.sizes (t.args.take k) := by
  rw [Tm.placesTo, List.length_cons, Tm.placesFrom_length]; omega


theorem lessBy_step {s z : Nat} {m : Int} (h : 0 ≤ lessBy s m) : lessBy z (lessBy s m) = lessBy (s + z) m := by
  unfold lessBy at *
  split at h
  · omega
  · rename_i h1
    rw [if_neg h1]
    split <;> split <;> omega
theorem lessBy_neg {s z : Nat} {m : Int} (h : lessBy s m < 0) (hz : s ≤ z) : lessBy s m = lessBy z m := by
  unfold lessBy at *
  split at h
  · rw [if_pos (by assumption), if_pos (by omega)]
  · omega
theorem lessBy_le (s : Nat) (m : Int) (h : 0 ≤ m) : -1 ≤ lessBy s m ∧ lessBy s m ≤ m := by unfold lessBy; split <;> omega
theorem capTo_step {s z : Nat} {m : Int} (h : (s : Int) ≤ m) : (s : Int) + capTo z (m - s) = capTo (s + z) m := by
  unfold capTo
  split <;> split <;> omega
theorem capTo_over {s z : Nat} {m : Int} (h : m < capTo s m) (hz : s ≤ z) : capTo z m = m + 1 := by
  unfold capTo at *
  split at h <;> split <;> omega
theorem capTo_le (s : Nat) (m : Int) (h : 0 ≤ m) : 0 ≤ capTo s m ∧ capTo s m ≤ m + 1 := by unfold capTo; split <;> omega
theorem capTo_in {s : Nat} {m : Int} (h : ¬ m < capTo s m) : capTo s m = s ∧ (s : Int) ≤ m := by
  unfold capTo at *
  split at h
  · omega
  · rename_i h2
    rw [if_neg h2]
    omega
end Go.Proofs.Ytpajlfdhmjgpnaa
