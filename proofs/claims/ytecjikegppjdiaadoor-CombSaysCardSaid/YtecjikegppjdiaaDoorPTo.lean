/-
  Terms without what is bound as lambda terms, in plain Lean: the numbers of constants, and what a term is. No program in sight.
  Conditions: none.
-/
import Derived.Test.YtecjikegppjdiaaDoorPFrom
import Derived.Test.YtecjikegppjdiaaDoorPRed2
import Derived.Lib.Atoi
import Derived.Lib.AtoiBound
import Derived.Lib.ItoaNum
namespace Go.Proofs.YtecjikegppjdiaaDoor
open Go Go.RowKit
set_option linter.unusedVariables false

/-! ### the number of a constant's name -/
def cNm : ByteArray := ⟨#[99]⟩
def constOf (s : ByteArray) : Int := match (List.range 40).find? (fun k => decide (s = cNm ++ dec2 k)) with
  | some k => k
  | none => -1
def rest1 (s : ByteArray) : ByteArray := s.extract 1 s.size
theorem rest1_list (s : ByteArray) : (rest1 s).data.toList = s.data.toList.drop 1 := by
  unfold rest1
  rw [ByteArray.data_extract, Array.toList_extract, List.extract]
  simp
  rw [List.take_of_length_le (by simp)]
theorem ba_ext {a b : ByteArray} (h : a.data.toList = b.data.toList) : a = b := by
  cases a; cases b
  simp only [ByteArray.mk.injEq]
  exact Array.toList_inj.1 h
theorem dec2_digits {n : Nat} (h : n < 100) : (dec2 n).data.toList = Lib.decDigits n := by
  unfold dec2 digit
  rw [Lib.decDigits]
  by_cases h1 : n < 10
  · rw [if_pos h1, dif_pos h1]
  · rw [if_neg h1, dif_neg h1, Lib.decDigits, dif_pos (by omega), ByteArray.data_append]
    simp
theorem dec2_inj : ∀ a < 40, ∀ b < 40, dec2 a = dec2 b → a = b := by decide +kernel
theorem dec2_atoi : ∀ n < 40, Lib.atoi (dec2 n).data.toList = some (n : Int) := by decide +kernel
theorem dec2_pos : ∀ n < 40, 1 ≤ (dec2 n).size := by decide +kernel
theorem itoa_dec2 {n : Nat} (h : n < 100) : (⟨(Lib.itoa (n : Int)).toArray⟩ : ByteArray) = dec2 n := by
  apply ba_ext
  rw [dec2_digits h]
  unfold Lib.itoa
  rw [if_neg (by omega)]
  simp
theorem split1 {s : ByteArray} (h : 1 ≤ s.size) : s.data.toList = UInt8.ofNat (byteAt s 0).toNat :: (rest1 s).data.toList := by
  rw [rest1_list]
  unfold byteAt
  have h2 : 0 < s.data.toList.length := by
    have h3 : s.data.toList.length = s.size := by simp
    omega
  match hl : s.data.toList, h2 with
  | b :: r, _ => simp
theorem byteAt_nm (k : Nat) : byteAt (cNm ++ dec2 k) 0 = 99 := by
  unfold byteAt
  rw [ByteArray.data_append]
  simp [cNm]
theorem rest1_nm (k : Nat) : rest1 (cNm ++ dec2 k) = dec2 k := by
  apply ba_ext
  rw [rest1_list, ByteArray.data_append]
  simp [cNm]
/-- The name of a constant: its number is read from behind the letter. -/
theorem constOf_yes {s : ByteArray} {n : Int} (hs : 1 ≤ s.size) (hl : lettersTo s s.size = true) (h0 : byteAt s 0 = 99) (hi : (⟨(Lib.itoa n).toArray⟩ : ByteArray) = rest1 s) (hn : n < 40) : constOf s = n ∧ 0 ≤ n := by
  have hn0 : 0 ≤ n := by
    rcases Int.lt_or_le n 0 with h | h
    · exfalso
      have h1 : (rest1 s).data.toList = 45 :: Lib.decDigits n.natAbs := by
        rw [← hi]
        simp [Lib.itoa, h]
      have h2 : (45 : UInt8) ∈ s.data.toList := by
        rw [split1 hs, h1]
        simp
      unfold lettersTo at hl
      rw [List.take_of_length_le (by simp)] at hl
      have := List.all_eq_true.1 hl _ h2
      revert this
      decide
    · exact h
  refine ⟨?_, hn0⟩
  obtain ⟨m, rfl⟩ : ∃ m : Nat, n = m := ⟨n.toNat, by omega⟩
  have hm : m < 40 := by omega
  have hs' : s = cNm ++ dec2 m := by
    apply ba_ext
    rw [split1 hs, h0, ← hi, itoa_dec2 (by omega), ByteArray.data_append]
    simp [cNm]
  unfold constOf
  cases hf : (List.range 40).find? (fun k => decide (s = cNm ++ dec2 k)) with
  | none =>
    have := List.find?_eq_none.1 hf m (by simpa using hm)
    simp [hs'] at this
  | some k =>
    have h1 := List.find?_some hf
    have h2 := List.mem_of_find?_eq_some hf
    simp only [decide_eq_true_eq] at h1
    rw [List.mem_range] at h2
    have h3 : dec2 m = dec2 k := by rw [← rest1_nm m, ← hs', h1, rest1_nm]
    simp only
    rw [dec2_inj m hm k h2 h3]
/-- No such name. -/
theorem constOf_no {s : ByteArray} (h : ¬ (byteAt s 0 = 99 ∧ ∃ n : Int, Lib.atoi (rest1 s).data.toList = some n ∧ (⟨(Lib.itoa n).toArray⟩ : ByteArray) = rest1 s ∧ n < 40)) : constOf s = -1 := by
  unfold constOf
  cases hf : (List.range 40).find? (fun k => decide (s = cNm ++ dec2 k)) with
  | none => rfl
  | some k =>
    have h1 := List.find?_some hf
    have h2 := List.mem_of_find?_eq_some hf
    simp only [decide_eq_true_eq] at h1
    rw [List.mem_range] at h2
    exact absurd ⟨by rw [h1, byteAt_nm], k, by rw [h1, rest1_nm]; exact dec2_atoi k h2, by rw [h1, rest1_nm]; exact itoa_dec2 (by omega), by omega⟩ h
theorem atoi_range {s : ByteArray} {n : Int} (hz : s.size ≤ 18) (h : Lib.atoi s.data.toList = some n) : -9223372036854775808 ≤ n ∧ n ≤ 9223372036854775807 := by
  have := Lib.atoi_bound h (by simpa using hz)
  omega

/-! ### what a term is -/
def iL : Lm := .l (.v 0)
def kL : Lm := .l (.l (.v 1))
def sL : Lm := .l (.l (.l (.a (.a (.v 2) (.v 0)) (.a (.v 1) (.v 0)))))
/-- of a leaf -/
def leafL (n : ByteArray) : Lm × Int := if n = iS then (iL, 0) else if n = kS then (kL, 0) else if n = sS then (sL, 0) else if isVar n = true then (Lm.nil, 15) else if constOf n < 0 then (Lm.nil, 1) else (.mk 4 (constOf n) [], 0)
/-- of one put to another -/
def joinL (d : Lm × Int) : List (Lm × Int) → Lm × Int
  | f :: x :: _ => if f.2 = 0 then (.a f.1 x.1, x.2) else (Lm.nil, f.2)
  | _ => d
mutual
def Tm.toL : Tm → Lm × Int
  | .mk n xs => joinL (leafL n) (Tm.toLs xs)
def Tm.toLs : List Tm → List (Lm × Int)
  | [] => []
  | t :: ts => t.toL :: Tm.toLs ts
end
theorem Tm.toL_leaf {t : Tm} (h : t.args = []) : t.toL = leafL t.name := by
  cases t
  rw [Tm.args_mk] at h
  subst h
  rw [Tm.toL, Tm.toLs, joinL]
  · rfl
  · intros; simp_all
theorem Tm.toL_ap {t f x : Tm} (h : t.args = [f, x]) : t.toL = if f.toL.2 = 0 then (.a f.toL.1 x.toL.1, x.toL.2) else (Lm.nil, f.toL.2) := by
  cases t
  rw [Tm.args_mk] at h
  subst h
  rw [Tm.toL, Tm.toLs, Tm.toLs, joinL]
/-- nothing, where something is wrong -/
def fixL (r : Lm × Int) : Lm × Int := if r.2 = 0 then r else (Lm.nil, r.2)
theorem leafL_size (n : ByteArray) : (leafL n).1.size ≤ 10 := by
  unfold leafL
  split
  · decide
  split
  · decide
  split
  · decide
  split
  · decide
  split
  · decide
  · simp [Lm.size, Lm.sizes]
theorem Tm.toL_size : ∀ (N : Nat) (t : Tm), SizeOf.sizeOf t < N → t.fm = true → t.toL.1.size ≤ 10 * t.size := by
  intro N
  induction N with
  | zero => intro t h; omega
  | succ N ih =>
    intro t hN hf
    have hp := Tm.size_pos t
    rcases Tm.fm_cases hf with h0 | ⟨f, x, _, ha, hf1, hx1⟩
    · rw [Tm.toL_leaf h0]
      have := leafL_size t.name
      omega
    · have hs := Tm.size_eq t
      rw [ha] at hs
      simp only [Tm.sizes] at hs
      have a1 := ih f (by have := Tm.lt_of_arg (a := f) (t := t) (by rw [ha]; simp); omega) hf1
      have b1 := ih x (by have := Tm.lt_of_arg (a := x) (t := t) (by rw [ha]; simp); omega) hx1
      rw [Tm.toL_ap ha]
      split
      · simp only [Lm.a, Lm.size, Lm.sizes]
        omega
      · simp only [Lm.nil, Lm.size, Lm.sizes]
        omega
/-- The names of a term that may be, and of what is in it. -/
theorem Tm.chk_name {t : Tm} (h : t.chk = 0) : nameOk t.name = true ∧ Tm.chkL t.args = 0 := by
  rw [Tm.chk_eq] at h
  split at h
  · rename_i h1
    refine ⟨?_, h⟩
    unfold chkOne at h1
    split at h1
    · assumption
    · cases h1
  · contradiction
theorem Tm.chkL_mem {xs : List Tm} (h : Tm.chkL xs = 0) : ∀ t ∈ xs, t.chk = 0 := by
  induction xs with
  | nil => intro t ht; simp at ht
  | cons x xs ih =>
    intro t ht
    rw [Tm.chkL] at h
    split at h
    · rename_i h1
      rcases List.mem_cons.1 ht with rfl | ht
      · exact h1
      · exact ih h t ht
    · contradiction
theorem nameOk_cases {s : ByteArray} (h : nameOk s = true) : 1 ≤ s.size ∧ s.size ≤ 8 ∧ lettersTo s s.size = true := by
  unfold nameOk at h
  simp only [Bool.and_eq_true, decide_eq_true_eq] at h
  exact ⟨h.1.1.1, h.1.1.2, h.2⟩
theorem rest1_size (s : ByteArray) : (rest1 s).size = s.size - 1 := by
  unfold rest1
  simp
end Go.Proofs.YtecjikegppjdiaaDoor
