/-
  What a letter, a name and a variable's name are; the walks of the small functions that ask it (program and reference).
  Conditions: none.
-/
import Derived.Test.YtkjbaabkaboaoaaData
namespace Go.Proofs.Ytkjbaabkaboaoaa
open Go Go.RowKit
set_option maxHeartbeats 400000
set_option linter.unusedVariables false
theorem ret_bool {a b : Bool} (h : a = b) : Ending.returned (.bool a) = .returned (.bool b) := by rw [h]
theorem ret_int {k : IntKind} {a b : Int} (h : a = b) : Ending.returned (.int k a) = .returned (.int k b) := by rw [h]

/-! ### plain -/
def letterI (n : Int) : Bool := decide (97 ≤ n ∧ n ≤ 122) || decide (65 ≤ n ∧ n ≤ 90) || decide (48 ≤ n ∧ n ≤ 57)
def byteAt (s : ByteArray) (k : Nat) : Int := ((s.data.toList.getD k 0).toNat : Int)
theorem byteAt_get (s : ByteArray) (k : Nat) (h : k < s.size) : ((s[k]'h).toNat : Int) = byteAt s k := by
  unfold byteAt
  have h2 : k < s.data.toList.length := by simpa using h
  rw [List.getD_eq_getElem?_getD, List.getElem?_eq_getElem h2]
  rfl
theorem byteAt_range (s : ByteArray) (k : Nat) : 0 ≤ byteAt s k ∧ byteAt s k ≤ 255 := by
  unfold byteAt
  have := (s.data.toList.getD k 0).toNat_lt
  omega
def isVar (s : ByteArray) : Bool := decide (0 < s.size) && decide (65 ≤ byteAt s 0) && decide (byteAt s 0 ≤ 90)
def lettersTo (s : ByteArray) (k : Nat) : Bool := (s.data.toList.take k).all fun c => letterI c.toNat
def nameOk (s : ByteArray) : Bool := decide (1 ≤ s.size) && decide (s.size ≤ 8) && !(decide (48 ≤ byteAt s 0) && decide (byteAt s 0 ≤ 57)) && lettersTo s s.size
theorem lettersTo_succ (s : ByteArray) (k : Nat) (h : k < s.size) : lettersTo s (k + 1) = (lettersTo s k && letterI (byteAt s k)) := by
  unfold lettersTo byteAt
  have h2 : k < s.data.toList.length := by simpa using h
  rw [List.take_add_one, List.getD_eq_getElem?_getD, List.getElem?_eq_getElem h2]
  simp
theorem lettersTo_no (s : ByteArray) (k : Nat) (h : k < s.size) (hn : letterI (byteAt s k) = false) : lettersTo s s.size = false := by
  unfold lettersTo byteAt at *
  have h2 : k < s.data.toList.length := by simpa using h
  rw [List.getD_eq_getElem?_getD, List.getElem?_eq_getElem h2] at hn
  rw [List.all_eq_false]
  refine ⟨s.data.toList[k], ?_, by simpa using hn⟩
  rw [List.take_of_length_le (by simp)]
  exact List.getElem_mem h2
theorem toList_nil (s : ByteArray) : s.toList = [] ↔ s.size = 0 := by
  rw [ByteArray.toList_eq]
  constructor
  · intro h
    have := congrArg List.length h
    simpa using this
  · intro h
    exact List.eq_nil_of_length_eq_zero (by simpa using h)

/-! ### the walks -/
theorem letter_any (n : Int) (w : World) : Calls Try.prog 96 #[.int .u8 n] w fun e w' => e = .returned (.bool (letterI n)) ∧ w = w' := by
  go_enter Try.func96, Try.ntmps96
  go_wp2
  all_goals go_ret
  all_goals exact ⟨ret_bool (by rw [Bool.eq_iff_iff]; simp [letterI]; try omega), rfl⟩
theorem letter_ref (n : Int) (w : World) : Calls Try.prog 98 #[.int .u8 n] w fun e w' => e = .returned (.bool (letterI n)) ∧ w = w' := by
  go_enter Try.func98, Try.ntmps98
  go_wp2
  all_goals go_ret
  all_goals exact ⟨ret_bool (by rw [Bool.eq_iff_iff]; simp [letterI]; try omega), rfl⟩
theorem var_any (s : ByteArray) (w : World) : Calls Try.prog 86 #[.string s] w fun e w' => e = .returned (.bool (isVar s)) ∧ w = w' := by
  by_cases h0 : s.size = 0
  · have hn : s.toList = [] := (toList_nil s).2 h0
    have H0 := Lib.hid h0; clear h0
    go_enter Try.func86, Try.ntmps86
    go_wp2
    go_ret
    have h0 := H0.out
    exact ⟨ret_bool (by simp [isVar, h0]), rfl⟩
  · have hn : s.toList.isEmpty = false := by
      cases h : s.toList with
      | nil => exact absurd ((toList_nil s).1 h) h0
      | cons _ _ => rfl
    have hpos : 0 < s.size := by omega
    have hb := byteAt_get s 0 hpos
    have H0 := Lib.hid hb; clear hb h0
    go_enter Try.func86, Try.ntmps86
    go_wp2
    all_goals go_ret
    all_goals exact ⟨ret_bool (by have hb := H0.out; rw [Bool.eq_iff_iff]; simp [isVar]; omega), rfl⟩
theorem var_ref (s : ByteArray) (w : World) : Calls Try.prog 62 #[.string s] w fun e w' => e = .returned (.bool (isVar s)) ∧ w = w' := by
  by_cases h0 : s.size = 0
  · have hn : s.toList = [] := (toList_nil s).2 h0
    have H0 := Lib.hid h0; clear h0
    go_enter Try.func62, Try.ntmps62
    go_wp2
    go_ret
    have h0 := H0.out
    exact ⟨ret_bool (by simp [isVar, h0]), rfl⟩
  · have hn : s.toList.isEmpty = false := by
      cases h : s.toList with
      | nil => exact absurd ((toList_nil s).1 h) h0
      | cons _ _ => rfl
    have hpos : 0 < s.size := by omega
    have hb := byteAt_get s 0 hpos
    have H0 := Lib.hid hb; clear hb h0
    go_enter Try.func62, Try.ntmps62
    go_wp2
    all_goals go_ret
    all_goals exact ⟨ret_bool (by have hb := H0.out; rw [Bool.eq_iff_iff]; simp [isVar]; omega), rfl⟩
theorem name_any (s : ByteArray) (w : World) (hs : s.size ≤ maxLen) : Calls Try.prog 88 #[.string s] w fun e w' => e = .returned (.bool (nameOk s)) ∧ w = w' := by
  unfold maxLen at hs
  by_cases h0 : s.size = 0
  · have hn : s.toList = [] := (toList_nil s).2 h0
    have hz : (s.size : Int) < 1 := by omega
    have H0 := Lib.hid h0; clear h0
    go_enter Try.func88, Try.ntmps88
    go_wp2_with fail
    go_ret
    have h0 := H0.out
    exact ⟨ret_bool (by simp [nameOk, h0]), rfl⟩
  have hn : s.toList.isEmpty = false := by
    cases h : s.toList with
    | nil => exact absurd ((toList_nil s).1 h) h0
    | cons _ _ => rfl
  have hpos : 0 < s.size := by omega
  have hpos1 : (1 : Int) ≤ (s.size : Int) := by omega
  by_cases h8 : 8 < s.size
  · have h8' : (8 : Int) < (s.size : Int) := by omega
    go_enter Try.func88, Try.ntmps88
    go_wp2_with fail
    go_ret
    exact ⟨ret_bool (by rw [Bool.eq_iff_iff]; simp [nameOk]; omega), rfl⟩
  have h8' : (s.size : Int) ≤ 8 := by omega
  have HB := Lib.hid (byteAt_get s 0 hpos)
  by_cases hd : 48 ≤ ((s[0]'hpos).toNat : Int)
  · by_cases hd2 : ((s[0]'hpos).toNat : Int) ≤ 57
    · go_enter Try.func88, Try.ntmps88
      go_wp2_with fail
      go_ret
      have hb := HB.out
      exact ⟨ret_bool (by rw [Bool.eq_iff_iff]; simp [nameOk]; omega), rfl⟩
    · have hd3 : 57 < ((s[0]'hpos).toNat : Int) := by omega
      have HN : Hid (1 ≤ s.size ∧ s.size ≤ 8 ∧ 57 < byteAt s 0) := ⟨by omega, by omega, by rw [← HB.out]; exact hd3⟩
      clear hd2
      go_enter Try.func88, Try.ntmps88
      go_wp2_with fail
      go_loop [24] (fun i => ∃ k : Nat, k ≤ s.size ∧ i = .int .i64 k ∧ Hid (lettersTo s k = true)) (fun i => s.size - (intOf i).toNat)
      case atStart => exact ⟨0, Nat.zero_le _, rfl, rfl⟩
      case round =>
        obtain ⟨k, hk, rfl, HK⟩ := hrel
        by_cases hlt : k < s.size
        · have HB := Lib.hid (byteAt_get s k hlt)
          have HS := Lib.hid (lettersTo_succ s k hlt)
          cases hc : letterI (byteAt s k) with
          | true =>
            have HC := Lib.hid hc; clear hc
            go_wp2_with fail
            refine (letter_any _ _).mono ?_
            rintro e w' ⟨rfl, rfl⟩
            rw [HB.out, HC.out]
            go_wp2_with fail
            go_round
            case rel => exact ⟨k + 1, by omega, by go_num, by have h1 := HK.out; have h2 := HC.out; have h3 := HS.out; rw [h1, h2] at h3; exact h3⟩
            case measure => simp [intOf]; omega
          | false =>
            have HC := Lib.hid hc; clear hc
            go_wp2_with fail
            refine (letter_any _ _).mono ?_
            rintro e w' ⟨rfl, rfl⟩
            rw [HB.out, HC.out]
            go_wp2_with fail
            go_ret
            have h := lettersTo_no s k hlt HC.out
            exact ⟨ret_bool (by simp [nameOk, h]), rfl⟩
        · go_wp2_with fail
          go_ret
          obtain rfl : k = s.size := by omega
          have h := HK.out
          have h1 := HN.out
          exact ⟨ret_bool (by rw [Bool.eq_iff_iff]; simp [nameOk, h]; omega), rfl⟩
  · have hd3 : ((s[0]'hpos).toNat : Int) < 48 := by omega
    have HN : Hid (1 ≤ s.size ∧ s.size ≤ 8 ∧ byteAt s 0 < 48) := ⟨by omega, by omega, by rw [← HB.out]; exact hd3⟩
    clear hd
    go_enter Try.func88, Try.ntmps88
    go_wp2_with fail
    go_loop [24] (fun i => ∃ k : Nat, k ≤ s.size ∧ i = .int .i64 k ∧ Hid (lettersTo s k = true)) (fun i => s.size - (intOf i).toNat)
    case atStart => exact ⟨0, Nat.zero_le _, rfl, rfl⟩
    case round =>
      obtain ⟨k, hk, rfl, HK⟩ := hrel
      by_cases hlt : k < s.size
      · have HB := Lib.hid (byteAt_get s k hlt)
        have HS := Lib.hid (lettersTo_succ s k hlt)
        cases hc : letterI (byteAt s k) with
        | true =>
          have HC := Lib.hid hc; clear hc
          go_wp2_with fail
          refine (letter_any _ _).mono ?_
          rintro e w' ⟨rfl, rfl⟩
          rw [HB.out, HC.out]
          go_wp2_with fail
          go_round
          case rel => exact ⟨k + 1, by omega, by go_num, by have h1 := HK.out; have h2 := HC.out; have h3 := HS.out; rw [h1, h2] at h3; exact h3⟩
          case measure => simp [intOf]; omega
        | false =>
          have HC := Lib.hid hc; clear hc
          go_wp2_with fail
          refine (letter_any _ _).mono ?_
          rintro e w' ⟨rfl, rfl⟩
          rw [HB.out, HC.out]
          go_wp2_with fail
          go_ret
          have h := lettersTo_no s k hlt HC.out
          exact ⟨ret_bool (by simp [nameOk, h]), rfl⟩
      · go_wp2_with fail
        go_ret
        obtain rfl : k = s.size := by omega
        have h := HK.out
        have h1 := HN.out
        exact ⟨ret_bool (by rw [Bool.eq_iff_iff]; simp [nameOk, h]; omega), rfl⟩
theorem name_ref (s : ByteArray) (w : World) (hs : s.size ≤ maxLen) : Calls Try.prog 61 #[.string s] w fun e w' => e = .returned (.bool (nameOk s)) ∧ w = w' := by
  unfold maxLen at hs
  by_cases h0 : s.size = 0
  · have hn : s.toList = [] := (toList_nil s).2 h0
    have hz : (s.size : Int) < 1 := by omega
    have H0 := Lib.hid h0; clear h0
    go_enter Try.func61, Try.ntmps61
    go_wp2_with fail
    go_ret
    have h0 := H0.out
    exact ⟨ret_bool (by simp [nameOk, h0]), rfl⟩
  have hn : s.toList.isEmpty = false := by
    cases h : s.toList with
    | nil => exact absurd ((toList_nil s).1 h) h0
    | cons _ _ => rfl
  have hpos : 0 < s.size := by omega
  have hpos1 : (1 : Int) ≤ (s.size : Int) := by omega
  by_cases h8 : 8 < s.size
  · have h8' : (8 : Int) < (s.size : Int) := by omega
    go_enter Try.func61, Try.ntmps61
    go_wp2_with fail
    go_ret
    exact ⟨ret_bool (by rw [Bool.eq_iff_iff]; simp [nameOk]; omega), rfl⟩
  have h8' : (s.size : Int) ≤ 8 := by omega
  have HB := Lib.hid (byteAt_get s 0 hpos)
  by_cases hd : 48 ≤ ((s[0]'hpos).toNat : Int)
  · by_cases hd2 : ((s[0]'hpos).toNat : Int) ≤ 57
    · go_enter Try.func61, Try.ntmps61
      go_wp2_with fail
      go_ret
      have hb := HB.out
      exact ⟨ret_bool (by rw [Bool.eq_iff_iff]; simp [nameOk]; omega), rfl⟩
    · have hd3 : 57 < ((s[0]'hpos).toNat : Int) := by omega
      have HN : Hid (1 ≤ s.size ∧ s.size ≤ 8 ∧ 57 < byteAt s 0) := ⟨by omega, by omega, by rw [← HB.out]; exact hd3⟩
      clear hd2
      go_enter Try.func61, Try.ntmps61
      go_wp2_with fail
      go_loop [3] (fun i => ∃ k : Nat, k ≤ s.size ∧ i = .int .i64 k ∧ Hid (lettersTo s k = true)) (fun i => s.size - (intOf i).toNat)
      case atStart => exact ⟨0, Nat.zero_le _, rfl, rfl⟩
      case round =>
        obtain ⟨k, hk, rfl, HK⟩ := hrel
        by_cases hlt : k < s.size
        · have HB := Lib.hid (byteAt_get s k hlt)
          have HS := Lib.hid (lettersTo_succ s k hlt)
          cases hc : letterI (byteAt s k) with
          | true =>
            have HC := Lib.hid hc; clear hc
            go_wp2_with fail
            refine (letter_ref _ _).mono ?_
            rintro e w' ⟨rfl, rfl⟩
            rw [HB.out, HC.out]
            go_wp2_with fail
            go_round
            case rel => exact ⟨k + 1, by omega, by go_num, by have h1 := HK.out; have h2 := HC.out; have h3 := HS.out; rw [h1, h2] at h3; exact h3⟩
            case measure => simp [intOf]; omega
          | false =>
            have HC := Lib.hid hc; clear hc
            go_wp2_with fail
            refine (letter_ref _ _).mono ?_
            rintro e w' ⟨rfl, rfl⟩
            rw [HB.out, HC.out]
            go_wp2_with fail
            go_ret
            have h := lettersTo_no s k hlt HC.out
            exact ⟨ret_bool (by simp [nameOk, h]), rfl⟩
        · go_wp2_with fail
          go_ret
          obtain rfl : k = s.size := by omega
          have h := HK.out
          have h1 := HN.out
          exact ⟨ret_bool (by rw [Bool.eq_iff_iff]; simp [nameOk, h]; omega), rfl⟩
  · have hd3 : ((s[0]'hpos).toNat : Int) < 48 := by omega
    have HN : Hid (1 ≤ s.size ∧ s.size ≤ 8 ∧ byteAt s 0 < 48) := ⟨by omega, by omega, by rw [← HB.out]; exact hd3⟩
    clear hd
    go_enter Try.func61, Try.ntmps61
    go_wp2_with fail
    go_loop [3] (fun i => ∃ k : Nat, k ≤ s.size ∧ i = .int .i64 k ∧ Hid (lettersTo s k = true)) (fun i => s.size - (intOf i).toNat)
    case atStart => exact ⟨0, Nat.zero_le _, rfl, rfl⟩
    case round =>
      obtain ⟨k, hk, rfl, HK⟩ := hrel
      by_cases hlt : k < s.size
      · have HB := Lib.hid (byteAt_get s k hlt)
        have HS := Lib.hid (lettersTo_succ s k hlt)
        cases hc : letterI (byteAt s k) with
        | true =>
          have HC := Lib.hid hc; clear hc
          go_wp2_with fail
          refine (letter_ref _ _).mono ?_
          rintro e w' ⟨rfl, rfl⟩
          rw [HB.out, HC.out]
          go_wp2_with fail
          go_round
          case rel => exact ⟨k + 1, by omega, by go_num, by have h1 := HK.out; have h2 := HC.out; have h3 := HS.out; rw [h1, h2] at h3; exact h3⟩
          case measure => simp [intOf]; omega
        | false =>
          have HC := Lib.hid hc; clear hc
          go_wp2_with fail
          refine (letter_ref _ _).mono ?_
          rintro e w' ⟨rfl, rfl⟩
          rw [HB.out, HC.out]
          go_wp2_with fail
          go_ret
          have h := lettersTo_no s k hlt HC.out
          exact ⟨ret_bool (by simp [nameOk, h]), rfl⟩
      · go_wp2_with fail
        go_ret
        obtain rfl : k = s.size := by omega
        have h := HK.out
        have h1 := HN.out
        exact ⟨ret_bool (by rw [Bool.eq_iff_iff]; simp [nameOk, h]; omega), rfl⟩
end Go.Proofs.Ytkjbaabkaboaoaa
