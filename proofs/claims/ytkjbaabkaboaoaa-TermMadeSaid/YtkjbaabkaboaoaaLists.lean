/-
  Lists of texts and of numbers: the walks of the functions that look into them.
  Conditions: none.
-/
import Derived.Test.YtkjbaabkaboaoaaPut
namespace Go.Proofs.Ytkjbaabkaboaoaa
open Go Go.RowKit
set_option maxHeartbeats 400000
set_option linter.unusedVariables false

def isIn (x : ByteArray) (l : List ByteArray) : Bool := l.any fun y => decide (y = x)
theorem isIn_iff {x : ByteArray} {l : List ByteArray} : isIn x l = true ↔ x ∈ l := by simp [isIn]
theorem isIn_no {x : ByteArray} {l : List ByteArray} : isIn x l = false ↔ x ∉ l := by rw [← Bool.not_eq_true, isIn_iff]
theorem str_eq (a : ByteArray) : (a.toList == a.toList) = true := by simp
theorem str_ne {a x : ByteArray} (h : ¬ a = x) : (a.toList == x.toList) = false := by
  rw [beq_eq_false_iff_ne]
  intro he
  rw [ByteArray.toList_eq, ByteArray.toList_eq] at he
  apply h
  cases a; cases x
  simpa using he
theorem in_ref (x : ByteArray) (xs : List ByteArray) (σ : Sto) (p : Option Addr) (len cap : Nat) (w : World) (hs : Fit σ w) (hx : Slc σ p len cap xs) :
    Calls Try.prog 73 #[.string x, .slice p len cap] w fun e w' => e = .returned (.bool (isIn x xs)) ∧ w = w' := by
  have HL := Lib.hid hx.length
  have hlm := hx.max
  go_enter Try.func73, Try.ntmps73
  go_wp2_with fail
  go_loop [5] (fun i => ∃ k : Nat, k ≤ len ∧ i = .int .i64 k ∧ Hid (x ∉ xs.take k)) (fun i => len - (intOf i).toNat)
  case atStart => exact ⟨0, Nat.zero_le _, rfl, Lib.hid (by simp)⟩
  case round =>
    obtain ⟨k, hk, rfl, HK⟩ := hrel
    by_cases hlt : k < len
    · obtain ⟨b, o, a, rfl, HA, f0, ha⟩ := hx.str k hlt
      have g0 := hs _ _ f0
      clear f0
      by_cases heq : a = x
      · subst heq
        have HM : Hid (isIn a xs = true) := Lib.hid (isIn_iff.2 (mem_of_get HA.out))
        go_wp2_with fail
        go_ret
        exact ⟨ret_bool HM.out.symm, rfl⟩
      · have HT : Hid (x ∉ xs.take (k+1)) := Lib.hid (by rw [take_snoc HA.out]; simp [HK.out]; exact fun h => heq h.symm)
        have hse := str_ne heq
        go_wp2_with fail
        refine ⟨⟨k + 1, by omega, by go_num, HT⟩, ?_⟩
        simp [intOf]; omega
    · obtain rfl : k = len := by omega
      have HM : Hid (isIn x xs = false) := Lib.hid (by have := HK.out; rw [List.take_of_length_le (by have := HL.out; omega)] at this; exact isIn_no.2 this)
      go_wp2_with fail
      go_ret
      exact ⟨ret_bool HM.out.symm, rfl⟩

/-- Two lists of numbers with the same things. -/
theorem sameInts_ref (xs : List Int) (σ : Sto) (p : Option Addr) (len cap : Nat) (p' : Option Addr) (len' cap' : Nat) (w : World) (hs : Fit σ w) (hx : Slc σ p len cap xs) (hx' : Slc σ p' len' cap' xs) :
    Calls Try.prog 39 #[.slice p len cap, .slice p' len' cap'] w fun e w' => e = .returned (.bool true) ∧ Below w.heap.size w w' := by
  have hlm := hx.max
  obtain rfl : len' = len := by rw [hx.length, hx'.length]
  have hll : ((len' : Int) != (len' : Int)) = false := bne_self_eq_false _
  go_enter Try.func39, Try.ntmps39
  go_wp2_with fail
  go_loopw [5] (fun i wr => ∃ k : Nat, k ≤ len' ∧ i = .int .i64 k ∧ Below w.heap.size w wr) (fun i _ => len' - (intOf i).toNat)
  case atStart => exact ⟨0, Nat.zero_le _, rfl, Below.refl _ _⟩
  case round =>
    obtain ⟨k, hk, rfl, hb⟩ := hrel
    have hfw := hs.below hb
    by_cases hlt : k < len'
    · obtain ⟨b, o, a, rfl, HA, f0, ha⟩ := hx.int k hlt
      obtain ⟨b', o', a', rfl, HA', f0', ha'⟩ := hx'.int k hlt
      obtain rfl : a' = a := by
        have h1 := HA.out
        rw [HA'.out] at h1
        exact Option.some.inj h1
      have g0 := hfw _ _ f0
      have g0' := hfw _ _ f0'
      have hee : ((a' : Int) != (a' : Int)) = false := bne_self_eq_false _
      have hi0 : (0 : Int) ≤ (k : Int) := by omega
      have hi1 : (k : Int) < (len' : Int) := by omega
      go_wp2_with fail
      go_quiet (fail)
      go_wp2_with fail
      go_roundw
      case rel => exact ⟨k + 1, by omega, by go_num, below_drewN hb _⟩
      case measure => simp [intOf]; omega
    · obtain rfl : k = len' := by omega
      go_wp2_with fail
      go_ret
      exact ⟨rfl, hb⟩
/-- Two lists of texts with the same things. -/
theorem sameNames_ref (xs : List ByteArray) (σ : Sto) (p : Option Addr) (len cap : Nat) (p' : Option Addr) (len' cap' : Nat) (w : World) (hs : Fit σ w) (hx : Slc σ p len cap xs) (hx' : Slc σ p' len' cap' xs) :
    Calls Try.prog 79 #[.slice p len cap, .slice p' len' cap'] w fun e w' => e = .returned (.bool true) ∧ Below w.heap.size w w' := by
  have hlm := hx.max
  obtain rfl : len' = len := by rw [hx.length, hx'.length]
  have hll : ((len' : Int) != (len' : Int)) = false := bne_self_eq_false _
  go_enter Try.func79, Try.ntmps79
  go_wp2_with fail
  go_loopw [5] (fun i wr => ∃ k : Nat, k ≤ len' ∧ i = .int .i64 k ∧ Below w.heap.size w wr) (fun i _ => len' - (intOf i).toNat)
  case atStart => exact ⟨0, Nat.zero_le _, rfl, Below.refl _ _⟩
  case round =>
    obtain ⟨k, hk, rfl, hb⟩ := hrel
    have hfw := hs.below hb
    by_cases hlt : k < len'
    · obtain ⟨b, o, a, rfl, HA, f0, ha⟩ := hx.str k hlt
      obtain ⟨b', o', a', rfl, HA', f0', ha'⟩ := hx'.str k hlt
      obtain rfl : a' = a := by
        have h1 := HA.out
        rw [HA'.out] at h1
        exact Option.some.inj h1
      have g0 := hfw _ _ f0
      have g0' := hfw _ _ f0'
      have hee := str_eq a'
      have hi0 : (0 : Int) ≤ (k : Int) := by omega
      have hi1 : (k : Int) < (len' : Int) := by omega
      go_wp2_with fail
      go_quiet (fail)
      go_wp2_with fail
      go_roundw
      case rel => exact ⟨k + 1, by omega, by go_num, below_drewN hb _⟩
      case measure => simp [intOf]; omega
    · obtain rfl : k = len' := by omega
      go_wp2_with fail
      go_ret
      exact ⟨rfl, hb⟩
theorem names2_same (xs : List ByteArray) (e : Int) (σ : Sto) (p : Option Addr) (len cap : Nat) (p' : Option Addr) (len' cap' : Nat) (w : World) (hs : Fit σ w) (hx : Slc σ p len cap xs) (hx' : Slc σ p' len' cap' xs) (he : e ≠ 0 → xs = []) :
    Calls Try.prog 38 #[.slice p len cap, .int .i64 e, .slice p' len' cap', .int .i64 e] w fun x w' => x = .returned (.bool true) ∧ Below w.heap.size w w' := by
  have hlm := hx.max
  by_cases h0 : e = 0
  · subst h0
    go_enter Try.func38, Try.ntmps38
    go_wp2_with fail
    refine (sameNames_ref xs σ _ _ _ _ _ _ _ hs hx hx').mono ?_
    rintro x w1 ⟨rfl, hb1⟩
    go_wp2_with fail
    go_ret
    exact ⟨rfl, hb1⟩
  · obtain rfl := he h0
    obtain rfl : len = 0 := hx.length
    have hne := ne_true h0
    have hee : (e == e) = true := by simp
    go_enter Try.func38, Try.ntmps38
    go_wp2_with fail
    go_ret
    exact ⟨rfl, Below.refl _ _⟩
end Go.Proofs.Ytkjbaabkaboaoaa
