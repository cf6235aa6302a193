/-
  The text of a term: plain, and the reference's walk.
  Conditions: none.
-/
import Derived.Test.YtkjbaabkaboaoaaLists
namespace Go.Proofs.Ytkjbaabkaboaoaa
open Go Go.RowKit
set_option maxHeartbeats 400000
set_option linter.unusedVariables false

/-! ### plain -/
def sep (k : Nat) : ByteArray := if k = 0 then ⟨#[40]⟩ else ⟨#[44]⟩
mutual
def Tm.text : Tm → ByteArray
  | .mk n xs => n ++ Tm.textsFrom 0 xs ++ (if xs.length = 0 then ⟨#[]⟩ else ⟨#[41]⟩)
def Tm.textsFrom : Nat → List Tm → ByteArray
  | _, [] => ⟨#[]⟩
  | k, t :: ts => sep k ++ t.text ++ Tm.textsFrom (k+1) ts
end
theorem empty_append (b : ByteArray) : (⟨#[]⟩ : ByteArray) ++ b = b := ByteArray.empty_append
theorem append_empty (b : ByteArray) : b ++ (⟨#[]⟩ : ByteArray) = b := ByteArray.append_empty
theorem Tm.text_eq (t : Tm) : t.text = t.name ++ Tm.textsFrom 0 t.args ++ (if t.args.length = 0 then ⟨#[]⟩ else ⟨#[41]⟩) := by cases t; rfl
theorem Tm.textsFrom_snoc (a : Tm) : ∀ (k : Nat) (xs : List Tm), Tm.textsFrom k (xs ++ [a]) = Tm.textsFrom k xs ++ (sep (k + xs.length) ++ a.text)
  | k, [] => by simp [Tm.textsFrom, empty_append, append_empty]
  | k, t :: ts => by
    rw [List.cons_append, Tm.textsFrom, Tm.textsFrom_snoc a (k+1) ts, Tm.textsFrom, List.length_cons, show k + 1 + ts.length = k + (ts.length + 1) by omega]
    simp only [ByteArray.append_assoc]
theorem Tm.textsFrom_append : ∀ (k : Nat) (xs ys : List Tm), Tm.textsFrom k (xs ++ ys) = Tm.textsFrom k xs ++ Tm.textsFrom (k + xs.length) ys
  | k, [], ys => by simp [Tm.textsFrom, empty_append]
  | k, t :: ts, ys => by
    rw [List.cons_append, Tm.textsFrom, Tm.textsFrom_append (k+1) ts, Tm.textsFrom, List.length_cons, show k + 1 + ts.length = k + (ts.length + 1) by omega]
    simp only [ByteArray.append_assoc]
theorem sep_size (k : Nat) : (sep k).size = 1 := by unfold sep; split <;> rfl
/-- what stands ahead of the k-th argument -/
def Tm.ahead (t : Tm) (k : Nat) : ByteArray := t.name ++ Tm.textsFrom 0 (t.args.take k)
theorem Tm.ahead_zero (t : Tm) : t.ahead 0 = t.name := by simp [Tm.ahead, Tm.textsFrom, append_empty]
theorem Tm.ahead_succ {t : Tm} {k : Nat} {a : Tm} (h : t.args[k]? = some a) : t.ahead (k+1) = t.ahead k ++ sep k ++ a.text := by
  have hl := lt_of_get h
  unfold Tm.ahead
  rw [take_snoc h, Tm.textsFrom_snoc, List.length_take, Nat.min_eq_left (by omega), Nat.zero_add]
  simp only [ByteArray.append_assoc]
theorem Tm.ahead_all {t : Tm} {k : Nat} (h : k = t.args.length) : t.text = t.ahead k ++ (if k = 0 then ⟨#[]⟩ else ⟨#[41]⟩) := by
  subst h
  rw [Tm.text_eq, Tm.ahead, List.take_length]
theorem Tm.ahead_le (t : Tm) (k : Nat) : (t.ahead k).size ≤ t.text.size := by
  rw [Tm.text_eq, Tm.ahead]
  have : t.args = t.args.take k ++ t.args.drop k := (List.take_append_drop k t.args).symm
  conv => rhs; rw [this]
  rw [Tm.textsFrom_append]
  simp only [ByteArray.size_append]
  omega

/-! ### the walk -/
def ShowRef (t : Tm) : Prop := ∀ (σ : Sto) (v : Value) (w : World), Fit σ w → TmV σ v t → t.text.size ≤ 1000000 →
    Calls Try.prog 30 #[v] w fun e w' => e = .returned (.string t.text) ∧ Below w.heap.size w w'
theorem show_ref : ∀ (N : Nat) (t : Tm), SizeOf.sizeOf t < N → ShowRef t := by
  intro N
  induction N with
  | zero => intro t h; omega
  | succ N ih =>
  intro t hN σ v w hs ht hz
  obtain ⟨p, len, cap, rfl, hn, hsl⟩ := ht
  have HL := Lib.hid hsl.length
  have hlm := hsl.max
  go_enter Try.func30, Try.ntmps30
  go_wp2_with fail
  go_loopw [3, 4] (fun n i wr => ∃ (k : Nat) (s : ByteArray), k ≤ len ∧ i = .int .i64 k ∧ n = .string s ∧ Hid (s = t.ahead k) ∧ Below (w.heap.size + 1) (w.alloc (.cells #[.string t.name, .slice p len cap] 25)) wr) (fun _ i _ => len - (intOf i).toNat)
  case atStart => exact ⟨0, _, Nat.zero_le _, rfl, rfl, Lib.hid t.ahead_zero.symm, Below.refl _ _⟩
  case round =>
    obtain ⟨k, s, hk, rfl, rfl, HS, hb⟩ := hrel
    have hbw := box_below hb
    have c1 : wr.cell? ⟨w.heap.size, 1, none⟩ = some (.slice p len cap) := box_cell hb 1
    have hsz := hb.size
    simp only [World.size_alloc] at hsz
    by_cases hlt : k < len
    · obtain ⟨b, o, a, q', l, c, rfl, HA, f0, f1, hn', hsl'⟩ := hsl.tm k hlt
      have hfw := hs.below hbw
      have g0 := hfw _ _ f0
      have g1 := hfw _ _ f1
      have HT := Lib.hid (Tm.ahead_succ HA.out)
      have hsa : (s.size + 1 + a.text.size) ≤ 1000000 := by
        have h1 := t.ahead_le (k+1)
        rw [HT.out] at h1
        simp only [ByteArray.size_append, sep_size] at h1
        rw [HS.out]
        omega
      have HP : Hid (sep k = if k = 0 then ⟨#[40]⟩ else ⟨#[44]⟩) := Lib.hid rfl
      obtain ⟨kb, hkb⟩ : ∃ kb : Bool, kb = ((k : Int) == 0) := ⟨_, rfl⟩
      have HK : Hid ((if kb then (⟨#[40]⟩ : ByteArray) else ⟨#[44]⟩) = sep k) := Lib.hid (by subst hkb; unfold sep; by_cases h : k = 0 <;> simp [h])
      cases kb
      all_goals
        have hki := hkb.symm
        clear hkb
        go_wp2_with fail
        refine (ih a (by have := Tm.lt_of_arg (mem_of_get HA.out); omega) σ _ _ hfw ⟨_, _, _, rfl, hn', hsl'⟩ (by omega)).mono ?_
        rintro e w1 ⟨rfl, hb1⟩
        go_wp2_with fail
        go_roundw
        case rel => exact ⟨k + 1, _, by omega, by go_num, rfl, Lib.hid (by rw [HT.out, ← HK.out, ← HS.out]; rfl), below_call hb (by omega) hb1⟩
        case measure => simp [intOf]; omega
    · obtain rfl : k = len := by omega
      have HF := Lib.hid (Tm.ahead_all HL.out)
      have hsa : s.size + 1 ≤ 1000001 := by
        have h1 := t.ahead_le k
        rw [← HS.out] at h1
        omega
      by_cases hk0 : k = 0
      all_goals
        have HK := Lib.hid hk0
        have hki : (0 : Int) < (k : Int) ∨ (k : Int) = 0 := by omega
        go_wp2_with fail
        all_goals
          go_ret
          refine ⟨?_, hbw⟩
          rw [HF.out, ← HS.out]
          simp [HK.out, append_empty]
end Go.Proofs.Ytkjbaabkaboaoaa
