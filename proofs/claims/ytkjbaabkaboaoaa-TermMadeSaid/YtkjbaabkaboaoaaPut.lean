/-
  Two equal terms are found the same; comparing two answers that are terms; the program's Put.
  Conditions: none.
-/
import Derived.Test.YtkjbaabkaboaoaaPutOf
namespace Go.Proofs.Ytkjbaabkaboaoaa
open Go Go.RowKit
set_option maxHeartbeats 400000
set_option linter.unusedVariables false

def SameRef (t : Tm) : Prop := ∀ (σ : Sto) (v u : Value) (w : World), Fit σ w → TmV σ v t → TmV σ u t →
    Calls Try.prog 58 #[v, u] w fun e w' => e = .returned (.bool true) ∧ Below w.heap.size w w'
set_option maxRecDepth 100000 in
theorem same_ref : ∀ (N : Nat) (t : Tm), SizeOf.sizeOf t < N → SameRef t := by
  intro N
  induction N with
  | zero => intro t h; omega
  | succ N ih =>
  intro t hN σ v u w hs ht hu
  obtain ⟨p, len, cap, rfl, hn, hsl⟩ := ht
  obtain ⟨p', len', cap', rfl, hn', hsl'⟩ := hu
  obtain rfl : len' = len := by rw [hsl.length, hsl'.length]
  have hlm := hsl.max
  have hll : ((len' : Int) != (len' : Int)) = false := bne_self_eq_false _
  go_enter Try.func58, Try.ntmps58
  go_wp2_with fail
  go_loopw [5] (fun i wr => ∃ k : Nat, k ≤ len' ∧ i = .int .i64 k ∧ Blk wr w.heap.size 25 #[.string t.name, .slice p len' cap] ∧ Blk wr (w.heap.size + 1) 25 #[.string t.name, .slice p' len' cap'] ∧ Below w.heap.size w wr) (fun i _ => len' - (intOf i).toNat)
  case atStart =>
    have T := (Blk.new w 25 #[.string t.name, .slice p len' cap]).alloc (.cells #[.string t.name, .slice p' len' cap'] 25)
    have X := (Blk.new (w.alloc (.cells #[.string t.name, .slice p len' cap] 25)) 25 #[.string t.name, .slice p' len' cap'])
    simp only [World.size_alloc] at X
    exact ⟨0, Nat.zero_le _, rfl, T, X, ((Below.refl _ _).alloc (Nat.le_refl _) _).alloc (by simp) _⟩
  case round =>
    obtain ⟨k, hk, rfl, T, X, hb⟩ := hrel
    have hfw := hs.below hb
    have t1 : wr.cell? ⟨w.heap.size, 1, none⟩ = some (.slice p len' cap) := T.cell 1
    have x1 : wr.cell? ⟨w.heap.size + 1, 1, none⟩ = some (.slice p' len' cap') := X.cell 1
    by_cases hlt : k < len'
    · obtain ⟨b, o, a, q, l, c, rfl, HA, f0, f1, hna, hsla⟩ := hsl.tm k hlt
      obtain ⟨b', o', a', q', l', c', rfl, HA', f0', f1', hna', hsla'⟩ := hsl'.tm k hlt
      obtain rfl : a' = a := by
        have h1 := HA.out
        rw [HA'.out] at h1
        exact Option.some.inj h1
      have g0 := hfw _ _ f0
      have g1 := hfw _ _ f1
      have g0' := hfw _ _ f0'
      have g1' := hfw _ _ f1'
      have hi0 : (0 : Int) ≤ (k : Int) := by omega
      have hi1 : (k : Int) < (len' : Int) := by omega
      clear hna' hsla'
      obtain ⟨_, _, hna', hsla'⟩ : True ∧ True ∧ a'.name.size ≤ maxLen ∧ Slc σ q' l' c' a'.args := by
        obtain ⟨b2, o2, a2, q2, l2, c2, hp2, HA2, e0, e1, h1, h2⟩ := hsl'.tm k hlt
        have : a2 = a' := by
          have h1 := HA2.out
          rw [HA'.out] at h1
          exact (Option.some.inj h1).symm
        subst this
        simp only [Option.some.injEq, Addr.mk.injEq, and_true] at hp2
        obtain ⟨rfl, rfl⟩ := hp2
        rw [e1] at f1'
        simp only [Option.some.injEq, Value.slice.injEq] at f1'
        obtain ⟨rfl, rfl, rfl⟩ := f1'
        exact ⟨trivial, trivial, h1, h2⟩
      go_wp2_with fail
      go_region_held3 (fun w' => w'.cell? ⟨w.heap.size, 1, none⟩ = some (.slice (some ⟨b, o, none⟩) len' cap) ∧ w'.cell? ⟨w.heap.size + 1, 1, none⟩ = some (.slice (some ⟨b', o', none⟩) len' cap') ∧ w'.cell? ⟨b, o + k * 2, none⟩ = some (.string a'.name) ∧ w'.cell? ⟨b, o + k * 2 + 1, none⟩ = some (.slice q l c) ∧ w'.cell? ⟨b', o' + k * 2, none⟩ = some (.string a'.name) ∧ w'.cell? ⟨b', o' + k * 2 + 1, none⟩ = some (.slice q' l' c'))
        (first | (go_keep; done) | exact ⟨K1, K2, K3, K4, K5, K6⟩)
        (first | (go_at_call 58; refine (ih a' (by have := Tm.lt_of_arg (mem_of_get HA.out); omega) σ _ _ _ hfw.drew ⟨_, _, _, rfl, hna, hsla⟩ ⟨_, _, _, rfl, hna', hsla'⟩).mono ?_
                  rintro e w1 ⟨rfl, hb1⟩
                  have T1 := T.drew.call hb1
                  have X1 := X.drew.call hb1
                  have hf1 := hfw.drew.below hb1
                  have K1 : w1.cell? ⟨w.heap.size, 1, none⟩ = some (.slice (some ⟨b, o, none⟩) len' cap) := T1.cell 1
                  have K2 : w1.cell? ⟨w.heap.size + 1, 1, none⟩ = some (.slice (some ⟨b', o', none⟩) len' cap') := X1.cell 1
                  have K3 := hf1 _ _ f0
                  have K4 := hf1 _ _ f1
                  have K5 := hf1 _ _ f0'
                  have K6 := hf1 _ _ f1'))
      go_wp2_with fail
      go_roundw
      case rel => exact ⟨k + 1, by omega, by go_num, T1, X1, hb.drew.trans (hb1.mono hb.drew.size)⟩
      case measure => simp [intOf]; omega
    · go_wp2_with fail
      go_ret
      exact ⟨rfl, hb⟩

/-- the zero term -/
def Tm.zero : Tm := .mk ⟨#[]⟩ []
theorem zero_slc (σ : Sto) : TmV σ (.agg #[.string ⟨#[]⟩, .slice none 0 0]) Tm.zero := ⟨none, 0, 0, rfl, by simp [Tm.zero, Tm.name, ByteArray.size], Slc.nil σ⟩

theorem term2_same (r : Tm) (e : Int) (σ : Sto) (v u : Value) (w : World) (hs : Fit σ w) (hv : TmV σ v r) (hu : TmV σ u r) (he : e ≠ 0 → r = Tm.zero) :
    Calls Try.prog 14 #[v, .int .i64 e, u, .int .i64 e] w fun x w' => x = .returned (.bool true) ∧ Below w.heap.size w w' := by
  obtain ⟨p, len, cap, rfl, hn, hsl⟩ := hv
  obtain ⟨p', len', cap', rfl, hn', hsl'⟩ := hu
  by_cases h0 : e = 0
  · subst h0
    go_enter Try.func14, Try.ntmps14
    go_wp2_with fail
    refine (same_ref _ r (Nat.lt_succ_self _) σ _ _ _ ((hs.alloc _).alloc _) ⟨_, _, _, rfl, hn, hsl⟩ ⟨_, _, _, rfl, hn', hsl'⟩).mono ?_
    rintro x w1 ⟨rfl, hb1⟩
    go_wp2_with fail
    go_ret
    exact ⟨rfl, (((Below.refl _ _).alloc (Nat.le_refl _) _).alloc (by simp) _).trans (hb1.mono (by simp; omega))⟩
  · obtain rfl := he h0
    obtain rfl : len = 0 := hsl.length
    have hne := ne_true h0
    have hee : (e == e) = true := by simp
    have hz0 : Tm.zero.name.toList.isEmpty = true := by rw [ByteArray.toList_eq]; rfl
    go_enter Try.func14, Try.ntmps14
    go_wp2_with fail
    go_ret
    exact ⟨rfl, ((Below.refl _ _).alloc (Nat.le_refl _) _).alloc (by simp) _⟩

theorem huge_any (t : Tm) (σ : Sto) (v : Value) (w : World) (hs : Fit σ w) (ht : TmV σ v t) :
    Calls Try.prog 15 #[v] w fun e w' => e = .returned (.bool (decide (3000 < t.size))) ∧ Below w.heap.size w w' := by
  obtain ⟨p, len, cap, rfl, hn, hsl⟩ := ht
  go_enter Try.func15, Try.ntmps15
  go_wp2_with fail
  refine (size_ref _ t (Nat.lt_succ_self _) σ _ _ 3000 (hs.alloc _) ⟨_, _, _, rfl, hn, hsl⟩ (by omega) (by omega)).mono ?_
  rintro e w1 ⟨rfl, hb1⟩
  have HC : Hid (decide (3000 < capTo t.size 3000) = decide (3000 < t.size)) := by
    show _ = _
    rw [Bool.eq_iff_iff]
    unfold capTo
    split <;> simp <;> omega
  go_wp2_with fail
  go_ret
  exact ⟨ret_bool HC.out, below_alloc_call (Below.refl _ _) (Nat.le_refl _) hb1⟩
end Go.Proofs.Ytkjbaabkaboaoaa
