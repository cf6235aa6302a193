/-
  The program's text of a term: the walks.
  Conditions: none.
-/
import Derived.Test.YtkjbaabkaboaoaaBuild
namespace Go.Proofs.Ytkjbaabkaboaoaa
open Go Go.RowKit
set_option maxHeartbeats 1000000
set_option linter.unusedVariables false

theorem strCells_append (a b : ByteArray) : Lib.strCells (a ++ b) = Lib.strCells a ++ Lib.strCells b := by simp [Lib.strCells]
theorem strCells_empty : Lib.strCells ⟨#[]⟩ = [] := rfl
theorem blk_others {w w' : World} {g : Nat} {t : TypeId} {cs : Array Value} {e : TypeId} {b : Nat} (h : Blk w g t cs) (hk : Lib.OthersKept e (some b) w w') (hg : g ≠ b) (ht : t ≠ e) : Blk w' g t cs :=
  hk g _ h (by simpa using hg) (fun c fz he => ht (by cases he; rfl))
theorem fitB {σ : Sto} {w w' : World} {B : Nat} (h : Fit σ w) (hσ : ∀ p x, σ p = some x → p.block < B) (hb : Below B w w') : Fit σ w' := fun p x e => (hb.cell (hσ p x e)).trans (h p x e)
theorem isB_lt {T e : TypeId} {B b : Nat} {bs : List Value} {w : World} (h : Lib.IsBuilderF T e B b bs w) : b < w.heap.size := by
  rcases h with h | h <;> exact h.lt
theorem comma_at (k : Nat) (kb : Bool) (h : kb = ((k : Int) == 0)) : [Value.int .u8 (if kb then 40 else 44)] = Lib.strCells (sep k) := by
  subst h
  unfold sep
  by_cases h : k = 0 <;> simp [h, Lib.strCells]

def ShowAt (t : Tm) : Prop := ∀ (σ : Sto) (v : Value) (w : World) (B b : Nat) (bs : List Value), Fit σ w → (∀ p x, σ p = some x → p.block < B) → TmV σ v t → Lib.IsBuilderF 132 5 B b bs w → bs.length + t.text.size ≤ 1000000 → B ≤ w.heap.size →
    Calls Try.prog 107 #[.pointer (some ⟨b, 0, none⟩), v] w fun e w' => e = .returned (.tuple #[]) ∧ Lib.IsBuilderF 132 5 B b (bs ++ Lib.strCells t.text) w' ∧ Below B w w' ∧ Lib.OthersKept 5 (some b) w w'
set_option maxRecDepth 100000 in
theorem show_any : ∀ (N : Nat) (t : Tm), SizeOf.sizeOf t < N → ShowAt t := by
  intro N
  induction N with
  | zero => intro t h; omega
  | succ N ih =>
  intro t hN σ v w B b bs hs hσ ht hbu hz hBw
  obtain ⟨p, len, cap, rfl, hn, hsl⟩ := ht
  have HL := Lib.hid hsl.length
  have hlm := hsl.max
  have hbn := isB_lt hbu
  have T0 : Blk (w.alloc (.cells #[.string t.name, .slice p len cap] 25)) w.heap.size 25 #[.string t.name, .slice p len cap] := Blk.new _ _ _
  have c0 : (w.alloc (.cells #[.string t.name, .slice p len cap] 25)).cell? ⟨w.heap.size, 0, none⟩ = some (.string t.name) := T0.cell 0
  have hl0 : bs.length + t.name.size ≤ 1000000 := by
    have := t.ahead_le 0
    rw [Tm.ahead_zero] at this
    omega
  go_enter Try.func107, Try.ntmps107
  go_wp2_with fail
  refine (writeString_any B b bs t.name _ (hbu.alloc _) (by omega) (by simp; omega)).mono ?_
  rintro e w1 ⟨rfl, hB1, hb1, hk1⟩
  have T1 := blk_others T0 hk1 (by omega) (by decide)
  have hbw1 : Below B w w1 := ((Below.refl B w).alloc hBw (.cells #[.string t.name, .slice p len cap] 25)).trans hb1
  have c1 : w1.cell? ⟨w.heap.size, 1, none⟩ = some (.slice p len cap) := T1.cell 1
  have HS0 : Lib.IsBuilderF 132 5 B b (bs ++ Lib.strCells (t.ahead 0)) w1 := .inr (by rw [Tm.ahead_zero]; exact hB1)
  have hk01 : Lib.OthersKept 5 (some b) w w1 := ((Lib.OthersKept.refl _ _ w).alloc _).trans hk1
  go_wp2_with fail
  go_loopw [13] (fun i wr => ∃ k : Nat, k ≤ len ∧ i = .int .i64 k ∧ Lib.IsBuilderF 132 5 B b (bs ++ Lib.strCells (t.ahead k)) wr ∧ Below B w wr ∧ Lib.OthersKept 5 (some b) w wr ∧ Blk wr w.heap.size 25 #[.string t.name, .slice p len cap]) (fun i _ => len - (intOf i).toNat)
  case atStart => exact ⟨0, Nat.zero_le _, rfl, HS0, hbw1, hk01, T1⟩
  case round =>
    obtain ⟨k, hk, rfl, hbr, hb, hkr, TR⟩ := hrel
    have hBr : B ≤ wr.heap.size := Nat.le_trans hBw hb.size
    have hbnr := isB_lt hbr
    by_cases hlt : k < len
    · obtain ⟨bb, o, a, q', l, c, rfl, HA, f0, f1, hn', hsl'⟩ := hsl.tm k hlt
      have hfw := fitB hs hσ hb
      have g0 := hfw _ _ f0
      have g1 := hfw _ _ f1
      have HT := Lib.hid (Tm.ahead_succ HA.out)
      have hsa : bs.length + ((t.ahead k).size + 1 + a.text.size) ≤ 1000000 := by
        have h1 := t.ahead_le (k+1)
        rw [HT.out] at h1
        simp only [ByteArray.size_append, sep_size] at h1
        omega
      have A0 : Blk (wr.alloc (.cells #[.string a.name, .slice q' l c] 25)) wr.heap.size 25 #[.string a.name, .slice q' l c] := Blk.new _ _ _
      have hki0 : (0 : Int) ≤ (k : Int) := by omega
      obtain ⟨kb, hkb⟩ : ∃ kb : Bool, kb = ((k : Int) == 0) := ⟨_, rfl⟩
      have HK := Lib.hid (comma_at k kb hkb)
      have hmin : min (k : Int) 1 = if kb then 0 else 1 := by
        subst hkb
        by_cases h : k = 0 <;> simp [h] <;> omega
      cases kb
      all_goals
        simp only [Bool.false_eq_true, if_false, if_true] at hmin
        clear hkb
        go_wp2_with fail
        refine (writeByte_any B b _ _ _ (hbr.alloc _) (by rw [List.length_append, Lib.strCells_length]; omega) (by simp; omega)).mono ?_
        rintro e w2 ⟨rfl, hB2, hb2, hk2⟩
        have A2 := blk_others A0 hk2 (by omega) (by decide)
        have TR2 := blk_others (TR.alloc (.cells #[.string a.name, .slice q' l c] 25)) hk2 (by omega) (by decide)
        have hbw2 : Below B w w2 := (hb.alloc hBr (.cells #[.string a.name, .slice q' l c] 25)).trans hb2
        have a0 : w2.cell? ⟨wr.heap.size, 0, none⟩ = some (.string a.name) := A2.cell 0
        have a1 : w2.cell? ⟨wr.heap.size, 1, none⟩ = some (.slice q' l c) := A2.cell 1
        go_wp2_with fail
        refine (ih a (by have := Tm.lt_of_arg (mem_of_get HA.out); omega) σ _ _ B b _ (fitB hs hσ hbw2) hσ ⟨_, _, _, rfl, hn', hsl'⟩ (.inr hB2) (by rw [List.length_append, List.length_append, Lib.strCells_length]; simp; omega) (Nat.le_trans hBw hbw2.size)).mono ?_
        rintro e w3 ⟨rfl, hB3, hb3, hk3⟩
        go_wp2_with fail
        go_roundw
        case rel =>
          refine ⟨k + 1, by omega, by go_num, ?_, hbw2.trans hb3, ((hkr.alloc _).trans hk2).trans hk3, blk_others TR2 hk3 (by omega) (by decide)⟩
          rw [HT.out, strCells_append, strCells_append, ← HK.out, ← List.append_assoc, ← List.append_assoc]
          exact hB3
        case measure => simp [intOf]; omega
    · obtain rfl : k = len := by omega
      have HF := Lib.hid (Tm.ahead_all HL.out)
      have c1 : wr.cell? ⟨w.heap.size, 1, none⟩ = some (.slice p k cap) := TR.cell 1
      by_cases hk0 : 0 < k
      · have hki : (0 : Int) < (k : Int) := by omega
        have hsa : bs.length + ((t.ahead k).size + 1) ≤ 1000000 := by
          have h1 := HF.out
          rw [if_neg (by omega)] at h1
          rw [h1] at hz
          simp only [ByteArray.size_append] at hz
          have h41 : (⟨#[41]⟩ : ByteArray).size = 1 := rfl
          rw [h41] at hz
          omega
        go_wp2_with fail
        refine (writeByte_any B b _ 41 _ hbr (by rw [List.length_append, Lib.strCells_length]; omega) hBr).mono ?_
        rintro e w2 ⟨rfl, hB2, hb2, hk2⟩
        go_wp2_with fail
        go_end0
        refine ⟨rfl, .inr ?_, hb.trans hb2, hkr.trans hk2⟩
        rw [HF.out, if_neg (by omega), strCells_append, ← List.append_assoc]
        exact hB2
      · obtain rfl : k = 0 := by omega
        go_wp2_with fail
        go_end0
        refine ⟨rfl, ?_, hb, hkr⟩
        rw [HF.out, if_pos trivial, append_empty]
        exact hbr
/-- The text of a named term is not empty. -/
theorem text_ne {t : Tm} (h : t.name.size ≠ 0) : t.text.data.toList ≠ [] := by
  intro he
  have h1 := t.ahead_le 0
  rw [Tm.ahead_zero] at h1
  have h2 : t.text.data.toList.length = 0 := by rw [he]; rfl
  have h3 : t.text.size = t.text.data.toList.length := by rw [Array.length_toList]; rfl
  omega
theorem toShow_any (t : Tm) (σ : Sto) (v : Value) (w : World) (hs : Fit σ w) (ht : TmV σ v t) (hz : t.text.size ≤ 1000000) (hne : t.name.size ≠ 0) :
    Calls Try.prog 74 #[v] w fun e w' => e = .returned (.string t.text) ∧ Below w.heap.size w w' := by
  obtain ⟨p, len, cap, rfl, hn, hsl⟩ := ht
  have T0 : Blk (w.alloc (.cells #[.string t.name, .slice p len cap] 25)) w.heap.size 25 #[.string t.name, .slice p len cap] := Blk.new _ _ _
  have hbu := Lib.fresh_isBuilder 132 5 (w.alloc (.cells #[.string t.name, .slice p len cap] 25))
  simp only [World.size_alloc] at hbu
  have T1 := T0.alloc (.cells #[.pointer none, .slice none 0 0] 132)
  have c0 := T1.cell 0
  have c1 := T1.cell 1
  go_enter Try.func74, Try.ntmps74
  go_wp2_with fail
  refine (show_any _ t (Nat.lt_succ_self _) σ _ _ (w.heap.size + 1) (w.heap.size + 1) [] ((hs.alloc _).alloc _) (fun p x e => Nat.lt_succ_of_lt (hs.lt e)) ⟨_, _, _, rfl, hn, hsl⟩ (.of hbu) (by simpa using hz) (by simp)).mono ?_
  rintro e w1 ⟨rfl, hB1, hb1, hk1⟩
  have hb01 : Below w.heap.size w w1 := (((Below.refl _ w).alloc (Nat.le_refl _) _).alloc (by simp) _).trans (hb1.mono (by omega))
  rw [List.nil_append, Lib.strCells_eq] at hB1
  go_wp2_with fail
  refine (builderString_any _ _ _ _ hB1 (text_ne hne)).mono ?_
  rintro e w2 ⟨rfl, hb2⟩
  go_wp2_with fail
  go_ret
  exact ⟨rfl, hb01.trans (hb2.mono (by omega))⟩
theorem chkOne_name {t : Tm} (h : chkOne t = 0) : 1 ≤ t.name.size ∧ t.name.size ≤ 8 := by
  unfold chkOne at h
  split at h
  · split at h
    · rename_i h1 _
      simp [nameOk] at h1
      omega
    · rename_i h1 _
      simp [nameOk] at h1
      omega
  · omega
mutual
theorem Tm.text_le : ∀ t : Tm, t.chk = 0 → t.text.size + 1 ≤ 10 * t.size
  | .mk n xs, h => by
    rw [Tm.chk_eq] at h
    split at h
    · rename_i h0
      have h1 := chkOne_name h0
      have h2 := Tm.textsFrom_le 0 xs h
      have h3 : (if xs.length = 0 then (⟨#[]⟩ : ByteArray) else ⟨#[41]⟩).size ≤ 1 := by split <;> simp [ByteArray.size]
      simp only [Tm.name] at h1
      simp only [Tm.text, Tm.size, ByteArray.size_append]
      omega
    · omega
theorem Tm.textsFrom_le : ∀ (k : Nat) (xs : List Tm), Tm.chkL xs = 0 → (Tm.textsFrom k xs).size ≤ 10 * Tm.sizes xs
  | _, [], _ => by simp [Tm.textsFrom, Tm.sizes, ByteArray.size]
  | k, t :: ts, h => by
    rw [Tm.chkL] at h
    split at h
    · rename_i h0
      have h1 := Tm.text_le t h0
      have h2 := Tm.textsFrom_le (k+1) ts h
      simp only [Tm.textsFrom, Tm.sizes, ByteArray.size_append, sep_size]
      omega
    · omega
end
theorem may_chk {t : Tm} (h : t.may = 0) : t.chk = 0 := by
  unfold Tm.may at h
  split at h <;> omega
theorem may_text {t : Tm} (h : t.may = 0) : t.text.size ≤ 2000 := by
  have h1 := t.text_le (may_chk h)
  have h2 := may_size h
  omega
theorem may_name {t : Tm} (h : t.may = 0) : t.name.size ≠ 0 := by
  have h1 := may_chk h
  rw [Tm.chk_eq] at h1
  split at h1
  · rename_i h0
    have := chkOne_name h0
    omega
  · omega
theorem toText_any (t : Tm) (σ : Sto) (v : Value) (w : World) (hs : Fit σ w) (ht : TmV σ v t) :
    Calls Try.prog 33 #[v] w fun e w' => e = .returned (.tuple #[.string (if t.may = 0 then t.text else ⟨#[]⟩), .int .i64 t.may]) ∧ Below w.heap.size w w' := by
  obtain ⟨p, len, cap, rfl, hn, hsl⟩ := ht
  have T0 := Blk.new w 25 #[.string t.name, .slice p len cap]
  go_enter Try.func33, Try.ntmps33
  go_wp2_with fail
  refine (check_any t σ _ _ (hs.alloc _) ⟨_, _, _, rfl, hn, hsl⟩).mono ?_
  rintro e w1 ⟨rfl, hb1⟩
  have T1 := T0.call hb1
  have t0 : w1.cell? ⟨w.heap.size, 0, none⟩ = some (.string t.name) := T1.cell 0
  have t1 : w1.cell? ⟨w.heap.size, 1, none⟩ = some (.slice p len cap) := T1.cell 1
  have hf1 := (hs.alloc (.cells #[.string t.name, .slice p len cap] 25)).below hb1
  have hb01 : Below w.heap.size w w1 := below_alloc_call (Below.refl _ _) (Nat.le_refl _) hb1
  by_cases hmt : t.may = 0
  · have HM := Lib.hid hmt
    have hz := may_text hmt
    have hne := may_name hmt
    rw [hmt]
    clear hmt
    go_wp2_with fail
    refine (toShow_any t σ _ _ hf1 ⟨_, _, _, rfl, hn, hsl⟩ (by omega) hne).mono ?_
    rintro e w2 ⟨rfl, hb2⟩
    go_wp2_with fail
    refine bodyPost_ret (v := .tuple #[.string t.text, .int .i64 0]) (by simp [results, Try.results33, go_sem]) rfl ⟨rfl, hb01.trans (hb2.mono hb01.size)⟩
  · have hne := ne_true hmt
    go_wp2_with fail
    refine bodyPost_ret (v := .tuple #[.string ⟨#[]⟩, .int .i64 t.may]) (by simp [results, Try.results33, go_sem]) rfl ⟨rfl, hb01⟩
end Go.Proofs.Ytkjbaabkaboaoaa
