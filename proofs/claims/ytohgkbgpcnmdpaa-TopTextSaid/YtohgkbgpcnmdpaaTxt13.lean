/-
  Part 13 of the texts: Show; TermPuts; At; BTexts; IrRawT. Conditions: none.
-/
import Derived.Test.YtohgkbgpcnmdpaaTxt12
namespace Go.Proofs.Ytohgkbgpcnmdpaa
open Go Go.RowKit
set_option maxHeartbeats 1000000
set_option linter.unusedVariables false

theorem strCells_append (a b : ByteArray) : Lib.strCells (a ++ b) = Lib.strCells a ++ Lib.strCells b := by simp [Lib.strCells]
theorem blk_others {w w' : World} {g : Nat} {t : TypeId} {cs : Array Value} {e : TypeId} {b : Nat} (h : Blk w g t cs) (hk : Lib.OthersKept e (some b) w w') (hg : g ≠ b) (ht : t ≠ e) : Blk w' g t cs :=
  hk g _ h (by simpa using hg) (fun c fz he => ht (by cases he; rfl))
theorem fitB {σ : Sto} {w w' : World} {B : Nat} (h : Fit σ w) (hσ : ∀ p x, σ p = some x → p.block < B) (hb : Below B w w') : Fit σ w' := fun p x e => (look_of_block (hb.block _ (hσ p x e))).trans (h p x e)
theorem isB_lt {T e : TypeId} {B b : Nat} {bs : List Value} {w : World} (h : Lib.IsBuilderF T e B b bs w) : b < w.heap.size := by
  rcases h with h | h <;> exact h.lt
theorem comma_at (k : Nat) (kb : Bool) (h : kb = ((k : Int) == 0)) : [Value.int .u8 (if kb then 40 else 44)] = Lib.strCells (sep k) := by
  subst h
  unfold sep
  by_cases h : k = 0 <;> simp [h, Lib.strCells]

def ShowAt (t : Tm) : Prop := ∀ (σ : Sto) (v : Value) (w : World) (B b : Nat) (bs : List Value), Fit σ w → (∀ p x, σ p = some x → p.block < B) → TmV σ v t → Lib.IsBuilderF 91 5 B b bs w → bs.length + t.text.size ≤ 1000000 → B ≤ w.heap.size →
    Calls Try.prog 55 #[.pointer (some ⟨b, 0, none⟩), v] w fun e w' => e = .returned (.tuple #[]) ∧ Lib.IsBuilderF 91 5 B b (bs ++ Lib.strCells t.text) w' ∧ Below B w w' ∧ Lib.OthersKept 5 (some b) w w'
set_option maxRecDepth 100000 in
theorem show_any : ∀ (N : Nat) (t : Tm), SizeOf.sizeOf t < N → ShowAt t := by
  intro N
  induction N with
  | zero => intro t h; omega
  | succ N ih =>
  intro t hN σ v w B b bs hs hσ ht hbu hz hBw
  obtain ⟨p, len, cap, rfl, hn, hsl⟩ := ht
  have HL := Lib.hid hsl.length
  have hlm := hsl.max
  have hbn := isB_lt hbu
  have T0 : Blk (w.alloc (.cells #[.string t.name, .slice p len cap] 24)) w.heap.size 24 #[.string t.name, .slice p len cap] := Blk.new _ _ _
  have c0 : (w.alloc (.cells #[.string t.name, .slice p len cap] 24)).cell? ⟨w.heap.size, 0, none⟩ = some (.string t.name) := T0.cell 0
  have hl0 : bs.length + t.name.size ≤ 1000000 := by
    have := t.ahead_le 0
    rw [Tm.ahead_zero] at this
    omega
  go_enter Try.func55, Try.ntmps55
  go_wp2_with fail
  refine (writeString_any B b bs t.name _ (hbu.alloc _) (by omega) (by simp; omega)).mono ?_
  rintro e w1 ⟨rfl, hB1, hb1, hk1⟩
  have T1 := blk_others T0 hk1 (by omega) (by decide)
  have hbw1 : Below B w w1 := ((Below.refl B w).alloc hBw (.cells #[.string t.name, .slice p len cap] 24)).trans hb1
  have c1 : w1.cell? ⟨w.heap.size, 1, none⟩ = some (.slice p len cap) := T1.cell 1
  have HS0 : Lib.IsBuilderF 91 5 B b (bs ++ Lib.strCells (t.ahead 0)) w1 := .inr (by rw [Tm.ahead_zero]; exact hB1)
  have hk01 : Lib.OthersKept 5 (some b) w w1 := ((Lib.OthersKept.refl _ _ w).alloc _).trans hk1
  go_wp2_with fail
  go_loopw [13] (fun i wr => ∃ k : Nat, k ≤ len ∧ i = .int .i64 k ∧ Lib.IsBuilderF 91 5 B b (bs ++ Lib.strCells (t.ahead k)) wr ∧ Below B w wr ∧ Lib.OthersKept 5 (some b) w wr ∧ Blk wr w.heap.size 24 #[.string t.name, .slice p len cap]) (fun i _ => len - (intOf i).toNat)
  case atStart => exact ⟨0, Nat.zero_le _, rfl, HS0, hbw1, hk01, T1⟩
  case round =>
    obtain ⟨k, hk, rfl, hbr, hb, hkr, TR⟩ := hrel
    have hBr : B ≤ wr.heap.size := Nat.le_trans hBw hb.size
    have hbnr := isB_lt hbr
    by_cases hlt : k < len
    · obtain ⟨bb, o, a, q', l, c, rfl, HA, f0, f1, hn', hsl'⟩ := hsl.tm k hlt
      have hfw := fitB hs hσ hb
      have g0 := fitC hfw f0
      have g1 := fitC hfw f1
      have HT := Lib.hid (Tm.ahead_succ HA.out)
      have hsa : bs.length + ((t.ahead k).size + 1 + a.text.size) ≤ 1000000 := by
        have h1 := t.ahead_le (k+1)
        rw [HT.out] at h1
        simp only [ByteArray.size_append, sep_size] at h1
        omega
      have A0 : Blk (wr.alloc (.cells #[.string a.name, .slice q' l c] 24)) wr.heap.size 24 #[.string a.name, .slice q' l c] := Blk.new _ _ _
      have hki0 : (0 : Int) ≤ (k : Int) := by omega
      obtain ⟨kb, hkb⟩ : ∃ kb : Bool, kb = ((k : Int) == 0) := ⟨_, rfl⟩
      have HK := Lib.hid (comma_at k kb hkb)
      have hmin : min (k : Int) 1 = if kb then 0 else 1 := by
        subst hkb
        by_cases h : k = 0 <;> simp [h] <;> omega
      cases kb
      all_goals
        simp only [Bool.false_eq_true, if_false, if_true] at hmin
        clear hkb
        go_wp2_with fail
        refine (writeByte_any B b _ _ _ (hbr.alloc _) (by rw [List.length_append, Lib.strCells_length]; omega) (by simp; omega)).mono ?_
        rintro e w2 ⟨rfl, hB2, hb2, hk2⟩
        have A2 := blk_others A0 hk2 (by omega) (by decide)
        have TR2 := blk_others (TR.alloc (.cells #[.string a.name, .slice q' l c] 24)) hk2 (by omega) (by decide)
        have hbw2 : Below B w w2 := (hb.alloc hBr (.cells #[.string a.name, .slice q' l c] 24)).trans hb2
        have a0 : w2.cell? ⟨wr.heap.size, 0, none⟩ = some (.string a.name) := A2.cell 0
        have a1 : w2.cell? ⟨wr.heap.size, 1, none⟩ = some (.slice q' l c) := A2.cell 1
        go_wp2_with fail
        refine (ih a (by have := Tm.lt_of_arg (mem_of_get HA.out); omega) σ _ _ B b _ (fitB hs hσ hbw2) hσ ⟨_, _, _, rfl, hn', hsl'⟩ (.inr hB2) (by rw [List.length_append, List.length_append, Lib.strCells_length]; simp; omega) (Nat.le_trans hBw hbw2.size)).mono ?_
        rintro e w3 ⟨rfl, hB3, hb3, hk3⟩
        go_wp2_with fail
        go_roundw
        case rel =>
          refine ⟨k + 1, by omega, by go_num, ?_, hbw2.trans hb3, ((hkr.alloc _).trans hk2).trans hk3, blk_others TR2 hk3 (by omega) (by decide)⟩
          rw [HT.out, strCells_append, strCells_append, ← HK.out, ← List.append_assoc, ← List.append_assoc]
          exact hB3
        case measure => simp [intOf]; omega
    · obtain rfl : k = len := by omega
      have HF := Lib.hid (Tm.ahead_all HL.out)
      have c1 : wr.cell? ⟨w.heap.size, 1, none⟩ = some (.slice p k cap) := TR.cell 1
      by_cases hk0 : 0 < k
      · have hki : (0 : Int) < (k : Int) := by omega
        have hsa : bs.length + ((t.ahead k).size + 1) ≤ 1000000 := by
          have h1 := HF.out
          rw [if_neg (by omega)] at h1
          rw [h1] at hz
          simp only [ByteArray.size_append] at hz
          have h41 : (⟨#[41]⟩ : ByteArray).size = 1 := rfl
          rw [h41] at hz
          omega
        go_wp2_with fail
        refine (writeByte_any B b _ 41 _ hbr (by rw [List.length_append, Lib.strCells_length]; omega) hBr).mono ?_
        rintro e w2 ⟨rfl, hB2, hb2, hk2⟩
        go_wp2_with fail
        go_end0
        refine ⟨rfl, .inr ?_, hb.trans hb2, hkr.trans hk2⟩
        rw [HF.out, if_neg (by omega), strCells_append, ← List.append_assoc]
        exact hB2
      · obtain rfl : k = 0 := by omega
        go_wp2_with fail
        go_end0
        refine ⟨rfl, ?_, hb, hkr⟩
        rw [HF.out, if_pos trivial, append_empty]
        exact hbr
/-- The text of a named term is not empty. -/
theorem text_ne {t : Tm} (h : t.name.size ≠ 0) : t.text.data.toList ≠ [] := by
  intro he
  have h1 := t.ahead_le 0
  rw [Tm.ahead_zero] at h1
  have h2 : t.text.data.toList.length = 0 := by rw [he]; rfl
  have h3 : t.text.size = t.text.data.toList.length := by rw [Array.length_toList]; rfl
  omega
theorem toShow_any (t : Tm) (σ : Sto) (v : Value) (w : World) (hs : Fit σ w) (ht : TmV σ v t) (hz : t.text.size ≤ 1000000) (hne : t.name.size ≠ 0) :
    Calls Try.prog 31 #[v] w fun e w' => e = .returned (.string t.text) ∧ Below w.heap.size w w' := by
  obtain ⟨p, len, cap, rfl, hn, hsl⟩ := ht
  have T0 : Blk (w.alloc (.cells #[.string t.name, .slice p len cap] 24)) w.heap.size 24 #[.string t.name, .slice p len cap] := Blk.new _ _ _
  have hbu := Lib.fresh_isBuilder 91 5 (w.alloc (.cells #[.string t.name, .slice p len cap] 24))
  simp only [World.size_alloc] at hbu
  have T1 := T0.alloc (.cells #[.pointer none, .slice none 0 0] 91)
  have c0 := T1.cell 0
  have c1 := T1.cell 1
  go_enter Try.func31, Try.ntmps31
  go_wp2_with fail
  refine (show_any _ t (Nat.lt_succ_self _) σ _ _ (w.heap.size + 1) (w.heap.size + 1) [] ((hs.alloc _).alloc _) (fun p x e => Nat.lt_succ_of_lt (hs.lt e)) ⟨_, _, _, rfl, hn, hsl⟩ (.of hbu) (by simpa using hz) (by simp)).mono ?_
  rintro e w1 ⟨rfl, hB1, hb1, hk1⟩
  have hb01 : Below w.heap.size w w1 := (((Below.refl _ w).alloc (Nat.le_refl _) _).alloc (by simp) _).trans (hb1.mono (by omega))
  rw [List.nil_append, Lib.strCells_eq] at hB1
  go_wp2_with fail
  refine (builderString_any _ _ _ _ hB1 (text_ne hne)).mono ?_
  rintro e w2 ⟨rfl, hb2⟩
  go_wp2_with fail
  go_ret
  exact ⟨rfl, hb01.trans (hb2.mono (by omega))⟩
theorem chkOne_name {t : Tm} (h : chkOne t = 0) : 1 ≤ t.name.size ∧ t.name.size ≤ 8 := by
  unfold chkOne at h
  split at h
  · split at h
    · rename_i h1 _
      simp [nameOk] at h1
      omega
    · rename_i h1 _
      simp [nameOk] at h1
      omega
  · omega
mutual
theorem Tm.text_le : ∀ t : Tm, t.chk = 0 → t.text.size + 1 ≤ 10 * t.size
  | .mk n xs, h => by
    rw [Tm.chk_eq] at h
    split at h
    · rename_i h0
      have h1 := chkOne_name h0
      have h2 := Tm.textsFrom_le 0 xs h
      have h3 : (if xs.length = 0 then (⟨#[]⟩ : ByteArray) else ⟨#[41]⟩).size ≤ 1 := by split <;> simp [ByteArray.size]
      simp only [Tm.name] at h1
      simp only [Tm.text, Tm.size, ByteArray.size_append]
      omega
    · omega
theorem Tm.textsFrom_le : ∀ (k : Nat) (xs : List Tm), Tm.chkL xs = 0 → (Tm.textsFrom k xs).size ≤ 10 * Tm.sizes xs
  | _, [], _ => by simp [Tm.textsFrom, Tm.sizes, ByteArray.size]
  | k, t :: ts, h => by
    rw [Tm.chkL] at h
    split at h
    · rename_i h0
      have h1 := Tm.text_le t h0
      have h2 := Tm.textsFrom_le (k+1) ts h
      simp only [Tm.textsFrom, Tm.sizes, ByteArray.size_append, sep_size]
      omega
    · omega
end
theorem may_chk {t : Tm} (h : t.may = 0) : t.chk = 0 := by
  unfold Tm.may at h
  split at h <;> omega
theorem may_text {t : Tm} (h : t.may = 0) : t.text.size ≤ 2000 := by
  have h1 := t.text_le (may_chk h)
  have h2 := may_size h
  omega
theorem may_name {t : Tm} (h : t.may = 0) : t.name.size ≠ 0 := by
  have h1 := may_chk h
  rw [Tm.chk_eq] at h1
  split at h1
  · rename_i h0
    have := chkOne_name h0
    omega
  · omega
theorem toText_any (t : Tm) (σ : Sto) (v : Value) (w : World) (hs : Fit σ w) (ht : TmV σ v t) :
    Calls Try.prog 12 #[v] w fun e w' => e = .returned (.tuple #[.string (if t.may = 0 then t.text else ⟨#[]⟩), .int .i64 t.may]) ∧ Below w.heap.size w w' := by
  obtain ⟨p, len, cap, rfl, hn, hsl⟩ := ht
  have T0 := Blk.new w 24 #[.string t.name, .slice p len cap]
  go_enter Try.func12, Try.ntmps12
  go_wp2_with fail
  refine (check_any t σ _ _ (hs.alloc _) ⟨_, _, _, rfl, hn, hsl⟩).mono ?_
  rintro e w1 ⟨rfl, hb1⟩
  have T1 := T0.call hb1
  have t0 : w1.cell? ⟨w.heap.size, 0, none⟩ = some (.string t.name) := T1.cell 0
  have t1 : w1.cell? ⟨w.heap.size, 1, none⟩ = some (.slice p len cap) := T1.cell 1
  have hf1 := (hs.alloc (.cells #[.string t.name, .slice p len cap] 24)).below hb1
  have hb01 : Below w.heap.size w w1 := below_alloc_call (Below.refl _ _) (Nat.le_refl _) hb1
  by_cases hmt : t.may = 0
  · have HM := Lib.hid hmt
    have hz := may_text hmt
    have hne := may_name hmt
    rw [hmt]
    clear hmt
    go_wp2_with fail
    refine (toShow_any t σ _ _ hf1 ⟨_, _, _, rfl, hn, hsl⟩ (by omega) hne).mono ?_
    rintro e w2 ⟨rfl, hb2⟩
    go_wp2_with fail
    refine bodyPost_ret (v := .tuple #[.string t.text, .int .i64 0]) (by simp [results, Try.results12, go_sem]) rfl ⟨rfl, hb01.trans (hb2.mono hb01.size)⟩
  · have hne := ne_true hmt
    go_wp2_with fail
    refine bodyPost_ret (v := .tuple #[.string ⟨#[]⟩, .int .i64 t.may]) (by simp [results, Try.results12, go_sem]) rfl ⟨rfl, hb01⟩
end Go.Proofs.Ytohgkbgpcnmdpaa

namespace Go.Proofs.Ytohgkbgpcnmdpaa
open Go Go.RowKit
set_option maxHeartbeats 1000000
set_option linter.unusedVariables false

/-- what A3 says: the term, what is wrong -/
def putR (t : Tm) (is : List Int) (x : Tm) : Tm × Int := if two t x = 0 then (if t.at_ is = none then (Tm.zero, 10) else (t.put is x, 0)) else (Tm.zero, two t x)
def Res (σ : Sto) (w : World) (r : Tm × Int) (e : Ending) (w' : World) : Prop :=
  ∃ σ' p l c, e = .returned (.tuple #[.agg #[.string r.1.name, .slice p l c], .int .i64 r.2]) ∧ r.1.name.size ≤ maxLen ∧ Slc σ' p l c r.1.args ∧ Ext w.heap.size σ σ' ∧ Fit σ' w' ∧ Below w.heap.size w w'
theorem two_size {t x : Tm} (h : two t x = 0) : t.size ≤ 200 ∧ x.size ≤ 200 := by
  have h1 := Tm.chk_range t
  have h2 := Tm.chk_range x
  unfold two at h
  split at h
  · rename_i h0
    unfold Tm.may at h0 h
    split at h0 <;> split at h <;> omega
  · omega

set_option maxRecDepth 100000 in
theorem put_any (t x : Tm) (is : List Int) (σ : Sto) (v u : Value) (q : Option Addr) (l c : Nat) (w : World) (hs : Fit σ w) (ht : TmV σ v t) (hx : TmV σ u x) (hq : Slc σ q l c is) :
    Calls Try.prog 16 #[v, .slice q l c, u] w (Res σ w (putR t is x)) := by
  obtain ⟨p, len, cap, rfl, hn, hsl⟩ := ht
  obtain ⟨p', len', cap', rfl, hn', hsl'⟩ := hx
  have T0 := ((Blk.new w 24 #[.string t.name, .slice p len cap]).alloc (.cells #[.string x.name, .slice p' len' cap'] 24)).alloc (.cells #[.string ⟨#[]⟩, .slice none 0 0] 24)
  have X0 := (Blk.new (w.alloc (.cells #[.string t.name, .slice p len cap] 24)) 24 #[.string x.name, .slice p' len' cap']).alloc (.cells #[.string ⟨#[]⟩, .slice none 0 0] 24)
  have R0 := Blk.new ((w.alloc (.cells #[.string t.name, .slice p len cap] 24)).alloc (.cells #[.string x.name, .slice p' len' cap'] 24)) 24 #[.string ⟨#[]⟩, .slice none 0 0]
  simp only [World.size_alloc] at X0 R0
  have hf0 := ((hs.alloc (.cells #[.string t.name, .slice p len cap] 24)).alloc (.cells #[.string x.name, .slice p' len' cap'] 24)).alloc (.cells #[.string ⟨#[]⟩, .slice none 0 0] 24)
  have hb0 : Below w.heap.size w (((w.alloc (.cells #[.string t.name, .slice p len cap] 24)).alloc (.cells #[.string x.name, .slice p' len' cap'] 24)).alloc (.cells #[.string ⟨#[]⟩, .slice none 0 0] 24)) := (((Below.refl _ _).alloc (Nat.le_refl _) _).alloc (by simp) _).alloc (by simp; omega) _
  have zs : ∀ j z, σ ⟨w.heap.size + j, z, none⟩ = none := fun j z => hs.no (by simp)
  have ZS := Lib.hid zs; clear zs
  go_enter Try.func16, Try.ntmps16
  go_wp2_with fail
  refine (check_any t σ _ _ hf0 ⟨_, _, _, rfl, hn, hsl⟩).mono ?_
  rintro e w1 ⟨rfl, hb1⟩
  have T1 := T0.call hb1
  have X1 := X0.call hb1
  have R1 := R0.call hb1
  have hf1 := hf0.below hb1
  have hb01 := hb0.trans (hb1.mono (by simp; omega))
  have t0 : w1.cell? ⟨w.heap.size, 0, none⟩ = some (.string t.name) := T1.cell 0
  have t1 : w1.cell? ⟨w.heap.size, 1, none⟩ = some (.slice p len cap) := T1.cell 1
  have x0 : w1.cell? ⟨w.heap.size + 1, 0, none⟩ = some (.string x.name) := X1.cell 0
  have x1 : w1.cell? ⟨w.heap.size + 1, 1, none⟩ = some (.slice p' len' cap') := X1.cell 1
  have r0 : w1.cell? ⟨w.heap.size + 1 + 1, 0, none⟩ = some (.string ⟨#[]⟩) := R1.cell 0
  have r1 : w1.cell? ⟨w.heap.size + 1 + 1, 1, none⟩ = some (.slice none 0 0) := R1.cell 1
  have r2 : w1.frozen? ⟨w.heap.size + 1 + 1, 0, none⟩ = false := R1.frozen 0
  have r3 : w1.frozen? ⟨w.heap.size + 1 + 1, 1, none⟩ = false := R1.frozen 1
  clear hb1
  by_cases hmt : t.may = 0
  · have HM := Lib.hid hmt
    rw [hmt]
    clear hmt
    go_wp2_with fail
    refine (check_any x σ _ _ hf1 ⟨_, _, _, rfl, hn', hsl'⟩).mono ?_
    rintro e w2 ⟨rfl, hb2⟩
    have T2 := T1.call hb2
    have X2 := X1.call hb2
    have R2 := R1.call hb2
    have hf2 := hf1.below hb2
    have hb02 := below_call hb01 hb01.size hb2
    clear t0 t1 x0 x1 r0 r1 r2 r3 hf1 hb01 T1 X1 R1
    have t0 : w2.cell? ⟨w.heap.size, 0, none⟩ = some (.string t.name) := T2.cell 0
    have t1 : w2.cell? ⟨w.heap.size, 1, none⟩ = some (.slice p len cap) := T2.cell 1
    have x0 : w2.cell? ⟨w.heap.size + 1, 0, none⟩ = some (.string x.name) := X2.cell 0
    have x1 : w2.cell? ⟨w.heap.size + 1, 1, none⟩ = some (.slice p' len' cap') := X2.cell 1
    have r0 : w2.cell? ⟨w.heap.size + 1 + 1, 0, none⟩ = some (.string ⟨#[]⟩) := R2.cell 0
    have r1 : w2.cell? ⟨w.heap.size + 1 + 1, 1, none⟩ = some (.slice none 0 0) := R2.cell 1
    have r2 : w2.frozen? ⟨w.heap.size + 1 + 1, 0, none⟩ = false := R2.frozen 0
    have r3 : w2.frozen? ⟨w.heap.size + 1 + 1, 1, none⟩ = false := R2.frozen 1
    clear hb2
    by_cases hmx : x.may = 0
    · have HX := Lib.hid hmx
      have HTW : Hid (two t x = 0) := by show _ = _; unfold two; rw [if_pos HM.out, hmx]
      have hz := two_size HTW.out
      rw [hmx]
      clear hmx
      go_wp2_with fail
      refine (below_any t is σ _ _ _ _ _ hf2 ⟨_, _, _, rfl, hn, hsl⟩ hq).mono ?_
      intro e w3 h3
      rcases hat : t.at_ is with _ | y
      · rw [hat] at h3
        obtain ⟨rfl, hb3⟩ := h3
        have HA := Lib.hid hat; clear hat
        have R3 := R2.call hb3
        have hf3 := hf2.below hb3
        have hb03 := below_call hb02 hb02.size hb3
        have hs3 : w.heap.size + 3 ≤ w3.heap.size := by have := R3.lt; omega
        clear t0 t1 x0 x1 r0 r1 r2 r3
        have R3' := R3.alloc (.cells #[.string ⟨#[]⟩, .slice none 0 0] 24)
        have r0 : (w3.alloc (.cells #[.string ⟨#[]⟩, .slice none 0 0] 24)).cell? ⟨w.heap.size + 1 + 1, 0, none⟩ = some (.string ⟨#[]⟩) := R3'.cell 0
        have r1 : (w3.alloc (.cells #[.string ⟨#[]⟩, .slice none 0 0] 24)).cell? ⟨w.heap.size + 1 + 1, 1, none⟩ = some (.slice none 0 0) := R3'.cell 1
        have r2 : (w3.alloc (.cells #[.string ⟨#[]⟩, .slice none 0 0] 24)).frozen? ⟨w.heap.size + 1 + 1, 0, none⟩ = false := R3'.frozen 0
        have r3 : (w3.alloc (.cells #[.string ⟨#[]⟩, .slice none 0 0] 24)).frozen? ⟨w.heap.size + 1 + 1, 1, none⟩ = false := R3'.frozen 1
        go_wp2_with fail
        have HP : putR t is x = (Tm.zero, 10) := by unfold putR; rw [if_pos HTW.out, if_pos HA.out]
        rw [HP]
        have Rb := (((R3.alloc (.cells #[.string ⟨#[]⟩, .slice none 0 0] 24)).put 0 (.string ⟨#[]⟩)).put 1 (.slice none 0 0))
        have k0 := Rb.cell 0
        have k1 := Rb.cell 1
        exact bodyPost_ret (v := .tuple #[.agg #[.string ⟨#[]⟩, .slice none 0 0], .int .i64 10]) (by simp [results, Try.results16, go_sem, k0, k1]) rfl
          ⟨σ, none, 0, 0, rfl, by simp [Tm.zero, Tm.name, ByteArray.size], Slc.nil σ, Ext.refl _ _, ((hf3.alloc _).setCell (ZS.out 2 0) _).setCell (ZS.out 2 1) _, ((hb03.alloc (by omega) _).setCell (by simp; omega) _).setCell (by simp; omega) _⟩
      · rw [hat] at h3
        obtain ⟨py, ly, cy, rfl, hny, hsly, hb3⟩ := h3
        have HA : Hid (t.at_ is ≠ none) := by show _ ≠ _; rw [hat]; simp
        clear hat
        have T3 := T2.call hb3
        have X3 := X2.call hb3
        have R3 := R2.call hb3
        have hf3 := hf2.below hb3
        have hb03 := below_call hb02 hb02.size hb3
        have hs3 : w.heap.size + 3 ≤ w3.heap.size := by have := R3.lt; omega
        clear t0 t1 x0 x1 r0 r1 r2 r3
        have T3' := T3.alloc (.cells #[.string y.name, .slice py ly cy] 24)
        have X3' := X3.alloc (.cells #[.string y.name, .slice py ly cy] 24)
        have t0 : (w3.alloc (.cells #[.string y.name, .slice py ly cy] 24)).cell? ⟨w.heap.size, 0, none⟩ = some (.string t.name) := T3'.cell 0
        have t1 : (w3.alloc (.cells #[.string y.name, .slice py ly cy] 24)).cell? ⟨w.heap.size, 1, none⟩ = some (.slice p len cap) := T3'.cell 1
        have x0 : (w3.alloc (.cells #[.string y.name, .slice py ly cy] 24)).cell? ⟨w.heap.size + 1, 0, none⟩ = some (.string x.name) := X3'.cell 0
        have x1 : (w3.alloc (.cells #[.string y.name, .slice py ly cy] 24)).cell? ⟨w.heap.size + 1, 1, none⟩ = some (.slice p' len' cap') := X3'.cell 1
        go_wp2_with fail
        refine (with_any is t x σ _ _ _ _ _ _ (hf3.alloc _) ⟨_, _, _, rfl, hn, hsl⟩ ⟨_, _, _, rfl, hn', hsl'⟩ hq HA.out (by omega) (by omega)).mono ?_
        rintro e w4 ⟨σ4, p4, l4, c4, rfl, hn4, hsl4, hext4, hf4, hb4⟩
        have R4 := (R3.alloc (.cells #[.string y.name, .slice py ly cy] 24)).call hb4
        have hb04 := below_alloc_call hb03 (by omega) hb4
        clear t0 t1 x0 x1
        have r0 : w4.cell? ⟨w.heap.size + 1 + 1, 0, none⟩ = some (.string ⟨#[]⟩) := R4.cell 0
        have r1 : w4.cell? ⟨w.heap.size + 1 + 1, 1, none⟩ = some (.slice none 0 0) := R4.cell 1
        have r2 : w4.frozen? ⟨w.heap.size + 1 + 1, 0, none⟩ = false := R4.frozen 0
        have r3 : w4.frozen? ⟨w.heap.size + 1 + 1, 1, none⟩ = false := R4.frozen 1
        go_wp2_with fail
        have HP : putR t is x = (t.put is x, 0) := by unfold putR; rw [if_pos HTW.out, if_neg HA.out]
        rw [HP]
        have Rb := (R4.put 0 (.string (t.put is x).name)).put 1 (.slice p4 l4 c4)
        have k0 := Rb.cell 0
        have k1 := Rb.cell 1
        have z0 : ∀ z, σ4 ⟨w.heap.size + 1 + 1, z, none⟩ = none := fun z => by rw [hext4.old _ (by simp; omega)]; exact ZS.out 2 z
        exact bodyPost_ret (v := .tuple #[.agg #[.string (t.put is x).name, .slice p4 l4 c4], .int .i64 0]) (by simp [results, Try.results16, go_sem, k0, k1]) rfl
          ⟨σ4, p4, l4, c4, rfl, hn4, hsl4, hext4.mono (by simp; omega), (hf4.setCell (z0 0) _).setCell (z0 1) _, (hb04.setCell (by simp; omega) _).setCell (by simp; omega) _⟩
    · have hne := ne_true hmx
      have HX := Lib.hid hmx
      clear hmx
      go_wp2_with fail
      have HP : putR t is x = (Tm.zero, x.may) := by
        have h1 : two t x = x.may := by unfold two; rw [if_pos HM.out]
        unfold putR
        rw [h1, if_neg HX.out]
      rw [HP]
      have Rb := (R2.put 0 (.string ⟨#[]⟩)).put 1 (.slice none 0 0)
      have k0 := Rb.cell 0
      have k1 := Rb.cell 1
      exact bodyPost_ret (v := .tuple #[.agg #[.string ⟨#[]⟩, .slice none 0 0], .int .i64 x.may]) (by simp [results, Try.results16, go_sem, k0, k1]) rfl
        ⟨σ, none, 0, 0, rfl, by simp [Tm.zero, Tm.name, ByteArray.size], Slc.nil σ, Ext.refl _ _, (hf2.setCell (ZS.out 2 0) _).setCell (ZS.out 2 1) _, (hb02.setCell (by simp; omega) _).setCell (by simp; omega) _⟩
  · have hne := ne_true hmt
    have hne' := eq_false' hmt
    have HM := Lib.hid hmt
    clear hmt
    go_wp2_with fail
    have HP : putR t is x = (Tm.zero, t.may) := by
      have h1 : two t x = t.may := by unfold two; rw [if_neg HM.out]
      unfold putR
      rw [h1, if_neg HM.out]
    rw [HP]
    have Rb := (R1.put 0 (.string ⟨#[]⟩)).put 1 (.slice none 0 0)
    have k0 := Rb.cell 0
    have k1 := Rb.cell 1
    exact bodyPost_ret (v := .tuple #[.agg #[.string ⟨#[]⟩, .slice none 0 0], .int .i64 t.may]) (by simp [results, Try.results16, go_sem, k0, k1]) rfl
      ⟨σ, none, 0, 0, rfl, by simp [Tm.zero, Tm.name, ByteArray.size], Slc.nil σ, Ext.refl _ _, (hf1.setCell (ZS.out 2 0) _).setCell (ZS.out 2 1) _, (hb01.setCell (by simp; omega) _).setCell (by simp; omega) _⟩

end Go.Proofs.Ytohgkbgpcnmdpaa

namespace Go.Proofs.Ytohgkbgpcnmdpaa
open Go Go.RowKit
set_option maxHeartbeats 1000000
set_option linter.unusedVariables false

theorem Tm.at_size : ∀ (is : List Int) (t x : Tm), t.at_ is = some x → x.size ≤ t.size
  | [], t, x, h => by simp [Tm.at_] at h; subst h; exact Nat.le_refl _
  | i :: is, t, x, h => by
    by_cases hi : 0 ≤ i ∧ i < t.args.length
    · obtain ⟨n, rfl⟩ : ∃ n : Nat, i = n := ⟨i.toNat, by omega⟩
      have hn : n < t.args.length := by omega
      have ha : t.args[n]? = some t.args[n] := List.getElem?_eq_getElem hn
      rw [Tm.at_yes ha] at h
      have h1 := Tm.at_size is _ _ h
      have h2 := Tm.sizes_take ha
      have h3 := Tm.sizes_take_le t.args (n+1)
      have h4 := Tm.size_eq t
      omega
    · rw [Tm.at_no hi] at h
      cases h
/-- what A3 says of a place: the term, what is wrong -/
def atR (t : Tm) (is : List Int) : Tm × Int := if t.may = 0 then (match t.at_ is with | none => (Tm.zero, 10) | some y => (y, 0)) else (Tm.zero, t.may)
theorem atR_none {t : Tm} {is : List Int} (h : t.may = 0) (h' : t.at_ is = none) : atR t is = (Tm.zero, 10) := by unfold atR; rw [if_pos h, h']
theorem atR_some {t y : Tm} {is : List Int} (h : t.may = 0) (h' : t.at_ is = some y) : atR t is = (y, 0) := by unfold atR; rw [if_pos h, h']
theorem atR_no {t : Tm} {is : List Int} (h : t.may ≠ 0) : atR t is = (Tm.zero, t.may) := by unfold atR; rw [if_neg h]
set_option maxRecDepth 100000 in
theorem at_any (t : Tm) (is : List Int) (σ : Sto) (v : Value) (q : Option Addr) (l c : Nat) (w : World) (hs : Fit σ w) (ht : TmV σ v t) (hq : Slc σ q l c is) :
    Calls Try.prog 15 #[v, .slice q l c] w (Res σ w (atR t is)) := by
  obtain ⟨p, len, cap, rfl, hn, hsl⟩ := ht
  have T0 := (Blk.new w 24 #[.string t.name, .slice p len cap]).alloc (.cells #[.string ⟨#[]⟩, .slice none 0 0] 24)
  have R0 := Blk.new (w.alloc (.cells #[.string t.name, .slice p len cap] 24)) 24 #[.string ⟨#[]⟩, .slice none 0 0]
  simp only [World.size_alloc] at R0
  have hf0 := (hs.alloc (.cells #[.string t.name, .slice p len cap] 24)).alloc (.cells #[.string ⟨#[]⟩, .slice none 0 0] 24)
  have hb0 : Below w.heap.size w ((w.alloc (.cells #[.string t.name, .slice p len cap] 24)).alloc (.cells #[.string ⟨#[]⟩, .slice none 0 0] 24)) := ((Below.refl _ _).alloc (Nat.le_refl _) _).alloc (by simp) _
  have zs : ∀ j z, σ ⟨w.heap.size + j, z, none⟩ = none := fun j z => hs.no (by simp)
  have ZS := Lib.hid zs; clear zs
  go_enter Try.func15, Try.ntmps15
  go_wp2_with fail
  refine (check_any t σ _ _ hf0 ⟨_, _, _, rfl, hn, hsl⟩).mono ?_
  rintro e w1 ⟨rfl, hb1⟩
  have T1 := T0.call hb1
  have R1 := R0.call hb1
  have hf1 := hf0.below hb1
  have hb01 := hb0.trans (hb1.mono (by simp; omega))
  have t0 : w1.cell? ⟨w.heap.size, 0, none⟩ = some (.string t.name) := T1.cell 0
  have t1 : w1.cell? ⟨w.heap.size, 1, none⟩ = some (.slice p len cap) := T1.cell 1
  have r0 : w1.cell? ⟨w.heap.size + 1, 0, none⟩ = some (.string ⟨#[]⟩) := R1.cell 0
  have r1 : w1.cell? ⟨w.heap.size + 1, 1, none⟩ = some (.slice none 0 0) := R1.cell 1
  have r2 : w1.frozen? ⟨w.heap.size + 1, 0, none⟩ = false := R1.frozen 0
  have r3 : w1.frozen? ⟨w.heap.size + 1, 1, none⟩ = false := R1.frozen 1
  clear hb1
  by_cases hmt : t.may = 0
  · have HM := Lib.hid hmt
    have hz := may_size hmt
    rw [hmt]
    clear hmt
    go_wp2_with fail
    refine (below_any t is σ _ _ _ _ _ hf1 ⟨_, _, _, rfl, hn, hsl⟩ hq).mono ?_
    intro e w3 h3
    rcases hat : t.at_ is with _ | y
    · rw [hat] at h3
      obtain ⟨rfl, hb3⟩ := h3
      have HA := Lib.hid hat; clear hat
      have R3 := (R1.call hb3).alloc (.cells #[.string ⟨#[]⟩, .slice none 0 0] 24)
      have hf3 := hf1.below hb3
      have hb03 := below_call hb01 hb01.size hb3
      have hs3 : w.heap.size + 2 ≤ w3.heap.size := by have := (R1.call hb3).lt; omega
      clear t0 t1 r0 r1 r2 r3
      have r0 : (w3.alloc (.cells #[.string ⟨#[]⟩, .slice none 0 0] 24)).cell? ⟨w.heap.size + 1, 0, none⟩ = some (.string ⟨#[]⟩) := R3.cell 0
      have r1 : (w3.alloc (.cells #[.string ⟨#[]⟩, .slice none 0 0] 24)).cell? ⟨w.heap.size + 1, 1, none⟩ = some (.slice none 0 0) := R3.cell 1
      have r2 : (w3.alloc (.cells #[.string ⟨#[]⟩, .slice none 0 0] 24)).frozen? ⟨w.heap.size + 1, 0, none⟩ = false := R3.frozen 0
      have r3 : (w3.alloc (.cells #[.string ⟨#[]⟩, .slice none 0 0] 24)).frozen? ⟨w.heap.size + 1, 1, none⟩ = false := R3.frozen 1
      go_wp2_with fail
      rw [atR_none HM.out HA.out]
      have Rb := (R3.put 0 (.string ⟨#[]⟩)).put 1 (.slice none 0 0)
      have k0 := Rb.cell 0
      have k1 := Rb.cell 1
      exact bodyPost_ret (v := .tuple #[.agg #[.string ⟨#[]⟩, .slice none 0 0], .int .i64 10]) (by simp [results, Try.results15, go_sem, k0, k1]) rfl
        ⟨σ, none, 0, 0, rfl, by simp [Tm.zero, Tm.name, ByteArray.size], Slc.nil σ, Ext.refl _ _, ((hf3.alloc _).setCell (ZS.out 1 0) _).setCell (ZS.out 1 1) _, ((hb03.alloc (by omega) _).setCell (by simp) _).setCell (by simp) _⟩
    · rw [hat] at h3
      obtain ⟨py, ly, cy, rfl, hny, hsly, hb3⟩ := h3
      have HA := Lib.hid hat
      have hzy := Tm.at_size _ _ _ hat
      clear hat
      have R3 := R1.call hb3
      have hf3 := hf1.below hb3
      have hb03 := below_call hb01 hb01.size hb3
      have hs3 : w.heap.size + 2 ≤ w3.heap.size := by have := R3.lt; omega
      clear t0 t1 r0 r1 r2 r3
      go_wp2_with fail
      refine (copy_any _ y (Nat.lt_succ_self _) σ _ _ (hf3.alloc _) ⟨_, _, _, rfl, hny, hsly⟩ (by omega)).mono ?_
      rintro e w4 ⟨σ4, v4, rfl, hown4, hext4, hf4, hb4⟩
      obtain ⟨σ5, p5, l5, c5, rfl, hn5, hsl5, hext5, hf5⟩ := hown4.done hf4 (Nat.le_refl _)
      have R4 := (R3.alloc (.cells #[.string y.name, .slice py ly cy] 24)).call hb4
      have hb04 := below_alloc_call hb03 (by omega) hb4
      have r0 : w4.cell? ⟨w.heap.size + 1, 0, none⟩ = some (.string ⟨#[]⟩) := R4.cell 0
      have r1 : w4.cell? ⟨w.heap.size + 1, 1, none⟩ = some (.slice none 0 0) := R4.cell 1
      have r2 : w4.frozen? ⟨w.heap.size + 1, 0, none⟩ = false := R4.frozen 0
      have r3 : w4.frozen? ⟨w.heap.size + 1, 1, none⟩ = false := R4.frozen 1
      go_wp2_with fail
      rw [atR_some HM.out HA.out]
      have Rb := (R4.put 0 (.string y.name)).put 1 (.slice p5 l5 c5)
      have k0 := Rb.cell 0
      have k1 := Rb.cell 1
      have hext45 := hext4.trans hext5
      have z0 : ∀ z, σ5 ⟨w.heap.size + 1, z, none⟩ = none := fun z => by rw [hext45.old _ (by simp; omega)]; exact ZS.out 1 z
      exact bodyPost_ret (v := .tuple #[.agg #[.string y.name, .slice p5 l5 c5], .int .i64 0]) (by simp [results, Try.results15, go_sem, k0, k1]) rfl
        ⟨σ5, p5, l5, c5, rfl, hn5, hsl5, hext45.mono (by simp; omega), (hf5.setCell (z0 0) _).setCell (z0 1) _, (hb04.setCell (by simp) _).setCell (by simp) _⟩
  · have hne := ne_true hmt
    have HM := Lib.hid hmt
    clear hmt
    go_wp2_with fail
    rw [atR_no HM.out]
    have Rb := (R1.put 0 (.string ⟨#[]⟩)).put 1 (.slice none 0 0)
    have k0 := Rb.cell 0
    have k1 := Rb.cell 1
    exact bodyPost_ret (v := .tuple #[.agg #[.string ⟨#[]⟩, .slice none 0 0], .int .i64 t.may]) (by simp [results, Try.results15, go_sem, k0, k1]) rfl
      ⟨σ, none, 0, 0, rfl, by simp [Tm.zero, Tm.name, ByteArray.size], Slc.nil σ, Ext.refl _ _, (hf1.setCell (ZS.out 1 0) _).setCell (ZS.out 1 1) _, (hb01.setCell (by simp) _).setCell (by simp) _⟩
end Go.Proofs.Ytohgkbgpcnmdpaa

namespace Go.Proofs.Ytohgkbgpcnmdpaa
open Go Go.RowKit
set_option linter.unusedVariables false

theorem vrep_two {σ : Sto} {S : AStore} {ι : AHnd} {v u : Value} {a b : AV} (h1 : VRep σ S ι v a) (h2 : VRep σ S ι u b) : VRep σ S ι (.tuple #[v, u]) (.tup [a, b]) := by
  refine .tup (fun j => if j = 0 then v else u) rfl (fun j x h => ?_) (fun j x h => ?_)
  · match j with
    | 0 => rfl
    | 1 => rfl
    | j + 2 => simp at h
  · match j with
    | 0 => cases h; exact h1
    | 1 => cases h; exact h2
    | j + 2 => simp at h
theorem may_inR (t : Tm) : inR .i64 t.may := by
  rw [inR_i64]
  have := t.may_range
  omega
theorem text_a (t : Tm) : ACalls Try.prog 12 [aTm t] (.tup [aStr (if t.may = 0 then t.text else ⟨#[]⟩), aInt t.may]) := by
  intro σ w vs hg hf hv
  cases hv with
  | cons h1 h2 =>
    cases h2
    refine (toText_any t σ _ w hf (tmV_to h1)).mono fun e w' ⟨he, hb⟩ => ⟨_, σ, he, vrep_two (.one (.st (.str ?_))) (.one (.st (.int (may_inR t)))), hf.below hb, Ext.refl _ _, hb⟩
    split
    · rename_i h0
      have := may_text h0
      unfold maxLen
      omega
    · exact Nat.zero_le _
theorem iss_from {σ : Sto} {p : Option Addr} {len cap : Nat} {l : List (List Int)} (h : Slc σ p len cap l) : SRep σ (.slice p len cap) (.list (l.map encIs)) := slc_from (f := encIs) (fun a => rfl) (fun a _ cs hc => by
  obtain ⟨q, n, c, rfl, hsl⟩ := cells_list.1 hc
  exact .cons (ints_from hsl) .nil) h
theorem allPlaces_a (t : Tm) : ACalls Try.prog 13 [aTm t] (.tup [aIss (if t.may = 0 then t.places else []), aInt t.may]) := by
  intro σ w vs hg hf hv
  cases hv with
  | cons h1 h2 =>
    cases h2
    refine (allPlaces_any t σ _ w hf (tmV_to h1)).mono fun e w' ⟨σ', p, l, c, he, hsl, hext, hf', hb⟩ => ⟨_, σ', he, vrep_two (.one (.st (iss_from hsl))) (.one (.st (.int (may_inR t)))), hf', hext, hb⟩
theorem res_from {P : Program} {f : FuncId} {vs : Array Value} {σ : Sto} {w : World} {r : Tm × Int} (hr : inR .i64 r.2) (h : Calls P f vs w (Res σ w r)) : Calls P f vs w fun e w' => ∃ v σ', e = .returned v ∧ VRep σ' noS noH v (.tup [aTm r.1, aInt r.2]) ∧ Fit σ' w' ∧ Ext w.heap.size σ σ' ∧ Below w.heap.size w w' :=
  h.mono fun e w' ⟨σ', p, l, c, he, hn, hsl, hext, hf', hb⟩ => ⟨_, σ', he, vrep_two (tmV_from ⟨_, _, _, rfl, hn, hsl⟩) (.one (.st (.int hr))), hf', hext, hb⟩
theorem at_a (t : Tm) (is : List Int) : ACalls Try.prog 15 [aTm t, aInts is] (.tup [aTm (atR t is).1, aInt (atR t is).2]) := by
  intro σ w vs hg hf hv
  cases hv with
  | cons h1 h2 =>
    cases h2 with
    | cons h2 h3 =>
      cases h3
      obtain ⟨p, len, cap, rfl, hsl⟩ := ints_to (arep_st (vrep_one h2))
      refine res_from ?_ (at_any t is σ _ p len cap w hf (tmV_to h1) hsl)
      unfold atR
      have := t.may_range
      rw [inR_i64]
      split
      · split <;> simp
      · simp only
        omega
theorem put_a (t x : Tm) (is : List Int) : ACalls Try.prog 16 [aTm t, aInts is, aTm x] (.tup [aTm (putR t is x).1, aInt (putR t is x).2]) := by
  intro σ w vs hg hf hv
  cases hv with
  | cons h1 h2 =>
    cases h2 with
    | cons h2 h3 =>
      cases h3 with
      | cons h3 h4 =>
        cases h4
        obtain ⟨p, len, cap, rfl, hsl⟩ := ints_to (arep_st (vrep_one h2))
        refine res_from ?_ (put_any t x is σ _ _ p len cap w hf (tmV_to h1) (tmV_to h3) hsl)
        have h1 := t.may_range
        have h2 := x.may_range
        rw [inR_i64]
        have h3 : 0 ≤ two t x ∧ two t x ≤ 3 := by
          unfold two
          split <;> omega
        unfold putR
        by_cases h : two t x = 0
        · rw [if_pos h]
          split <;> simp
        · rw [if_neg h]
          show _ ≤ two t x ∧ two t x ≤ _
          omega
end Go.Proofs.Ytohgkbgpcnmdpaa

namespace Go.Proofs.Ytohgkbgpcnmdpaa
open Go Go.RowKit
set_option maxRecDepth 100000

def ir_R_Pick : IR :=
  (.seq
  (.ops
  [.mk (some 4) none (.mov (.c (.one (.st (.int .i64 0)))))
  .no])
  (.seq
  (.seq
  (.ops
  [.mk (some 5) none (.mov (.t 0)) .no, .mk (some 6) none (.bin .lss (.t 5) (.c (.one (.st (.int .i64 0)))))
  .no])
  (.cond (.t 6)
  (.ops
  [.mk (some 7) none (.mov (.t 0)) .no, .mk (some 8) none (.bin .add (.t 7) (.c (.one (.st (.int .i64 1)))))
  .no, .mk (some 9) none (.un .neg (.t 8)) .no, .mk (some 0) none (.mov (.t 9)) .no])
  .skip))
  (.seq
  (.ops
  [.mk (some 10) none (.mov (.t 0)) .no, .mk (some 11) none (.mov (.t 1)) .no, .mk (some 12) none (.bin .rem (.t 10) (.t 11))
  .no, .mk (some 4) none (.mov (.t 12)) .no])
  .ret)))
theorem tr_R_Pick : trCode Try.prog 13 [] (Try.f11.body.getD .skip) = some ir_R_Pick := by kernel_rfl
theorem ac_R_Pick {xs : List AV} {r : AV} (hn : xs.length ≤ 13) (h : ∀ C : Ctx, C.n = 13 → IWP Try.prog C [] ir_R_Pick (FinQ [.t 4] r) (AS.start xs)) : ACalls Try.prog 11 xs r :=
  acalls_of Try.func11 rfl tr_R_Pick rfl hn h
def ir_R_Raw : IR :=
  (.seq
  (.ops
  [.mk (some 4) none (.mov (.c (.one (.st (.int .i64 0)))))
  .no])
  (.seq
  (.seq
  (.ops
  [.mk (some 5) none (.mov (.t 0)) .no, .mk (some 6) none (.len false (.t 5)) .no, .mk (some 7) none (.bin .eql (.t 6) (.c (.one (.st (.int .i64 0)))))
  .no])
  (.cond (.t 7)
  (.seq
  (.ops
  [.mk (some 8) none (.mov (.t 1)) .no, .mk (some 9) none (.bin .mul (.t 8) (.c (.one (.st (.int .i64 31)))))
  .no, .mk (some 4) none (.mov (.t 9)) .no])
  .ret)
  .skip))
  (.seq
  (.ops
  [.mk (some 10) none (.mov (.t 0)) .no, .mk (some 11) none (.mov (.t 1)) .no, .mk (some 12) none (.mov (.t 0)) .no, .mk (some 13) none (.len false (.t 12)) .no, .mk (some 14) none (.bin .rem (.t 11) (.t 13))
  .no, .mk (some 15) none (.indexAddr 1 (.t 10) (.t 14)) .no, .mk (some 16) none (.load false 1 (.t 15)) .no, .mk (some 17) none (.call 11
  [.t 16, .c (.one (.st (.int .i64 1000003)))])
  .no, .mk (some 18) none (.mov (.t 1)) .no, .mk (some 19) none (.mov (.t 0)) .no, .mk (some 20) none (.len false (.t 19)) .no, .mk (some 21) none (.bin .quo (.t 18) (.t 20))
  .no, .mk (some 22) none (.bin .mul (.t 21) (.c (.one (.st (.int .i64 7919)))))
  .no, .mk (some 23) none (.bin .add (.t 17) (.t 22))
  .no, .mk (some 4) none (.mov (.t 23)) .no])
  .ret)))
theorem tr_R_Raw : trCode Try.prog 24 [] (Try.f38.body.getD .skip) = some ir_R_Raw := by kernel_rfl
theorem ac_R_Raw {xs : List AV} {r : AV} (hn : xs.length ≤ 24) (h : ∀ C : Ctx, C.n = 24 → IWP Try.prog C [] ir_R_Raw (FinQ [.t 4] r) (AS.start xs)) : ACalls Try.prog 38 xs r :=
  acalls_of Try.func38 rfl tr_R_Raw rfl hn h
def ir_R_Leaf : IR :=
  (.seq
  (.ops
  [.mk (some 2) none
  (.alloc 24 [.st (.str (ByteArray.mk (#[]))), .full []]) .no])
  (.seq
  (.ops
  [.mk (some 3) none (.mov (.t 0)) .no, .mk (some 4) none
  (.build [.st (.str (ByteArray.mk (#[]))), .full []]
  [(0, 1, .t 3)])
  .no, .mk none none (.store 2 (.t 2) (.t 4)) .no])
  .ret))
theorem tr_R_Leaf : trCode Try.prog 5 [] (Try.f22.body.getD .skip) = some ir_R_Leaf := by kernel_rfl
theorem ac_R_Leaf {xs : List AV} {r : AV} (hn : xs.length ≤ 5) (h : ∀ C : Ctx, C.n = 5 → IWP Try.prog C [] ir_R_Leaf (FinQ [.cell 2 true 2] r) (AS.start xs)) : ACalls Try.prog 22 xs r :=
  acalls_of Try.func22 rfl tr_R_Leaf rfl hn h
def ir_R_Grow : IR :=
  (.seq
  (.ops
  [.mk (some 8) none
  (.alloc 24 [.st (.str (ByteArray.mk (#[]))), .full []]) .no, .mk (some 9) none (.mov (.c (.one (.st (.int .i64 0)))))
  .no])
  (.seq
  (.ops
  [.mk (some 18) none (.mov (.t 0)) .no, .mk (some 19) none (.mov (.t 1)) .no, .mk (some 20) none (.call 38 [.t 18, .t 19]) .no, .mk (some 10) none (.mov (.t 20)) .no])
  (.seq
  (.ops
  [.mk (some 21) none (.mov (.t 1)) .no, .mk (some 22) none (.bin .add (.t 21) (.c (.one (.st (.int .i64 1)))))
  .no, .mk (some 1) none (.mov (.t 22)) .no])
  (.seq
  (.seq
  (.ops
  [.mk (some 23) none (.mov (.t 2)) .no, .mk (some 24) none (.bin .lss (.t 23) (.c (.one (.st (.int .i64 3)))))
  .no, .mk (some 25) none (.mov (.t 24)) .no, .mk (some 26) (some (25, false)) (.mov (.t 10)) .no, .mk (some 27) (some (25, false)) (.call 11
  [.t 26, .c (.one (.st (.int .i64 5)))])
  .no, .mk (some 28) (some (25, false)) (.bin .lss (.t 27) (.c (.one (.st (.int .i64 2)))))
  .no, .mk (some 29) none
  (.pick (.t 25) (.c (.one (.st (.bool true)))) (.t 28))
  .no])
  (.cond (.t 29)
  (.seq
  (.seq
  (.ops
  [.mk (some 30) none (.mov (.t 3)) .no, .mk (some 31) none (.bin .gtr (.t 30) (.c (.one (.st (.int .i64 0)))))
  .no, .mk (some 32) none (.mov (.t 31)) .no, .mk (some 33) (some (32, true)) (.mov (.t 10)) .no, .mk (some 34) (some (32, true)) (.bin .quo (.t 33) (.c (.one (.st (.int .i64 5)))))
  .no, .mk (some 35) (some (32, true)) (.call 11
  [.t 34, .c (.one (.st (.int .i64 3)))])
  .no, .mk (some 36) (some (32, true)) (.bin .gtr (.t 35) (.c (.one (.st (.int .i64 0)))))
  .no, .mk (some 37) none
  (.pick (.t 32) (.t 36) (.c (.one (.st (.bool false)))))
  .no])
  (.cond (.t 37)
  (.seq
  (.ops
  [.mk (some 38) none
  (.buildFlat
  [.c (.one (.st (.str (ByteArray.mk (#[88]))))), .c (.one (.st (.str (ByteArray.mk (#[89]))))), .c (.one (.st (.str (ByteArray.mk (#[90]))))), .c (.one (.st (.str (ByteArray.mk (#[85])))))])
  .no, .mk (some 39) none (.mov (.t 10)) .no, .mk (some 40) none (.bin .quo (.t 39) (.c (.one (.st (.int .i64 15)))))
  .no, .mk (some 41) none (.mov (.t 3)) .no, .mk (some 42) none (.call 11 [.t 40, .t 41])
  .no, .mk (some 43) none (.indexAddr 1 (.t 38) (.t 42))
  .no, .mk (some 44) none (.load false 1 (.t 43)) .no, .mk (some 45) none (.call 22 [.t 44]) .no, .mk (some 46) none (.mov (.t 1)) .no, .mk none none (.store 2 (.t 8) (.t 45))
  .no, .mk (some 9) none (.mov (.t 46)) .no])
  .ret)
  .skip))
  (.seq
  (.ops
  [.mk (some 47) none
  (.buildFlat
  [.c (.one (.st (.str (ByteArray.mk (#[97]))))), .c (.one (.st (.str (ByteArray.mk (#[98]))))), .c (.one (.st (.str (ByteArray.mk (#[99])))))])
  .no, .mk (some 48) none (.mov (.t 10)) .no, .mk (some 49) none (.bin .quo (.t 48) (.c (.one (.st (.int .i64 15)))))
  .no, .mk (some 50) none (.call 11
  [.t 49, .c (.one (.st (.int .i64 3)))])
  .no, .mk (some 51) none (.indexAddr 1 (.t 47) (.t 50))
  .no, .mk (some 52) none (.load false 1 (.t 51)) .no, .mk (some 53) none (.call 22 [.t 52]) .no, .mk (some 54) none (.mov (.t 1)) .no, .mk none none (.store 2 (.t 8) (.t 53)) .no, .mk (some 9) none (.mov (.t 54)) .no])
  .ret))
  .skip))
  (.seq
  (.seq
  (.ops
  [.mk (some 55) none (.mov (.t 10)) .no, .mk (some 56) none (.bin .quo (.t 55) (.c (.one (.st (.int .i64 5)))))
  .no, .mk (some 57) none (.call 11
  [.t 56, .c (.one (.st (.int .i64 4)))])
  .no])
  (.block 0
  (.seq
  (.ops
  [.mk (some 59) none (.bin .eql (.t 57) (.c (.one (.st (.int .i64 0)))))
  .no, .mk (some 58) none (.mov (.t 59)) .no])
  (.cond (.t 58)
  (.seq
  (.ops
  [.mk (some 61) none (.mov (.t 0)) .no, .mk (some 62) none (.mov (.t 1)) .no, .mk (some 63) none (.mov (.t 2)) .no, .mk (some 64) none (.bin .sub (.t 63) (.c (.one (.st (.int .i64 1)))))
  .no, .mk (some 65) none (.mov (.t 3)) .no, .mk (some 66) none (.call 29 [.t 61, .t 62, .t 64, .t 65])
  .no, .mk (some 60) none (.mov (.t 66)) .no, .mk (some 67) none (.extract 0 (.t 60)) .no, .mk (some 68) none (.extract 1 (.t 60)) .no, .mk (some 11) none
  (.alloc 24 [.st (.str (ByteArray.mk (#[]))), .full []])
  .no, .mk none none (.store 2 (.t 11) (.t 67))
  .no, .mk (some 12) none (.mov (.t 68)) .no])
  (.seq
  (.ops
  [.mk (some 69) none (.load true 2 (.t 11)) .no, .mk (some 70) none (.buildSlice false 24 2 [.t 69]) .no, .mk (some 71) none
  (.build [.st (.str (ByteArray.mk (#[]))), .full []]
  [(0, 1, .c (.one (.st (.str (ByteArray.mk (#[104])))))),
  (1, 1, .t 70)])
  .no, .mk (some 72) none (.mov (.t 12)) .no, .mk none none (.store 2 (.t 8) (.t 71))
  .no, .mk (some 9) none (.mov (.t 72)) .no])
  .ret))
  (.seq
  (.ops
  [.mk (some 74) none (.bin .eql (.t 57) (.c (.one (.st (.int .i64 1)))))
  .no, .mk (some 73) none (.mov (.t 74)) .no])
  (.cond (.t 73)
  (.seq
  (.ops
  [.mk (some 76) none (.mov (.t 0)) .no, .mk (some 77) none (.mov (.t 1)) .no, .mk (some 78) none (.mov (.t 2)) .no, .mk (some 79) none (.bin .sub (.t 78) (.c (.one (.st (.int .i64 1)))))
  .no, .mk (some 80) none (.mov (.t 3)) .no, .mk (some 81) none (.call 29 [.t 76, .t 77, .t 79, .t 80])
  .no, .mk (some 75) none (.mov (.t 81)) .no, .mk (some 82) none (.extract 0 (.t 75)) .no, .mk (some 83) none (.extract 1 (.t 75)) .no, .mk (some 13) none
  (.alloc 24 [.st (.str (ByteArray.mk (#[]))), .full []])
  .no, .mk none none (.store 2 (.t 13) (.t 82))
  .no, .mk (some 14) none (.mov (.t 83)) .no])
  (.seq
  (.ops
  [.mk (some 84) none (.load true 2 (.t 13)) .no, .mk (some 85) none (.buildSlice false 24 2 [.t 84]) .no, .mk (some 86) none
  (.build [.st (.str (ByteArray.mk (#[]))), .full []]
  [(0, 1, .c (.one (.st (.str (ByteArray.mk (#[107])))))),
  (1, 1, .t 85)])
  .no, .mk (some 87) none (.mov (.t 14)) .no, .mk none none (.store 2 (.t 8) (.t 86))
  .no, .mk (some 9) none (.mov (.t 87)) .no])
  .ret))
  .skip))))))
  (.seq
  (.ops
  [.mk (some 89) none (.mov (.t 0)) .no, .mk (some 90) none (.mov (.t 1)) .no, .mk (some 91) none (.mov (.t 2)) .no, .mk (some 92) none (.bin .quo (.t 91) (.c (.one (.st (.int .i64 2)))))
  .no, .mk (some 93) none (.mov (.t 3)) .no, .mk (some 94) none (.call 29 [.t 89, .t 90, .t 92, .t 93])
  .no, .mk (some 88) none (.mov (.t 94)) .no, .mk (some 95) none (.extract 0 (.t 88)) .no, .mk (some 96) none (.extract 1 (.t 88)) .no, .mk (some 15) none
  (.alloc 24 [.st (.str (ByteArray.mk (#[]))), .full []])
  .no, .mk none none (.store 2 (.t 15) (.t 95)) .no, .mk (some 16) none (.mov (.t 96)) .no])
  (.seq
  (.ops
  [.mk (some 98) none (.mov (.t 0)) .no, .mk (some 99) none (.mov (.t 16)) .no, .mk (some 100) none (.mov (.t 2)) .no, .mk (some 101) none (.bin .quo (.t 100) (.c (.one (.st (.int .i64 2)))))
  .no, .mk (some 102) none (.mov (.t 3)) .no, .mk (some 103) none (.call 29 [.t 98, .t 99, .t 101, .t 102])
  .no, .mk (some 97) none (.mov (.t 103)) .no, .mk (some 104) none (.extract 0 (.t 97)) .no, .mk (some 105) none (.extract 1 (.t 97)) .no, .mk (some 17) none
  (.alloc 24 [.st (.str (ByteArray.mk (#[]))), .full []])
  .no, .mk none none (.store 2 (.t 17) (.t 104)) .no, .mk (some 16) none (.mov (.t 105)) .no])
  (.seq
  (.ops
  [.mk (some 106) none
  (.buildFlat
  [.c (.one (.st (.str (ByteArray.mk (#[102]))))), .c (.one (.st (.str (ByteArray.mk (#[103])))))])
  .no, .mk (some 107) none (.mov (.t 10)) .no, .mk (some 108) none (.bin .quo (.t 107) (.c (.one (.st (.int .i64 5)))))
  .no, .mk (some 109) none (.call 11
  [.t 108, .c (.one (.st (.int .i64 4)))])
  .no, .mk (some 110) none (.bin .sub (.t 109) (.c (.one (.st (.int .i64 2)))))
  .no, .mk (some 111) none (.indexAddr 1 (.t 106) (.t 110))
  .no, .mk (some 112) none (.load false 1 (.t 111)) .no, .mk (some 113) none (.load true 2 (.t 15)) .no, .mk (some 114) none (.load true 2 (.t 17)) .no, .mk (some 115) none (.buildSlice false 24 2 [.t 113, .t 114])
  .no, .mk (some 116) none
  (.build [.st (.str (ByteArray.mk (#[]))), .full []]
  [(0, 1, .t 112), (1, 1, .t 115)])
  .no, .mk (some 117) none (.mov (.t 16)) .no, .mk none none (.store 2 (.t 8) (.t 116)) .no, .mk (some 9) none (.mov (.t 117)) .no])
  .ret))))))))
theorem tr_R_Grow : trCode Try.prog 118 [] (Try.f29.body.getD .skip) = some ir_R_Grow := by kernel_rfl
theorem ac_R_Grow {xs : List AV} {r : AV} (hn : xs.length ≤ 118) (h : ∀ C : Ctx, C.n = 118 → IWP Try.prog C [] ir_R_Grow (FinQ [.cell 8 true 2, .t 9] r) (AS.start xs)) : ACalls Try.prog 29 xs r :=
  acalls_of Try.func29 rfl tr_R_Grow rfl hn h
def ir_R_TermOf : IR :=
  (.seq
  (.ops
  [.mk (some 8) none
  (.alloc 24 [.st (.str (ByteArray.mk (#[]))), .full []]) .no])
  (.seq
  (.ops
  [.mk (some 12) none (.mov (.t 0)) .no, .mk (some 13) none (.mov (.t 1)) .no, .mk (some 14) none (.mov (.t 2)) .no, .mk (some 15) none (.mov (.t 3)) .no, .mk (some 16) none (.call 29 [.t 12, .t 13, .t 14, .t 15])
  .no, .mk (some 11) none (.mov (.t 16)) .no, .mk (some 17) none (.extract 0 (.t 11)) .no, .mk (some 18) none (.extract 1 (.t 11)) .no, .mk (some 9) none
  (.alloc 24 [.st (.str (ByteArray.mk (#[]))), .full []]) .no, .mk none none (.store 2 (.t 9) (.t 17)) .no, .mk (some 10) none (.mov (.t 18)) .no])
  (.seq
  (.ops
  [.mk (some 19) none (.load true 2 (.t 9)) .no, .mk none none (.store 2 (.t 8) (.t 19)) .no])
  .ret)))
theorem tr_R_TermOf : trCode Try.prog 20 [] (Try.f10.body.getD .skip) = some ir_R_TermOf := by kernel_rfl
theorem ac_R_TermOf {xs : List AV} {r : AV} (hn : xs.length ≤ 20) (h : ∀ C : Ctx, C.n = 20 → IWP Try.prog C [] ir_R_TermOf (FinQ [.cell 8 true 2] r) (AS.start xs)) : ACalls Try.prog 10 xs r :=
  acalls_of Try.func10 rfl tr_R_TermOf rfl hn h
end Go.Proofs.Ytohgkbgpcnmdpaa
