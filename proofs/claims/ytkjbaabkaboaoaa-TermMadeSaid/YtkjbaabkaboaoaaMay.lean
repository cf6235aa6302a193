/-
  What a term may be: the walks of the checks (program and reference): one answer.
  Conditions: none.
-/
import Derived.Test.YtkjbaabkaboaoaaKnots
namespace Go.Proofs.Ytkjbaabkaboaoaa
open Go Go.RowKit
set_option maxHeartbeats 400000
set_option linter.unusedVariables false

/-! ### plain -/
def chkOne (t : Tm) : Int := if nameOk t.name = true then (if isVar t.name = true ∧ 0 < t.args.length then 2 else 0) else 1
mutual
def Tm.chk : Tm → Int
  | .mk n xs => if chkOne (.mk n xs) = 0 then Tm.chkL xs else chkOne (.mk n xs)
def Tm.chkL : List Tm → Int
  | [] => 0
  | t :: ts => if t.chk = 0 then Tm.chkL ts else t.chk
end
def firstErr : List Tm → Int
  | [] => 0
  | t :: ts => if chkOne t = 0 then firstErr ts else chkOne t
theorem Tm.chk_eq (t : Tm) : t.chk = if chkOne t = 0 then Tm.chkL t.args else chkOne t := by cases t; rfl
theorem firstErr_append (xs ys : List Tm) : firstErr (xs ++ ys) = if firstErr xs = 0 then firstErr ys else firstErr xs := by
  induction xs with
  | nil => simp [firstErr]
  | cons t ts ih =>
    simp only [List.cons_append, firstErr]
    by_cases h : chkOne t = 0
    · simp only [h, if_true, ih]
    · simp only [h, if_false]
mutual
theorem Tm.firstErr_knots : ∀ t : Tm, firstErr t.knots = t.chk
  | .mk n xs => by
    simp only [Tm.knots, firstErr, Tm.chk]
    split
    · exact Tm.firstErr_knotsL xs
    · rfl
theorem Tm.firstErr_knotsL : ∀ xs : List Tm, firstErr (Tm.knotsL xs) = Tm.chkL xs
  | [] => rfl
  | t :: ts => by
    simp only [Tm.knotsL, firstErr_append, Tm.firstErr_knots t, Tm.firstErr_knotsL ts, Tm.chkL]
end
theorem Tm.chkL_append (xs ys : List Tm) : Tm.chkL (xs ++ ys) = if Tm.chkL xs = 0 then Tm.chkL ys else Tm.chkL xs := by
  induction xs with
  | nil => simp [Tm.chkL]
  | cons t ts ih =>
    simp only [List.cons_append, Tm.chkL]
    by_cases h : t.chk = 0
    · simp only [h, if_true, ih]
    · simp only [h, if_false]
theorem Tm.chkL_get {xs : List Tm} {k : Nat} {a : Tm} (h : xs[k]? = some a) (h0 : Tm.chkL (xs.take k) = 0) : (a.chk = 0 → Tm.chkL (xs.take (k+1)) = 0) ∧ (a.chk ≠ 0 → Tm.chkL xs = a.chk) := by
  constructor
  · intro ha
    rw [take_snoc h, Tm.chkL_append, if_pos h0]
    simp [Tm.chkL, ha]
  · intro ha
    rw [← List.take_append_drop k xs, Tm.chkL_append, if_pos h0]
    have hd : xs.drop k = a :: xs.drop (k+1) := by
      have hk := lt_of_get h
      rw [List.getElem?_eq_getElem hk] at h
      rw [List.drop_eq_getElem_cons hk]
      simp at h
      rw [h]
    rw [hd]
    simp [Tm.chkL, ha]
theorem firstErr_get {xs : List Tm} {k : Nat} {a : Tm} (h : xs[k]? = some a) (h0 : firstErr (xs.take k) = 0) : (chkOne a = 0 → firstErr (xs.take (k+1)) = 0) ∧ (chkOne a ≠ 0 → firstErr xs = chkOne a) := by
  constructor
  · intro ha
    rw [take_snoc h, firstErr_append, if_pos h0]
    simp [firstErr, ha]
  · intro ha
    rw [← List.take_append_drop k xs, firstErr_append, if_pos h0]
    have hd : xs.drop k = a :: xs.drop (k+1) := by
      have hk := lt_of_get h
      rw [List.getElem?_eq_getElem hk] at h
      rw [List.drop_eq_getElem_cons hk]
      simp at h
      rw [h]
    rw [hd]
    simp [firstErr, ha]
/-- may it be? 0: yes; else what is wrong. -/
def Tm.may (t : Tm) : Int := if 200 < t.size then 3 else t.chk
theorem chkOne_range (t : Tm) : 0 ≤ chkOne t ∧ chkOne t ≤ 2 := by unfold chkOne; split <;> (try split) <;> omega
mutual
theorem Tm.chk_range : ∀ t : Tm, 0 ≤ t.chk ∧ t.chk ≤ 2
  | .mk n xs => by
    have h1 := chkOne_range (.mk n xs)
    have h2 := Tm.chkL_range xs
    simp only [Tm.chk]
    split <;> omega
theorem Tm.chkL_range : ∀ xs : List Tm, 0 ≤ Tm.chkL xs ∧ Tm.chkL xs ≤ 2
  | [] => by simp [Tm.chkL]
  | t :: ts => by
    have h1 := Tm.chk_range t
    have h2 := Tm.chkL_range ts
    simp only [Tm.chkL]
    split <;> omega
end
theorem Tm.may_range (t : Tm) : 0 ≤ t.may ∧ t.may ≤ 3 := by
  have := Tm.chk_range t
  unfold Tm.may
  split <;> omega
theorem ne_true {a : Int} (h : a ≠ 0) : (a != 0) = true := by simpa using h
theorem eq_false' {a : Int} (h : a ≠ 0) : (a == 0) = false := by simpa using h

/-! ### the walks -/
def ChkAt (t : Tm) : Prop := ∀ (σ : Sto) (v : Value) (w : World), Fit σ w → TmV σ v t →
    Calls Try.prog 78 #[v] w fun e w' => e = .returned (.int .i64 t.chk) ∧ Below w.heap.size w w'
theorem chk_any : ∀ (N : Nat) (t : Tm), SizeOf.sizeOf t < N → ChkAt t := by
  intro N
  induction N with
  | zero => intro t h; omega
  | succ N ih =>
  intro t hN σ v w hs ht
  obtain ⟨p, len, cap, rfl, hn, hsl⟩ := ht
  have HL := Lib.hid hsl.length
  have hlm := hsl.max
  cases hnm : nameOk t.name with
  | false =>
    have HM := Lib.hid hnm; clear hnm
    go_enter Try.func78, Try.ntmps78
    go_wp2_with fail
    refine (name_any _ _ hn).mono ?_
    rintro e w' ⟨rfl, rfl⟩
    rw [HM.out]
    go_wp2_with fail
    go_ret
    exact ⟨ret_int (by have h := HM.out; rw [Tm.chk_eq]; simp [chkOne, h]), (Below.refl _ _).alloc (Nat.le_refl _) _⟩
  | true =>
    have HM := Lib.hid hnm; clear hnm
    by_cases hv : isVar t.name = true ∧ 0 < len
    · obtain ⟨hv, hpos⟩ := hv
      have hposI : (0 : Int) < (len : Int) := by omega
      have HV := Lib.hid hv; clear hv
      go_enter Try.func78, Try.ntmps78
      go_wp2_with fail
      refine (name_any _ _ hn).mono ?_
      rintro e w' ⟨rfl, rfl⟩
      rw [HM.out]
      go_wp2_with fail
      refine (var_any _ _).mono ?_
      rintro e w' ⟨rfl, rfl⟩
      rw [HV.out]
      go_wp2_with fail
      go_ret
      exact ⟨ret_int (by have h := HM.out; have h2 := HV.out; have h3 := HL.out; rw [Tm.chk_eq]; simp [chkOne, h, h2, ← h3, hpos]), (Below.refl _ _).alloc (Nat.le_refl _) _⟩
    · have HO : Hid (chkOne t = 0) := by
        show _ = _
        have h := HM.out
        have h3 := HL.out
        unfold chkOne
        rw [if_pos h, if_neg (by rw [← h3]; exact hv)]
      have HV : Hid (isVar t.name = false ∨ len = 0) := by
        show _ ∨ _
        by_cases h : isVar t.name = true
        · right
          have : ¬ 0 < len := fun h' => hv ⟨h, h'⟩
          omega
        · left; simpa using h
      clear hv
      go_enter Try.func78, Try.ntmps78
      go_wp2_with fail
      refine (name_any _ _ hn).mono ?_
      rintro e w' ⟨rfl, rfl⟩
      rw [HM.out]
      go_wp2_with fail
      refine (var_any _ _).mono ?_
      rintro e w' ⟨rfl, rfl⟩
      rcases HV.out with hv | hv
      · rw [hv]
        clear hv
        go_wp2_with fail
        go_loopw [22] (fun i wr => ∃ k : Nat, k ≤ len ∧ i = .int .i64 k ∧ Hid (Tm.chkL (t.args.take k) = 0) ∧ Below w.heap.size w wr) (fun i _ => len - (intOf i).toNat)
        case atStart => exact ⟨0, Nat.zero_le _, rfl, by show Tm.chkL _ = 0; simp [Tm.chkL], (Below.refl _ _).alloc (Nat.le_refl _) _⟩
        case round =>
          obtain ⟨k, hk, rfl, HK, hb⟩ := hrel
          by_cases hlt : k < len
          · obtain ⟨b, o, a, q', l, c, rfl, HA, f0, f1, hn', hsl'⟩ := hsl.tm k hlt
            have hfw := hs.below hb
            have g0 := hfw _ _ f0
            have g1 := hfw _ _ f1
            go_wp2_with fail
            refine (ih a (by have := Tm.lt_of_arg (mem_of_get HA.out); omega) σ _ _ (hfw.alloc _) ⟨_, _, _, rfl, hn', hsl'⟩).mono ?_
            rintro e w1 ⟨rfl, hb1⟩
            by_cases ha : a.chk = 0
            · have HC := Lib.hid ha
              rw [ha]
              clear ha
              go_wp2_with fail
              go_roundw
              case rel => exact ⟨k + 1, by omega, by go_num, (Tm.chkL_get HA.out HK.out).1 HC.out, below_alloc_call hb hb.size hb1⟩
              case measure => simp [intOf]; omega
            · have hne := ne_true ha
              have HC := Lib.hid ha
              clear ha
              go_wp2_with fail
              go_ret
              exact ⟨ret_int (by rw [Tm.chk_eq t, if_pos HO.out, (Tm.chkL_get HA.out HK.out).2 HC.out]), below_alloc_call hb hb.size hb1⟩
          · obtain rfl : k = len := by omega
            go_wp2_with fail
            go_ret
            exact ⟨ret_int (by have h := HK.out; rw [List.take_of_length_le (by have := HL.out; omega)] at h; rw [Tm.chk_eq t, if_pos HO.out, h]), hb⟩
      · have hc0 : Tm.chkL t.args = 0 := by
          have : t.args = [] := List.eq_nil_of_length_eq_zero (by rw [← HL.out]; exact hv)
          rw [this]; rfl
        have HC := Lib.hid hc0; clear hc0
        subst hv
        rcases hV : isVar t.name with _ | _
        all_goals
          clear hV
          go_wp2_with fail
          go_loopw [22] (fun i wr => i = .int .i64 0 ∧ Below w.heap.size w wr) (fun i _ => 0)
          case atStart => exact ⟨rfl, (Below.refl _ _).alloc (Nat.le_refl _) _⟩
          case round =>
            obtain ⟨rfl, hb⟩ := hrel
            go_wp2_with fail
            go_ret
            exact ⟨ret_int (by rw [Tm.chk_eq t, if_pos HO.out, HC.out]), hb⟩

theorem check_any (t : Tm) (σ : Sto) (v : Value) (w : World) (hs : Fit σ w) (ht : TmV σ v t) :
    Calls Try.prog 37 #[v] w fun e w' => e = .returned (.int .i64 t.may) ∧ Below w.heap.size w w' := by
  obtain ⟨p, len, cap, rfl, hn, hsl⟩ := ht
  go_enter Try.func37, Try.ntmps37
  go_wp2_with fail
  refine (within_any _ t (Nat.lt_succ_self _) σ _ _ 200 (hs.alloc _) ⟨_, _, _, rfl, hn, hsl⟩ (by omega) (by omega)).mono ?_
  rintro e w1 ⟨rfl, hb1⟩
  have hb0 : Below w.heap.size w w1 := below_alloc_call (Below.refl _ _) (Nat.le_refl _) hb1
  have c0 : w1.cell? ⟨w.heap.size, 0, none⟩ = some (.string t.name) := box_cell (by simpa using hb1) 0
  have c1 : w1.cell? ⟨w.heap.size, 1, none⟩ = some (.slice p len cap) := box_cell (by simpa using hb1) 1
  by_cases hz : 200 < t.size
  · have hl : lessBy t.size 200 < 0 := by unfold lessBy; split <;> omega
    go_wp2_with fail
    go_ret
    exact ⟨ret_int (by unfold Tm.may; rw [if_pos hz]), hb0⟩
  · have hl : 0 ≤ lessBy t.size 200 := by unfold lessBy; split <;> omega
    go_wp2_with fail
    refine (chk_any _ t (Nat.lt_succ_self _) σ _ _ (hs.below hb0) ⟨_, _, _, rfl, hn, hsl⟩).mono ?_
    rintro e w2 ⟨rfl, hb2⟩
    go_wp2_with fail
    go_ret
    exact ⟨ret_int (by unfold Tm.may; rw [if_neg hz]), below_call hb0 hb0.size hb2⟩

theorem may_ref (t : Tm) (σ : Sto) (v : Value) (w : World) (hs : Fit σ w) (ht : TmV σ v t) :
    Calls Try.prog 29 #[v] w fun e w' => e = .returned (.int .i64 t.may) ∧ Below w.heap.size w w' := by
  obtain ⟨p, len, cap, rfl, hn, hsl⟩ := ht
  go_enter Try.func29, Try.ntmps29
  go_wp2_with fail
  refine (size_ref _ t (Nat.lt_succ_self _) σ _ _ 200 (hs.alloc _) ⟨_, _, _, rfl, hn, hsl⟩ (by omega) (by omega)).mono ?_
  rintro e w1 ⟨rfl, hb1⟩
  have hb0 : Below w.heap.size w w1 := below_alloc_call (Below.refl _ _) (Nat.le_refl _) hb1
  have c0 : w1.cell? ⟨w.heap.size, 0, none⟩ = some (.string t.name) := box_cell (by simpa using hb1) 0
  have c1 : w1.cell? ⟨w.heap.size, 1, none⟩ = some (.slice p len cap) := box_cell (by simpa using hb1) 1
  by_cases hz : 200 < t.size
  · have hl : 200 < capTo t.size 200 := by unfold capTo; split <;> omega
    go_wp2_with fail
    go_ret
    exact ⟨ret_int (by unfold Tm.may; rw [if_pos hz]), hb0⟩
  · have hl : capTo t.size 200 ≤ 200 := by unfold capTo; split <;> omega
    have HM : Hid (firstErr t.knots = t.may) := by show _ = _; rw [Tm.firstErr_knots]; unfold Tm.may; rw [if_neg hz]
    go_wp2_with fail
    refine (knots_ref _ t (Nat.lt_succ_self _) σ _ _ (hs.below hb0) ⟨_, _, _, rfl, hn, hsl⟩ (by omega)).mono ?_
    rintro e w2 ⟨σ', p', l', c', rfl, hsl', hext, hfit, hb2⟩
    have hb02 := below_call hb0 hb0.size hb2
    have hlm := hsl'.max
    have HL := Lib.hid hsl'.length
    clear c0 c1 hb1 hb2
    go_wp2_with fail
    go_loop [4] (fun i => ∃ k : Nat, k ≤ l' ∧ i = .int .i64 k ∧ Hid (firstErr (t.knots.take k) = 0)) (fun i => l' - (intOf i).toNat)
    case atStart => exact ⟨0, Nat.zero_le _, rfl, by show firstErr _ = 0; simp [firstErr]⟩
    case round =>
      obtain ⟨k, hk, rfl, HK⟩ := hrel
      by_cases hlt : k < l'
      · obtain ⟨b, o, a, q', l, c, rfl, HA, f0, f1, hn', hsl''⟩ := hsl'.tm k hlt
        have g0 := hfit _ _ f0
        have g1 := hfit _ _ f1
        have HG := Lib.hid (firstErr_get HA.out HK.out)
        cases hnm : nameOk a.name with
        | false =>
          have HN := Lib.hid hnm; clear hnm
          go_wp2_with fail
          refine (name_ref _ _ hn').mono ?_
          rintro e w' ⟨rfl, rfl⟩
          rw [HN.out]
          go_wp2_with fail
          go_ret
          have h1 : chkOne a = 1 := by unfold chkOne; rw [HN.out]; rfl
          exact ⟨ret_int (by rw [← HM.out, HG.out.2 (by omega), h1]), hb02⟩
        | true =>
          have HN := Lib.hid hnm; clear hnm
          have HS := Lib.hid hsl''.length
          by_cases hl0 : 0 < l
          · have hl0' : (0 : Int) < (l : Int) := by omega
            cases hvr : isVar a.name with
            | true =>
              have HV := Lib.hid hvr; clear hvr
              go_wp2_with fail
              refine (name_ref _ _ hn').mono ?_
              rintro e w' ⟨rfl, rfl⟩
              rw [HN.out]
              go_wp2_with fail
              refine (var_ref _ _).mono ?_
              rintro e w' ⟨rfl, rfl⟩
              rw [HV.out]
              go_wp2_with fail
              go_ret
              have h1 : chkOne a = 2 := by unfold chkOne; rw [HN.out, HV.out, if_pos rfl, if_pos ⟨rfl, by rw [← HS.out]; exact hl0⟩]
              exact ⟨ret_int (by rw [← HM.out, HG.out.2 (by omega), h1]), hb02⟩
            | false =>
              have HV := Lib.hid hvr; clear hvr
              go_wp2_with fail
              refine (name_ref _ _ hn').mono ?_
              rintro e w' ⟨rfl, rfl⟩
              rw [HN.out]
              go_wp2_with fail
              refine (var_ref _ _).mono ?_
              rintro e w' ⟨rfl, rfl⟩
              rw [HV.out]
              go_wp2_with fail
              go_round
              case rel => exact ⟨k + 1, by omega, by go_num, HG.out.1 (by unfold chkOne; rw [HN.out, HV.out]; simp)⟩
              case measure => simp [intOf]; omega
          · have hl0' : (l : Int) ≤ 0 := by omega
            have H0 := Lib.hid hl0; clear hl0
            have HL0 : Hid (l = 0) := by show l = 0; omega
            cases hvr : isVar a.name with
            | true =>
              have HV := Lib.hid hvr; clear hvr
              go_wp2_with fail
              refine (name_ref _ _ hn').mono ?_
              rintro e w' ⟨rfl, rfl⟩
              rw [HN.out]
              go_wp2_with fail
              refine (var_ref _ _).mono ?_
              rintro e w' ⟨rfl, rfl⟩
              rw [HV.out]
              go_wp2_with fail
              go_round
              case rel => exact ⟨k + 1, by omega, by go_num, HG.out.1 (by unfold chkOne; rw [HN.out, HV.out, if_pos rfl, if_neg (by rw [← HS.out, HL0.out]; simp)])⟩
              case measure => simp [intOf]; omega
            | false =>
              have HV := Lib.hid hvr; clear hvr
              go_wp2_with fail
              refine (name_ref _ _ hn').mono ?_
              rintro e w' ⟨rfl, rfl⟩
              rw [HN.out]
              go_wp2_with fail
              refine (var_ref _ _).mono ?_
              rintro e w' ⟨rfl, rfl⟩
              rw [HV.out]
              go_wp2_with fail
              go_round
              case rel => exact ⟨k + 1, by omega, by go_num, HG.out.1 (by unfold chkOne; rw [HN.out, HV.out]; simp)⟩
              case measure => simp [intOf]; omega
      · obtain rfl : k = l' := by omega
        go_wp2_with fail
        go_ret
        exact ⟨ret_int (by have h := HK.out; rw [List.take_of_length_le (by have := HL.out; omega)] at h; rw [← HM.out, h]), hb02⟩

/-- May both be? -/
def two (a b : Tm) : Int := if a.may = 0 then b.may else a.may
theorem two_ref (a b : Tm) (σ : Sto) (v u : Value) (w : World) (hs : Fit σ w) (hv : TmV σ v a) (hu : TmV σ u b) :
    Calls Try.prog 16 #[v, u] w fun e w' => e = .returned (.int .i64 (two a b)) ∧ Below w.heap.size w w' := by
  obtain ⟨p, len, cap, rfl, hn, hsl⟩ := hv
  obtain ⟨q, len', cap', rfl, hn', hsl'⟩ := hu
  go_enter Try.func16, Try.ntmps16
  go_wp2_with fail
  refine (may_ref a σ _ _ ((hs.alloc _).alloc _) ⟨_, _, _, rfl, hn, hsl⟩).mono ?_
  rintro e w1 ⟨rfl, hb1⟩
  have hb0 : Below w.heap.size w w1 := (((Below.refl _ _).alloc (Nat.le_refl _) _).alloc (by simp) _).trans (hb1.mono (by simp; omega))
  have B := (Blk.new (w.alloc (.cells #[.string a.name, .slice p len cap] 25)) 25 #[.string b.name, .slice q len' cap']).call hb1
  simp only [World.size_alloc] at B
  have c0 : w1.cell? ⟨w.heap.size + 1, 0, none⟩ = some (.string b.name) := B.cell 0
  have c1 : w1.cell? ⟨w.heap.size + 1, 1, none⟩ = some (.slice q len' cap') := B.cell 1
  by_cases ha : a.may = 0
  · have HA := Lib.hid ha
    rw [ha]
    clear ha
    go_wp2_with fail
    refine (may_ref b σ _ _ (hs.below hb0) ⟨_, _, _, rfl, hn', hsl'⟩).mono ?_
    rintro e w2 ⟨rfl, hb2⟩
    go_wp2_with fail
    go_ret
    exact ⟨ret_int (by unfold two; rw [if_pos HA.out]), below_call hb0 hb0.size hb2⟩
  · have hf := eq_false' ha
    have HA := Lib.hid ha
    clear ha
    go_wp2_with fail
    go_ret
    exact ⟨ret_int (by unfold two; rw [if_neg HA.out]), hb0⟩
end Go.Proofs.Ytkjbaabkaboaoaa
