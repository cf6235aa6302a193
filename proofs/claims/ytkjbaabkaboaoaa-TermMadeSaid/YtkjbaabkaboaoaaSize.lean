/-
  How great a term is; all knots of a term; the walks of the functions that ask it (program and reference).
  Conditions: none.
-/
import Derived.Test.YtkjbaabkaboaoaaLeaf
namespace Go.Proofs.Ytkjbaabkaboaoaa
open Go Go.RowKit
set_option maxHeartbeats 400000
set_option linter.unusedVariables false

/-! ### plain -/
mutual
def Tm.size : Tm → Nat
  | .mk _ xs => 1 + Tm.sizes xs
def Tm.sizes : List Tm → Nat
  | [] => 0
  | t :: ts => t.size + Tm.sizes ts
end
theorem Tm.sizes_append (xs ys : List Tm) : Tm.sizes (xs ++ ys) = Tm.sizes xs + Tm.sizes ys := by
  induction xs with
  | nil => simp [Tm.sizes]
  | cons t ts ih => simp only [List.cons_append, Tm.sizes, ih]; omega
theorem Tm.sizes_take {xs : List Tm} {k : Nat} {a : Tm} (h : xs[k]? = some a) : Tm.sizes (xs.take (k+1)) = Tm.sizes (xs.take k) + a.size := by
  rw [take_snoc h, Tm.sizes_append]; simp [Tm.sizes]
theorem Tm.sizes_take_le (xs : List Tm) (k : Nat)  : Tm.sizes (xs.take k) ≤ Tm.sizes xs := by
  have := Tm.sizes_append (xs.take k) (xs.drop k)
  rw [List.take_append_drop] at this
  omega
theorem Tm.size_eq (t : Tm) : t.size = 1 + Tm.sizes t.args := by cases t; rfl
theorem Tm.size_pos (t : Tm) : 1 ≤ t.size := by rw [Tm.size_eq]; omega
theorem Tm.size_mem {a : Tm} {xs : List Tm} (h : a ∈ xs) : a.size ≤ Tm.sizes xs := by
  induction xs with
  | nil => simp at h
  | cons t ts ih =>
    rcases List.mem_cons.1 h with rfl | h
    · simp only [Tm.sizes]; omega
    · have := ih h; simp only [Tm.sizes]; omega
theorem Tm.length_le (xs : List Tm) : xs.length ≤ Tm.sizes xs := by
  induction xs with
  | nil => simp [Tm.sizes]
  | cons t ts ih => have := Tm.size_pos t; simp only [Tm.sizes, List.length_cons]; omega
theorem Tm.lt_of_arg {a t : Tm} (h : a ∈ t.args) : SizeOf.sizeOf a < SizeOf.sizeOf t := by
  cases t
  exact Tm.lt_of_mem h
/-- m less s, but -1 at the least -/
def lessBy (s : Nat) (m : Int) : Int := if m < s then -1 else m - s
/-- s, but m + 1 at the most -/
def capTo (s : Nat) (m : Int) : Int := if m < s then m + 1 else s

/-- Below behind a call -/
theorem below_call {N : Nat} {a w w' : World} (h : Below N a w) (hN : N ≤ w.heap.size) (h1 : Below w.heap.size w w') : Below N a w' := h.trans (h1.mono hN)
theorem below_alloc_call {N : Nat} {a w w' : World} {o : Obj} (h : Below N a w) (hN : N ≤ w.heap.size) (h1 : Below (w.alloc o).heap.size (w.alloc o) w') : Below N a w' :=
  (h.alloc hN o).trans (h1.mono (by simp; omega))

/-- A box of the call's own behind which nothing older has turned. -/
theorem box_below {w wr : World} {o : Obj} (hb : Below (w.heap.size + 1) (w.alloc o) wr) : Below w.heap.size w wr :=
  ((Below.refl _ _).alloc (Nat.le_refl _) o).trans (hb.mono (by omega))
theorem box_cell {w wr : World} {cs : Array Value} {T : TypeId} (hb : Below (w.heap.size + 1) (w.alloc (.cells cs T)) wr) (j : Nat) : wr.cell? ⟨w.heap.size, j, none⟩ = cs[j]? := by
  rw [hb.cell (p := ⟨w.heap.size, j, none⟩) (by simp)]
  exact World.cell?_alloc_new w cs T j

/-! ### the walks -/
def SizeAt (t : Tm) : Prop := ∀ (σ : Sto) (v : Value) (w : World), Fit σ w → TmV σ v t → t.size ≤ 9223372036854775807 →
    Calls Try.prog 72 #[v] w fun e w' => e = .returned (.int .i64 t.size) ∧ Below w.heap.size w w'
theorem size_any : ∀ (N : Nat) (t : Tm), SizeOf.sizeOf t < N → SizeAt t := by
  intro N
  induction N with
  | zero => intro t h; omega
  | succ N ih =>
  intro t hN σ v w hs ht hz
  obtain ⟨p, len, cap, rfl, hn, hsl⟩ := ht
  have HL := Lib.hid hsl.length
  have hlm := hsl.max
  have hz' := hz
  rw [Tm.size_eq] at hz'
  go_enter Try.func72, Try.ntmps72
  go_wp2_with fail
  go_loopw [3, 9] (fun n i wr => ∃ k : Nat, k ≤ len ∧ i = .int .i64 k ∧ n = .int .i64 ((1 + Tm.sizes (t.args.take k) : Nat) : Int) ∧ Below w.heap.size w wr) (fun _ i _ => len - (intOf i).toNat)
  case atStart => exact ⟨0, Nat.zero_le _, rfl, rfl, (Below.refl _ _).alloc (Nat.le_refl _) _⟩
  case round =>
    obtain ⟨k, hk, rfl, rfl, hb⟩ := hrel
    by_cases hlt : k < len
    · obtain ⟨b, o, a, q, l, c, rfl, HA, f0, f1, hn', hsl'⟩ := hsl.tm k hlt
      have hfw := hs.below hb
      have hsz : Tm.sizes (t.args.take k) + a.size + 1 ≤ 9223372036854775807 := by
        have h1 := Tm.sizes_take HA.out
        have h2 := Tm.sizes_take_le t.args (k+1)
        omega
      have g0 := hfw _ _ f0
      have g1 := hfw _ _ f1
      go_wp2_with fail
      refine (ih a (by have := Tm.lt_of_arg (mem_of_get HA.out); omega) σ _ _ (hfw.alloc _) ⟨_, _, _, rfl, hn', hsl'⟩ (by omega)).mono ?_
      rintro e w1 ⟨rfl, hb1⟩
      go_wp2_with fail
      go_roundw
      case rel => exact ⟨k + 1, by omega, by go_num, by rw [Tm.sizes_take HA.out]; go_num, below_alloc_call hb hb.size hb1⟩
      case measure => simp [intOf]; omega
    · go_wp2_with fail
      go_ret
      obtain rfl : k = len := by omega
      exact ⟨ret_int (by rw [List.take_of_length_le (by have := HL.out; omega), Tm.size_eq]), hb⟩

def WithinAt (t : Tm) : Prop := ∀ (σ : Sto) (v : Value) (w : World) (m : Int), Fit σ w → TmV σ v t → 0 ≤ m → m ≤ 1000000000 →
    Calls Try.prog 77 #[v, .int .i64 m] w fun e w' => e = .returned (.int .i64 (lessBy t.size m)) ∧ Below w.heap.size w w'
theorem within_any : ∀ (N : Nat) (t : Tm), SizeOf.sizeOf t < N → WithinAt t := by
  intro N
  induction N with
  | zero => intro t h; omega
  | succ N ih =>
  intro t hN σ v w m hs ht hm0 hm1
  obtain ⟨p, len, cap, rfl, hn, hsl⟩ := ht
  have HL := Lib.hid hsl.length
  have hlm := hsl.max
  go_enter Try.func77, Try.ntmps77
  go_wp2_with fail
  go_loopw [1, 12] (fun n i wr => ∃ (k : Nat) (q : Int), k ≤ len ∧ i = .int .i64 k ∧ n = .int .i64 q ∧ Hid (q = lessBy (1 + Tm.sizes (t.args.take k)) m) ∧ -1 ≤ q ∧ q < m ∧ Below w.heap.size w wr) (fun _ i _ => len - (intOf i).toNat)
  case atStart => exact ⟨0, m - 1, Nat.zero_le _, rfl, rfl, by show m - 1 = lessBy _ m; unfold lessBy; simp [Tm.sizes]; omega, by omega, by omega, (Below.refl _ _).alloc (Nat.le_refl _) _⟩
  case round =>
    obtain ⟨k, q, hk, rfl, rfl, HQ, hq1, hq2, hb⟩ := hrel
    by_cases hlt : k < len
    · obtain ⟨b, o, a, q', l, c, rfl, HA, f0, f1, hn', hsl'⟩ := hsl.tm k hlt
      have hfw := hs.below hb
      have g0 := hfw _ _ f0
      have g1 := hfw _ _ f1
      by_cases hneg : q < 0
      · go_wp2_with fail
        go_ret
        refine ⟨ret_int ?_, hb.alloc hb.size _⟩
        have h1 := Tm.sizes_take_le t.args k
        have h2 := HQ.out
        have h3 := Tm.size_eq t
        unfold lessBy at *
        split at h2 <;> split <;> omega
      · have hnn : 0 ≤ q := by omega
        go_wp2_with fail
        refine (ih a (by have := Tm.lt_of_arg (mem_of_get HA.out); omega) σ _ _ q (hfw.alloc _) ⟨_, _, _, rfl, hn', hsl'⟩ hnn (by omega)).mono ?_
        rintro e w1 ⟨rfl, hb1⟩
        go_wp2_with fail
        go_roundw
        case rel =>
          have h2 := HQ.out
          have h3 := Tm.sizes_take HA.out
          have h4 := Tm.size_pos a
          refine ⟨k + 1, lessBy a.size q, by omega, by go_num, rfl, ?_, ?_, ?_, below_alloc_call hb hb.size hb1⟩
          · show _ = _
            rw [h3]
            unfold lessBy at *
            split at h2 <;> split <;> split <;> omega
          · unfold lessBy; split <;> omega
          · unfold lessBy; split <;> omega
        case measure => simp [intOf]; omega
    · go_wp2_with fail
      go_ret
      obtain rfl : k = len := by omega
      exact ⟨ret_int (by rw [HQ.out, List.take_of_length_le (by have := HL.out; omega), Tm.size_eq]), hb⟩

def SizeRef (t : Tm) : Prop := ∀ (σ : Sto) (v : Value) (w : World) (m : Int), Fit σ w → TmV σ v t → 0 ≤ m → m ≤ 1000000000 →
    Calls Try.prog 21 #[v, .int .i64 m] w fun e w' => e = .returned (.int .i64 (capTo t.size m)) ∧ Below w.heap.size w w'
theorem size_ref : ∀ (N : Nat) (t : Tm), SizeOf.sizeOf t < N → SizeRef t := by
  intro N
  induction N with
  | zero => intro t h; omega
  | succ N ih =>
  intro t hN σ v w m hs ht hm0 hm1
  obtain ⟨p, len, cap, rfl, hn, hsl⟩ := ht
  have HL := Lib.hid hsl.length
  have hlm := hsl.max
  go_enter Try.func21, Try.ntmps21
  go_wp2_with fail
  go_loopw [5, 6] (fun n i wr => ∃ (k : Nat) (q : Int), k ≤ len ∧ i = .int .i64 k ∧ n = .int .i64 q ∧ Hid (q = capTo (1 + Tm.sizes (t.args.take k)) m) ∧ 1 ≤ q ∧ q ≤ m + 1 ∧ Below (w.heap.size + 1) (w.alloc (.cells #[.string t.name, .slice p len cap] 25)) wr) (fun _ i _ => len - (intOf i).toNat)
  case atStart => exact ⟨0, 1, Nat.zero_le _, rfl, rfl, by show (1 : Int) = capTo _ m; unfold capTo; simp [Tm.sizes]; omega, by omega, by omega, Below.refl _ _⟩
  case round =>
    obtain ⟨k, q, hk, rfl, rfl, HQ, hq1, hq2, hb⟩ := hrel
    have hbw := box_below hb
    have c1 : wr.cell? ⟨w.heap.size, 1, none⟩ = some (.slice p len cap) := box_cell hb 1
    have hsz := hb.size
    simp only [World.size_alloc] at hsz
    by_cases hlt : k < len
    · by_cases hqm : q ≤ m
      · obtain ⟨b, o, a, q', l, c, rfl, HA, f0, f1, hn', hsl'⟩ := hsl.tm k hlt
        have hfw := hs.below hbw
        have g0 := hfw _ _ f0
        have g1 := hfw _ _ f1
        go_wp2_with fail
        refine (ih a (by have := Tm.lt_of_arg (mem_of_get HA.out); omega) σ _ _ (m - q) hfw ⟨_, _, _, rfl, hn', hsl'⟩ (by omega) (by omega)).mono ?_
        rintro e w1 ⟨rfl, hb1⟩
        have hcap : 0 ≤ capTo a.size (m - q) ∧ capTo a.size (m - q) ≤ m - q + 1 := by unfold capTo; split <;> omega
        go_wp2_with fail
        go_roundw
        case rel =>
          have h2 := HQ.out
          have h3 := Tm.sizes_take HA.out
          have h4 := Tm.size_pos a
          refine ⟨k + 1, q + capTo a.size (m - q), by omega, by go_num, rfl, ?_, by omega, by omega, below_call hb (by omega) hb1⟩
          show _ = _
          rw [h3]
          unfold capTo at *
          split at h2 <;> split <;> split <;> omega
        case measure => simp [intOf]; omega
      · go_wp2_with fail
        go_ret
        refine ⟨ret_int ?_, hbw⟩
        have h1 := Tm.sizes_take_le t.args k
        have h2 := HQ.out
        have h3 := Tm.size_eq t
        unfold capTo at *
        split at h2 <;> split <;> omega
    · obtain rfl : k = len := by omega
      have HF : Hid (capTo t.size m = q) := by
        show _ = _
        rw [HQ.out, List.take_of_length_le (by have := HL.out; omega), Tm.size_eq]
      clear HQ
      by_cases hqm : q ≤ m
      all_goals
        go_wp2_with fail
        go_ret
        refine ⟨ret_int ?_, hbw⟩
        have hF := HF.out
        omega
end Go.Proofs.Ytkjbaabkaboaoaa
