/-
  All knots of a term; what a term may be; the walks of the functions that ask it (program and reference).
  Conditions: none.
-/
import Derived.Test.YtkjbaabkaboaoaaOwn
namespace Go.Proofs.Ytkjbaabkaboaoaa
open Go Go.RowKit
set_option maxHeartbeats 400000
set_option linter.unusedVariables false

/-! ### plain -/
mutual
def Tm.knots : Tm → List Tm
  | .mk n xs => .mk n xs :: Tm.knotsL xs
def Tm.knotsL : List Tm → List Tm
  | [] => []
  | t :: ts => t.knots ++ Tm.knotsL ts
end
theorem Tm.knots_eq (t : Tm) : t.knots = t :: Tm.knotsL t.args := by cases t; rfl
theorem Tm.knotsL_append (xs ys : List Tm) : Tm.knotsL (xs ++ ys) = Tm.knotsL xs ++ Tm.knotsL ys := by
  induction xs with
  | nil => simp [Tm.knotsL]
  | cons t ts ih => simp [Tm.knotsL, ih]
theorem Tm.knotsL_take {xs : List Tm} {k : Nat} {a : Tm} (h : xs[k]? = some a) : Tm.knotsL (xs.take (k+1)) = Tm.knotsL (xs.take k) ++ a.knots := by
  rw [take_snoc h, Tm.knotsL_append]; simp [Tm.knotsL]
mutual
theorem Tm.knots_length : ∀ t : Tm, t.knots.length = t.size
  | .mk n xs => by simp only [Tm.knots, Tm.size, List.length_cons, Tm.knotsL_length xs]; omega
theorem Tm.knotsL_length : ∀ xs : List Tm, (Tm.knotsL xs).length = Tm.sizes xs
  | [] => rfl
  | t :: ts => by simp only [Tm.knotsL, Tm.sizes, List.length_append, Tm.knots_length t, Tm.knotsL_length ts]
end

/-! ### the walks -/
def KnotsRef (t : Tm) : Prop := ∀ (σ : Sto) (v : Value) (w : World), Fit σ w → TmV σ v t → t.size ≤ 1000000 →
    Calls Try.prog 67 #[v] w fun e w' => ∃ σ' p l c, e = .returned (.slice p l c) ∧ Slc σ' p l c t.knots ∧ Ext w.heap.size σ σ' ∧ Fit σ' w' ∧ Below w.heap.size w w'
theorem knots_ref : ∀ (N : Nat) (t : Tm), SizeOf.sizeOf t < N → KnotsRef t := by
  intro N
  induction N with
  | zero => intro t h; omega
  | succ N ih =>
  intro t hN σ v w hs ht hz
  obtain ⟨p, len, cap, rfl, hn, hsl⟩ := ht
  have HL := Lib.hid hsl.length
  have hlm := hsl.max
  obtain ⟨i0, hi, hz0, hz1, hz2⟩ := info_parts infoTm
  have hfb : Fit σ (w.alloc (.cells #[.string t.name, .slice p len cap] 25)) := hs.alloc _
  have hown0 : Own σ (w.heap.size + 1) ((w.alloc (.cells #[.string t.name, .slice p len cap] 25)).alloc (.cells #[.string t.name, .slice p len cap] 25)) 25 (.slice (some ⟨w.heap.size + 1, 0, none⟩) 1 1) [t] := by
    have := Own.new (N := w.heap.size + 1) (e := 25) hfb (cs := #[.string t.name, .slice p len cap]) (a := t) (cells_tm.2 ⟨p, len, cap, rfl, hn, hsl⟩) (by simp)
    simpa using this
  have HI := Lib.hid hi; clear hi
  have H0 := Lib.hid hz0; clear hz0
  have H1 := Lib.hid hz1; clear hz1
  have H2 := Lib.hid hz2; clear hz2
  go_enter Try.func67, Try.ntmps67
  go_wp2_with fail
  go_loopw [3, 4] (fun n i wr => ∃ (k : Nat) (σr : Sto), k ≤ len ∧ i = .int .i64 k ∧ Own σr (w.heap.size + 1) wr 25 n (t :: Tm.knotsL (t.args.take k)) ∧ Ext w.heap.size σ σr ∧ Fit σr wr ∧ Below (w.heap.size + 1) (w.alloc (.cells #[.string t.name, .slice p len cap] 25)) wr) (fun _ i _ => len - (intOf i).toNat)
  case atStart => exact ⟨0, σ, Nat.zero_le _, rfl, by simpa [Tm.knotsL] using hown0, Ext.refl _ _, hfb.alloc _, (Below.refl _ _).alloc (by simp) _⟩
  case round =>
    obtain ⟨k, σr, hk, rfl, hown, hext, hfr, hb⟩ := hrel
    have hbw := box_below hb
    have c1 : wr.cell? ⟨w.heap.size, 1, none⟩ = some (.slice p len cap) := box_cell hb 1
    have hsz := hb.size
    simp only [World.size_alloc] at hsz
    by_cases hlt : k < len
    · obtain ⟨b, o, a, q', l, c, rfl, HA, f0, f1, hn', hsl'⟩ := hsl.tm k hlt
      have g0 := hfr _ _ (hext.keep _ _ f0)
      have g1 := hfr _ _ (hext.keep _ _ f1)
      have hsa : a.size ≤ 1000000 ∧ (t :: Tm.knotsL (t.args.take k)).length + a.knots.length ≤ 1000000 := by
        have h1 := Tm.sizes_take HA.out
        have h2 := Tm.sizes_take_le t.args (k+1)
        have h3 := Tm.size_eq t
        rw [List.length_cons, Tm.knotsL_length, Tm.knots_length]
        omega
      clear f0 f1 hown0 hfb
      go_wp2_with fail
      refine (ih a (by have := Tm.lt_of_arg (mem_of_get HA.out); omega) σr _ _ hfr ⟨_, _, _, rfl, hn', hsl'.ext hext⟩ hsa.1).mono ?_
      rintro e w1 ⟨σ1, p1, l1, c1', rfl, hsl1, hext1, hf1, hb1⟩
      have hw1 : w.heap.size + 1 ≤ w1.heap.size := by have := hb1.size; omega
      have hown1 := hown.call hb1 hext1
      have hsb : (t :: Tm.knotsL (t.args.take k)).length + a.knots.length ≤ maxLen := by have := hsa.2; simp only [maxLen]; omega
      have hsc : ((t :: Tm.knotsL (t.args.take k)).length + a.knots.length) * 40 ≤ 140737488355328 := by have := hsa.2; omega
      go_wp2_with (at_builtin; refine wpList_slc rfl _ _ _ rfl hown1 hf1 i0 _ 40 Try.underlying23 HI.out H0.out H1.out H2.out rfl (by decide) p1 l1 c1' _ hsl1 rfl rfl hsb hsc hw1 ?_; intro v' w2 hg)
      go_roundw
      case rel =>
        refine ⟨k + 1, σ1, by omega, by go_num, by rw [Tm.knotsL_take HA.out]; simpa using hg.own, hext.trans (hext1.mono (by omega)), hg.fit, ?_⟩
        exact (below_call hb (by omega) hb1).grown hg.grown hw1 (fun g hgk => (hown.lt g hgk).1)
      case measure => simp [intOf]; omega
    · obtain rfl : k = len := by omega
      go_wp2_with fail
      go_ret
      obtain ⟨σ2, e1, e2, e3, p2, l2, c2, rfl, hsl2⟩ := hown.done hfr w.heap.size (by omega)
      refine ⟨σ2, p2, l2, c2, rfl, ?_, hext.trans e1, e2, hbw⟩
      rw [Tm.knots_eq]
      have hF := HL.out
      rw [List.take_of_length_le (by omega)] at hsl2
      exact hsl2
end Go.Proofs.Ytkjbaabkaboaoaa
