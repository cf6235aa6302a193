/-
  The program's At; the law TermSays: its walk.
  Conditions: none.
-/
import Derived.Test.YtkjbaabkaboaoaaShow
import Derived.Test.YtkjbaabkaboaoaaTermPuts
namespace Go.Proofs.Ytkjbaabkaboaoaa
open Go Go.RowKit
set_option maxHeartbeats 1000000
set_option linter.unusedVariables false

theorem Tm.at_size : ∀ (is : List Int) (t x : Tm), t.at_ is = some x → x.size ≤ t.size
  | [], t, x, h => by simp [Tm.at_] at h; subst h; exact Nat.le_refl _
  | i :: is, t, x, h => by
    by_cases hi : 0 ≤ i ∧ i < t.args.length
    · obtain ⟨n, rfl⟩ : ∃ n : Nat, i = n := ⟨i.toNat, by omega⟩
      have hn : n < t.args.length := by omega
      have ha : t.args[n]? = some t.args[n] := List.getElem?_eq_getElem hn
      rw [Tm.at_yes ha] at h
      have h1 := Tm.at_size is _ _ h
      have h2 := Tm.sizes_take ha
      have h3 := Tm.sizes_take_le t.args (n+1)
      have h4 := Tm.size_eq t
      omega
    · rw [Tm.at_no hi] at h
      cases h
/-- what A3 says of a place: the term, what is wrong -/
def atR (t : Tm) (is : List Int) : Tm × Int := if t.may = 0 then (match t.at_ is with | none => (Tm.zero, 10) | some y => (y, 0)) else (Tm.zero, t.may)
theorem atR_none {t : Tm} {is : List Int} (h : t.may = 0) (h' : t.at_ is = none) : atR t is = (Tm.zero, 10) := by unfold atR; rw [if_pos h, h']
theorem atR_some {t y : Tm} {is : List Int} (h : t.may = 0) (h' : t.at_ is = some y) : atR t is = (y, 0) := by unfold atR; rw [if_pos h, h']
theorem atR_no {t : Tm} {is : List Int} (h : t.may ≠ 0) : atR t is = (Tm.zero, t.may) := by unfold atR; rw [if_neg h]
theorem atR_zero {t : Tm} {is : List Int} (h : (atR t is).2 ≠ 0) : (atR t is).1 = Tm.zero := by
  by_cases hm : t.may = 0
  · rcases ha : t.at_ is with _ | y
    · rw [atR_none hm ha]
    · rw [atR_some hm ha] at h; exact absurd rfl h
  · rw [atR_no hm]

set_option maxRecDepth 100000 in
theorem at_any (t : Tm) (is : List Int) (σ : Sto) (v : Value) (q : Option Addr) (l c : Nat) (w : World) (hs : Fit σ w) (ht : TmV σ v t) (hq : Slc σ q l c is) :
    Calls Try.prog 36 #[v, .slice q l c] w (Res σ w (atR t is)) := by
  obtain ⟨p, len, cap, rfl, hn, hsl⟩ := ht
  have T0 := (Blk.new w 25 #[.string t.name, .slice p len cap]).alloc (.cells #[.string ⟨#[]⟩, .slice none 0 0] 25)
  have R0 := Blk.new (w.alloc (.cells #[.string t.name, .slice p len cap] 25)) 25 #[.string ⟨#[]⟩, .slice none 0 0]
  simp only [World.size_alloc] at R0
  have hf0 := (hs.alloc (.cells #[.string t.name, .slice p len cap] 25)).alloc (.cells #[.string ⟨#[]⟩, .slice none 0 0] 25)
  have hb0 : Below w.heap.size w ((w.alloc (.cells #[.string t.name, .slice p len cap] 25)).alloc (.cells #[.string ⟨#[]⟩, .slice none 0 0] 25)) := ((Below.refl _ _).alloc (Nat.le_refl _) _).alloc (by simp) _
  have zs : ∀ j z, σ ⟨w.heap.size + j, z, none⟩ = none := fun j z => hs.no (by simp)
  have ZS := Lib.hid zs; clear zs
  go_enter Try.func36, Try.ntmps36
  go_wp2_with fail
  refine (check_any t σ _ _ hf0 ⟨_, _, _, rfl, hn, hsl⟩).mono ?_
  rintro e w1 ⟨rfl, hb1⟩
  have T1 := T0.call hb1
  have R1 := R0.call hb1
  have hf1 := hf0.below hb1
  have hb01 := hb0.trans (hb1.mono (by simp; omega))
  have t0 : w1.cell? ⟨w.heap.size, 0, none⟩ = some (.string t.name) := T1.cell 0
  have t1 : w1.cell? ⟨w.heap.size, 1, none⟩ = some (.slice p len cap) := T1.cell 1
  have r0 : w1.cell? ⟨w.heap.size + 1, 0, none⟩ = some (.string ⟨#[]⟩) := R1.cell 0
  have r1 : w1.cell? ⟨w.heap.size + 1, 1, none⟩ = some (.slice none 0 0) := R1.cell 1
  have r2 : w1.frozen? ⟨w.heap.size + 1, 0, none⟩ = false := R1.frozen 0
  have r3 : w1.frozen? ⟨w.heap.size + 1, 1, none⟩ = false := R1.frozen 1
  clear hb1
  by_cases hmt : t.may = 0
  · have HM := Lib.hid hmt
    have hz := may_size hmt
    rw [hmt]
    clear hmt
    go_wp2_with fail
    refine (below_any t is σ _ _ _ _ _ hf1 ⟨_, _, _, rfl, hn, hsl⟩ hq).mono ?_
    intro e w3 h3
    rcases hat : t.at_ is with _ | y
    · rw [hat] at h3
      obtain ⟨rfl, hb3⟩ := h3
      have HA := Lib.hid hat; clear hat
      have R3 := (R1.call hb3).alloc (.cells #[.string ⟨#[]⟩, .slice none 0 0] 25)
      have hf3 := hf1.below hb3
      have hb03 := below_call hb01 hb01.size hb3
      have hs3 : w.heap.size + 2 ≤ w3.heap.size := by have := (R1.call hb3).lt; omega
      clear t0 t1 r0 r1 r2 r3
      have r0 : (w3.alloc (.cells #[.string ⟨#[]⟩, .slice none 0 0] 25)).cell? ⟨w.heap.size + 1, 0, none⟩ = some (.string ⟨#[]⟩) := R3.cell 0
      have r1 : (w3.alloc (.cells #[.string ⟨#[]⟩, .slice none 0 0] 25)).cell? ⟨w.heap.size + 1, 1, none⟩ = some (.slice none 0 0) := R3.cell 1
      have r2 : (w3.alloc (.cells #[.string ⟨#[]⟩, .slice none 0 0] 25)).frozen? ⟨w.heap.size + 1, 0, none⟩ = false := R3.frozen 0
      have r3 : (w3.alloc (.cells #[.string ⟨#[]⟩, .slice none 0 0] 25)).frozen? ⟨w.heap.size + 1, 1, none⟩ = false := R3.frozen 1
      go_wp2_with fail
      rw [atR_none HM.out HA.out]
      have Rb := (R3.put 0 (.string ⟨#[]⟩)).put 1 (.slice none 0 0)
      have k0 := Rb.cell 0
      have k1 := Rb.cell 1
      exact bodyPost_ret (v := .tuple #[.agg #[.string ⟨#[]⟩, .slice none 0 0], .int .i64 10]) (by simp [results, Try.results36, go_sem, k0, k1]) rfl
        ⟨σ, none, 0, 0, rfl, by simp [Tm.zero, Tm.name, ByteArray.size], Slc.nil σ, Ext.refl _ _, ((hf3.alloc _).setCell (ZS.out 1 0) _).setCell (ZS.out 1 1) _, ((hb03.alloc (by omega) _).setCell (by simp) _).setCell (by simp) _⟩
    · rw [hat] at h3
      obtain ⟨py, ly, cy, rfl, hny, hsly, hb3⟩ := h3
      have HA := Lib.hid hat
      have hzy := Tm.at_size _ _ _ hat
      clear hat
      have R3 := R1.call hb3
      have hf3 := hf1.below hb3
      have hb03 := below_call hb01 hb01.size hb3
      have hs3 : w.heap.size + 2 ≤ w3.heap.size := by have := R3.lt; omega
      clear t0 t1 r0 r1 r2 r3
      go_wp2_with fail
      refine (copy_any _ y (Nat.lt_succ_self _) σ _ _ (hf3.alloc _) ⟨_, _, _, rfl, hny, hsly⟩ (by omega)).mono ?_
      rintro e w4 ⟨σ4, v4, rfl, hown4, hext4, hf4, hb4⟩
      obtain ⟨σ5, p5, l5, c5, rfl, hn5, hsl5, hext5, hf5⟩ := hown4.done hf4 (Nat.le_refl _)
      have R4 := (R3.alloc (.cells #[.string y.name, .slice py ly cy] 25)).call hb4
      have hb04 := below_alloc_call hb03 (by omega) hb4
      have r0 : w4.cell? ⟨w.heap.size + 1, 0, none⟩ = some (.string ⟨#[]⟩) := R4.cell 0
      have r1 : w4.cell? ⟨w.heap.size + 1, 1, none⟩ = some (.slice none 0 0) := R4.cell 1
      have r2 : w4.frozen? ⟨w.heap.size + 1, 0, none⟩ = false := R4.frozen 0
      have r3 : w4.frozen? ⟨w.heap.size + 1, 1, none⟩ = false := R4.frozen 1
      go_wp2_with fail
      rw [atR_some HM.out HA.out]
      have Rb := (R4.put 0 (.string y.name)).put 1 (.slice p5 l5 c5)
      have k0 := Rb.cell 0
      have k1 := Rb.cell 1
      have hext45 := hext4.trans hext5
      have z0 : ∀ z, σ5 ⟨w.heap.size + 1, z, none⟩ = none := fun z => by rw [hext45.old _ (by simp; omega)]; exact ZS.out 1 z
      exact bodyPost_ret (v := .tuple #[.agg #[.string y.name, .slice p5 l5 c5], .int .i64 0]) (by simp [results, Try.results36, go_sem, k0, k1]) rfl
        ⟨σ5, p5, l5, c5, rfl, hn5, hsl5, hext45.mono (by simp; omega), (hf5.setCell (z0 0) _).setCell (z0 1) _, (hb04.setCell (by simp) _).setCell (by simp) _⟩
  · have hne := ne_true hmt
    have HM := Lib.hid hmt
    clear hmt
    go_wp2_with fail
    rw [atR_no HM.out]
    have Rb := (R1.put 0 (.string ⟨#[]⟩)).put 1 (.slice none 0 0)
    have k0 := Rb.cell 0
    have k1 := Rb.cell 1
    exact bodyPost_ret (v := .tuple #[.agg #[.string ⟨#[]⟩, .slice none 0 0], .int .i64 t.may]) (by simp [results, Try.results36, go_sem, k0, k1]) rfl
      ⟨σ, none, 0, 0, rfl, by simp [Tm.zero, Tm.name, ByteArray.size], Slc.nil σ, Ext.refl _ _, (hf1.setCell (ZS.out 1 0) _).setCell (ZS.out 1 1) _, (hb01.setCell (by simp) _).setCell (by simp) _⟩
end Go.Proofs.Ytkjbaabkaboaoaa
