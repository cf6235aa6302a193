/-
  The program's Put, and the law TermPuts: its walk.
  Conditions: none.
-/
import Derived.Test.YtkjbaabkaboaoaaPut
namespace Go.Proofs.Ytkjbaabkaboaoaa
open Go Go.RowKit
set_option maxHeartbeats 1000000
set_option linter.unusedVariables false

/-- what A3 says: the term, what is wrong -/
def putR (t : Tm) (is : List Int) (x : Tm) : Tm × Int := if two t x = 0 then (if t.at_ is = none then (Tm.zero, 10) else (t.put is x, 0)) else (Tm.zero, two t x)
def Res (σ : Sto) (w : World) (r : Tm × Int) (e : Ending) (w' : World) : Prop :=
  ∃ σ' p l c, e = .returned (.tuple #[.agg #[.string r.1.name, .slice p l c], .int .i64 r.2]) ∧ r.1.name.size ≤ maxLen ∧ Slc σ' p l c r.1.args ∧ Ext w.heap.size σ σ' ∧ Fit σ' w' ∧ Below w.heap.size w w'
theorem two_size {t x : Tm} (h : two t x = 0) : t.size ≤ 200 ∧ x.size ≤ 200 := by
  have h1 := Tm.chk_range t
  have h2 := Tm.chk_range x
  unfold two at h
  split at h
  · rename_i h0
    unfold Tm.may at h0 h
    split at h0 <;> split at h <;> omega
  · omega

set_option maxRecDepth 100000 in
theorem put_any (t x : Tm) (is : List Int) (σ : Sto) (v u : Value) (q : Option Addr) (l c : Nat) (w : World) (hs : Fit σ w) (ht : TmV σ v t) (hx : TmV σ u x) (hq : Slc σ q l c is) :
    Calls Try.prog 19 #[v, .slice q l c, u] w (Res σ w (putR t is x)) := by
  obtain ⟨p, len, cap, rfl, hn, hsl⟩ := ht
  obtain ⟨p', len', cap', rfl, hn', hsl'⟩ := hx
  have T0 := ((Blk.new w 25 #[.string t.name, .slice p len cap]).alloc (.cells #[.string x.name, .slice p' len' cap'] 25)).alloc (.cells #[.string ⟨#[]⟩, .slice none 0 0] 25)
  have X0 := (Blk.new (w.alloc (.cells #[.string t.name, .slice p len cap] 25)) 25 #[.string x.name, .slice p' len' cap']).alloc (.cells #[.string ⟨#[]⟩, .slice none 0 0] 25)
  have R0 := Blk.new ((w.alloc (.cells #[.string t.name, .slice p len cap] 25)).alloc (.cells #[.string x.name, .slice p' len' cap'] 25)) 25 #[.string ⟨#[]⟩, .slice none 0 0]
  simp only [World.size_alloc] at X0 R0
  have hf0 := ((hs.alloc (.cells #[.string t.name, .slice p len cap] 25)).alloc (.cells #[.string x.name, .slice p' len' cap'] 25)).alloc (.cells #[.string ⟨#[]⟩, .slice none 0 0] 25)
  have hb0 : Below w.heap.size w (((w.alloc (.cells #[.string t.name, .slice p len cap] 25)).alloc (.cells #[.string x.name, .slice p' len' cap'] 25)).alloc (.cells #[.string ⟨#[]⟩, .slice none 0 0] 25)) := (((Below.refl _ _).alloc (Nat.le_refl _) _).alloc (by simp) _).alloc (by simp; omega) _
  have zs : ∀ j z, σ ⟨w.heap.size + j, z, none⟩ = none := fun j z => hs.no (by simp)
  have ZS := Lib.hid zs; clear zs
  go_enter Try.func19, Try.ntmps19
  go_wp2_with fail
  refine (check_any t σ _ _ hf0 ⟨_, _, _, rfl, hn, hsl⟩).mono ?_
  rintro e w1 ⟨rfl, hb1⟩
  have T1 := T0.call hb1
  have X1 := X0.call hb1
  have R1 := R0.call hb1
  have hf1 := hf0.below hb1
  have hb01 := hb0.trans (hb1.mono (by simp; omega))
  have t0 : w1.cell? ⟨w.heap.size, 0, none⟩ = some (.string t.name) := T1.cell 0
  have t1 : w1.cell? ⟨w.heap.size, 1, none⟩ = some (.slice p len cap) := T1.cell 1
  have x0 : w1.cell? ⟨w.heap.size + 1, 0, none⟩ = some (.string x.name) := X1.cell 0
  have x1 : w1.cell? ⟨w.heap.size + 1, 1, none⟩ = some (.slice p' len' cap') := X1.cell 1
  have r0 : w1.cell? ⟨w.heap.size + 1 + 1, 0, none⟩ = some (.string ⟨#[]⟩) := R1.cell 0
  have r1 : w1.cell? ⟨w.heap.size + 1 + 1, 1, none⟩ = some (.slice none 0 0) := R1.cell 1
  have r2 : w1.frozen? ⟨w.heap.size + 1 + 1, 0, none⟩ = false := R1.frozen 0
  have r3 : w1.frozen? ⟨w.heap.size + 1 + 1, 1, none⟩ = false := R1.frozen 1
  clear hb1
  by_cases hmt : t.may = 0
  · have HM := Lib.hid hmt
    rw [hmt]
    clear hmt
    go_wp2_with fail
    refine (check_any x σ _ _ hf1 ⟨_, _, _, rfl, hn', hsl'⟩).mono ?_
    rintro e w2 ⟨rfl, hb2⟩
    have T2 := T1.call hb2
    have X2 := X1.call hb2
    have R2 := R1.call hb2
    have hf2 := hf1.below hb2
    have hb02 := below_call hb01 hb01.size hb2
    clear t0 t1 x0 x1 r0 r1 r2 r3 hf1 hb01 T1 X1 R1
    have t0 : w2.cell? ⟨w.heap.size, 0, none⟩ = some (.string t.name) := T2.cell 0
    have t1 : w2.cell? ⟨w.heap.size, 1, none⟩ = some (.slice p len cap) := T2.cell 1
    have x0 : w2.cell? ⟨w.heap.size + 1, 0, none⟩ = some (.string x.name) := X2.cell 0
    have x1 : w2.cell? ⟨w.heap.size + 1, 1, none⟩ = some (.slice p' len' cap') := X2.cell 1
    have r0 : w2.cell? ⟨w.heap.size + 1 + 1, 0, none⟩ = some (.string ⟨#[]⟩) := R2.cell 0
    have r1 : w2.cell? ⟨w.heap.size + 1 + 1, 1, none⟩ = some (.slice none 0 0) := R2.cell 1
    have r2 : w2.frozen? ⟨w.heap.size + 1 + 1, 0, none⟩ = false := R2.frozen 0
    have r3 : w2.frozen? ⟨w.heap.size + 1 + 1, 1, none⟩ = false := R2.frozen 1
    clear hb2
    by_cases hmx : x.may = 0
    · have HX := Lib.hid hmx
      have HTW : Hid (two t x = 0) := by show _ = _; unfold two; rw [if_pos HM.out, hmx]
      have hz := two_size HTW.out
      rw [hmx]
      clear hmx
      go_wp2_with fail
      refine (below_any t is σ _ _ _ _ _ hf2 ⟨_, _, _, rfl, hn, hsl⟩ hq).mono ?_
      intro e w3 h3
      rcases hat : t.at_ is with _ | y
      · rw [hat] at h3
        obtain ⟨rfl, hb3⟩ := h3
        have HA := Lib.hid hat; clear hat
        have R3 := R2.call hb3
        have hf3 := hf2.below hb3
        have hb03 := below_call hb02 hb02.size hb3
        have hs3 : w.heap.size + 3 ≤ w3.heap.size := by have := R3.lt; omega
        clear t0 t1 x0 x1 r0 r1 r2 r3
        have R3' := R3.alloc (.cells #[.string ⟨#[]⟩, .slice none 0 0] 25)
        have r0 : (w3.alloc (.cells #[.string ⟨#[]⟩, .slice none 0 0] 25)).cell? ⟨w.heap.size + 1 + 1, 0, none⟩ = some (.string ⟨#[]⟩) := R3'.cell 0
        have r1 : (w3.alloc (.cells #[.string ⟨#[]⟩, .slice none 0 0] 25)).cell? ⟨w.heap.size + 1 + 1, 1, none⟩ = some (.slice none 0 0) := R3'.cell 1
        have r2 : (w3.alloc (.cells #[.string ⟨#[]⟩, .slice none 0 0] 25)).frozen? ⟨w.heap.size + 1 + 1, 0, none⟩ = false := R3'.frozen 0
        have r3 : (w3.alloc (.cells #[.string ⟨#[]⟩, .slice none 0 0] 25)).frozen? ⟨w.heap.size + 1 + 1, 1, none⟩ = false := R3'.frozen 1
        go_wp2_with fail
        have HP : putR t is x = (Tm.zero, 10) := by unfold putR; rw [if_pos HTW.out, if_pos HA.out]
        rw [HP]
        have Rb := (((R3.alloc (.cells #[.string ⟨#[]⟩, .slice none 0 0] 25)).put 0 (.string ⟨#[]⟩)).put 1 (.slice none 0 0))
        have k0 := Rb.cell 0
        have k1 := Rb.cell 1
        exact bodyPost_ret (v := .tuple #[.agg #[.string ⟨#[]⟩, .slice none 0 0], .int .i64 10]) (by simp [results, Try.results19, go_sem, k0, k1]) rfl
          ⟨σ, none, 0, 0, rfl, by simp [Tm.zero, Tm.name, ByteArray.size], Slc.nil σ, Ext.refl _ _, ((hf3.alloc _).setCell (ZS.out 2 0) _).setCell (ZS.out 2 1) _, ((hb03.alloc (by omega) _).setCell (by simp; omega) _).setCell (by simp; omega) _⟩
      · rw [hat] at h3
        obtain ⟨py, ly, cy, rfl, hny, hsly, hb3⟩ := h3
        have HA : Hid (t.at_ is ≠ none) := by show _ ≠ _; rw [hat]; simp
        clear hat
        have T3 := T2.call hb3
        have X3 := X2.call hb3
        have R3 := R2.call hb3
        have hf3 := hf2.below hb3
        have hb03 := below_call hb02 hb02.size hb3
        have hs3 : w.heap.size + 3 ≤ w3.heap.size := by have := R3.lt; omega
        clear t0 t1 x0 x1 r0 r1 r2 r3
        have T3' := T3.alloc (.cells #[.string y.name, .slice py ly cy] 25)
        have X3' := X3.alloc (.cells #[.string y.name, .slice py ly cy] 25)
        have t0 : (w3.alloc (.cells #[.string y.name, .slice py ly cy] 25)).cell? ⟨w.heap.size, 0, none⟩ = some (.string t.name) := T3'.cell 0
        have t1 : (w3.alloc (.cells #[.string y.name, .slice py ly cy] 25)).cell? ⟨w.heap.size, 1, none⟩ = some (.slice p len cap) := T3'.cell 1
        have x0 : (w3.alloc (.cells #[.string y.name, .slice py ly cy] 25)).cell? ⟨w.heap.size + 1, 0, none⟩ = some (.string x.name) := X3'.cell 0
        have x1 : (w3.alloc (.cells #[.string y.name, .slice py ly cy] 25)).cell? ⟨w.heap.size + 1, 1, none⟩ = some (.slice p' len' cap') := X3'.cell 1
        go_wp2_with fail
        refine (with_any is t x σ _ _ _ _ _ _ (hf3.alloc _) ⟨_, _, _, rfl, hn, hsl⟩ ⟨_, _, _, rfl, hn', hsl'⟩ hq HA.out (by omega) (by omega)).mono ?_
        rintro e w4 ⟨σ4, p4, l4, c4, rfl, hn4, hsl4, hext4, hf4, hb4⟩
        have R4 := (R3.alloc (.cells #[.string y.name, .slice py ly cy] 25)).call hb4
        have hb04 := below_alloc_call hb03 (by omega) hb4
        clear t0 t1 x0 x1
        have r0 : w4.cell? ⟨w.heap.size + 1 + 1, 0, none⟩ = some (.string ⟨#[]⟩) := R4.cell 0
        have r1 : w4.cell? ⟨w.heap.size + 1 + 1, 1, none⟩ = some (.slice none 0 0) := R4.cell 1
        have r2 : w4.frozen? ⟨w.heap.size + 1 + 1, 0, none⟩ = false := R4.frozen 0
        have r3 : w4.frozen? ⟨w.heap.size + 1 + 1, 1, none⟩ = false := R4.frozen 1
        go_wp2_with fail
        have HP : putR t is x = (t.put is x, 0) := by unfold putR; rw [if_pos HTW.out, if_neg HA.out]
        rw [HP]
        have Rb := (R4.put 0 (.string (t.put is x).name)).put 1 (.slice p4 l4 c4)
        have k0 := Rb.cell 0
        have k1 := Rb.cell 1
        have z0 : ∀ z, σ4 ⟨w.heap.size + 1 + 1, z, none⟩ = none := fun z => by rw [hext4.old _ (by simp; omega)]; exact ZS.out 2 z
        exact bodyPost_ret (v := .tuple #[.agg #[.string (t.put is x).name, .slice p4 l4 c4], .int .i64 0]) (by simp [results, Try.results19, go_sem, k0, k1]) rfl
          ⟨σ4, p4, l4, c4, rfl, hn4, hsl4, hext4.mono (by simp; omega), (hf4.setCell (z0 0) _).setCell (z0 1) _, (hb04.setCell (by simp; omega) _).setCell (by simp; omega) _⟩
    · have hne := ne_true hmx
      have HX := Lib.hid hmx
      clear hmx
      go_wp2_with fail
      have HP : putR t is x = (Tm.zero, x.may) := by
        have h1 : two t x = x.may := by unfold two; rw [if_pos HM.out]
        unfold putR
        rw [h1, if_neg HX.out]
      rw [HP]
      have Rb := (R2.put 0 (.string ⟨#[]⟩)).put 1 (.slice none 0 0)
      have k0 := Rb.cell 0
      have k1 := Rb.cell 1
      exact bodyPost_ret (v := .tuple #[.agg #[.string ⟨#[]⟩, .slice none 0 0], .int .i64 x.may]) (by simp [results, Try.results19, go_sem, k0, k1]) rfl
        ⟨σ, none, 0, 0, rfl, by simp [Tm.zero, Tm.name, ByteArray.size], Slc.nil σ, Ext.refl _ _, (hf2.setCell (ZS.out 2 0) _).setCell (ZS.out 2 1) _, (hb02.setCell (by simp; omega) _).setCell (by simp; omega) _⟩
  · have hne := ne_true hmt
    have hne' := eq_false' hmt
    have HM := Lib.hid hmt
    clear hmt
    go_wp2_with fail
    have HP : putR t is x = (Tm.zero, t.may) := by
      have h1 : two t x = t.may := by unfold two; rw [if_neg HM.out]
      unfold putR
      rw [h1, if_neg HM.out]
    rw [HP]
    have Rb := (R1.put 0 (.string ⟨#[]⟩)).put 1 (.slice none 0 0)
    have k0 := Rb.cell 0
    have k1 := Rb.cell 1
    exact bodyPost_ret (v := .tuple #[.agg #[.string ⟨#[]⟩, .slice none 0 0], .int .i64 t.may]) (by simp [results, Try.results19, go_sem, k0, k1]) rfl
      ⟨σ, none, 0, 0, rfl, by simp [Tm.zero, Tm.name, ByteArray.size], Slc.nil σ, Ext.refl _ _, (hf1.setCell (ZS.out 2 0) _).setCell (ZS.out 2 1) _, (hb01.setCell (by simp; omega) _).setCell (by simp; omega) _⟩

theorem zero_of {r : Tm × Int} {t x : Tm} {is : List Int} (h : r = putR t is x) (h0 : r.2 ≠ 0) : r.1 = Tm.zero := by
  subst h
  unfold putR at *
  split
  · rename_i h1
    rw [if_pos h1] at h0
    split
    · rfl
    · rename_i h2
      rw [if_neg h2] at h0
      exact absurd rfl h0
  · rfl

set_option maxRecDepth 100000 in
/-- The law: its walk. -/
theorem termPuts_walk (t x : Tm) (is : List Int) (σ : Sto) (v u : Value) (q : Option Addr) (l c : Nat) (w : World) (hs : Fit σ w) (ht : TmV σ v t) (hx : TmV σ u x) (hq : Slc σ q l c is) :
    Calls Try.prog 5 #[v, .slice q l c, u] w fun e w' => e = .returned (.bool true) ∧ Below w.heap.size w w' := by
  obtain ⟨p, len, cap, rfl, hn, hsl⟩ := ht
  obtain ⟨p', len', cap', rfl, hn', hsl'⟩ := hx
  have hqm := hq.max
  have T0 := (Blk.new w 25 #[.string t.name, .slice p len cap]).alloc (.cells #[.string x.name, .slice p' len' cap'] 25)
  have X0 := Blk.new (w.alloc (.cells #[.string t.name, .slice p len cap] 25)) 25 #[.string x.name, .slice p' len' cap']
  simp only [World.size_alloc] at X0
  have hf0 := (hs.alloc (.cells #[.string t.name, .slice p len cap] 25)).alloc (.cells #[.string x.name, .slice p' len' cap'] 25)
  have hb0 : Below w.heap.size w ((w.alloc (.cells #[.string t.name, .slice p len cap] 25)).alloc (.cells #[.string x.name, .slice p' len' cap'] 25)) := ((Below.refl _ _).alloc (Nat.le_refl _) _).alloc (by simp) _
  by_cases h1 : 3000 < t.size
  · have HD : Hid (decide (3000 < t.size) = true) := by show _ = _; simpa using h1
    clear h1
    go_enter Try.func5, Try.ntmps5
    go_wp2_with fail
    refine (huge_any t σ _ _ hf0 ⟨_, _, _, rfl, hn, hsl⟩).mono ?_
    rintro e w1 ⟨rfl, hb1⟩
    rw [HD.out]
    go_wp2_with fail
    go_ret
    exact ⟨rfl, hb0.trans (hb1.mono (by simp; omega))⟩
  have HD : Hid (decide (3000 < t.size) = false) := by show _ = _; simpa using h1
  by_cases h2 : 3000 < x.size
  · have HE : Hid (decide (3000 < x.size) = true) := by show _ = _; simpa using h2
    clear h1 h2
    go_enter Try.func5, Try.ntmps5
    go_wp2_with fail
    refine (huge_any t σ _ _ hf0 ⟨_, _, _, rfl, hn, hsl⟩).mono ?_
    rintro e w1 ⟨rfl, hb1⟩
    rw [HD.out]
    have X1 := X0.call hb1
    have x0 : (w1).cell? ⟨w.heap.size + 1, 0, none⟩ = some (.string x.name) := (X1).cell 0
    have x1 : (w1).cell? ⟨w.heap.size + 1, 1, none⟩ = some (.slice p' len' cap') := (X1).cell 1
    have hb01 := hb0.trans (hb1.mono (by simp; omega))
    go_wp2_with fail
    refine (huge_any x σ _ _ (hf0.below hb1) ⟨_, _, _, rfl, hn', hsl'⟩).mono ?_
    rintro e w2 ⟨rfl, hb2⟩
    rw [HE.out]
    go_wp2_with fail
    go_ret
    exact ⟨rfl, below_call hb01 hb01.size hb2⟩
  have HE : Hid (decide (3000 < x.size) = false) := by show _ = _; simpa using h2
  clear h1 h2
  go_enter Try.func5, Try.ntmps5
  go_wp2_with fail
  refine (huge_any t σ _ _ hf0 ⟨_, _, _, rfl, hn, hsl⟩).mono ?_
  rintro e w1 ⟨rfl, hb1⟩
  rw [HD.out]
  have T1 := T0.call hb1
  have X1 := X0.call hb1
  have hf1 := hf0.below hb1
  have hb01 := hb0.trans (hb1.mono (by simp; omega))
  have x0 : (w1).cell? ⟨w.heap.size + 1, 0, none⟩ = some (.string x.name) := (X1).cell 0
  have x1 : (w1).cell? ⟨w.heap.size + 1, 1, none⟩ = some (.slice p' len' cap') := (X1).cell 1
  go_wp2_with fail
  refine (huge_any x σ _ _ hf1 ⟨_, _, _, rfl, hn', hsl'⟩).mono ?_
  rintro e w2 ⟨rfl, hb2⟩
  rw [HE.out]
  have T2 := T1.call hb2
  have X2 := X1.call hb2
  have hf2 := hf1.below hb2
  have hb02 := below_call hb01 hb01.size hb2
  clear x0 x1 hf1 hb01 hb1 hb2 T1 X1
  by_cases h3 : (100 : Int) < (l : Int)
  · go_wp2_with fail
    go_ret
    exact ⟨rfl, hb02⟩
  have h4 : (l : Int) ≤ 100 := by omega
  clear h3
  have t0 : (w2).cell? ⟨w.heap.size, 0, none⟩ = some (.string t.name) := (T2).cell 0
  have t1 : (w2).cell? ⟨w.heap.size, 1, none⟩ = some (.slice p len cap) := (T2).cell 1
  have x0 : (w2).cell? ⟨w.heap.size + 1, 0, none⟩ = some (.string x.name) := (X2).cell 0
  have x1 : (w2).cell? ⟨w.heap.size + 1, 1, none⟩ = some (.slice p' len' cap') := (X2).cell 1
  go_wp2_with fail
  refine (two_ref t x σ _ _ _ hf2 ⟨_, _, _, rfl, hn, hsl⟩ ⟨_, _, _, rfl, hn', hsl'⟩).mono ?_
  rintro e w3 ⟨rfl, hb3⟩
  have T3 := T2.call hb3
  have X3 := X2.call hb3
  have hf3 := hf2.below hb3
  have hb03 := below_call hb02 hb02.size hb3
  have hsz3 : w.heap.size + 2 ≤ w3.heap.size := by have := X3.lt; omega
  clear t0 t1 x0 x1 hf2 hb02 hb3 T2 X2
  by_cases htw : two t x = 0
  · have HTW := Lib.hid htw
    have hz := two_size htw
    rw [htw]
    clear htw
    have T3' := T3.alloc (.cells #[.string ⟨#[]⟩, .slice none 0 0] 25)
    have X3' := X3.alloc (.cells #[.string ⟨#[]⟩, .slice none 0 0] 25)
    have t0 : (w3.alloc (.cells #[.string ⟨#[]⟩, .slice none 0 0] 25)).cell? ⟨w.heap.size, 0, none⟩ = some (.string t.name) := (T3').cell 0
    have t1 : (w3.alloc (.cells #[.string ⟨#[]⟩, .slice none 0 0] 25)).cell? ⟨w.heap.size, 1, none⟩ = some (.slice p len cap) := (T3').cell 1
    go_wp2_with fail
    refine (atOf_ref is t σ _ _ _ _ _ (hf3.alloc _) ⟨_, _, _, rfl, hn, hsl⟩ hq).mono ?_
    intro e w4 h4'
    have hV4 : Blk (w3.alloc (.cells #[.string ⟨#[]⟩, .slice none 0 0] 25)) w3.heap.size 25 #[.string ⟨#[]⟩, .slice none 0 0] := Blk.new _ _ _
    rcases hat : t.at_ is with _ | y
    · rw [hat] at h4'
      obtain ⟨rfl, hb4⟩ := h4'
      have HP : Hid (putR t is x = (Tm.zero, 10)) := by show _ = _; unfold putR; rw [if_pos HTW.out, if_pos hat]
      clear hat
      have T4 := (T3'.call hb4).alloc (.cells #[.string ⟨#[]⟩, .slice none 0 0] 25)
      have X4 := (X3'.call hb4).alloc (.cells #[.string ⟨#[]⟩, .slice none 0 0] 25)
      have V4 := (hV4.call hb4).alloc (.cells #[.string ⟨#[]⟩, .slice none 0 0] 25)
      have hf4 := ((hf3.alloc _).below hb4).alloc (.cells #[.string ⟨#[]⟩, .slice none 0 0] 25)
      have hb04 := (below_alloc_call hb03 (by omega) hb4)
      have hb04' := hb04.alloc hb04.size (.cells #[.string ⟨#[]⟩, .slice none 0 0] 25)
      have hsz4 : w3.heap.size + 1 ≤ w4.heap.size := by have := hb4.size; simpa using this
      clear t0 t1
      have t0 : (w4.alloc (.cells #[.string ⟨#[]⟩, .slice none 0 0] 25)).cell? ⟨w.heap.size, 0, none⟩ = some (.string t.name) := (T4).cell 0
      have t1 : (w4.alloc (.cells #[.string ⟨#[]⟩, .slice none 0 0] 25)).cell? ⟨w.heap.size, 1, none⟩ = some (.slice p len cap) := (T4).cell 1
      have x0 : (w4.alloc (.cells #[.string ⟨#[]⟩, .slice none 0 0] 25)).cell? ⟨w.heap.size + 1, 0, none⟩ = some (.string x.name) := (X4).cell 0
      have x1 : (w4.alloc (.cells #[.string ⟨#[]⟩, .slice none 0 0] 25)).cell? ⟨w.heap.size + 1, 1, none⟩ = some (.slice p' len' cap') := (X4).cell 1
      go_wp2_with fail

      refine (put_any t x is σ _ _ _ _ _ _ hf4 ⟨_, _, _, rfl, hn, hsl.ext (Ext.refl 0 _)⟩ ⟨_, _, _, rfl, hn', hsl'.ext (Ext.refl 0 _)⟩ (hq.ext (Ext.refl 0 _))).mono ?_
      rintro e w7 ⟨σ7, p7, l7, c7, rfl, hn7, hsl7, hext7, hf7, hb7⟩
      have V7 := (V4.call hb7).alloc (.cells #[.string (putR t is x).1.name, .slice p7 l7 c7] 25)
      have hbel7 := hb04'.trans (hb7.mono (by first | omega | (simp; omega)))
      have hw7 : w.heap.size ≤ w7.heap.size := hbel7.size
      clear t0 t1 x0 x1
      have v0 : (w7.alloc (.cells #[.string (putR t is x).1.name, .slice p7 l7 c7] 25)).cell? ⟨w3.heap.size, 0, none⟩ = some (.string ⟨#[]⟩) := V7.cell 0
      have v1 : (w7.alloc (.cells #[.string (putR t is x).1.name, .slice p7 l7 c7] 25)).cell? ⟨w3.heap.size, 1, none⟩ = some (.slice none 0 0) := V7.cell 1
      go_wp2_with fail
      have hvr : TmV σ7 (.agg #[.string ⟨#[]⟩, .slice none 0 0]) (putR t is x).1 := (by rw [HP.out]; exact zero_slc σ7)
      have HE : Hid ((putR t is x).2 = 10) := by show _ = _; rw [HP.out]
      rw [HE.out]
      refine (term2_same (putR t is x).1 _ σ7 _ _ _ (hf7.alloc _) ⟨_, _, _, rfl, hn7, hsl7⟩ hvr (fun h => zero_of rfl (by rw [HE.out]; exact h))).mono ?_
      rintro e w8 ⟨rfl, hb8⟩
      go_wp2_with fail
      go_ret
      exact ⟨rfl, below_alloc_call hbel7 hw7 hb8⟩
    · rw [hat] at h4'
      obtain ⟨py, ly, cy, rfl, hny, hsly, hb4⟩ := h4'
      have HA : Hid (t.at_ is ≠ none) := by show _ ≠ _; rw [hat]; simp
      have HP : Hid (putR t is x = (t.put is x, 0)) := by show _ = _; unfold putR; rw [if_pos HTW.out, if_neg HA.out]
      clear hat
      have T4 := (T3'.call hb4).alloc (.cells #[.string y.name, .slice py ly cy] 25)
      have X4 := (X3'.call hb4).alloc (.cells #[.string y.name, .slice py ly cy] 25)
      have V4 := (hV4.call hb4).alloc (.cells #[.string y.name, .slice py ly cy] 25)
      have hf4 := ((hf3.alloc _).below hb4).alloc (.cells #[.string y.name, .slice py ly cy] 25)
      have hb04 := (below_alloc_call hb03 (by omega) hb4)
      have hb04' := hb04.alloc hb04.size (.cells #[.string y.name, .slice py ly cy] 25)
      have hsz4 : w3.heap.size + 1 ≤ w4.heap.size := by have := hb4.size; simpa using this
      clear t0 t1
      have t0 : (w4.alloc (.cells #[.string y.name, .slice py ly cy] 25)).cell? ⟨w.heap.size, 0, none⟩ = some (.string t.name) := (T4).cell 0
      have t1 : (w4.alloc (.cells #[.string y.name, .slice py ly cy] 25)).cell? ⟨w.heap.size, 1, none⟩ = some (.slice p len cap) := (T4).cell 1
      have x0 : (w4.alloc (.cells #[.string y.name, .slice py ly cy] 25)).cell? ⟨w.heap.size + 1, 0, none⟩ = some (.string x.name) := (X4).cell 0
      have x1 : (w4.alloc (.cells #[.string y.name, .slice py ly cy] 25)).cell? ⟨w.heap.size + 1, 1, none⟩ = some (.slice p' len' cap') := (X4).cell 1
      go_wp2_with fail
      refine (putOf_ref is t x σ _ _ _ _ _ _ hf4 ⟨_, _, _, rfl, hn, hsl⟩ ⟨_, _, _, rfl, hn', hsl'⟩ hq HA.out (by omega)).mono ?_
      rintro e w5 ⟨σ5, p5, l5, c5, rfl, hn5, hsl5, hext5, hf5, hb5⟩
      have T5 := T4.call hb5
      have X5 := X4.call hb5
      have V5 := V4.call hb5
      have hb05 := hb04'.trans (hb5.mono (by simp; omega))
      have hsz5 : w3.heap.size + 1 ≤ w5.heap.size := by have := V5.lt; omega
      clear t0 t1 x0 x1
      have t0 : (w5).cell? ⟨w.heap.size, 0, none⟩ = some (.string t.name) := (T5).cell 0
      have t1 : (w5).cell? ⟨w.heap.size, 1, none⟩ = some (.slice p len cap) := (T5).cell 1
      have x0 : (w5).cell? ⟨w.heap.size + 1, 0, none⟩ = some (.string x.name) := (X5).cell 0
      have x1 : (w5).cell? ⟨w.heap.size + 1, 1, none⟩ = some (.slice p' len' cap') := (X5).cell 1
      have v0 : (w5).cell? ⟨w3.heap.size, 0, none⟩ = some (.string ⟨#[]⟩) := (V5).cell 0
      have v1 : (w5).cell? ⟨w3.heap.size, 1, none⟩ = some (.slice none 0 0) := (V5).cell 1
      have v2 : (w5).frozen? ⟨w3.heap.size, 0, none⟩ = false := (V5).frozen 0
      have v3 : (w5).frozen? ⟨w3.heap.size, 1, none⟩ = false := (V5).frozen 1
      go_wp2_with fail
      obtain ⟨w6, hw6⟩ : ∃ w6, w6 = (w5.setCell ⟨w3.heap.size, 0, none⟩ (.string (t.put is x).name)).setCell ⟨w3.heap.size, 1, none⟩ (.slice p5 l5 c5) := ⟨_, rfl⟩
      rw [← hw6]
      have z5 : ∀ z, σ5 ⟨w3.heap.size, z, none⟩ = none := fun z => by rw [hext5.old _ (by simp; omega)]; exact hf3.no (by simp)
      have T6 : Blk w6 w.heap.size 25 #[.string t.name, .slice p len cap] := by rw [hw6]; exact (T5.far (by simp; omega) _).far (by simp; omega) _
      have X6 : Blk w6 (w.heap.size + 1) 25 #[.string x.name, .slice p' len' cap'] := by rw [hw6]; exact (X5.far (by simp; omega) _).far (by simp; omega) _
      have V6 : Blk w6 w3.heap.size 25 #[.string (t.put is x).name, .slice p5 l5 c5] := by rw [hw6]; exact (V5.put 0 _).put 1 _
      have hf6 : Fit σ5 w6 := by rw [hw6]; exact (hf5.setCell (z5 0) _).setCell (z5 1) _
      have hb06 : Below w.heap.size w w6 := by rw [hw6]; exact (hb05.setCell (by simp; omega) _).setCell (by simp; omega) _
      have hsz6 : w3.heap.size + 1 ≤ w6.heap.size := by have := V6.lt; omega
      clear hw6 v0 v1 v2 v3 T5 X5 V5 hf5 hb05 hb5
      refine (put_any t x is σ5 _ _ _ _ _ _ hf6 ⟨_, _, _, rfl, hn, hsl.ext hext5⟩ ⟨_, _, _, rfl, hn', hsl'.ext hext5⟩ (hq.ext hext5)).mono ?_
      rintro e w7 ⟨σ7, p7, l7, c7, rfl, hn7, hsl7, hext7, hf7, hb7⟩
      have V7 := (V6.call hb7).alloc (.cells #[.string (putR t is x).1.name, .slice p7 l7 c7] 25)
      have hbel7 := hb06.trans (hb7.mono (by first | omega | (simp; omega)))
      have hw7 : w.heap.size ≤ w7.heap.size := hbel7.size
      clear t0 t1 x0 x1
      have v0 : (w7.alloc (.cells #[.string (putR t is x).1.name, .slice p7 l7 c7] 25)).cell? ⟨w3.heap.size, 0, none⟩ = some (.string (t.put is x).name) := V7.cell 0
      have v1 : (w7.alloc (.cells #[.string (putR t is x).1.name, .slice p7 l7 c7] 25)).cell? ⟨w3.heap.size, 1, none⟩ = some (.slice p5 l5 c5) := V7.cell 1
      go_wp2_with fail
      have hvr : TmV σ7 (.agg #[.string (t.put is x).name, .slice p5 l5 c5]) (putR t is x).1 := (by rw [HP.out]; exact ⟨p5, l5, c5, rfl, hn5, hsl5.ext hext7⟩)
      have HE : Hid ((putR t is x).2 = 0) := by show _ = _; rw [HP.out]
      rw [HE.out]
      refine (term2_same (putR t is x).1 _ σ7 _ _ _ (hf7.alloc _) ⟨_, _, _, rfl, hn7, hsl7⟩ hvr (fun h => zero_of rfl (by rw [HE.out]; exact h))).mono ?_
      rintro e w8 ⟨rfl, hb8⟩
      go_wp2_with fail
      go_ret
      exact ⟨rfl, below_alloc_call hbel7 hw7 hb8⟩
  · have hf := eq_false' htw
    have HTW := Lib.hid htw
    have HP : Hid (putR t is x = (Tm.zero, two t x)) := by show _ = _; unfold putR; rw [if_neg htw]
    clear htw
    have T3' := T3.alloc (.cells #[.string ⟨#[]⟩, .slice none 0 0] 25)
    have X3' := X3.alloc (.cells #[.string ⟨#[]⟩, .slice none 0 0] 25)
    have hV4 : Blk (w3.alloc (.cells #[.string ⟨#[]⟩, .slice none 0 0] 25)) w3.heap.size 25 #[.string ⟨#[]⟩, .slice none 0 0] := Blk.new _ _ _
    have hf4 := hf3.alloc (.cells #[.string ⟨#[]⟩, .slice none 0 0] 25)
    have hb04' := hb03.alloc hb03.size (.cells #[.string ⟨#[]⟩, .slice none 0 0] 25)
    have t0 : (w3.alloc (.cells #[.string ⟨#[]⟩, .slice none 0 0] 25)).cell? ⟨w.heap.size, 0, none⟩ = some (.string t.name) := (T3').cell 0
    have t1 : (w3.alloc (.cells #[.string ⟨#[]⟩, .slice none 0 0] 25)).cell? ⟨w.heap.size, 1, none⟩ = some (.slice p len cap) := (T3').cell 1
    have x0 : (w3.alloc (.cells #[.string ⟨#[]⟩, .slice none 0 0] 25)).cell? ⟨w.heap.size + 1, 0, none⟩ = some (.string x.name) := (X3').cell 0
    have x1 : (w3.alloc (.cells #[.string ⟨#[]⟩, .slice none 0 0] 25)).cell? ⟨w.heap.size + 1, 1, none⟩ = some (.slice p' len' cap') := (X3').cell 1
    go_wp2_with fail

    refine (put_any t x is σ _ _ _ _ _ _ hf4 ⟨_, _, _, rfl, hn, hsl.ext (Ext.refl 0 _)⟩ ⟨_, _, _, rfl, hn', hsl'.ext (Ext.refl 0 _)⟩ (hq.ext (Ext.refl 0 _))).mono ?_
    rintro e w7 ⟨σ7, p7, l7, c7, rfl, hn7, hsl7, hext7, hf7, hb7⟩
    have V7 := (hV4.call hb7).alloc (.cells #[.string (putR t is x).1.name, .slice p7 l7 c7] 25)
    have hbel7 := hb04'.trans (hb7.mono (by first | omega | (simp; omega)))
    have hw7 : w.heap.size ≤ w7.heap.size := hbel7.size
    clear t0 t1 x0 x1
    have v0 : (w7.alloc (.cells #[.string (putR t is x).1.name, .slice p7 l7 c7] 25)).cell? ⟨w3.heap.size, 0, none⟩ = some (.string ⟨#[]⟩) := V7.cell 0
    have v1 : (w7.alloc (.cells #[.string (putR t is x).1.name, .slice p7 l7 c7] 25)).cell? ⟨w3.heap.size, 1, none⟩ = some (.slice none 0 0) := V7.cell 1
    go_wp2_with fail
    have hvr : TmV σ7 (.agg #[.string ⟨#[]⟩, .slice none 0 0]) (putR t is x).1 := (by rw [HP.out]; exact zero_slc σ7)
    have HE : Hid ((putR t is x).2 = two t x) := by show _ = _; rw [HP.out]
    rw [HE.out]
    refine (term2_same (putR t is x).1 _ σ7 _ _ _ (hf7.alloc _) ⟨_, _, _, rfl, hn7, hsl7⟩ hvr (fun h => zero_of rfl (by rw [HE.out]; exact h))).mono ?_
    rintro e w8 ⟨rfl, hb8⟩
    go_wp2_with fail
    go_ret
    exact ⟨rfl, below_alloc_call hbel7 hw7 hb8⟩
end Go.Proofs.Ytkjbaabkaboaoaa
