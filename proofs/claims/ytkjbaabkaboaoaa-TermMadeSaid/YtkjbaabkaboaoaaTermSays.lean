/-
  The law TermSays: its walk.
  Conditions: none.
-/
import Derived.Test.YtkjbaabkaboaoaaAt
namespace Go.Proofs.Ytkjbaabkaboaoaa
open Go Go.RowKit
set_option maxHeartbeats 4000000
set_option linter.unusedVariables false

set_option maxRecDepth 100000 in
theorem termSays_walk (t : Tm) (is : List Int) (σ : Sto) (v : Value) (q : Option Addr) (l c : Nat) (w : World) (hs : Fit σ w) (ht : TmV σ v t) (hq : Slc σ q l c is) :
    Calls Try.prog 8 #[v, .slice q l c] w fun e w' => e = .returned (.bool true) ∧ Below w.heap.size w w' := by
  obtain ⟨p, len, cap, rfl, hn, hsl⟩ := ht
  have hqm := hq.max
  have T0 := Blk.new w 25 #[.string t.name, .slice p len cap]
  have hf0 := hs.alloc (.cells #[.string t.name, .slice p len cap] 25)
  have hb0 : Below w.heap.size w (w.alloc (.cells #[.string t.name, .slice p len cap] 25)) := (Below.refl _ _).alloc (Nat.le_refl _) _
  by_cases h1 : 3000 < t.size
  · have HD : Hid (decide (3000 < t.size) = true) := by show _ = _; simpa using h1
    clear h1
    go_enter Try.func8, Try.ntmps8
    go_wp2_with fail
    refine (huge_any t σ _ _ hf0 ⟨_, _, _, rfl, hn, hsl⟩).mono ?_
    rintro e w1 ⟨rfl, hb1⟩
    rw [HD.out]
    go_wp2_with fail
    go_ret
    exact ⟨rfl, hb0.trans (hb1.mono (by simp))⟩
  have HD : Hid (decide (3000 < t.size) = false) := by show _ = _; simpa using h1
  clear h1
  go_enter Try.func8, Try.ntmps8
  go_wp2_with fail
  refine (huge_any t σ _ _ hf0 ⟨_, _, _, rfl, hn, hsl⟩).mono ?_
  rintro e w1 ⟨rfl, hb1⟩
  rw [HD.out]
  have T1 := T0.call hb1
  have hf1 := hf0.below hb1
  have hb01 := hb0.trans (hb1.mono (by simp))
  by_cases h3 : (100 : Int) < (l : Int)
  · go_wp2_with fail
    go_ret
    exact ⟨rfl, hb01⟩
  have h4 : (l : Int) ≤ 100 := by omega
  clear h3
  have t0 : (w1).cell? ⟨w.heap.size, 0, none⟩ = some (.string t.name) := (T1).cell 0
  have t1 : (w1).cell? ⟨w.heap.size, 1, none⟩ = some (.slice p len cap) := (T1).cell 1
  go_wp2_with fail
  refine (may_ref t σ _ _ hf1 ⟨_, _, _, rfl, hn, hsl⟩).mono ?_
  rintro e w2 ⟨rfl, hb2⟩
  have T2 := (T1.call hb2).alloc (.cells #[.string ⟨#[]⟩, .slice none 0 0] 25)
  have V2 : Blk (w2.alloc (.cells #[.string ⟨#[]⟩, .slice none 0 0] 25)) w2.heap.size 25 #[.string ⟨#[]⟩, .slice none 0 0] := Blk.new _ _ _
  have hf2 := hf1.below hb2
  have hf2' := hf2.alloc (.cells #[.string ⟨#[]⟩, .slice none 0 0] 25)
  have hb02 := below_call hb01 hb01.size hb2
  have hb02' := hb02.alloc hb02.size (.cells #[.string ⟨#[]⟩, .slice none 0 0] 25)
  have hsz2 : w.heap.size + 1 ≤ w2.heap.size := by have := (T1.call hb2).lt; omega
  clear t0 t1 hf1 hb01 hb1 hb2 T1
  by_cases hmt : t.may = 0
  · have HM := Lib.hid hmt
    have hz := may_size hmt
    have hzt := may_text hmt
    have HX : Hid ((if t.may = 0 then t.text else ⟨#[]⟩) = t.text) := Lib.hid (if_pos hmt)
    have HN : Hid ((if t.may = 0 then t.varsOf else []) = t.varsOf) := Lib.hid (if_pos hmt)
    have HPL : Hid ((if t.may = 0 then t.places else []) = t.places) := Lib.hid (if_pos hmt)
    have HE : Hid (t.may = 0) := Lib.hid hmt
    rw [hmt]
    clear hmt
    have t0 : (w2.alloc (.cells #[.string ⟨#[]⟩, .slice none 0 0] 25)).cell? ⟨w.heap.size, 0, none⟩ = some (.string t.name) := (T2).cell 0
    have t1 : (w2.alloc (.cells #[.string ⟨#[]⟩, .slice none 0 0] 25)).cell? ⟨w.heap.size, 1, none⟩ = some (.slice p len cap) := (T2).cell 1
    go_wp2_with fail
    refine (show_ref _ t (Nat.lt_succ_self _) σ _ _ hf2' ⟨_, _, _, rfl, hn, hsl⟩ (by omega)).mono ?_
    rintro e w3 ⟨rfl, hb3⟩
    have T3 := T2.call hb3
    have V3 := V2.call hb3
    have hf3 := hf2'.below hb3
    have hb03 := below_call hb02' hb02'.size hb3
    clear t0 t1
    have t0 : (w3).cell? ⟨w.heap.size, 0, none⟩ = some (.string t.name) := (T3).cell 0
    have t1 : (w3).cell? ⟨w.heap.size, 1, none⟩ = some (.slice p len cap) := (T3).cell 1
    go_wp2_with fail
    refine (vars_ref t σ _ _ hf3 ⟨_, _, _, rfl, hn, hsl⟩ (by omega)).mono ?_
    rintro e w4 ⟨σ4, pN, lN, cN, rfl, hslN, hext4, hf4, hb4⟩
    have T4 := T3.call hb4
    have V4 := V3.call hb4
    have hb04 := below_call hb03 hb03.size hb4
    have hsl4 := hsl.ext hext4
    clear t0 t1
    have t0 : (w4).cell? ⟨w.heap.size, 0, none⟩ = some (.string t.name) := (T4).cell 0
    have t1 : (w4).cell? ⟨w.heap.size, 1, none⟩ = some (.slice p len cap) := (T4).cell 1
    go_wp2_with fail
    refine (places_ref _ t (Nat.lt_succ_self _) σ4 _ _ hf4 ⟨_, _, _, rfl, hn, hsl4⟩ (by omega)).mono ?_
    rintro e w5 ⟨σ5, pP, lP, cP, rfl, hP, hext5, hf5, hb5⟩
    have T5 := T4.call hb5
    have V5 := V4.call hb5
    have hb05 := below_call hb04 hb04.size hb5
    have hsl0 := hsl4.ext hext5
    have hN := hslN.ext hext5
    have hq0 := (hq.ext hext4).ext hext5
    have hsz5 : w2.heap.size + 1 ≤ w5.heap.size := by have := V5.lt; omega
    have hx5 : ∀ z, σ5 ⟨w2.heap.size, z, none⟩ = none := fun z => by
      have h3 : w2.heap.size + 1 ≤ w3.heap.size := by have := V3.lt; omega
      have h4 : w2.heap.size + 1 ≤ w4.heap.size := by have := V4.lt; omega
      rw [hext5.old _ (by simp; omega), hext4.old _ (by simp; omega)]
      exact hf2.no (by simp)
    have HX5 := Lib.hid hx5; clear hx5
    clear t0 t1 hf3 hf4 hb3 hb4 hb5 T2 T3 T4 V2 V3 V4 hb03 hb04 hb02 hb02' hf2 hf2' hslN hsl4
    have t0 : (w5).cell? ⟨w.heap.size, 0, none⟩ = some (.string t.name) := (T5).cell 0
    have t1 : (w5).cell? ⟨w.heap.size, 1, none⟩ = some (.slice p len cap) := (T5).cell 1
    go_wp2_with fail
    refine (atOf_ref is t σ5 _ _ _ _ _ hf5 ⟨_, _, _, rfl, hn, hsl0⟩ hq0).mono ?_
    intro e w6 h6
    rcases hat : t.at_ is with _ | y
    · rw [hat] at h6
      obtain ⟨rfl, hb6⟩ := h6
      have HR : Hid (atR t is = (Tm.zero, 10)) := Lib.hid (atR_none HM.out hat)
      clear hat
      have T6 := (T5.call hb6).alloc (.cells #[.string ⟨#[]⟩, .slice none 0 0] 25)
      have V6 := (V5.call hb6).alloc (.cells #[.string ⟨#[]⟩, .slice none 0 0] 25)
      have hf6 := (hf5.below hb6).alloc (.cells #[.string ⟨#[]⟩, .slice none 0 0] 25)
      have hb06 := below_call hb05 hb05.size hb6
      have hb06' := hb06.alloc hb06.size (.cells #[.string ⟨#[]⟩, .slice none 0 0] 25)
      have hsz6 : w2.heap.size + 1 ≤ w6.heap.size := by have := hb6.size; omega
      clear t0 t1
      have t0 : (w6.alloc (.cells #[.string ⟨#[]⟩, .slice none 0 0] 25)).cell? ⟨w.heap.size, 0, none⟩ = some (.string t.name) := (T6).cell 0
      have t1 : (w6.alloc (.cells #[.string ⟨#[]⟩, .slice none 0 0] 25)).cell? ⟨w.heap.size, 1, none⟩ = some (.slice p len cap) := (T6).cell 1
      have v0 : (w6.alloc (.cells #[.string ⟨#[]⟩, .slice none 0 0] 25)).cell? ⟨w2.heap.size, 0, none⟩ = some (.string ⟨#[]⟩) := (V6).cell 0
      have v1 : (w6.alloc (.cells #[.string ⟨#[]⟩, .slice none 0 0] 25)).cell? ⟨w2.heap.size, 1, none⟩ = some (.slice none 0 0) := (V6).cell 1
      have v2 : (w6.alloc (.cells #[.string ⟨#[]⟩, .slice none 0 0] 25)).frozen? ⟨w2.heap.size, 0, none⟩ = false := (V6).frozen 0
      have v3 : (w6.alloc (.cells #[.string ⟨#[]⟩, .slice none 0 0] 25)).frozen? ⟨w2.heap.size, 1, none⟩ = false := (V6).frozen 1
      go_wp2_with fail
      obtain ⟨wS, hwS⟩ : ∃ wS, wS = ((w6.alloc (.cells #[.string ⟨#[]⟩, .slice none 0 0] 25)).setCell ⟨w2.heap.size, 0, none⟩ (.string ⟨#[]⟩)).setCell ⟨w2.heap.size, 1, none⟩ (.slice none 0 0) := ⟨_, rfl⟩
      obtain ⟨σS, hσS⟩ : ∃ σS, σS = σ5 := ⟨_, rfl⟩
      rw [← hwS]
      have hT : Blk wS w.heap.size 25 #[.string t.name, .slice p len cap] := by rw [hwS]; exact (T6.far (by simp; omega) _).far (by simp; omega) _
      have hV : Blk wS w2.heap.size 25 #[.string ⟨#[]⟩, .slice none 0 0] := by rw [hwS]; exact (V6.put 0 _).put 1 _
      have hf : Fit σS wS := by rw [hwS, hσS]; exact (hf6.setCell (HX5.out 0) _).setCell (HX5.out 1) _
      have hb : Below w.heap.size w wS := by rw [hwS]; exact (hb06'.setCell (by simp; omega) _).setCell (by simp; omega) _
      rw [← hσS] at hsl0 hq0 hN hP
      clear hwS t0 t1 v0 v1 v2 v3 T6 V6 hf6 hb06 hb06' T5 V5 hf5 hb05 hb6
      have hxx := str_eq t.text
      have hr : TmV σS (.agg #[.string ⟨#[]⟩, .slice none 0 0]) Tm.zero := zero_slc _
      refine (toText_any t σS _ _ hf ⟨_, _, _, rfl, hn, hsl0⟩).mono ?_
      rintro e w8 ⟨rfl, hb8⟩
      rw [HX.out]
      rw [HE.out]
      have T8 := hT.call hb8
      have V8 := hV.call hb8
      have hf8 := hf.below hb8
      have hb08 := below_call hb hb.size hb8
      clear hf hb8
      have t0 : (w8).cell? ⟨w.heap.size, 0, none⟩ = some (.string t.name) := (T8).cell 0
      have t1 : (w8).cell? ⟨w.heap.size, 1, none⟩ = some (.slice p len cap) := (T8).cell 1
      go_wp2_with fail
      refine (names_any t σS _ _ hf8 ⟨_, _, _, rfl, hn, hsl0⟩).mono ?_
      rintro e w9 ⟨σ9, pB, lB, cB, rfl, hslB, hext9, hf9, hb9⟩
      rw [HE.out]
      rw [HN.out] at hslB
      have T9 := T8.call hb9
      have V9 := V8.call hb9
      have hb09 := below_call hb08 hb08.size hb9
      have hsl9 := hsl0.ext hext9
      clear t0 t1 hf8 hb9
      have t0 : (w9).cell? ⟨w.heap.size, 0, none⟩ = some (.string t.name) := (T9).cell 0
      have t1 : (w9).cell? ⟨w.heap.size, 1, none⟩ = some (.slice p len cap) := (T9).cell 1
      go_wp2_with fail
      refine (allPlaces_any t σ9 _ _ hf9 ⟨_, _, _, rfl, hn, hsl9⟩).mono ?_
      rintro e w10 ⟨σ10, pC, lC, cC, rfl, hslC, hext10, hf10, hb10⟩
      rw [HE.out]
      rw [HPL.out] at hslC
      have T10 := T9.call hb10
      have V10 := V9.call hb10
      have hb010 := below_call hb09 hb09.size hb10
      have hsl10 := hsl9.ext hext10
      clear t0 t1 hf9 hb10
      have t0 : (w10).cell? ⟨w.heap.size, 0, none⟩ = some (.string t.name) := (T10).cell 0
      have t1 : (w10).cell? ⟨w.heap.size, 1, none⟩ = some (.slice p len cap) := (T10).cell 1
      go_wp2_with fail
      refine (at_any t is σ10 _ _ _ _ _ hf10 ⟨_, _, _, rfl, hn, hsl10⟩ ((hq0.ext hext9).ext hext10)).mono ?_
      rintro e w11 ⟨σ11, pD, lD, cD, rfl, hnD, hslD, hext11, hf11, hb11⟩
      rw [HR.out] at hnD hslD ⊢
      dsimp only at hnD hslD ⊢
      have T11 := (T10.call hb11).alloc (.cells #[.string Tm.zero.name, .slice pD lD cD] 25)
      have V11 := (V10.call hb11).alloc (.cells #[.string Tm.zero.name, .slice pD lD cD] 25)
      have D11 : Blk (w11.alloc (.cells #[.string Tm.zero.name, .slice pD lD cD] 25)) w11.heap.size 25 #[.string Tm.zero.name, .slice pD lD cD] := Blk.new _ _ _
      have hf11' := hf11.alloc (.cells #[.string Tm.zero.name, .slice pD lD cD] 25)
      have hb011 := (below_call hb010 hb010.size hb11)
      have hb011' := hb011.alloc hb011.size (.cells #[.string Tm.zero.name, .slice pD lD cD] 25)
      have hsl11 := hsl10.ext hext11
      clear t0 t1 hf10 hf11 hb11
      have t0 : (w11.alloc (.cells #[.string Tm.zero.name, .slice pD lD cD] 25)).cell? ⟨w.heap.size, 0, none⟩ = some (.string t.name) := (T11).cell 0
      have t1 : (w11.alloc (.cells #[.string Tm.zero.name, .slice pD lD cD] 25)).cell? ⟨w.heap.size, 1, none⟩ = some (.slice p len cap) := (T11).cell 1
      go_wp2_with fail
      refine (check_any t σ11 _ _ hf11' ⟨_, _, _, rfl, hn, hsl11⟩).mono ?_
      rintro e w12 ⟨rfl, hb12⟩
      rw [HE.out]
      have V12 := V11.call hb12
      have D12 := D11.call hb12
      have hf12 := hf11'.below hb12
      have hb012 := below_call hb011' hb011'.size hb12
      clear t0 t1 hf11' hb12
      go_wp2_with fail
      refine (names2_same _ _ σ11 _ _ _ _ _ _ _ hf12 ((hslB.ext hext10).ext hext11) (((hN.ext hext9).ext hext10).ext hext11) (fun h => absurd rfl h)).mono ?_
      rintro e w13 ⟨rfl, hb13⟩
      have V13 := V12.call hb13
      have D13 := D12.call hb13
      have hf13 := hf12.below hb13
      have hb013 := below_call hb012 hb012.size hb13
      clear hf12 hb13
      have hP11 := ((hP.ext hext9).ext hext10).ext hext11
      have hC11 := hslC.ext hext11
      obtain rfl : lC = lP := by rw [hC11.length, hP11.length]
      have hcm := hC11.max
      have hll : ((lC : Int) != (lC : Int)) = false := bne_self_eq_false _
      have d0 : w13.cell? ⟨w11.heap.size, 0, none⟩ = some (.string Tm.zero.name) := D13.cell 0
      have d1 : w13.cell? ⟨w11.heap.size, 1, none⟩ = some (.slice pD lD cD) := D13.cell 1
      have v0 : w13.cell? ⟨w2.heap.size, 0, none⟩ = some (.string ⟨#[]⟩) := V13.cell 0
      have v1 : w13.cell? ⟨w2.heap.size, 1, none⟩ = some (.slice none 0 0) := V13.cell 1
      go_wp2_with fail
      refine (term2_same _ _ σ11 _ _ _ hf13 ⟨_, _, _, rfl, hnD, hslD⟩ (((hr.ext hext9).ext hext10).ext hext11) (fun _ => rfl)).mono ?_
      rintro e w14 ⟨rfl, hb14⟩
      have hf14 := hf13.below hb14
      have hb014 := below_call hb013 hb013.size hb14
      clear hf13 hb14 d0 d1 v0 v1
      go_wp2_with fail
      go_loopw [21] (fun i wr => ∃ k : Nat, k ≤ lC ∧ i = .int .i64 k ∧ Below w14.heap.size w14 wr) (fun i _ => lC - (intOf i).toNat)
      case atStart => exact ⟨0, Nat.zero_le _, rfl, Below.refl _ _⟩
      case round =>
        obtain ⟨k, hk, rfl, hbr⟩ := hrel
        have hfr := hf14.below hbr
        by_cases hlt : k < lC
        · obtain ⟨b1, o1, a1, q1, l1, c1, rfl, HA1, f1, hs1⟩ := hC11.list k hlt
          obtain ⟨b2, o2, a2, q2, l2, c2, rfl, HA2, f2, hs2⟩ := hP11.list k hlt
          obtain rfl : a2 = a1 := by
            have h1 := HA1.out
            rw [HA2.out] at h1
            exact Option.some.inj h1
          have g1 := hfr _ _ f1
          have g2 := hfr _ _ f2
          have hi0 : (0 : Int) ≤ (k : Int) := by omega
          have hi1 : (k : Int) < (lC : Int) := by omega
          go_wp2_with fail
          go_region_held3 (fun w' => w'.cell? ⟨b1, o1 + k, none⟩ = some (.slice q1 l1 c1) ∧ w'.cell? ⟨b2, o2 + k, none⟩ = some (.slice q2 l2 c2))
            (first | (go_keep; done) | exact ⟨K1, K2⟩)
            (first | (go_at_call 39; refine (sameInts_ref _ σ11 _ _ _ _ _ _ _ hfr.drew hs1 hs2).mono ?_
                      rintro e w15 ⟨rfl, hb15⟩
                      have hf15 := hfr.drew.below hb15
                      have K1 := hf15 _ _ f1
                      have K2 := hf15 _ _ f2))
          go_wp2_with fail
          go_roundw
          case rel => exact ⟨k + 1, by omega, by go_num, hbr.drew.trans (hb15.mono hbr.drew.size)⟩
          case measure => simp [intOf]; omega
        · go_wp2_with fail
          go_ret
          exact ⟨rfl, hb014.trans (hbr.mono hb014.size)⟩
    · rw [hat] at h6
      obtain ⟨py, ly, cy, rfl, hny, hsly, hb6⟩ := h6
      have HR : Hid (atR t is = (y, 0)) := Lib.hid (atR_some HM.out hat)
      clear hat
      have T6 := (T5.call hb6).alloc (.cells #[.string y.name, .slice py ly cy] 25)
      have V6 := (V5.call hb6).alloc (.cells #[.string y.name, .slice py ly cy] 25)
      have hf6 := (hf5.below hb6).alloc (.cells #[.string y.name, .slice py ly cy] 25)
      have hb06 := below_call hb05 hb05.size hb6
      have hb06' := hb06.alloc hb06.size (.cells #[.string y.name, .slice py ly cy] 25)
      have hsz6 : w2.heap.size + 1 ≤ w6.heap.size := by have := hb6.size; omega
      clear t0 t1
      have t0 : (w6.alloc (.cells #[.string y.name, .slice py ly cy] 25)).cell? ⟨w.heap.size, 0, none⟩ = some (.string t.name) := (T6).cell 0
      have t1 : (w6.alloc (.cells #[.string y.name, .slice py ly cy] 25)).cell? ⟨w.heap.size, 1, none⟩ = some (.slice p len cap) := (T6).cell 1
      have v0 : (w6.alloc (.cells #[.string y.name, .slice py ly cy] 25)).cell? ⟨w2.heap.size, 0, none⟩ = some (.string ⟨#[]⟩) := (V6).cell 0
      have v1 : (w6.alloc (.cells #[.string y.name, .slice py ly cy] 25)).cell? ⟨w2.heap.size, 1, none⟩ = some (.slice none 0 0) := (V6).cell 1
      have v2 : (w6.alloc (.cells #[.string y.name, .slice py ly cy] 25)).frozen? ⟨w2.heap.size, 0, none⟩ = false := (V6).frozen 0
      have v3 : (w6.alloc (.cells #[.string y.name, .slice py ly cy] 25)).frozen? ⟨w2.heap.size, 1, none⟩ = false := (V6).frozen 1
      go_wp2_with fail
      obtain ⟨wS, hwS⟩ : ∃ wS, wS = ((w6.alloc (.cells #[.string y.name, .slice py ly cy] 25)).setCell ⟨w2.heap.size, 0, none⟩ (.string y.name)).setCell ⟨w2.heap.size, 1, none⟩ (.slice py ly cy) := ⟨_, rfl⟩
      obtain ⟨σS, hσS⟩ : ∃ σS, σS = σ5 := ⟨_, rfl⟩
      rw [← hwS]
      have hT : Blk wS w.heap.size 25 #[.string t.name, .slice p len cap] := by rw [hwS]; exact (T6.far (by simp; omega) _).far (by simp; omega) _
      have hV : Blk wS w2.heap.size 25 #[.string y.name, .slice py ly cy] := by rw [hwS]; exact (V6.put 0 _).put 1 _
      have hf : Fit σS wS := by rw [hwS, hσS]; exact (hf6.setCell (HX5.out 0) _).setCell (HX5.out 1) _
      have hb : Below w.heap.size w wS := by rw [hwS]; exact (hb06'.setCell (by simp; omega) _).setCell (by simp; omega) _
      rw [← hσS] at hsl0 hq0 hN hP
      clear hwS t0 t1 v0 v1 v2 v3 T6 V6 hf6 hb06 hb06' T5 V5 hf5 hb05 hb6
      have hxx := str_eq t.text
      have hr : TmV σS (.agg #[.string y.name, .slice py ly cy]) y := ⟨_, _, _, rfl, hny, by rw [hσS]; exact hsly⟩
      refine (toText_any t σS _ _ hf ⟨_, _, _, rfl, hn, hsl0⟩).mono ?_
      rintro e w8 ⟨rfl, hb8⟩
      rw [HX.out]
      rw [HE.out]
      have T8 := hT.call hb8
      have V8 := hV.call hb8
      have hf8 := hf.below hb8
      have hb08 := below_call hb hb.size hb8
      clear hf hb8
      have t0 : (w8).cell? ⟨w.heap.size, 0, none⟩ = some (.string t.name) := (T8).cell 0
      have t1 : (w8).cell? ⟨w.heap.size, 1, none⟩ = some (.slice p len cap) := (T8).cell 1
      go_wp2_with fail
      refine (names_any t σS _ _ hf8 ⟨_, _, _, rfl, hn, hsl0⟩).mono ?_
      rintro e w9 ⟨σ9, pB, lB, cB, rfl, hslB, hext9, hf9, hb9⟩
      rw [HE.out]
      rw [HN.out] at hslB
      have T9 := T8.call hb9
      have V9 := V8.call hb9
      have hb09 := below_call hb08 hb08.size hb9
      have hsl9 := hsl0.ext hext9
      clear t0 t1 hf8 hb9
      have t0 : (w9).cell? ⟨w.heap.size, 0, none⟩ = some (.string t.name) := (T9).cell 0
      have t1 : (w9).cell? ⟨w.heap.size, 1, none⟩ = some (.slice p len cap) := (T9).cell 1
      go_wp2_with fail
      refine (allPlaces_any t σ9 _ _ hf9 ⟨_, _, _, rfl, hn, hsl9⟩).mono ?_
      rintro e w10 ⟨σ10, pC, lC, cC, rfl, hslC, hext10, hf10, hb10⟩
      rw [HE.out]
      rw [HPL.out] at hslC
      have T10 := T9.call hb10
      have V10 := V9.call hb10
      have hb010 := below_call hb09 hb09.size hb10
      have hsl10 := hsl9.ext hext10
      clear t0 t1 hf9 hb10
      have t0 : (w10).cell? ⟨w.heap.size, 0, none⟩ = some (.string t.name) := (T10).cell 0
      have t1 : (w10).cell? ⟨w.heap.size, 1, none⟩ = some (.slice p len cap) := (T10).cell 1
      go_wp2_with fail
      refine (at_any t is σ10 _ _ _ _ _ hf10 ⟨_, _, _, rfl, hn, hsl10⟩ ((hq0.ext hext9).ext hext10)).mono ?_
      rintro e w11 ⟨σ11, pD, lD, cD, rfl, hnD, hslD, hext11, hf11, hb11⟩
      rw [HR.out] at hnD hslD ⊢
      dsimp only at hnD hslD ⊢
      have T11 := (T10.call hb11).alloc (.cells #[.string y.name, .slice pD lD cD] 25)
      have V11 := (V10.call hb11).alloc (.cells #[.string y.name, .slice pD lD cD] 25)
      have D11 : Blk (w11.alloc (.cells #[.string y.name, .slice pD lD cD] 25)) w11.heap.size 25 #[.string y.name, .slice pD lD cD] := Blk.new _ _ _
      have hf11' := hf11.alloc (.cells #[.string y.name, .slice pD lD cD] 25)
      have hb011 := (below_call hb010 hb010.size hb11)
      have hb011' := hb011.alloc hb011.size (.cells #[.string y.name, .slice pD lD cD] 25)
      have hsl11 := hsl10.ext hext11
      clear t0 t1 hf10 hf11 hb11
      have t0 : (w11.alloc (.cells #[.string y.name, .slice pD lD cD] 25)).cell? ⟨w.heap.size, 0, none⟩ = some (.string t.name) := (T11).cell 0
      have t1 : (w11.alloc (.cells #[.string y.name, .slice pD lD cD] 25)).cell? ⟨w.heap.size, 1, none⟩ = some (.slice p len cap) := (T11).cell 1
      go_wp2_with fail
      refine (check_any t σ11 _ _ hf11' ⟨_, _, _, rfl, hn, hsl11⟩).mono ?_
      rintro e w12 ⟨rfl, hb12⟩
      rw [HE.out]
      have V12 := V11.call hb12
      have D12 := D11.call hb12
      have hf12 := hf11'.below hb12
      have hb012 := below_call hb011' hb011'.size hb12
      clear t0 t1 hf11' hb12
      go_wp2_with fail
      refine (names2_same _ _ σ11 _ _ _ _ _ _ _ hf12 ((hslB.ext hext10).ext hext11) (((hN.ext hext9).ext hext10).ext hext11) (fun h => absurd rfl h)).mono ?_
      rintro e w13 ⟨rfl, hb13⟩
      have V13 := V12.call hb13
      have D13 := D12.call hb13
      have hf13 := hf12.below hb13
      have hb013 := below_call hb012 hb012.size hb13
      clear hf12 hb13
      have hP11 := ((hP.ext hext9).ext hext10).ext hext11
      have hC11 := hslC.ext hext11
      obtain rfl : lC = lP := by rw [hC11.length, hP11.length]
      have hcm := hC11.max
      have hll : ((lC : Int) != (lC : Int)) = false := bne_self_eq_false _
      have d0 : w13.cell? ⟨w11.heap.size, 0, none⟩ = some (.string y.name) := D13.cell 0
      have d1 : w13.cell? ⟨w11.heap.size, 1, none⟩ = some (.slice pD lD cD) := D13.cell 1
      have v0 : w13.cell? ⟨w2.heap.size, 0, none⟩ = some (.string y.name) := V13.cell 0
      have v1 : w13.cell? ⟨w2.heap.size, 1, none⟩ = some (.slice py ly cy) := V13.cell 1
      go_wp2_with fail
      refine (term2_same _ _ σ11 _ _ _ hf13 ⟨_, _, _, rfl, hnD, hslD⟩ (((hr.ext hext9).ext hext10).ext hext11) (fun h => absurd rfl h)).mono ?_
      rintro e w14 ⟨rfl, hb14⟩
      have hf14 := hf13.below hb14
      have hb014 := below_call hb013 hb013.size hb14
      clear hf13 hb14 d0 d1 v0 v1
      go_wp2_with fail
      go_loopw [21] (fun i wr => ∃ k : Nat, k ≤ lC ∧ i = .int .i64 k ∧ Below w14.heap.size w14 wr) (fun i _ => lC - (intOf i).toNat)
      case atStart => exact ⟨0, Nat.zero_le _, rfl, Below.refl _ _⟩
      case round =>
        obtain ⟨k, hk, rfl, hbr⟩ := hrel
        have hfr := hf14.below hbr
        by_cases hlt : k < lC
        · obtain ⟨b1, o1, a1, q1, l1, c1, rfl, HA1, f1, hs1⟩ := hC11.list k hlt
          obtain ⟨b2, o2, a2, q2, l2, c2, rfl, HA2, f2, hs2⟩ := hP11.list k hlt
          obtain rfl : a2 = a1 := by
            have h1 := HA1.out
            rw [HA2.out] at h1
            exact Option.some.inj h1
          have g1 := hfr _ _ f1
          have g2 := hfr _ _ f2
          have hi0 : (0 : Int) ≤ (k : Int) := by omega
          have hi1 : (k : Int) < (lC : Int) := by omega
          go_wp2_with fail
          go_region_held3 (fun w' => w'.cell? ⟨b1, o1 + k, none⟩ = some (.slice q1 l1 c1) ∧ w'.cell? ⟨b2, o2 + k, none⟩ = some (.slice q2 l2 c2))
            (first | (go_keep; done) | exact ⟨K1, K2⟩)
            (first | (go_at_call 39; refine (sameInts_ref _ σ11 _ _ _ _ _ _ _ hfr.drew hs1 hs2).mono ?_
                      rintro e w15 ⟨rfl, hb15⟩
                      have hf15 := hfr.drew.below hb15
                      have K1 := hf15 _ _ f1
                      have K2 := hf15 _ _ f2))
          go_wp2_with fail
          go_roundw
          case rel => exact ⟨k + 1, by omega, by go_num, hbr.drew.trans (hb15.mono hbr.drew.size)⟩
          case measure => simp [intOf]; omega
        · go_wp2_with fail
          go_ret
          exact ⟨rfl, hb014.trans (hbr.mono hb014.size)⟩
  · have hne := ne_true hmt
    have hnf := eq_false' hmt
    have hee : ((t.may : Int) != t.may) = false := bne_self_eq_false _
    have HX : Hid ((if t.may = 0 then t.text else ⟨#[]⟩) = ⟨#[]⟩) := Lib.hid (if_neg hmt)
    have HN : Hid ((if t.may = 0 then t.varsOf else []) = []) := Lib.hid (if_neg hmt)
    have HPL : Hid ((if t.may = 0 then t.places else []) = []) := Lib.hid (if_neg hmt)
    have HR : Hid (atR t is = (Tm.zero, t.may)) := Lib.hid (atR_no hmt)
    clear hmt
    have t0 : (w2.alloc (.cells #[.string ⟨#[]⟩, .slice none 0 0] 25)).cell? ⟨w.heap.size, 0, none⟩ = some (.string t.name) := (T2).cell 0
    have t1 : (w2.alloc (.cells #[.string ⟨#[]⟩, .slice none 0 0] 25)).cell? ⟨w.heap.size, 1, none⟩ = some (.slice p len cap) := (T2).cell 1
    have hxx := str_eq ⟨#[]⟩
    go_wp2_with fail
    obtain ⟨wS, hwS⟩ : ∃ wS, wS = w2.alloc (.cells #[.string ⟨#[]⟩, .slice none 0 0] 25) := ⟨_, rfl⟩
    obtain ⟨σS, hσS⟩ : ∃ σS, σS = σ := ⟨_, rfl⟩
    rw [← hwS]
    have hT : Blk wS w.heap.size 25 #[.string t.name, .slice p len cap] := by rw [hwS]; exact T2
    have hV : Blk wS w2.heap.size 25 #[.string ⟨#[]⟩, .slice none 0 0] := by rw [hwS]; exact V2
    have hf : Fit σS wS := by rw [hwS, hσS]; exact hf2'
    have hb : Below w.heap.size w wS := by rw [hwS]; exact hb02'
    have hsl0 : Slc σS p len cap t.args := by rw [hσS]; exact hsl
    have hq0 : Slc σS q l c is := by rw [hσS]; exact hq
    have hN : Slc σS none 0 0 ([] : List ByteArray) := Slc.nil _
    have hP : Slc σS none 0 0 ([] : List (List Int)) := Slc.nil _
    have hr : TmV σS (.agg #[.string ⟨#[]⟩, .slice none 0 0]) Tm.zero := zero_slc _
    clear hwS t0 t1 T2 V2 hf2 hf2' hb02 hb02'
    refine (toText_any t σS _ _ hf ⟨_, _, _, rfl, hn, hsl0⟩).mono ?_
    rintro e w8 ⟨rfl, hb8⟩
    rw [HX.out]
    skip
    have T8 := hT.call hb8
    have V8 := hV.call hb8
    have hf8 := hf.below hb8
    have hb08 := below_call hb hb.size hb8
    clear hf hb8
    have t0 : (w8).cell? ⟨w.heap.size, 0, none⟩ = some (.string t.name) := (T8).cell 0
    have t1 : (w8).cell? ⟨w.heap.size, 1, none⟩ = some (.slice p len cap) := (T8).cell 1
    go_wp2_with fail
    refine (names_any t σS _ _ hf8 ⟨_, _, _, rfl, hn, hsl0⟩).mono ?_
    rintro e w9 ⟨σ9, pB, lB, cB, rfl, hslB, hext9, hf9, hb9⟩
    skip
    rw [HN.out] at hslB
    have T9 := T8.call hb9
    have V9 := V8.call hb9
    have hb09 := below_call hb08 hb08.size hb9
    have hsl9 := hsl0.ext hext9
    clear t0 t1 hf8 hb9
    have t0 : (w9).cell? ⟨w.heap.size, 0, none⟩ = some (.string t.name) := (T9).cell 0
    have t1 : (w9).cell? ⟨w.heap.size, 1, none⟩ = some (.slice p len cap) := (T9).cell 1
    go_wp2_with fail
    refine (allPlaces_any t σ9 _ _ hf9 ⟨_, _, _, rfl, hn, hsl9⟩).mono ?_
    rintro e w10 ⟨σ10, pC, lC, cC, rfl, hslC, hext10, hf10, hb10⟩
    skip
    rw [HPL.out] at hslC
    have T10 := T9.call hb10
    have V10 := V9.call hb10
    have hb010 := below_call hb09 hb09.size hb10
    have hsl10 := hsl9.ext hext10
    clear t0 t1 hf9 hb10
    have t0 : (w10).cell? ⟨w.heap.size, 0, none⟩ = some (.string t.name) := (T10).cell 0
    have t1 : (w10).cell? ⟨w.heap.size, 1, none⟩ = some (.slice p len cap) := (T10).cell 1
    go_wp2_with fail
    refine (at_any t is σ10 _ _ _ _ _ hf10 ⟨_, _, _, rfl, hn, hsl10⟩ ((hq0.ext hext9).ext hext10)).mono ?_
    rintro e w11 ⟨σ11, pD, lD, cD, rfl, hnD, hslD, hext11, hf11, hb11⟩
    rw [HR.out] at hnD hslD ⊢
    dsimp only at hnD hslD ⊢
    have T11 := (T10.call hb11).alloc (.cells #[.string Tm.zero.name, .slice pD lD cD] 25)
    have V11 := (V10.call hb11).alloc (.cells #[.string Tm.zero.name, .slice pD lD cD] 25)
    have D11 : Blk (w11.alloc (.cells #[.string Tm.zero.name, .slice pD lD cD] 25)) w11.heap.size 25 #[.string Tm.zero.name, .slice pD lD cD] := Blk.new _ _ _
    have hf11' := hf11.alloc (.cells #[.string Tm.zero.name, .slice pD lD cD] 25)
    have hb011 := (below_call hb010 hb010.size hb11)
    have hb011' := hb011.alloc hb011.size (.cells #[.string Tm.zero.name, .slice pD lD cD] 25)
    have hsl11 := hsl10.ext hext11
    clear t0 t1 hf10 hf11 hb11
    have t0 : (w11.alloc (.cells #[.string Tm.zero.name, .slice pD lD cD] 25)).cell? ⟨w.heap.size, 0, none⟩ = some (.string t.name) := (T11).cell 0
    have t1 : (w11.alloc (.cells #[.string Tm.zero.name, .slice pD lD cD] 25)).cell? ⟨w.heap.size, 1, none⟩ = some (.slice p len cap) := (T11).cell 1
    go_wp2_with fail
    refine (check_any t σ11 _ _ hf11' ⟨_, _, _, rfl, hn, hsl11⟩).mono ?_
    rintro e w12 ⟨rfl, hb12⟩
    skip
    have V12 := V11.call hb12
    have D12 := D11.call hb12
    have hf12 := hf11'.below hb12
    have hb012 := below_call hb011' hb011'.size hb12
    clear t0 t1 hf11' hb12
    go_wp2_with fail
    refine (names2_same _ _ σ11 _ _ _ _ _ _ _ hf12 ((hslB.ext hext10).ext hext11) (((hN.ext hext9).ext hext10).ext hext11) (fun _ => rfl)).mono ?_
    rintro e w13 ⟨rfl, hb13⟩
    have V13 := V12.call hb13
    have D13 := D12.call hb13
    have hf13 := hf12.below hb13
    have hb013 := below_call hb012 hb012.size hb13
    clear hf12 hb13
    have hP11 := ((hP.ext hext9).ext hext10).ext hext11
    have hC11 := hslC.ext hext11
    obtain rfl : lC = 0 := hC11.length
    have d0 : w13.cell? ⟨w11.heap.size, 0, none⟩ = some (.string Tm.zero.name) := D13.cell 0
    have d1 : w13.cell? ⟨w11.heap.size, 1, none⟩ = some (.slice pD lD cD) := D13.cell 1
    have v0 : w13.cell? ⟨w2.heap.size, 0, none⟩ = some (.string ⟨#[]⟩) := V13.cell 0
    have v1 : w13.cell? ⟨w2.heap.size, 1, none⟩ = some (.slice none 0 0) := V13.cell 1
    go_wp2_with fail
    refine (term2_same _ _ σ11 _ _ _ hf13 ⟨_, _, _, rfl, hnD, hslD⟩ (((hr.ext hext9).ext hext10).ext hext11) (fun _ => rfl)).mono ?_
    rintro e w14 ⟨rfl, hb14⟩
    have hf14 := hf13.below hb14
    have hb014 := below_call hb013 hb013.size hb14
    clear hf13 hb14 d0 d1 v0 v1
    go_wp2_with fail
    go_loopw [21] (fun i wr => i = .int .i64 0 ∧ Below w14.heap.size w14 wr) (fun i _ => 0)
    case atStart => exact ⟨rfl, Below.refl _ _⟩
    case round =>
      obtain ⟨rfl, hbr⟩ := hrel
      go_wp2_with fail
      go_ret
      exact ⟨rfl, hb014.trans (hbr.mono hb014.size)⟩
end Go.Proofs.Ytkjbaabkaboaoaa
