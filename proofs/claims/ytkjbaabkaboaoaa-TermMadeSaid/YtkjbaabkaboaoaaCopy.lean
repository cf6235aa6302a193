/-
  Copying a term: the walk.
  Conditions: none.
-/
import Derived.Test.YtkjbaabkaboaoaaMay
namespace Go.Proofs.Ytkjbaabkaboaoaa
open Go Go.RowKit
set_option maxHeartbeats 400000
set_option linter.unusedVariables false

/-- A term whose row of arguments the call itself owns. -/
structure OwnTm (σ : Sto) (N : Nat) (w : World) (v : Value) (t : Tm) : Prop where
  form : ∃ u, v = .agg #[.string t.name, u] ∧ Own σ N w 25 u t.args
  size : t.name.size ≤ maxLen

theorem OwnTm.done {σ : Sto} {N M : Nat} {w : World} {v : Value} {t : Tm} (h : OwnTm σ N w v t) (hf : Fit σ w) (hM : M ≤ N) :
    ∃ σ' p l c, v = .agg #[.string t.name, .slice p l c] ∧ t.name.size ≤ maxLen ∧ Slc σ' p l c t.args ∧ Ext M σ σ' ∧ Fit σ' w := by
  obtain ⟨⟨u, rfl, ho⟩, hn⟩ := h
  obtain ⟨σ', e1, e2, _, p, l, c, rfl, hsl⟩ := ho.done hf M hM
  exact ⟨σ', p, l, c, rfl, hn, hsl, e1, e2⟩
theorem Own.notAt {α : Type} [Cod α] {σ : Sto} {N : Nat} {w : World} {e : TypeId} {v : Value} {xs : List α} (h : Own σ N w e v xs) {g : Nat} (hg : g < N) : v.ownBlock ≠ some g := fun e => by have := (h.lt g e).1; omega

def CopyAt (t : Tm) : Prop := ∀ (σ : Sto) (v : Value) (w : World), Fit σ w → TmV σ v t → t.size ≤ 1000000 →
    Calls Try.prog 71 #[v] w fun e w' => ∃ σ' v', e = .returned v' ∧ OwnTm σ' w.heap.size w' v' t ∧ Ext w.heap.size σ σ' ∧ Fit σ' w' ∧ Below w.heap.size w w'
set_option maxRecDepth 100000 in
theorem copy_any : ∀ (N : Nat) (t : Tm), SizeOf.sizeOf t < N → CopyAt t := by
  intro N
  induction N with
  | zero => intro t h; omega
  | succ N ih =>
  intro t hN σ v w hs ht hz
  obtain ⟨p, len, cap, rfl, hn, hsl⟩ := ht
  have HL := Lib.hid hsl.length
  have hlm := hsl.max
  obtain ⟨i0, hi, hz0, hz1, hz2⟩ := info_parts infoTm
  have HI := Lib.hid hi; clear hi
  have H0 := Lib.hid hz0; clear hz0
  have H1 := Lib.hid hz1; clear hz1
  have H2 := Lib.hid hz2; clear hz2
  go_enter Try.func71, Try.ntmps71
  go_wp2_with fail
  go_loopw [12] (fun i wr => ∃ (k : Nat) (σr : Sto) (q : Option Addr) (n c : Nat), k ≤ len ∧ i = .int .i64 k ∧ Blk wr (w.heap.size + 1) 25 #[.string ⟨#[]⟩, .slice none 0 0] ∧ Blk wr (w.heap.size + 1 + 1) 25 #[.string t.name, .slice q n c] ∧ Own σr (w.heap.size + 3) wr 25 (.slice q n c) (t.args.take k) ∧ Ext (w.heap.size + 3) σ σr ∧ Fit σr wr ∧ Below w.heap.size w wr) (fun i _ => len - (intOf i).toNat)
  case atStart =>
    refine ⟨0, σ, none, 0, 0, Nat.zero_le _, rfl, ?_, ?_, Own.nil _ _ _ _, Ext.refl _ _, ((hs.alloc _).alloc _).alloc _, (((Below.refl _ _).alloc (Nat.le_refl _) _).alloc (by simp) _).alloc (by simp <;> omega) _⟩
    · have := (Blk.new (w.alloc (.cells #[.string t.name, .slice p len cap] 25)) 25 #[.string ⟨#[]⟩, .slice none 0 0]).alloc (.cells #[.string t.name, .slice none 0 0] 25)
      simpa using this
    · have := Blk.new ((w.alloc (.cells #[.string t.name, .slice p len cap] 25)).alloc (.cells #[.string ⟨#[]⟩, .slice none 0 0] 25)) 25 #[.string t.name, .slice none 0 0]
      simpa using this
  case round =>
    obtain ⟨k, σr, q, n, c, hk, rfl, R, B, hown, hext, hfr, hb⟩ := hrel
    have c0 : wr.cell? ⟨w.heap.size + 1 + 1, 0, none⟩ = some (.string t.name) := B.cell 0
    have c1 : wr.cell? ⟨w.heap.size + 1 + 1, 1, none⟩ = some (.slice q n c) := B.cell 1
    have hsz := B.lt
    by_cases hlt : k < len
    · obtain ⟨b, o, a, q', l, c', rfl, HA, f0, f1, hn', hsl'⟩ := hsl.tm k hlt
      have g0 := hfr _ _ (hext.keep _ _ f0)
      have g1 := hfr _ _ (hext.keep _ _ f1)
      clear f0 f1
      have hsa : a.size ≤ 1000000 ∧ (t.args.take k).length + 1 ≤ maxLen ∧ ((t.args.take k).length + 1) * 40 ≤ 140737488355328 := by
        have h1 := Tm.sizes_take HA.out
        have h2 := Tm.sizes_take_le t.args (k+1)
        have h3 := Tm.size_eq t
        have h4 := Tm.length_le (t.args.take k)
        simp only [maxLen]
        omega
      obtain ⟨hsa, hsb, hsc⟩ := hsa
      have HT := Lib.hid (take_snoc HA.out)
      have hB3 : w.heap.size + 3 ≤ wr.heap.size := by omega
      go_wp2_with fail
      go_region_law
        (first
          | (refine step_one rfl _ _ _ rfl hown2 hf2' i0 _ 40 Try.underlying23 HI.out H0.out H1.out H2.out rfl (by decide) w1.heap.size _ 25 (heap_alloc_new w1 _) a hcell rfl rfl hsb hsc hw1 ?_
             intro v' w2 hg
             obtain ⟨q3, n3, c3, hv3⟩ := hg.shape
             subst hv3
             have B2 := (B1.alloc (.cells #[.string a.name, .slice p2 l2 c2] 25)).grown hg.grown (hown.notAt (by omega))
             have d1 : w2.cell? ⟨w.heap.size + 1 + 1, 1, none⟩ = some (.slice q n c) := B2.cell 1
             have d2 : w2.frozen? ⟨w.heap.size + 1 + 1, 1, none⟩ = false := B2.frozen 1)
          | (go_simp; go_at_call 71; refine (ih a (by have := Tm.lt_of_arg (mem_of_get HA.out); omega) σr _ _ (hfr.alloc _).drew ⟨_, _, _, rfl, hn', hsl'.ext hext⟩ hsa).mono ?_
             rintro e w1 ⟨σ1, v1, rfl, hown1, hext1, hf1, hb1⟩
             obtain ⟨σ2, p2, l2, c2, rfl, hn2, hsl2, hext2, hf2⟩ := hown1.done hf1 (Nat.le_refl _)
             have hext12 := hext1.trans hext2
             have B1 := ((B.alloc (.cells #[.string a.name, .slice q' l c'] 25)).drew).call hb1
             have c1' : w1.cell? ⟨w.heap.size + 1 + 1, 1, none⟩ = some (.slice q n c) := B1.cell 1
             have c1'' : (w1.alloc (.cells #[.string a.name, .slice p2 l2 c2] 25)).cell? ⟨w.heap.size + 1 + 1, 1, none⟩ = some (.slice q n c) := (B1.alloc _).cell 1
             have hown2 := (((hown.alloc (.cells #[.string a.name, .slice q' l c'] 25)).drew).call hb1 hext12).alloc (.cells #[.string a.name, .slice p2 l2 c2] 25)
             have hf2' := hf2.alloc (.cells #[.string a.name, .slice p2 l2 c2] 25)
             have hcell : Cells σ2 [.string a.name, .slice p2 l2 c2] a := cells_tm.2 ⟨p2, l2, c2, rfl, hn2, hsl2⟩
             have hw1 : w.heap.size + 3 ≤ (w1.alloc (.cells #[.string a.name, .slice p2 l2 c2] 25)).heap.size := by have := hb1.size; simp at this ⊢; omega))
      all_goals
        go_wp2_with fail
        go_roundw
        case rel =>
          have hw2 : wr.heap.size + 1 ≤ w1.heap.size := by have := hb1.size; simp at this; omega
          refine ⟨k + 1, σ2, q3, n3, c3, by omega, by go_num, ?_, B2.put 1 _, ?_, ?_, ?_, ?_⟩
          · exact (((((R.alloc (.cells #[.string a.name, .slice q' l c'] 25)).drew).call hb1).alloc (.cells #[.string a.name, .slice p2 l2 c2] 25)).grown hg.grown (hown.notAt (by omega))).far (by simp <;> omega) _
          · rw [HT.out]
            exact hg.own.setCell (hg.own.notAt (by simp <;> omega)) _
          · exact hext.trans (hext12.mono (by simp <;> omega))
          · refine hg.fit.setCell ?_ _
            rw [hext12.old _ (by simp <;> omega), hext.old _ (by simp <;> omega)]
            exact hs.no (by simp <;> omega)
          · have h1 : Below w.heap.size w w1 := ((hb.alloc (by omega) _).drew).trans (hb1.mono (by simp <;> omega))
            have h2 := (h1.alloc (by omega) (.cells #[.string a.name, .slice p2 l2 c2] 25)).grown hg.grown (by simp <;> omega) (fun g e => by have := (hown.lt g e).1; omega)
            exact h2.setCell (by simp <;> omega) _
        case measure => simp [intOf]; omega
    · obtain rfl : k = len := by omega
      have r0 : wr.cell? ⟨w.heap.size + 1, 0, none⟩ = some (.string ⟨#[]⟩) := R.cell 0
      have r1 : wr.cell? ⟨w.heap.size + 1, 1, none⟩ = some (.slice none 0 0) := R.cell 1
      have r2 : wr.frozen? ⟨w.heap.size + 1, 0, none⟩ = false := R.frozen 0
      have r3 : wr.frozen? ⟨w.heap.size + 1, 1, none⟩ = false := R.frozen 1
      go_wp2_with fail
      have Rb := (R.put 0 (.string t.name)).put 1 (.slice q n c)
      have k0 : ((wr.setCell ⟨w.heap.size + 1, 0, none⟩ (.string t.name)).setCell ⟨w.heap.size + 1, 1, none⟩ (.slice q n c)).cell? ⟨w.heap.size + 1, 0, none⟩ = some (.string t.name) := Rb.cell 0
      have k1 : ((wr.setCell ⟨w.heap.size + 1, 0, none⟩ (.string t.name)).setCell ⟨w.heap.size + 1, 1, none⟩ (.slice q n c)).cell? ⟨w.heap.size + 1, 1, none⟩ = some (.slice q n c) := Rb.cell 1
      have z0 : σr ⟨w.heap.size + 1, 0, none⟩ = none := by rw [hext.old _ (by simp)]; exact hs.no (by simp)
      have z1 : σr ⟨w.heap.size + 1, 1, none⟩ = none := by rw [hext.old _ (by simp)]; exact hs.no (by simp)
      refine bodyPost_ret (v := .agg #[.string t.name, .slice q n c]) (by simp [results, Try.results71, go_sem, k0, k1]) rfl ⟨σr, _, rfl, ⟨⟨_, rfl, ?_⟩, hn⟩, hext.mono (by omega), (hfr.setCell z0 _).setCell z1 _, ?_⟩
      · have h := (hown.setCell (hown.notAt (g := w.heap.size + 1) (by omega)) (.string t.name) (p := ⟨w.heap.size + 1, 0, none⟩)).setCell (hown.notAt (g := w.heap.size + 1) (by omega)) (.slice q n c) (p := ⟨w.heap.size + 1, 1, none⟩)
        rw [List.take_of_length_le (by have := HL.out; omega)] at h
        exact h.mono (by omega)
      · exact (hb.setCell (by simp) _).setCell (by simp) _
end Go.Proofs.Ytkjbaabkaboaoaa
