/-
  A term with another one at a place: the program's walk.
  Conditions: none.
-/
import Derived.Test.YtkjbaabkaboaoaaReg
namespace Go.Proofs.Ytkjbaabkaboaoaa
open Go Go.RowKit
set_option maxHeartbeats 400000
set_option linter.unusedVariables false

/-! ### plain -/
def Tm.put : Tm → List Int → Tm → Tm
  | _, [], x => x
  | t, i :: is, x => .mk t.name (match t.args[i.toNat]? with | some a => t.args.set i.toNat (Tm.put a is x) | none => t.args)
theorem Tm.put_yes {t a : Tm} {n : Nat} {is : List Int} {x : Tm} (h : t.args[n]? = some a) : t.put ((n : Int) :: is) x = .mk t.name (t.args.set n (a.put is x)) := by
  rw [Tm.put]
  simp [h]
theorem Tm.at_some {t : Tm} {i : Int} {is : List Int} (h : t.at_ (i :: is) ≠ none) : ∃ (n : Nat) (a : Tm), i = n ∧ t.args[n]? = some a ∧ a.at_ is ≠ none := by
  rw [Tm.at_] at h
  split at h
  · rename_i hi
    have hn : i.toNat < t.args.length := by omega
    refine ⟨i.toNat, t.args[i.toNat], by omega, List.getElem?_eq_getElem hn, ?_⟩
    rw [List.getElem?_eq_getElem hn] at h
    exact h
  · exact absurd rfl h

/-- A call that hands back a term, made anew or not. -/
def TmPost (σ : Sto) (w : World) (r : Tm) (e : Ending) (w' : World) : Prop :=
  ∃ σ' p l c, e = .returned (.agg #[.string r.name, .slice p l c]) ∧ r.name.size ≤ maxLen ∧ Slc σ' p l c r.args ∧ Ext w.heap.size σ σ' ∧ Fit σ' w' ∧ Below w.heap.size w w'
theorem copy_done (t : Tm) (σ : Sto) (v : Value) (w : World) (hs : Fit σ w) (ht : TmV σ v t) (hz : t.size ≤ 1000000) :
    Calls Try.prog 71 #[v] w (TmPost σ w t) :=
  (copy_any _ t (Nat.lt_succ_self _) σ v w hs ht hz).mono fun e w' ⟨σ1, v1, he, ho, h1, h2, h3⟩ => by
    obtain ⟨σ2, p, l, c, rfl, h4, h5, h6, h7⟩ := ho.done h2 (Nat.le_refl _)
    exact ⟨σ2, p, l, c, he, h4, h5, h1.trans h6, h7, h3⟩

/-! ### the walk -/
def WithAt (is : List Int) : Prop := ∀ (t x : Tm) (σ : Sto) (v u : Value) (q : Option Addr) (l c : Nat) (w : World), Fit σ w → TmV σ v t → TmV σ u x → Slc σ q l c is → t.at_ is ≠ none → t.size ≤ 1000000 → x.size ≤ 1000000 →
    Calls Try.prog 60 #[v, .slice q l c, u] w (TmPost σ w (t.put is x))
set_option maxRecDepth 100000 in
theorem with_any : ∀ (is : List Int), WithAt is := by
  intro is
  induction is with
  | nil =>
    intro t x σ v u q l c w hs ht hx hq hat hz1 hz2
    obtain ⟨p, len, cap, rfl, hn, hsl⟩ := ht
    obtain ⟨p', len', cap', rfl, hn', hsl'⟩ := hx
    obtain rfl : l = 0 := hq.length
    have hbz : Below w.heap.size w (((w.alloc (.cells #[.string t.name, .slice p len cap] 25)).alloc (.cells #[.string x.name, .slice p' len' cap'] 25)).alloc (.cells #[.string ⟨#[]⟩, .slice none 0 0] 25)) := (((Below.refl _ _).alloc (Nat.le_refl _) _).alloc (by simp) _).alloc (by simp; omega) _
    have R0 := Blk.new ((w.alloc (.cells #[.string t.name, .slice p len cap] 25)).alloc (.cells #[.string x.name, .slice p' len' cap'] 25)) 25 #[.string ⟨#[]⟩, .slice none 0 0]
    simp only [World.size_alloc] at R0
    go_enter Try.func60, Try.ntmps60
    go_wp2_with fail
    refine (copy_done x σ _ _ (((hs.alloc _).alloc _).alloc _) ⟨_, _, _, rfl, hn', hsl'⟩ hz2).mono ?_
    rintro e w1 ⟨σ1, p1, l1, c1, rfl, hn1, hsl1, hext1, hf1, hb1⟩
    have R1 := R0.call hb1
    have r0 : w1.cell? ⟨w.heap.size + 1 + 1, 0, none⟩ = some (.string ⟨#[]⟩) := R1.cell 0
    have r1 : w1.cell? ⟨w.heap.size + 1 + 1, 1, none⟩ = some (.slice none 0 0) := R1.cell 1
    have r2 : w1.frozen? ⟨w.heap.size + 1 + 1, 0, none⟩ = false := R1.frozen 0
    have r3 : w1.frozen? ⟨w.heap.size + 1 + 1, 1, none⟩ = false := R1.frozen 1
    go_wp2_with fail
    have Rb := (R1.put 0 (.string x.name)).put 1 (.slice p1 l1 c1)
    have k0 := Rb.cell 0
    have k1 := Rb.cell 1
    have hb2 := hbz.trans (hb1.mono (by simp; omega))
    have z0 : σ1 ⟨w.heap.size + 1 + 1, 0, none⟩ = none := by rw [hext1.old _ (by simp)]; exact hs.no (by simp; omega)
    have z1 : σ1 ⟨w.heap.size + 1 + 1, 1, none⟩ = none := by rw [hext1.old _ (by simp)]; exact hs.no (by simp; omega)
    exact bodyPost_ret (v := .agg #[.string x.name, .slice p1 l1 c1]) (by simp [results, Try.results60, go_sem, k0, k1]) rfl ⟨σ1, p1, l1, c1, rfl, hn1, hsl1, hext1.mono (by simp; omega), (hf1.setCell z0 _).setCell z1 _, (hb2.setCell (by simp; omega) _).setCell (by simp; omega) _⟩
  | cons i is ih =>
    intro t x σ v u q l c w hs ht hx hq hat hz1 hz2
    obtain ⟨p, len, cap, rfl, hn, hsl⟩ := ht
    obtain ⟨p', len', cap', rfl, hn', hsl'⟩ := hx
    obtain ⟨n, a, rfl, ha, hat'⟩ := Tm.at_some hat
    obtain ⟨l, rfl⟩ : ∃ l', l = l' + 1 := ⟨is.length, hq.length⟩
    obtain ⟨b, o, i', rfl, HI, f0, hi0, hi1⟩ := hq.int 0 (by omega)
    obtain rfl : i' = n := by have := HI.out; simpa using this.symm
    have g0 : w.cell? ⟨b, o, none⟩ = some (.int .i64 n) := by simpa using hs _ _ f0
    have hqm := hq.max
    have hlm := hsl.max
    have lb : b < w.heap.size := World.block_lt_of_cell? w ⟨b, o, none⟩ g0
    have HPUT := Lib.hid (Tm.put_yes (is := is) (x := x) ha)
    have HAT := Lib.hid hat'
    have HA := Lib.hid ha
    have hza : a.size ≤ 1000000 := by
      have h1 := Tm.size_mem (mem_of_get ha)
      have h2 := Tm.size_eq t
      omega
    have hnl : n < t.args.length := lt_of_get ha
    have hc0 : l + 1 ≤ c := hq.2.1
    have hc1 : (0 : Int) < (l : Int) + 1 := by omega
    have hc2 : (1 : Int) ≤ (l : Int) + 1 := by omega
    have hc3 : (l : Int) + 1 ≤ (c : Int) := by omega
    have hcm := hq.capmax
    have HL := Lib.hid hsl.length
    have hcut := hq.cut 1 (by omega)
    have HC : Hid (Slc σ (if c = 1 then some ⟨b, o, none⟩ else some ⟨b, o + 1, none⟩) l (c - 1) is) := by
      show Slc _ _ _ _ _
      have e : (if c = 1 then some (⟨b, o, none⟩ : Addr) else some ⟨b, o + 1, none⟩) = (if c = 1 then some ⟨b, o, none⟩ else (some ⟨b, o, none⟩ : Option Addr).map (·.add (1 * Cod.wid Int))) := by
        split <;> rfl
      rw [e]
      simpa using hcut
    clear hcut ha hat hat' f0
    have hfz : Fit σ (((w.alloc (.cells #[.string t.name, .slice p len cap] 25)).alloc (.cells #[.string x.name, .slice p' len' cap'] 25)).alloc (.cells #[.string ⟨#[]⟩, .slice none 0 0] 25)) := ((hs.alloc _).alloc _).alloc _
    have hbz : Below w.heap.size w (((w.alloc (.cells #[.string t.name, .slice p len cap] 25)).alloc (.cells #[.string x.name, .slice p' len' cap'] 25)).alloc (.cells #[.string ⟨#[]⟩, .slice none 0 0] 25)) := (((Below.refl _ _).alloc (Nat.le_refl _) _).alloc (by simp) _).alloc (by simp; omega) _
    have T0 := ((Blk.new w 25 #[.string t.name, .slice p len cap]).alloc (.cells #[.string x.name, .slice p' len' cap'] 25)).alloc (.cells #[.string ⟨#[]⟩, .slice none 0 0] 25)
    have X0 := (Blk.new (w.alloc (.cells #[.string t.name, .slice p len cap] 25)) 25 #[.string x.name, .slice p' len' cap']).alloc (.cells #[.string ⟨#[]⟩, .slice none 0 0] 25)
    have R0 := Blk.new ((w.alloc (.cells #[.string t.name, .slice p len cap] 25)).alloc (.cells #[.string x.name, .slice p' len' cap'] 25)) 25 #[.string ⟨#[]⟩, .slice none 0 0]
    simp only [World.size_alloc] at R0 X0
    by_cases hc : c = 1
    · have HC' := HC
      simp only [hc, if_true] at HC'
      clear HC
      obtain rfl : l = 0 := by omega
      subst hc
      go_enter Try.func60, Try.ntmps60
      go_wp2_with fail
      refine (copy_any _ t (Nat.lt_succ_self _) σ _ _ hfz ⟨_, _, _, rfl, hn, hsl⟩ hz1).mono ?_
      rintro e w1 ⟨σ1, v1, rfl, ⟨⟨u1, rfl, hown⟩, _⟩, hext1, hf1, hb1⟩
      have hsz1 : w.heap.size + 1 + 1 + 1 ≤ w1.heap.size := by have := hb1.size; simpa using this
      obtain ⟨g, cg, q2, l2, c2, rfl, hg1, hg2, -, -, hna, hsla, -, -⟩ := hown.tm n a HA.out
      simp only [World.size_alloc] at hg1
      have hown' : Own σ1 (w.heap.size + 1 + 1 + 1) w1 25 (.slice (some ⟨g, 0, none⟩) t.args.length cg) t.args := by simpa using hown
      have T1 := T0.call hb1
      have X1 := X0.call hb1
      have R1 := R0.call hb1
      have t0 : w1.cell? ⟨w.heap.size, 0, none⟩ = some (.string t.name) := T1.cell 0
      have t1 : w1.cell? ⟨w.heap.size, 1, none⟩ = some (.slice p len cap) := T1.cell 1
      have t2 : w1.frozen? ⟨w.heap.size, 0, none⟩ = false := T1.frozen 0
      have t3 : w1.frozen? ⟨w.heap.size, 1, none⟩ = false := T1.frozen 1
      have hb01 := hbz.trans (hb1.mono (by simp; omega))
      have hnl1 : (n : Int) < (t.args.length : Int) := by omega
      clear hown
      go_wp2_with fail
      obtain ⟨w2, hw2⟩ : ∃ w2, w2 = (w1.setCell ⟨w.heap.size, 0, none⟩ (.string t.name)).setCell ⟨w.heap.size, 1, none⟩ (.slice (some ⟨g, 0, none⟩) t.args.length cg) := ⟨_, rfl⟩
      rw [← hw2]
      have T2 : Blk w2 w.heap.size 25 #[.string t.name, .slice (some ⟨g, 0, none⟩) t.args.length cg] := by rw [hw2]; exact (T1.put 0 _).put 1 _
      have X2 : Blk w2 (w.heap.size + 1) 25 #[.string x.name, .slice p' len' cap'] := by rw [hw2]; exact (X1.far (by simp) _).far (by simp) _
      have R2 : Blk w2 (w.heap.size + 1 + 1) 25 #[.string ⟨#[]⟩, .slice none 0 0] := by rw [hw2]; exact (R1.far (by simp <;> omega) _).far (by simp <;> omega) _
      have hown2 : Own σ1 (w.heap.size + 1 + 1 + 1) w2 25 (.slice (some ⟨g, 0, none⟩) t.args.length cg) t.args := by
        rw [hw2]
        exact (hown'.setCell (hown'.notAt (g := w.heap.size) (by omega)) _ (p := ⟨w.heap.size, 0, none⟩)).setCell (hown'.notAt (g := w.heap.size) (by omega)) _ (p := ⟨w.heap.size, 1, none⟩)
      have z0 : ∀ j k, j < 3 → σ1 ⟨w.heap.size + j, k, none⟩ = none := fun j k hj => by rw [hext1.old _ (by simp; omega)]; exact hs.no (by simp)
      have hf2 : Fit σ1 w2 := by rw [hw2]; exact (hf1.setCell (z0 0 0 (by omega)) _).setCell (z0 0 1 (by omega)) _
      have hb02 : Below w.heap.size w w2 := by rw [hw2]; exact (hb01.setCell (by simp) _).setCell (by simp) _
      have hsz2 : w.heap.size + 1 + 1 + 1 ≤ w2.heap.size := by rw [hw2]; simpa using hsz1
      have HZ := Lib.hid z0
      clear hw2 T1 X1 R1 t0 t1 t2 t3 hown' hf1 hb01 hb1 hsz1 hg2 z0
      obtain ⟨g', cg', q3, l3, c3, hv, -, hg2, e0, e1, hna3, hsla3, e2, e3⟩ := hown2.tm n a HA.out
      obtain ⟨rfl, rfl⟩ : g' = g ∧ cg' = cg := by simpa using hv.symm
      have t1 : w2.cell? ⟨w.heap.size, 1, none⟩ = some (.slice (some ⟨g', 0, none⟩) t.args.length cg') := T2.cell 1
      have x0 : w2.cell? ⟨w.heap.size + 1, 0, none⟩ = some (.string x.name) := X2.cell 0
      have x1 : w2.cell? ⟨w.heap.size + 1, 1, none⟩ = some (.slice p' len' cap') := X2.cell 1
      have g1 : w2.cell? ⟨b, o, none⟩ = some (.int .i64 n) := (hb02.cell (p := ⟨b, o, none⟩) lb).trans g0
      have hi0n : (0 : Int) ≤ (n : Int) := by omega
      refine beginM (fun w' => w'.cell? ⟨w.heap.size, 1, none⟩ = some (.slice (some ⟨g', 0, none⟩) t.args.length cg') ∧ w'.cell? ⟨b, o, none⟩ = some (.int .i64 n) ∧ w'.cell? ⟨w.heap.size + 1, 0, none⟩ = some (.string x.name) ∧ w'.cell? ⟨w.heap.size + 1, 1, none⟩ = some (.slice p' len' cap') ∧ w'.cell? ⟨g', n * 2, none⟩ = some (.string a.name) ∧ w'.cell? ⟨g', n * 2 + 1, none⟩ = some (.slice q3 l3 c3)) 17 (by kernel_rfl) ⟨t1, g1, x0, x1, e0, e1⟩ (fun hHeld => ?_)
      refine takeM (i := 0) (v := ?_) rfl (by kernel_rfl) (by kernel_rfl) (by kernel_rfl) (by kernel_rfl) (fun _ _ _ h => h) (by rfl) ?_ hHeld ?_
      rotate_left 1
      · intro w' hSw
        try dsimp only at hSw
        go_simp
        try with_reducible rfl
      try simp only [Act.put, List.setIfInBounds_toArray, List.set_cons_zero, List.set_cons_succ]
      refine takeM (i := 1) (v := ?_) rfl (by kernel_rfl) (by kernel_rfl) (by kernel_rfl) (by kernel_rfl) (fun _ _ _ h => h) (by rfl) ?_ hHeld ?_
      rotate_left 1
      · intro w' hSw
        try dsimp only at hSw
        go_simp
        try with_reducible rfl
      try simp only [Act.put, List.setIfInBounds_toArray, List.set_cons_zero, List.set_cons_succ]
      refine takeM (i := 2) (v := ?_) rfl (by kernel_rfl) (by kernel_rfl) (by kernel_rfl) (by kernel_rfl) (fun _ _ _ h => h) (by rfl) ?_ hHeld ?_
      rotate_left 1
      · intro w' hSw
        try dsimp only at hSw
        go_simp
        try with_reducible rfl
      try simp only [Act.put, List.setIfInBounds_toArray, List.set_cons_zero, List.set_cons_succ]
      refine takeM (i := 3) (v := ?_) rfl (by kernel_rfl) (by kernel_rfl) (by kernel_rfl) (by kernel_rfl) (fun _ _ _ h => h) (by rfl) ?_ hHeld ?_
      rotate_left 1
      · intro w' hSw
        try dsimp only at hSw
        go_simp
        try with_reducible rfl
      try simp only [Act.put, List.setIfInBounds_toArray, List.set_cons_zero, List.set_cons_succ]
      refine takeM (i := 4) (v := ?_) rfl (by kernel_rfl) (by kernel_rfl) (by kernel_rfl) (by kernel_rfl) (fun _ _ _ h => h) (by rfl) ?_ hHeld ?_
      rotate_left 1
      · intro w' hSw
        try dsimp only at hSw
        go_simp
        try with_reducible rfl
      try simp only [Act.put, List.setIfInBounds_toArray, List.set_cons_zero, List.set_cons_succ]
      refine takeM (i := 5) (v := ?_) rfl (by kernel_rfl) (by kernel_rfl) (by kernel_rfl) (by kernel_rfl) (fun _ _ _ h => h) (by rfl) ?_ hHeld ?_
      rotate_left 1
      · intro w' hSw
        try dsimp only at hSw
        go_simp
        try with_reducible rfl
      try simp only [Act.put, List.setIfInBounds_toArray, List.set_cons_zero, List.set_cons_succ]
      refine takeM (i := 6) (v := ?_) rfl (by kernel_rfl) (by kernel_rfl) (by kernel_rfl) (by kernel_rfl) (fun _ _ _ h => h) (by rfl) ?_ hHeld ?_
      rotate_left 1
      · intro w' hSw
        try dsimp only at hSw
        go_simp
        try with_reducible rfl
      try simp only [Act.put, List.setIfInBounds_toArray, List.set_cons_zero, List.set_cons_succ]
      refine takeM (i := 7) (v := ?_) rfl (by kernel_rfl) (by kernel_rfl) (by kernel_rfl) (by kernel_rfl) (fun _ _ _ h => h) (by rfl) ?_ hHeld ?_
      rotate_left 1
      · intro w' hSw
        try dsimp only at hSw
        go_simp
        try with_reducible rfl
      try simp only [Act.put, List.setIfInBounds_toArray, List.set_cons_zero, List.set_cons_succ]
      refine takeM (i := 8) (v := ?_) rfl (by kernel_rfl) (by kernel_rfl) (by kernel_rfl) (by kernel_rfl) (fun _ _ _ h => h) (by rfl) ?_ hHeld ?_
      rotate_left 1
      · intro w' hSw
        try dsimp only at hSw
        go_simp
        try with_reducible rfl
      try simp only [Act.put, List.setIfInBounds_toArray, List.set_cons_zero, List.set_cons_succ]
      refine takeM (i := 9) (v := ?_) rfl (by kernel_rfl) (by kernel_rfl) (by kernel_rfl) (by kernel_rfl) (fun _ _ _ h => h) (by rfl) ?_ hHeld ?_
      rotate_left 1
      · intro w' hSw
        try dsimp only at hSw
        go_simp
        try with_reducible rfl
      try simp only [Act.put, List.setIfInBounds_toArray, List.set_cons_zero, List.set_cons_succ]
      refine takeM (i := 10) (v := ?_) rfl (by kernel_rfl) (by kernel_rfl) (by kernel_rfl) (by kernel_rfl) (fun _ _ _ h => h) (by rfl) ?_ hHeld ?_
      rotate_left 1
      · intro w' hSw
        try dsimp only at hSw
        go_simp
        try with_reducible rfl
      try simp only [Act.put, List.setIfInBounds_toArray, List.set_cons_zero, List.set_cons_succ]
      refine takeM (i := 11) (v := ?_) rfl (by kernel_rfl) (by kernel_rfl) (by kernel_rfl) (by kernel_rfl) (fun _ _ _ h => h) (by rfl) ?_ hHeld ?_
      rotate_left 1
      · intro w' hSw
        try dsimp only at hSw
        go_simp
        try with_reducible rfl
      try simp only [Act.put, List.setIfInBounds_toArray, List.set_cons_zero, List.set_cons_succ]
      refine takeM (i := 12) (v := ?_) rfl (by kernel_rfl) (by kernel_rfl) (by kernel_rfl) (by kernel_rfl) (fun _ _ _ h => h) (by rfl) ?_ hHeld ?_
      rotate_left 1
      · intro w' hSw
        try dsimp only at hSw
        go_simp
        try with_reducible rfl
      try simp only [Act.put, List.setIfInBounds_toArray, List.set_cons_zero, List.set_cons_succ]
      refine takeM (i := 13) (v := ?_) rfl (by kernel_rfl) (by kernel_rfl) (by kernel_rfl) (by kernel_rfl) (fun _ _ _ h => h) (by rfl) ?_ hHeld ?_
      rotate_left 1
      · intro w' hSw
        try dsimp only at hSw
        go_simp
        try with_reducible rfl
      try simp only [Act.put, List.setIfInBounds_toArray, List.set_cons_zero, List.set_cons_succ]
      refine takeM (i := 14) (v := ?_) rfl (by kernel_rfl) (by kernel_rfl) (by kernel_rfl) (by kernel_rfl) (fun _ _ _ h => h) (by rfl) ?_ hHeld ?_
      rotate_left 1
      · intro w' hSw
        try dsimp only at hSw
        go_simp
        try with_reducible rfl
      try simp only [Act.put, List.setIfInBounds_toArray, List.set_cons_zero, List.set_cons_succ]
      refine runM (i := 15) (by kernel_rfl) rfl rfl ?_
      intro K hK
      go_simp
      refine (ih a x σ1 _ _ _ _ _ _ hf2.drew ⟨_, _, _, rfl, hna3, hsla3⟩ ⟨_, _, _, rfl, hn', hsl'.ext hext1⟩ (HC'.out.ext hext1) HAT.out hza hz2).mono ?_
      rintro e w3 ⟨σ3, p3, l4, c4, rfl, hn3, hsl3, hext3, hf3, hb3⟩
      have T3 := T2.drew.call hb3
      have X3 := X2.drew.call hb3
      have R3 := R2.drew.call hb3
      have hb03 := hb02.drew.trans (hb3.mono (by simp; omega))
      have hown3 := hown2.drew.call hb3 hext3
      obtain ⟨_, _, q5, l5, c5, hv5, _, _, d0, d1, _, _, d2, d3⟩ := hown3.tm n a HA.out
      simp only [Value.slice.injEq, Option.some.injEq, Addr.mk.injEq, true_and, and_true] at hv5
      obtain ⟨rfl, rfl⟩ := hv5
      have K1 : w3.cell? ⟨w.heap.size, 1, none⟩ = some (.slice (some ⟨g', 0, none⟩) t.args.length cg') := T3.cell 1
      have K2 : w3.cell? ⟨b, o, none⟩ = some (.int .i64 n) := (hb03.cell (p := ⟨b, o, none⟩) lb).trans g0
      have K3 : w3.cell? ⟨w.heap.size + 1, 0, none⟩ = some (.string x.name) := X3.cell 0
      have K4 : w3.cell? ⟨w.heap.size + 1, 1, none⟩ = some (.slice p' len' cap') := X3.cell 1
      have K5 : w3.cell? ⟨g', n * 2, none⟩ = some (.string a.name) := (hb3.cell (p := ⟨g', n * 2, none⟩) hg2).trans e0
      have K6 : w3.cell? ⟨g', n * 2 + 1, none⟩ = some (.slice q3 l3 c3) := (hb3.cell (p := ⟨g', n * 2 + 1, none⟩) hg2).trans e1
      clear d0 d1 t1 x0 x1 g1 e0 e1
      refine hK.out _ _ ⟨K1, K2, K3, K4, K5, K6⟩ (fun hHeld => ?_)
      clear hK K
      try simp only [Act.put, List.setIfInBounds_toArray, List.set_cons_zero, List.set_cons_succ]
      refine takeM (i := 16) (v := ?_) rfl (by kernel_rfl) (by kernel_rfl) (by kernel_rfl) (by kernel_rfl) (fun _ _ _ h => h) (by rfl) ?_ hHeld ?_
      rotate_left 1
      · intro w' hSw
        try dsimp only at hSw
        go_simp
        try with_reducible rfl
      try simp only [Act.put, List.setIfInBounds_toArray, List.set_cons_zero, List.set_cons_succ]
      refine lastM (by kernel_rfl) (by kernel_rfl) (by kernel_rfl) rfl rfl ?_
      intro K hK
      go_simp
      refine hK.out _ _ ?_
      clear hK K
      try simp only [Act.put, List.setIfInBounds_toArray, List.set_cons_zero, List.set_cons_succ]
      obtain ⟨w4, hw4⟩ : ∃ w4, w4 = (w3.setCell ⟨g', n * 2, none⟩ (.string (a.put is x).name)).setCell ⟨g', n * 2 + 1, none⟩ (.slice p3 l4 c4) := ⟨_, rfl⟩
      rw [← hw4]
      have hz3 : ∀ j k, j < 3 → σ3 ⟨w.heap.size + j, k, none⟩ = none := fun j k hj => by rw [hext3.old _ (by simp; omega)]; exact HZ.out j k hj
      have T4 : Blk w4 w.heap.size 25 #[.string t.name, .slice (some ⟨g', 0, none⟩) t.args.length cg'] := by rw [hw4]; exact (T3.far (by simp; omega) _).far (by simp; omega) _
      have R4 : Blk w4 (w.heap.size + 1 + 1) 25 #[.string ⟨#[]⟩, .slice none 0 0] := by rw [hw4]; exact (R3.far (by simp; omega) _).far (by simp; omega) _
      have own4 : Own σ3 (w.heap.size + 1 + 1 + 1) w4 25 (.slice (some ⟨g', 0, none⟩) t.args.length cg') (t.args.set n (a.put is x)) := by
        rw [hw4]
        exact hown3.set2 rfl n hnl rfl _ _ _ (cells_tm.2 ⟨p3, l4, c4, rfl, hn3, hsl3⟩)
      have hf4 : Fit σ3 w4 := by rw [hw4]; exact (hf3.setCell (hown3.free g' rfl _ rfl) _).setCell (hown3.free g' rfl _ rfl) _
      have hb04 : Below w.heap.size w w4 := by rw [hw4]; exact (hb03.setCell (by simp; omega) _).setCell (by simp; omega) _
      clear hw4 T3 X3 R3 hf3 hown3 hb3 K1 K2 K3 K4 K5 K6 d2 d3
      have t0 : w4.cell? ⟨w.heap.size, 0, none⟩ = some (.string t.name) := T4.cell 0
      have t1 : w4.cell? ⟨w.heap.size, 1, none⟩ = some (.slice (some ⟨g', 0, none⟩) t.args.length cg') := T4.cell 1
      have r0 : w4.cell? ⟨w.heap.size + 1 + 1, 0, none⟩ = some (.string ⟨#[]⟩) := R4.cell 0
      have r1 : w4.cell? ⟨w.heap.size + 1 + 1, 1, none⟩ = some (.slice none 0 0) := R4.cell 1
      have r2 : w4.frozen? ⟨w.heap.size + 1 + 1, 0, none⟩ = false := R4.frozen 0
      have r3 : w4.frozen? ⟨w.heap.size + 1 + 1, 1, none⟩ = false := R4.frozen 1
      go_wp2_with fail
      have Rb := (R4.put 0 (.string t.name)).put 1 (.slice (some ⟨g', 0, none⟩) t.args.length cg')
      have k0 := Rb.cell 0
      have k1 := Rb.cell 1
      have own5 := (own4.setCell (own4.notAt (g := w.heap.size + 1 + 1) (by omega)) (.string t.name) (p := ⟨w.heap.size + 1 + 1, 0, none⟩)).setCell (own4.notAt (g := w.heap.size + 1 + 1) (by omega)) (.slice (some ⟨g', 0, none⟩) t.args.length cg') (p := ⟨w.heap.size + 1 + 1, 1, none⟩)
      have hf5 := (hf4.setCell (p := ⟨w.heap.size + 1 + 1, 0, none⟩) (hz3 2 0 (by omega)) (.string t.name)).setCell (p := ⟨w.heap.size + 1 + 1, 1, none⟩) (hz3 2 1 (by omega)) (.slice (some ⟨g', 0, none⟩) t.args.length cg')
      obtain ⟨σ4, e1', e2', _, p6, l6, c6, hv6, hsl6⟩ := own5.done hf5 w.heap.size (by omega)
      simp only [Value.slice.injEq] at hv6
      obtain ⟨rfl, rfl, rfl⟩ := hv6
      rw [HPUT.out]
      exact bodyPost_ret (v := .agg #[.string t.name, .slice (some ⟨g', 0, none⟩) t.args.length cg']) (by simp [results, Try.results60, go_sem, k0, k1]) rfl
        ⟨σ4, _, _, _, rfl, hn, hsl6, (hext1.mono (by simp; omega)).trans ((hext3.mono (by simp; omega)).trans e1'), e2', (hb04.setCell (by simp; omega) _).setCell (by simp; omega) _⟩
    · have HC' := HC
      simp only [hc, if_false] at HC'
      clear HC
      go_enter Try.func60, Try.ntmps60
      go_wp2_with fail
      refine (copy_any _ t (Nat.lt_succ_self _) σ _ _ hfz ⟨_, _, _, rfl, hn, hsl⟩ hz1).mono ?_
      rintro e w1 ⟨σ1, v1, rfl, ⟨⟨u1, rfl, hown⟩, _⟩, hext1, hf1, hb1⟩
      have hsz1 : w.heap.size + 1 + 1 + 1 ≤ w1.heap.size := by have := hb1.size; simpa using this
      obtain ⟨g, cg, q2, l2, c2, rfl, hg1, hg2, -, -, hna, hsla, -, -⟩ := hown.tm n a HA.out
      simp only [World.size_alloc] at hg1
      have hown' : Own σ1 (w.heap.size + 1 + 1 + 1) w1 25 (.slice (some ⟨g, 0, none⟩) t.args.length cg) t.args := by simpa using hown
      have T1 := T0.call hb1
      have X1 := X0.call hb1
      have R1 := R0.call hb1
      have t0 : w1.cell? ⟨w.heap.size, 0, none⟩ = some (.string t.name) := T1.cell 0
      have t1 : w1.cell? ⟨w.heap.size, 1, none⟩ = some (.slice p len cap) := T1.cell 1
      have t2 : w1.frozen? ⟨w.heap.size, 0, none⟩ = false := T1.frozen 0
      have t3 : w1.frozen? ⟨w.heap.size, 1, none⟩ = false := T1.frozen 1
      have hb01 := hbz.trans (hb1.mono (by simp; omega))
      have hnl1 : (n : Int) < (t.args.length : Int) := by omega
      clear hown
      go_wp2_with fail
      obtain ⟨w2, hw2⟩ : ∃ w2, w2 = (w1.setCell ⟨w.heap.size, 0, none⟩ (.string t.name)).setCell ⟨w.heap.size, 1, none⟩ (.slice (some ⟨g, 0, none⟩) t.args.length cg) := ⟨_, rfl⟩
      rw [← hw2]
      have T2 : Blk w2 w.heap.size 25 #[.string t.name, .slice (some ⟨g, 0, none⟩) t.args.length cg] := by rw [hw2]; exact (T1.put 0 _).put 1 _
      have X2 : Blk w2 (w.heap.size + 1) 25 #[.string x.name, .slice p' len' cap'] := by rw [hw2]; exact (X1.far (by simp) _).far (by simp) _
      have R2 : Blk w2 (w.heap.size + 1 + 1) 25 #[.string ⟨#[]⟩, .slice none 0 0] := by rw [hw2]; exact (R1.far (by simp <;> omega) _).far (by simp <;> omega) _
      have hown2 : Own σ1 (w.heap.size + 1 + 1 + 1) w2 25 (.slice (some ⟨g, 0, none⟩) t.args.length cg) t.args := by
        rw [hw2]
        exact (hown'.setCell (hown'.notAt (g := w.heap.size) (by omega)) _ (p := ⟨w.heap.size, 0, none⟩)).setCell (hown'.notAt (g := w.heap.size) (by omega)) _ (p := ⟨w.heap.size, 1, none⟩)
      have z0 : ∀ j k, j < 3 → σ1 ⟨w.heap.size + j, k, none⟩ = none := fun j k hj => by rw [hext1.old _ (by simp; omega)]; exact hs.no (by simp)
      have hf2 : Fit σ1 w2 := by rw [hw2]; exact (hf1.setCell (z0 0 0 (by omega)) _).setCell (z0 0 1 (by omega)) _
      have hb02 : Below w.heap.size w w2 := by rw [hw2]; exact (hb01.setCell (by simp) _).setCell (by simp) _
      have hsz2 : w.heap.size + 1 + 1 + 1 ≤ w2.heap.size := by rw [hw2]; simpa using hsz1
      have HZ := Lib.hid z0
      clear hw2 T1 X1 R1 t0 t1 t2 t3 hown' hf1 hb01 hb1 hsz1 hg2 z0
      obtain ⟨g', cg', q3, l3, c3, hv, -, hg2, e0, e1, hna3, hsla3, e2, e3⟩ := hown2.tm n a HA.out
      obtain ⟨rfl, rfl⟩ : g' = g ∧ cg' = cg := by simpa using hv.symm
      have t1 : w2.cell? ⟨w.heap.size, 1, none⟩ = some (.slice (some ⟨g', 0, none⟩) t.args.length cg') := T2.cell 1
      have x0 : w2.cell? ⟨w.heap.size + 1, 0, none⟩ = some (.string x.name) := X2.cell 0
      have x1 : w2.cell? ⟨w.heap.size + 1, 1, none⟩ = some (.slice p' len' cap') := X2.cell 1
      have g1 : w2.cell? ⟨b, o, none⟩ = some (.int .i64 n) := (hb02.cell (p := ⟨b, o, none⟩) lb).trans g0
      have hi0n : (0 : Int) ≤ (n : Int) := by omega
      refine beginM (fun w' => w'.cell? ⟨w.heap.size, 1, none⟩ = some (.slice (some ⟨g', 0, none⟩) t.args.length cg') ∧ w'.cell? ⟨b, o, none⟩ = some (.int .i64 n) ∧ w'.cell? ⟨w.heap.size + 1, 0, none⟩ = some (.string x.name) ∧ w'.cell? ⟨w.heap.size + 1, 1, none⟩ = some (.slice p' len' cap') ∧ w'.cell? ⟨g', n * 2, none⟩ = some (.string a.name) ∧ w'.cell? ⟨g', n * 2 + 1, none⟩ = some (.slice q3 l3 c3)) 17 (by kernel_rfl) ⟨t1, g1, x0, x1, e0, e1⟩ (fun hHeld => ?_)
      refine takeM (i := 0) (v := ?_) rfl (by kernel_rfl) (by kernel_rfl) (by kernel_rfl) (by kernel_rfl) (fun _ _ _ h => h) (by rfl) ?_ hHeld ?_
      rotate_left 1
      · intro w' hSw
        try dsimp only at hSw
        go_simp
        try with_reducible rfl
      try simp only [Act.put, List.setIfInBounds_toArray, List.set_cons_zero, List.set_cons_succ]
      refine takeM (i := 1) (v := ?_) rfl (by kernel_rfl) (by kernel_rfl) (by kernel_rfl) (by kernel_rfl) (fun _ _ _ h => h) (by rfl) ?_ hHeld ?_
      rotate_left 1
      · intro w' hSw
        try dsimp only at hSw
        go_simp
        try with_reducible rfl
      try simp only [Act.put, List.setIfInBounds_toArray, List.set_cons_zero, List.set_cons_succ]
      refine takeM (i := 2) (v := ?_) rfl (by kernel_rfl) (by kernel_rfl) (by kernel_rfl) (by kernel_rfl) (fun _ _ _ h => h) (by rfl) ?_ hHeld ?_
      rotate_left 1
      · intro w' hSw
        try dsimp only at hSw
        go_simp
        try with_reducible rfl
      try simp only [Act.put, List.setIfInBounds_toArray, List.set_cons_zero, List.set_cons_succ]
      refine takeM (i := 3) (v := ?_) rfl (by kernel_rfl) (by kernel_rfl) (by kernel_rfl) (by kernel_rfl) (fun _ _ _ h => h) (by rfl) ?_ hHeld ?_
      rotate_left 1
      · intro w' hSw
        try dsimp only at hSw
        go_simp
        try with_reducible rfl
      try simp only [Act.put, List.setIfInBounds_toArray, List.set_cons_zero, List.set_cons_succ]
      refine takeM (i := 4) (v := ?_) rfl (by kernel_rfl) (by kernel_rfl) (by kernel_rfl) (by kernel_rfl) (fun _ _ _ h => h) (by rfl) ?_ hHeld ?_
      rotate_left 1
      · intro w' hSw
        try dsimp only at hSw
        go_simp
        try with_reducible rfl
      try simp only [Act.put, List.setIfInBounds_toArray, List.set_cons_zero, List.set_cons_succ]
      refine takeM (i := 5) (v := ?_) rfl (by kernel_rfl) (by kernel_rfl) (by kernel_rfl) (by kernel_rfl) (fun _ _ _ h => h) (by rfl) ?_ hHeld ?_
      rotate_left 1
      · intro w' hSw
        try dsimp only at hSw
        go_simp
        try with_reducible rfl
      try simp only [Act.put, List.setIfInBounds_toArray, List.set_cons_zero, List.set_cons_succ]
      refine takeM (i := 6) (v := ?_) rfl (by kernel_rfl) (by kernel_rfl) (by kernel_rfl) (by kernel_rfl) (fun _ _ _ h => h) (by rfl) ?_ hHeld ?_
      rotate_left 1
      · intro w' hSw
        try dsimp only at hSw
        go_simp
        try with_reducible rfl
      try simp only [Act.put, List.setIfInBounds_toArray, List.set_cons_zero, List.set_cons_succ]
      refine takeM (i := 7) (v := ?_) rfl (by kernel_rfl) (by kernel_rfl) (by kernel_rfl) (by kernel_rfl) (fun _ _ _ h => h) (by rfl) ?_ hHeld ?_
      rotate_left 1
      · intro w' hSw
        try dsimp only at hSw
        go_simp
        try with_reducible rfl
      try simp only [Act.put, List.setIfInBounds_toArray, List.set_cons_zero, List.set_cons_succ]
      refine takeM (i := 8) (v := ?_) rfl (by kernel_rfl) (by kernel_rfl) (by kernel_rfl) (by kernel_rfl) (fun _ _ _ h => h) (by rfl) ?_ hHeld ?_
      rotate_left 1
      · intro w' hSw
        try dsimp only at hSw
        go_simp
        try with_reducible rfl
      try simp only [Act.put, List.setIfInBounds_toArray, List.set_cons_zero, List.set_cons_succ]
      refine takeM (i := 9) (v := ?_) rfl (by kernel_rfl) (by kernel_rfl) (by kernel_rfl) (by kernel_rfl) (fun _ _ _ h => h) (by rfl) ?_ hHeld ?_
      rotate_left 1
      · intro w' hSw
        try dsimp only at hSw
        go_simp
        try with_reducible rfl
      try simp only [Act.put, List.setIfInBounds_toArray, List.set_cons_zero, List.set_cons_succ]
      refine takeM (i := 10) (v := ?_) rfl (by kernel_rfl) (by kernel_rfl) (by kernel_rfl) (by kernel_rfl) (fun _ _ _ h => h) (by rfl) ?_ hHeld ?_
      rotate_left 1
      · intro w' hSw
        try dsimp only at hSw
        go_simp
        try with_reducible rfl
      try simp only [Act.put, List.setIfInBounds_toArray, List.set_cons_zero, List.set_cons_succ]
      refine takeM (i := 11) (v := ?_) rfl (by kernel_rfl) (by kernel_rfl) (by kernel_rfl) (by kernel_rfl) (fun _ _ _ h => h) (by rfl) ?_ hHeld ?_
      rotate_left 1
      · intro w' hSw
        try dsimp only at hSw
        go_simp
        try with_reducible rfl
      try simp only [Act.put, List.setIfInBounds_toArray, List.set_cons_zero, List.set_cons_succ]
      refine takeM (i := 12) (v := ?_) rfl (by kernel_rfl) (by kernel_rfl) (by kernel_rfl) (by kernel_rfl) (fun _ _ _ h => h) (by rfl) ?_ hHeld ?_
      rotate_left 1
      · intro w' hSw
        try dsimp only at hSw
        go_simp
        try with_reducible rfl
      try simp only [Act.put, List.setIfInBounds_toArray, List.set_cons_zero, List.set_cons_succ]
      refine takeM (i := 13) (v := ?_) rfl (by kernel_rfl) (by kernel_rfl) (by kernel_rfl) (by kernel_rfl) (fun _ _ _ h => h) (by rfl) ?_ hHeld ?_
      rotate_left 1
      · intro w' hSw
        try dsimp only at hSw
        go_simp
        try with_reducible rfl
      try simp only [Act.put, List.setIfInBounds_toArray, List.set_cons_zero, List.set_cons_succ]
      refine takeM (i := 14) (v := ?_) rfl (by kernel_rfl) (by kernel_rfl) (by kernel_rfl) (by kernel_rfl) (fun _ _ _ h => h) (by rfl) ?_ hHeld ?_
      rotate_left 1
      · intro w' hSw
        try dsimp only at hSw
        go_simp
        try with_reducible rfl
      try simp only [Act.put, List.setIfInBounds_toArray, List.set_cons_zero, List.set_cons_succ]
      refine runM (i := 15) (by kernel_rfl) rfl rfl ?_
      intro K hK
      go_simp
      refine (ih a x σ1 _ _ _ _ _ _ hf2.drew ⟨_, _, _, rfl, hna3, hsla3⟩ ⟨_, _, _, rfl, hn', hsl'.ext hext1⟩ (HC'.out.ext hext1) HAT.out hza hz2).mono ?_
      rintro e w3 ⟨σ3, p3, l4, c4, rfl, hn3, hsl3, hext3, hf3, hb3⟩
      have T3 := T2.drew.call hb3
      have X3 := X2.drew.call hb3
      have R3 := R2.drew.call hb3
      have hb03 := hb02.drew.trans (hb3.mono (by simp; omega))
      have hown3 := hown2.drew.call hb3 hext3
      obtain ⟨_, _, q5, l5, c5, hv5, _, _, d0, d1, _, _, d2, d3⟩ := hown3.tm n a HA.out
      simp only [Value.slice.injEq, Option.some.injEq, Addr.mk.injEq, true_and, and_true] at hv5
      obtain ⟨rfl, rfl⟩ := hv5
      have K1 : w3.cell? ⟨w.heap.size, 1, none⟩ = some (.slice (some ⟨g', 0, none⟩) t.args.length cg') := T3.cell 1
      have K2 : w3.cell? ⟨b, o, none⟩ = some (.int .i64 n) := (hb03.cell (p := ⟨b, o, none⟩) lb).trans g0
      have K3 : w3.cell? ⟨w.heap.size + 1, 0, none⟩ = some (.string x.name) := X3.cell 0
      have K4 : w3.cell? ⟨w.heap.size + 1, 1, none⟩ = some (.slice p' len' cap') := X3.cell 1
      have K5 : w3.cell? ⟨g', n * 2, none⟩ = some (.string a.name) := (hb3.cell (p := ⟨g', n * 2, none⟩) hg2).trans e0
      have K6 : w3.cell? ⟨g', n * 2 + 1, none⟩ = some (.slice q3 l3 c3) := (hb3.cell (p := ⟨g', n * 2 + 1, none⟩) hg2).trans e1
      clear d0 d1 t1 x0 x1 g1 e0 e1
      refine hK.out _ _ ⟨K1, K2, K3, K4, K5, K6⟩ (fun hHeld => ?_)
      clear hK K
      try simp only [Act.put, List.setIfInBounds_toArray, List.set_cons_zero, List.set_cons_succ]
      refine takeM (i := 16) (v := ?_) rfl (by kernel_rfl) (by kernel_rfl) (by kernel_rfl) (by kernel_rfl) (fun _ _ _ h => h) (by rfl) ?_ hHeld ?_
      rotate_left 1
      · intro w' hSw
        try dsimp only at hSw
        go_simp
        try with_reducible rfl
      try simp only [Act.put, List.setIfInBounds_toArray, List.set_cons_zero, List.set_cons_succ]
      refine lastM (by kernel_rfl) (by kernel_rfl) (by kernel_rfl) rfl rfl ?_
      intro K hK
      go_simp
      refine hK.out _ _ ?_
      clear hK K
      try simp only [Act.put, List.setIfInBounds_toArray, List.set_cons_zero, List.set_cons_succ]
      obtain ⟨w4, hw4⟩ : ∃ w4, w4 = (w3.setCell ⟨g', n * 2, none⟩ (.string (a.put is x).name)).setCell ⟨g', n * 2 + 1, none⟩ (.slice p3 l4 c4) := ⟨_, rfl⟩
      rw [← hw4]
      have hz3 : ∀ j k, j < 3 → σ3 ⟨w.heap.size + j, k, none⟩ = none := fun j k hj => by rw [hext3.old _ (by simp; omega)]; exact HZ.out j k hj
      have T4 : Blk w4 w.heap.size 25 #[.string t.name, .slice (some ⟨g', 0, none⟩) t.args.length cg'] := by rw [hw4]; exact (T3.far (by simp; omega) _).far (by simp; omega) _
      have R4 : Blk w4 (w.heap.size + 1 + 1) 25 #[.string ⟨#[]⟩, .slice none 0 0] := by rw [hw4]; exact (R3.far (by simp; omega) _).far (by simp; omega) _
      have own4 : Own σ3 (w.heap.size + 1 + 1 + 1) w4 25 (.slice (some ⟨g', 0, none⟩) t.args.length cg') (t.args.set n (a.put is x)) := by
        rw [hw4]
        exact hown3.set2 rfl n hnl rfl _ _ _ (cells_tm.2 ⟨p3, l4, c4, rfl, hn3, hsl3⟩)
      have hf4 : Fit σ3 w4 := by rw [hw4]; exact (hf3.setCell (hown3.free g' rfl _ rfl) _).setCell (hown3.free g' rfl _ rfl) _
      have hb04 : Below w.heap.size w w4 := by rw [hw4]; exact (hb03.setCell (by simp; omega) _).setCell (by simp; omega) _
      clear hw4 T3 X3 R3 hf3 hown3 hb3 K1 K2 K3 K4 K5 K6 d2 d3
      have t0 : w4.cell? ⟨w.heap.size, 0, none⟩ = some (.string t.name) := T4.cell 0
      have t1 : w4.cell? ⟨w.heap.size, 1, none⟩ = some (.slice (some ⟨g', 0, none⟩) t.args.length cg') := T4.cell 1
      have r0 : w4.cell? ⟨w.heap.size + 1 + 1, 0, none⟩ = some (.string ⟨#[]⟩) := R4.cell 0
      have r1 : w4.cell? ⟨w.heap.size + 1 + 1, 1, none⟩ = some (.slice none 0 0) := R4.cell 1
      have r2 : w4.frozen? ⟨w.heap.size + 1 + 1, 0, none⟩ = false := R4.frozen 0
      have r3 : w4.frozen? ⟨w.heap.size + 1 + 1, 1, none⟩ = false := R4.frozen 1
      go_wp2_with fail
      have Rb := (R4.put 0 (.string t.name)).put 1 (.slice (some ⟨g', 0, none⟩) t.args.length cg')
      have k0 := Rb.cell 0
      have k1 := Rb.cell 1
      have own5 := (own4.setCell (own4.notAt (g := w.heap.size + 1 + 1) (by omega)) (.string t.name) (p := ⟨w.heap.size + 1 + 1, 0, none⟩)).setCell (own4.notAt (g := w.heap.size + 1 + 1) (by omega)) (.slice (some ⟨g', 0, none⟩) t.args.length cg') (p := ⟨w.heap.size + 1 + 1, 1, none⟩)
      have hf5 := (hf4.setCell (p := ⟨w.heap.size + 1 + 1, 0, none⟩) (hz3 2 0 (by omega)) (.string t.name)).setCell (p := ⟨w.heap.size + 1 + 1, 1, none⟩) (hz3 2 1 (by omega)) (.slice (some ⟨g', 0, none⟩) t.args.length cg')
      obtain ⟨σ4, e1', e2', _, p6, l6, c6, hv6, hsl6⟩ := own5.done hf5 w.heap.size (by omega)
      simp only [Value.slice.injEq] at hv6
      obtain ⟨rfl, rfl, rfl⟩ := hv6
      rw [HPUT.out]
      exact bodyPost_ret (v := .agg #[.string t.name, .slice (some ⟨g', 0, none⟩) t.args.length cg']) (by simp [results, Try.results60, go_sem, k0, k1]) rfl
        ⟨σ4, _, _, _, rfl, hn, hsl6, (hext1.mono (by simp; omega)).trans ((hext3.mono (by simp; omega)).trans e1'), e2', (hb04.setCell (by simp; omega) _).setCell (by simp; omega) _⟩
end Go.Proofs.Ytkjbaabkaboaoaa
