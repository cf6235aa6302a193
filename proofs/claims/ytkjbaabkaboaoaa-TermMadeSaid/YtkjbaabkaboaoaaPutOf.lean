/-
  A term with another one at a place: the reference's walk, and the program's Put.
  Conditions: none.
-/
import Derived.Test.YtkjbaabkaboaoaaWith
namespace Go.Proofs.Ytkjbaabkaboaoaa
open Go Go.RowKit
set_option maxHeartbeats 400000
set_option linter.unusedVariables false
open Cod (wid dat)
section
variable {α : Type} [Cod α] {σ : Sto} {P : Program} {w : World}
/-- append at an operation: one thing in a block of its own. -/
theorem wp_one {o : Oper} {a : Act} {K : Act → World → Prop} {Q : Exit → Act → World → Prop} (s x : Operand) (t : TypeId)
    (ho : o.op = .call { callee := .builtin .append, args := #[s, x], argTypes := #[t, t] })
    {N : Nat} {e : TypeId} {v : Value} {xs : List α} (h : Own σ N w e v xs) (hf : Fit σ w) (i : TypeInfo) (z : Value) (bytes : Nat)
    (ht : P.underlying t = some (.slice e)) (hi : P.info? e = some i) (hz : i.zero = some z) (hsize : i.size = wid α) (hby : i.bytes = bytes) (hzs : z.cells.size = wid α) (hsz : 0 < wid α)
    (B : Nat) (cs : Array Value) (T : TypeId) (hB : w.heap[B]? = some (.cells cs T (0, 0))) (y : α) (hc : Cells σ cs.toList y) (hs : a.eval s = v) (hx : a.eval x = .slice (some ⟨B, 0, none⟩) 1 1) (h63 : xs.length + 1 ≤ maxLen) (hbytes : (xs.length + 1) * bytes ≤ 140737488355328) (hN : N ≤ w.heap.size)
    (k : ∀ v' w', Grew σ N w e v (xs ++ [y]) v' w' → K (a.put o.dst v') w') : o.wp P a w K Q :=
  wp_of_run_append s x t ho v _ hs hx (Grew σ N w e v (xs ++ [y])) (run_append_one h hf t o.type i z bytes ht hi hz hsize hby hzs hsz B cs T hB y hc h63 hbytes hN) k
/-- append at an operation: the source any slice. -/
theorem wp_slc {o : Oper} {a : Act} {K : Act → World → Prop} {Q : Exit → Act → World → Prop} (s x : Operand) (t : TypeId)
    (ho : o.op = .call { callee := .builtin .append, args := #[s, x], argTypes := #[t, t] })
    {N : Nat} {e : TypeId} {v : Value} {xs : List α} (h : Own σ N w e v xs) (hf : Fit σ w) (i : TypeInfo) (z : Value) (bytes : Nat)
    (ht : P.underlying t = some (.slice e)) (hi : P.info? e = some i) (hz : i.zero = some z) (hsize : i.size = wid α) (hby : i.bytes = bytes) (hzs : z.cells.size = wid α) (hsz : 0 < wid α)
    (p : Option Addr) (m c : Nat) (ys : List α) (hsl : Slc σ p m c ys) (hs : a.eval s = v) (hx : a.eval x = .slice p m c) (h63 : xs.length + ys.length ≤ maxLen) (hbytes : (xs.length + ys.length) * bytes ≤ 140737488355328) (hN : N ≤ w.heap.size)
    (k : ∀ v' w', Grew σ N w e v (xs ++ ys) v' w' → K (a.put o.dst v') w') : o.wp P a w K Q :=
  wp_of_run_append s x t ho v _ hs hx (Grew σ N w e v (xs ++ ys)) (run_append_slc h hf t o.type i z bytes ht hi hz hsize hby hzs hsz p m c ys hsl h63 hbytes hN) k
end

def PutOfAt (is : List Int) : Prop := ∀ (t x : Tm) (σ : Sto) (v u : Value) (q : Option Addr) (l c : Nat) (w : World), Fit σ w → TmV σ v t → TmV σ u x → Slc σ q l c is → t.at_ is ≠ none → t.size ≤ 1000000 →
    Calls Try.prog 18 #[v, .slice q l c, u] w (TmPost σ w (t.put is x))
set_option maxRecDepth 100000 in
theorem putOf_ref : ∀ (is : List Int), PutOfAt is := by
  intro is
  induction is with
  | nil =>
    intro t x σ v u q l c w hs ht hx hq hat hz1
    obtain ⟨p, len, cap, rfl, hn, hsl⟩ := ht
    obtain ⟨p', len', cap', rfl, hn', hsl'⟩ := hx
    obtain rfl : l = 0 := hq.length
    go_enter Try.func18, Try.ntmps18
    go_wp2_with fail
    exact bodyPost_ret (v := .agg #[.string x.name, .slice p' len' cap']) (by simp [results, Try.results18, go_sem]) rfl ⟨σ, p', len', cap', rfl, hn', hsl', Ext.refl _ _, ((hs.alloc _).alloc _).alloc _, (((Below.refl _ _).alloc (Nat.le_refl _) _).alloc (by simp) _).alloc (by simp; omega) _⟩
  | cons i is ih =>
    intro t x σ v u q l c w hs ht hx hq hat hz1
    obtain ⟨p, len, cap, rfl, hn, hsl⟩ := ht
    obtain ⟨p', len', cap', rfl, hn', hsl'⟩ := hx
    obtain ⟨n, a, rfl, ha, hat'⟩ := Tm.at_some hat
    obtain ⟨l, rfl⟩ : ∃ l', l = l' + 1 := ⟨is.length, hq.length⟩
    obtain ⟨b, o, i', rfl, HI', f0, hi0, hi1⟩ := hq.int 0 (by omega)
    obtain rfl : i' = n := by have := HI'.out; simpa using this.symm
    have g0 : w.cell? ⟨b, o, none⟩ = some (.int .i64 n) := by simpa using hs _ _ f0
    have hqm := hq.max
    have hlm := hsl.max
    have lb : b < w.heap.size := World.block_lt_of_cell? w ⟨b, o, none⟩ g0
    have HPUT := Lib.hid (Tm.put_yes (is := is) (x := x) ha)
    have HAT := Lib.hid hat'
    have HA := Lib.hid ha
    have hza : a.size ≤ 1000000 := by
      have h1 := Tm.size_mem (mem_of_get ha)
      have h2 := Tm.size_eq t
      omega
    have hll : t.args.length ≤ 1000000 := by
      have h1 := Tm.length_le t.args
      have h2 := Tm.size_eq t
      omega
    have HL := Lib.hid hsl.length
    have hc0 : l + 1 ≤ c := hq.2.1
    have hc1 : (0 : Int) < (l : Int) + 1 := by omega
    have hc2 : (1 : Int) ≤ (l : Int) + 1 := by omega
    have hc3 : (l : Int) + 1 ≤ (c : Int) := by omega
    have hcm := hq.capmax
    have hl1 : (((l : Int) + 1) == 0) = false := by simp; omega
    have hcut := hq.cut 1 (by omega)
    have HC : Hid (Slc σ (if c = 1 then some ⟨b, o, none⟩ else some ⟨b, o + 1, none⟩) l (c - 1) is) := by
      show Slc _ _ _ _ _
      have e : (if c = 1 then some (⟨b, o, none⟩ : Addr) else some ⟨b, o + 1, none⟩) = (if c = 1 then some ⟨b, o, none⟩ else (some ⟨b, o, none⟩ : Option Addr).map (·.add (1 * Cod.wid Int))) := by
        split <;> rfl
      rw [e]
      simpa using hcut
    clear hcut
    clear ha hat hat' f0
    obtain ⟨i0, hi, hz0, hz1, hz2⟩ := info_parts infoTm
    have HI := Lib.hid hi; clear hi
    have H0 := Lib.hid hz0; clear hz0
    have H1 := Lib.hid hz1; clear hz1
    have H2 := Lib.hid hz2; clear hz2
    have HRR : Hid (∃ r, r = t.args.set n (a.put is x) ∧ r.length = len) := ⟨_, rfl, by rw [List.length_set]; exact HL.out.symm⟩
    obtain ⟨r, hr, hrl⟩ := HRR.out
    clear HRR
    have HR := Lib.hid hr; clear hr
    have HRL := Lib.hid hrl; clear hrl
    go_enter Try.func18, Try.ntmps18
    go_wp2_with fail
    go_loopw [8] (fun i wr => ∃ (k : Nat) (σr : Sto) (q : Option Addr) (m c : Nat), k ≤ len ∧ i = .int .i64 k ∧ Blk wr w.heap.size 25 #[.string t.name, .slice p len cap] ∧ Blk wr (w.heap.size + 1) 25 #[.string x.name, .slice p' len' cap'] ∧ Blk wr (w.heap.size + 1 + 1) 25 #[.string ⟨#[]⟩, .slice none 0 0] ∧ Blk wr (w.heap.size + 1 + 1 + 1) 25 #[.string t.name, .slice q m c] ∧ Own σr (w.heap.size + 4) wr 25 (.slice q m c) (r.take k) ∧ Ext (w.heap.size + 4) σ σr ∧ Fit σr wr ∧ Below w.heap.size w wr) (fun i _ => len - (intOf i).toNat)
    case atStart =>
      have T := (((Blk.new w 25 #[.string t.name, .slice p len cap]).alloc (.cells #[.string x.name, .slice p' len' cap'] 25)).alloc (.cells #[.string ⟨#[]⟩, .slice none 0 0] 25)).alloc (.cells #[.string t.name, .slice none 0 0] 25)
      have X := ((Blk.new (w.alloc (.cells #[.string t.name, .slice p len cap] 25)) 25 #[.string x.name, .slice p' len' cap']).alloc (.cells #[.string ⟨#[]⟩, .slice none 0 0] 25)).alloc (.cells #[.string t.name, .slice none 0 0] 25)
      have R := (Blk.new ((w.alloc (.cells #[.string t.name, .slice p len cap] 25)).alloc (.cells #[.string x.name, .slice p' len' cap'] 25)) 25 #[.string ⟨#[]⟩, .slice none 0 0]).alloc (.cells #[.string t.name, .slice none 0 0] 25)
      have B := Blk.new (((w.alloc (.cells #[.string t.name, .slice p len cap] 25)).alloc (.cells #[.string x.name, .slice p' len' cap'] 25)).alloc (.cells #[.string ⟨#[]⟩, .slice none 0 0] 25)) 25 #[.string t.name, .slice none 0 0]
      simp only [World.size_alloc] at X R B
      exact ⟨0, σ, none, 0, 0, Nat.zero_le _, rfl, T, X, R, B, Own.nil _ _ _ _, Ext.refl _ _, (((hs.alloc _).alloc _).alloc _).alloc _, ((((Below.refl _ _).alloc (Nat.le_refl _) _).alloc (by simp) _).alloc (by simp; omega) _).alloc (by simp; omega) _⟩
    case round =>
      obtain ⟨k, σr, q, m, c', hk, rfl, T, X, R, B, hown, hext, hfr, hb⟩ := hrel
      have t1 : wr.cell? ⟨w.heap.size, 1, none⟩ = some (.slice p len cap) := T.cell 1
      have x0 : wr.cell? ⟨w.heap.size + 1, 0, none⟩ = some (.string x.name) := X.cell 0
      have x1 : wr.cell? ⟨w.heap.size + 1, 1, none⟩ = some (.slice p' len' cap') := X.cell 1
      have b0 : wr.cell? ⟨w.heap.size + 1 + 1 + 1, 0, none⟩ = some (.string t.name) := B.cell 0
      have b1 : wr.cell? ⟨w.heap.size + 1 + 1 + 1, 1, none⟩ = some (.slice q m c') := B.cell 1
      have r0 : wr.cell? ⟨w.heap.size + 1 + 1, 0, none⟩ = some (.string ⟨#[]⟩) := R.cell 0
      have r1 : wr.cell? ⟨w.heap.size + 1 + 1, 1, none⟩ = some (.slice none 0 0) := R.cell 1
      have r2 : wr.frozen? ⟨w.heap.size + 1 + 1, 0, none⟩ = false := R.frozen 0
      have r3 : wr.frozen? ⟨w.heap.size + 1 + 1, 1, none⟩ = false := R.frozen 1
      have hsz := B.lt
      have g1 : wr.cell? ⟨b, o, none⟩ = some (.int .i64 n) := (hb.cell (p := ⟨b, o, none⟩) lb).trans g0
      by_cases hlt : k < len
      · obtain ⟨b', o', y, q', l', c'', rfl, HY, f0, f1, hny, hsly⟩ := hsl.tm k hlt
        have s0 := hext.keep _ _ f0
        have s1 := hext.keep _ _ f1
        have e0 := hfr _ _ s0
        have e1 := hfr _ _ s1
        clear f0 f1
        have hsb : (r.take k).length + 1 ≤ maxLen ∧ ((r.take k).length + 1) * 40 ≤ 140737488355328 := by
          have h1 := HRL.out
          have h2 := HL.out
          have h3 : (r.take k).length ≤ r.length := by rw [List.length_take]; omega
          simp only [maxLen]
          omega
        obtain ⟨hsb, hsc⟩ := hsb
        have hB3 : w.heap.size + 4 ≤ wr.heap.size := by omega
        by_cases hkn : k = n
        · have hbe : ((k : Int) == (n : Int)) = true := by simp [hkn]
          have hya : y = a := by
            have h1 := HY.out
            have h2 := HA.out
            rw [hkn, h2] at h1
            exact (Option.some.inj h1).symm
          subst hya
          have HT : Hid (r.take (k+1) = r.take k ++ [y.put is x]) := take_snoc (by rw [HR.out, hkn, List.getElem?_set_self (by rw [← HL.out]; omega)])
          subst hkn
          go_wp2_with fail
          refine beginM (fun w' => w'.cell? ⟨w.heap.size, 1, none⟩ = some (.slice (some ⟨b', o', none⟩) len cap) ∧ w'.cell? ⟨w.heap.size + 1 + 1 + 1, 1, none⟩ = some (.slice q m c') ∧ w'.cell? ⟨b', o' + k * 2, none⟩ = some (.string y.name) ∧ w'.cell? ⟨b', o' + k * 2 + 1, none⟩ = some (.slice q' l' c'') ∧ w'.cell? ⟨w.heap.size + 1, 0, none⟩ = some (.string x.name) ∧ w'.cell? ⟨w.heap.size + 1, 1, none⟩ = some (.slice p' len' cap')) 14 (by kernel_rfl) ⟨t1, b1, e0, e1, x0, x1⟩ (fun hHeld => ?_)
          refine takeM (i := 0) (v := ?_) rfl (by kernel_rfl) (by kernel_rfl) (by kernel_rfl) (by kernel_rfl) (fun _ _ _ h => h) (by rfl) ?_ hHeld ?_
          rotate_left 1
          · intro w' hSw
            try dsimp only at hSw
            go_simp
            try with_reducible rfl
          try simp only [Act.put, List.setIfInBounds_toArray, List.set_cons_zero, List.set_cons_succ]
          refine takeM (i := 1) (v := ?_) rfl (by kernel_rfl) (by kernel_rfl) (by kernel_rfl) (by kernel_rfl) (fun _ _ _ h => h) (by rfl) ?_ hHeld ?_
          rotate_left 1
          · intro w' hSw
            try dsimp only at hSw
            go_simp
            try with_reducible rfl
          try simp only [Act.put, List.setIfInBounds_toArray, List.set_cons_zero, List.set_cons_succ]
          refine takeM (i := 2) (v := ?_) rfl (by kernel_rfl) (by kernel_rfl) (by kernel_rfl) (by kernel_rfl) (fun _ _ _ h => h) (by rfl) ?_ hHeld ?_
          rotate_left 1
          · intro w' hSw
            try dsimp only at hSw
            go_simp
            try with_reducible rfl
          try simp only [Act.put, List.setIfInBounds_toArray, List.set_cons_zero, List.set_cons_succ]
          refine takeM (i := 3) (v := ?_) rfl (by kernel_rfl) (by kernel_rfl) (by kernel_rfl) (by kernel_rfl) (fun _ _ _ h => h) (by rfl) ?_ hHeld ?_
          rotate_left 1
          · intro w' hSw
            try dsimp only at hSw
            go_simp
            try with_reducible rfl
          try simp only [Act.put, List.setIfInBounds_toArray, List.set_cons_zero, List.set_cons_succ]
          refine takeM (i := 4) (v := ?_) rfl (by kernel_rfl) (by kernel_rfl) (by kernel_rfl) (by kernel_rfl) (fun _ _ _ h => h) (by rfl) ?_ hHeld ?_
          rotate_left 1
          · intro w' hSw
            try dsimp only at hSw
            go_simp
            try with_reducible rfl
          try simp only [Act.put, List.setIfInBounds_toArray, List.set_cons_zero, List.set_cons_succ]
          refine takeM (i := 5) (v := ?_) rfl (by kernel_rfl) (by kernel_rfl) (by kernel_rfl) (by kernel_rfl) (fun _ _ _ h => h) (by rfl) ?_ hHeld ?_
          rotate_left 1
          · intro w' hSw
            try dsimp only at hSw
            go_simp
            try with_reducible rfl
          try simp only [Act.put, List.setIfInBounds_toArray, List.set_cons_zero, List.set_cons_succ]
          refine takeM (i := 6) (v := ?_) rfl (by kernel_rfl) (by kernel_rfl) (by kernel_rfl) (by kernel_rfl) (fun _ _ _ h => h) (by rfl) ?_ hHeld ?_
          rotate_left 1
          · intro w' hSw
            try dsimp only at hSw
            go_simp
            try with_reducible rfl
          try simp only [Act.put, List.setIfInBounds_toArray, List.set_cons_zero, List.set_cons_succ]
          refine takeM (i := 7) (v := ?_) rfl (by kernel_rfl) (by kernel_rfl) (by kernel_rfl) (by kernel_rfl) (fun _ _ _ h => h) (by rfl) ?_ hHeld ?_
          rotate_left 1
          · intro w' hSw
            try dsimp only at hSw
            go_simp
            try with_reducible rfl
          try simp only [Act.put, List.setIfInBounds_toArray, List.set_cons_zero, List.set_cons_succ]
          refine takeM (i := 8) (v := ?_) rfl (by kernel_rfl) (by kernel_rfl) (by kernel_rfl) (by kernel_rfl) (fun _ _ _ h => h) (by rfl) ?_ hHeld ?_
          rotate_left 1
          · intro w' hSw
            try dsimp only at hSw
            go_simp
            try with_reducible rfl
          try simp only [Act.put, List.setIfInBounds_toArray, List.set_cons_zero, List.set_cons_succ]
          refine takeM (i := 9) (v := ?_) rfl (by kernel_rfl) (by kernel_rfl) (by kernel_rfl) (by kernel_rfl) (fun _ _ _ h => h) (by rfl) ?_ hHeld ?_
          rotate_left 1
          · intro w' hSw
            try dsimp only at hSw
            go_simp
            try with_reducible rfl
          try simp only [Act.put, List.setIfInBounds_toArray, List.set_cons_zero, List.set_cons_succ]
          refine runM (i := 10) (by kernel_rfl) rfl rfl ?_
          intro K hK
          go_simp
          refine (ih y x σr _ _ _ _ _ _ hfr.drew ⟨_, _, _, rfl, hny, hsly.ext hext⟩ ⟨_, _, _, rfl, hn', hsl'.ext hext⟩ (HC.out.ext hext) HAT.out hza).mono ?_
          rintro e w1 ⟨σ1, p1, l1, c1, rfl, hn1, hsl1, hext1, hf1, hb1⟩
          have T1 := T.drew.call hb1
          have X1 := X.drew.call hb1
          have R1 := R.drew.call hb1
          have B1 := B.drew.call hb1
          have own1 := hown.drew.call hb1 hext1
          have hbw1 := hb.drew.trans (hb1.mono (by simp; omega))
          have ext01 := hext.trans (hext1.mono (by simp; omega))
          have u0 := hext1.keep _ _ s0
          have u1 := hext1.keep _ _ s1
          have hw1 : w.heap.size + 4 ≤ w1.heap.size := by have := hb1.size; simp at this; omega
          have hcell : Cells σ1 [.string (y.put is x).name, .slice p1 l1 c1] (y.put is x) := cells_tm.2 ⟨p1, l1, c1, rfl, hn1, hsl1⟩
          refine hK.out _ _ ⟨T1.cell 1, B1.cell 1, hf1 _ _ u0, hf1 _ _ u1, X1.cell 0, X1.cell 1⟩ (fun hHeld => ?_)
          clear hK K
          try simp only [Act.put, List.setIfInBounds_toArray, List.set_cons_zero, List.set_cons_succ]
          refine runM (i := 11) (by kernel_rfl) rfl rfl ?_
          intro K hK
          go_simp
          refine hK.out _ _ ⟨(T1.alloc _).cell 1, (B1.alloc _).cell 1, (hf1.alloc _) _ _ u0, (hf1.alloc _) _ _ u1, (X1.alloc _).cell 0, (X1.alloc _).cell 1⟩ (fun hHeld => ?_)
          clear hK K
          try simp only [Act.put, List.setIfInBounds_toArray, List.set_cons_zero, List.set_cons_succ]
          refine runM (i := 12) (by kernel_rfl) rfl rfl ?_
          intro K hK
          refine wp_one _ _ _ rfl (own1.alloc (.cells #[.string (y.put is x).name, .slice p1 l1 c1] 25)) (hf1.alloc (.cells #[.string (y.put is x).name, .slice p1 l1 c1] 25)) i0 _ 40 Try.underlying23 HI.out H0.out H1.out H2.out rfl (by decide) w1.heap.size _ 25 (heap_alloc_new w1 _) _ hcell rfl rfl hsb hsc (by first | omega | (simp; omega) | simp) ?_
          intro v' w2 hg
          obtain ⟨q3, m3, c3, hv3⟩ := hg.shape
          subst hv3
          have T2 := (T1.alloc (.cells #[.string (y.put is x).name, .slice p1 l1 c1] 25)).grown hg.grown (own1.notAt (by omega))
          have X2 := (X1.alloc (.cells #[.string (y.put is x).name, .slice p1 l1 c1] 25)).grown hg.grown (own1.notAt (by omega))
          have R2 := (R1.alloc (.cells #[.string (y.put is x).name, .slice p1 l1 c1] 25)).grown hg.grown (own1.notAt (by omega))
          have B2 := (B1.alloc (.cells #[.string (y.put is x).name, .slice p1 l1 c1] 25)).grown hg.grown (own1.notAt (by omega))
          have hb2 := (hbw1.alloc (by first | omega | (simp; omega) | simp) (.cells #[.string (y.put is x).name, .slice p1 l1 c1] 25)).grown hg.grown (by first | omega | (simp; omega) | simp) (fun g e => by have := (own1.lt g e).1; omega)
          refine hK.out _ _ ⟨T2.cell 1, B2.cell 1, hg.fit _ _ u0, hg.fit _ _ u1, X2.cell 0, X2.cell 1⟩ (fun hHeld => ?_)
          clear hK K
          try simp only [Act.put, List.setIfInBounds_toArray, List.set_cons_zero, List.set_cons_succ]
          refine takeM (i := 13) (v := ?_) rfl (by kernel_rfl) (by kernel_rfl) (by kernel_rfl) (by kernel_rfl) (fun _ _ _ h => h) (by rfl) ?_ hHeld ?_
          rotate_left 1
          · intro w' hSw
            try dsimp only at hSw
            go_simp
            try with_reducible rfl
          try simp only [Act.put, List.setIfInBounds_toArray, List.set_cons_zero, List.set_cons_succ]
          have d1 : w2.cell? ⟨w.heap.size + 1 + 1 + 1, 1, none⟩ = some (.slice q m c') := B2.cell 1
          have d2 : w2.frozen? ⟨w.heap.size + 1 + 1 + 1, 1, none⟩ = false := B2.frozen 1
          refine lastM (by kernel_rfl) (by kernel_rfl) (by kernel_rfl) rfl rfl ?_
          intro K hK
          go_simp
          refine hK.out _ _ ?_
          clear hK K
          try simp only [Act.put, List.setIfInBounds_toArray, List.set_cons_zero, List.set_cons_succ]
          go_wp2_with fail
          go_roundw
          case rel =>
            refine ⟨k + 1, _, q3, m3, c3, by omega, by go_num, T2.far (by first | omega | (simp; omega) | simp) _, X2.far (by simp) _, R2.far (by simp) _, B2.put 1 _, ?_, ext01, hg.fit.setCell ?_ _, hb2.setCell (by first | omega | (simp; omega) | simp) _⟩
            · rw [HT.out]
              exact hg.own.setCell (hg.own.notAt (by simp)) _
            · rw [ext01.old _ (by simp)]
              exact hs.no (by first | omega | (simp; omega) | simp)
          case measure => simp [intOf]; omega
        · have hbe : ((k : Int) == (n : Int)) = false := by simp; omega
          have HT : Hid (r.take (k+1) = r.take k ++ [y]) := take_snoc (by rw [HR.out, List.getElem?_set_ne (by omega)]; exact HY.out)
          clear hkn
          go_wp2_with fail
          refine beginM (fun w' => w'.cell? ⟨w.heap.size, 1, none⟩ = some (.slice (some ⟨b', o', none⟩) len cap) ∧ w'.cell? ⟨w.heap.size + 1 + 1 + 1, 1, none⟩ = some (.slice q m c') ∧ w'.cell? ⟨b', o' + k * 2, none⟩ = some (.string y.name) ∧ w'.cell? ⟨b', o' + k * 2 + 1, none⟩ = some (.slice q' l' c'')) 10 (by kernel_rfl) ⟨t1, b1, e0, e1⟩ (fun hHeld => ?_)
          refine takeM (i := 0) (v := ?_) rfl (by kernel_rfl) (by kernel_rfl) (by kernel_rfl) (by kernel_rfl) (fun _ _ _ h => h) (by rfl) ?_ hHeld ?_
          rotate_left 1
          · intro w' hSw
            try dsimp only at hSw
            go_simp
            try with_reducible rfl
          try simp only [Act.put, List.setIfInBounds_toArray, List.set_cons_zero, List.set_cons_succ]
          refine takeM (i := 1) (v := ?_) rfl (by kernel_rfl) (by kernel_rfl) (by kernel_rfl) (by kernel_rfl) (fun _ _ _ h => h) (by rfl) ?_ hHeld ?_
          rotate_left 1
          · intro w' hSw
            try dsimp only at hSw
            go_simp
            try with_reducible rfl
          try simp only [Act.put, List.setIfInBounds_toArray, List.set_cons_zero, List.set_cons_succ]
          refine takeM (i := 2) (v := ?_) rfl (by kernel_rfl) (by kernel_rfl) (by kernel_rfl) (by kernel_rfl) (fun _ _ _ h => h) (by rfl) ?_ hHeld ?_
          rotate_left 1
          · intro w' hSw
            try dsimp only at hSw
            go_simp
            try with_reducible rfl
          try simp only [Act.put, List.setIfInBounds_toArray, List.set_cons_zero, List.set_cons_succ]
          refine takeM (i := 3) (v := ?_) rfl (by kernel_rfl) (by kernel_rfl) (by kernel_rfl) (by kernel_rfl) (fun _ _ _ h => h) (by rfl) ?_ hHeld ?_
          rotate_left 1
          · intro w' hSw
            try dsimp only at hSw
            go_simp
            try with_reducible rfl
          try simp only [Act.put, List.setIfInBounds_toArray, List.set_cons_zero, List.set_cons_succ]
          refine takeM (i := 4) (v := ?_) rfl (by kernel_rfl) (by kernel_rfl) (by kernel_rfl) (by kernel_rfl) (fun _ _ _ h => h) (by rfl) ?_ hHeld ?_
          rotate_left 1
          · intro w' hSw
            try dsimp only at hSw
            go_simp
            try with_reducible rfl
          try simp only [Act.put, List.setIfInBounds_toArray, List.set_cons_zero, List.set_cons_succ]
          refine takeM (i := 5) (v := ?_) rfl (by kernel_rfl) (by kernel_rfl) (by kernel_rfl) (by kernel_rfl) (fun _ _ _ h => h) (by rfl) ?_ hHeld ?_
          rotate_left 1
          · intro w' hSw
            try dsimp only at hSw
            go_simp
            try with_reducible rfl
          try simp only [Act.put, List.setIfInBounds_toArray, List.set_cons_zero, List.set_cons_succ]
          refine takeM (i := 6) (v := ?_) rfl (by kernel_rfl) (by kernel_rfl) (by kernel_rfl) (by kernel_rfl) (fun _ _ _ h => h) (by rfl) ?_ hHeld ?_
          rotate_left 1
          · intro w' hSw
            try dsimp only at hSw
            go_simp
            try with_reducible rfl
          try simp only [Act.put, List.setIfInBounds_toArray, List.set_cons_zero, List.set_cons_succ]
          have hcell : Cells σr [.string y.name, .slice q' l' c''] y := cells_tm.2 ⟨q', l', c'', rfl, hny, hsly.ext hext⟩
          refine runM (i := 7) (by kernel_rfl) rfl rfl ?_
          intro K hK
          go_simp
          refine hK.out _ _ ⟨(T.drew.alloc _).cell 1, (B.drew.alloc _).cell 1, (hfr.drew.alloc _) _ _ s0, (hfr.drew.alloc _) _ _ s1⟩ (fun hHeld => ?_)
          clear hK K
          try simp only [Act.put, List.setIfInBounds_toArray, List.set_cons_zero, List.set_cons_succ]
          refine runM (i := 8) (by kernel_rfl) rfl rfl ?_
          intro K hK
          refine wp_one _ _ _ rfl (hown.drew.alloc (.cells #[.string y.name, .slice q' l' c''] 25)) (hfr.drew.alloc (.cells #[.string y.name, .slice q' l' c''] 25)) i0 _ 40 Try.underlying23 HI.out H0.out H1.out H2.out rfl (by decide) wr.drew.heap.size _ 25 (heap_alloc_new wr.drew _) _ hcell rfl rfl hsb hsc (by first | omega | (simp; omega) | simp) ?_
          intro v' w2 hg
          obtain ⟨q3, m3, c3, hv3⟩ := hg.shape
          subst hv3
          have T2 := (T.drew.alloc (.cells #[.string y.name, .slice q' l' c''] 25)).grown hg.grown (hown.drew.notAt (by omega))
          have X2 := (X.drew.alloc (.cells #[.string y.name, .slice q' l' c''] 25)).grown hg.grown (hown.drew.notAt (by omega))
          have R2 := (R.drew.alloc (.cells #[.string y.name, .slice q' l' c''] 25)).grown hg.grown (hown.drew.notAt (by omega))
          have B2 := (B.drew.alloc (.cells #[.string y.name, .slice q' l' c''] 25)).grown hg.grown (hown.drew.notAt (by omega))
          have hb2 := (hb.drew.alloc (by first | omega | (simp; omega) | simp) (.cells #[.string y.name, .slice q' l' c''] 25)).grown hg.grown (by first | omega | (simp; omega) | simp) (fun g e => by have := (hown.drew.lt g e).1; omega)
          refine hK.out _ _ ⟨T2.cell 1, B2.cell 1, hg.fit _ _ s0, hg.fit _ _ s1⟩ (fun hHeld => ?_)
          clear hK K
          try simp only [Act.put, List.setIfInBounds_toArray, List.set_cons_zero, List.set_cons_succ]
          refine takeM (i := 9) (v := ?_) rfl (by kernel_rfl) (by kernel_rfl) (by kernel_rfl) (by kernel_rfl) (fun _ _ _ h => h) (by rfl) ?_ hHeld ?_
          rotate_left 1
          · intro w' hSw
            try dsimp only at hSw
            go_simp
            try with_reducible rfl
          try simp only [Act.put, List.setIfInBounds_toArray, List.set_cons_zero, List.set_cons_succ]
          have d1 : w2.cell? ⟨w.heap.size + 1 + 1 + 1, 1, none⟩ = some (.slice q m c') := B2.cell 1
          have d2 : w2.frozen? ⟨w.heap.size + 1 + 1 + 1, 1, none⟩ = false := B2.frozen 1
          refine lastM (by kernel_rfl) (by kernel_rfl) (by kernel_rfl) rfl rfl ?_
          intro K hK
          go_simp
          refine hK.out _ _ ?_
          clear hK K
          try simp only [Act.put, List.setIfInBounds_toArray, List.set_cons_zero, List.set_cons_succ]
          go_wp2_with fail
          go_roundw
          case rel =>
            refine ⟨k + 1, _, q3, m3, c3, by omega, by go_num, T2.far (by first | omega | (simp; omega) | simp) _, X2.far (by simp) _, R2.far (by simp) _, B2.put 1 _, ?_, hext, hg.fit.setCell ?_ _, hb2.setCell (by first | omega | (simp; omega) | simp) _⟩
            · rw [HT.out]
              exact hg.own.setCell (hg.own.notAt (by simp)) _
            · rw [hext.old _ (by simp)]
              exact hs.no (by first | omega | (simp; omega) | simp)
          case measure => simp [intOf]; omega
      · obtain rfl : k = len := by omega
        go_wp2_with fail
        have Rb := (R.put 0 (.string t.name)).put 1 (.slice q m c')
        have k0 := Rb.cell 0
        have k1 := Rb.cell 1
        have hz : ∀ j z, j < 4 → σr ⟨w.heap.size + j, z, none⟩ = none := fun j z hj => by rw [hext.old _ (by simp; omega)]; exact hs.no (by simp)
        have own5 := (hown.setCell (hown.notAt (g := w.heap.size + 1 + 1) (by omega)) (.string t.name) (p := ⟨w.heap.size + 1 + 1, 0, none⟩)).setCell (hown.notAt (g := w.heap.size + 1 + 1) (by omega)) (.slice q m c') (p := ⟨w.heap.size + 1 + 1, 1, none⟩)
        have hf5 := (hfr.setCell (p := ⟨w.heap.size + 1 + 1, 0, none⟩) (hz 2 0 (by omega)) (.string t.name)).setCell (p := ⟨w.heap.size + 1 + 1, 1, none⟩) (hz 2 1 (by omega)) (.slice q m c')
        obtain ⟨σ4, h1, h2, _, p6, l6, c6, hv6, hsl6⟩ := own5.done hf5 w.heap.size (by omega)
        simp only [Value.slice.injEq] at hv6
        obtain ⟨rfl, rfl, rfl⟩ := hv6
        rw [List.take_of_length_le (by rw [HRL.out]; omega), HR.out] at hsl6
        rw [HPUT.out]
        exact bodyPost_ret (v := .agg #[.string t.name, .slice q m c']) (by simp [results, Try.results18, go_sem, k0, k1]) rfl
          ⟨σ4, _, _, _, rfl, hn, hsl6, (hext.mono (by omega)).trans h1, h2, (hb.setCell (by simp; omega) _).setCell (by simp; omega) _⟩
end Go.Proofs.Ytkjbaabkaboaoaa
