/-
  All places of a term: plain, and the walks (program and reference).
  Conditions: none.
-/
import Derived.Test.YtkjbaabkaboaoaaVars
namespace Go.Proofs.Ytkjbaabkaboaoaa
open Go Go.RowKit
set_option maxHeartbeats 400000
set_option linter.unusedVariables false

/-! ### plain -/
mutual
def Tm.places : Tm → List (List Int)
  | .mk _ xs => [] :: Tm.placesFrom 0 xs
def Tm.placesFrom : Nat → List Tm → List (List Int)
  | _, [] => []
  | k, t :: ts => t.places.map (fun p => (k : Int) :: p) ++ Tm.placesFrom (k+1) ts
end
theorem Tm.places_eq (t : Tm) : t.places = [] :: Tm.placesFrom 0 t.args := by cases t; rfl
theorem Tm.placesFrom_snoc (a : Tm) : ∀ (k : Nat) (xs : List Tm), Tm.placesFrom k (xs ++ [a]) = Tm.placesFrom k xs ++ a.places.map (fun p => ((k + xs.length : Nat) : Int) :: p)
  | k, [] => by simp [Tm.placesFrom]
  | k, t :: ts => by
    rw [List.cons_append, Tm.placesFrom, Tm.placesFrom_snoc a (k+1) ts, Tm.placesFrom, List.length_cons, show k + 1 + ts.length = k + (ts.length + 1) by omega, List.append_assoc]
/-- the places ahead of those within the k-th argument -/
def Tm.placesTo (t : Tm) (k : Nat) : List (List Int) := [] :: Tm.placesFrom 0 (t.args.take k)
theorem Tm.placesTo_zero (t : Tm) : t.placesTo 0 = [[]] := rfl
theorem Tm.placesTo_succ {t : Tm} {k : Nat} {a : Tm} (h : t.args[k]? = some a) : t.placesTo (k+1) = t.placesTo k ++ a.places.map (fun p => (k : Int) :: p) := by
  have hl := lt_of_get h
  unfold Tm.placesTo
  rw [take_snoc h, Tm.placesFrom_snoc, List.length_take, Nat.min_eq_left (by omega), Nat.zero_add, List.cons_append]
theorem Tm.placesTo_all {t : Tm} {k : Nat} (h : k = t.args.length) : t.placesTo k = t.places := by
  subst h
  rw [Tm.places_eq, Tm.placesTo, List.take_length]
mutual
theorem Tm.places_length : ∀ t : Tm, t.places.length = t.size
  | .mk n xs => by simp only [Tm.places, Tm.size, List.length_cons, Tm.placesFrom_length 0 xs]; omega
theorem Tm.placesFrom_length : ∀ (k : Nat) (xs : List Tm), (Tm.placesFrom k xs).length = Tm.sizes xs
  | _, [] => rfl
  | k, t :: ts => by simp only [Tm.placesFrom, Tm.sizes, List.length_append, List.length_map, Tm.places_length t, Tm.placesFrom_length (k+1) ts]
end
mutual
theorem Tm.places_deep : ∀ (t : Tm) (p : List Int), p ∈ t.places → p.length ≤ t.size
  | .mk n xs, p, h => by
    simp only [Tm.places, List.mem_cons] at h
    rcases h with rfl | h
    · simp
    · have := Tm.placesFrom_deep 0 xs p h
      simp only [Tm.size]
      omega
theorem Tm.placesFrom_deep : ∀ (k : Nat) (xs : List Tm) (p : List Int), p ∈ Tm.placesFrom k xs → p.length ≤ 1 + Tm.sizes xs
  | _, [], p, h => by simp [Tm.placesFrom] at h
  | k, t :: ts, p, h => by
    simp only [Tm.placesFrom, List.mem_append, List.mem_map] at h
    simp only [Tm.sizes]
    rcases h with ⟨q, hq, rfl⟩ | h
    · have := Tm.places_deep t q hq
      simp only [List.length_cons]
      omega
    · have := Tm.placesFrom_deep (k+1) ts p h
      omega
end
theorem Tm.placesTo_length (t : Tm) (k : Nat) : (t.placesTo k).length = 1 + Tm.sizes (t.args.take k) := by
  rw [Tm.placesTo, List.length_cons, Tm.placesFrom_length]; omega

/-! ### memory -/
/-- The k-th of a slice of slices. -/
theorem Slc.list {α : Type} [Cod α] {σ : Sto} {p : Option Addr} {len cap : Nat} {xs : List (List α)} (h : Slc σ p len cap xs) (k : Nat) (hk : k < len) :
    ∃ b o a q l c, p = some ⟨b, o, none⟩ ∧ Hid (xs[k]? = some a) ∧ σ ⟨b, o + k, none⟩ = some (.slice q l c) ∧ Slc σ q l c a := by
  have hl := h.length
  obtain ⟨b, o, hp, cs, h1, h2, h3⟩ := h.get k (by omega)
  obtain ⟨q, l, c, rfl, h4⟩ := cells_list.1 h3
  have := h2 0 _ rfl
  exact ⟨b, o, xs[k], q, l, c, hp, Lib.hid (List.getElem?_eq_getElem (by omega)), by simpa [Cod.wid] using this, h4⟩
theorem Own.grown {α : Type} [Cod α] {σ : Sto} {N : Nat} {w w' : World} {e : TypeId} {v : Value} {xs : List α} {row : Option Nat} (h : Own σ N w e v xs) (hg : w.grownBy w' row) (hr : ∀ g, v.ownBlock = some g → row ≠ some g) : Own σ N w' e v xs :=
  h.kept (fun g hv => hg.block g (h.lt g hv).2 (fun e => hr g hv e.symm)) (fun _ _ h => h) (fun _ _ _ _ => rfl)
/-- More is known elsewhere. -/
theorem Own.known {α : Type} [Cod α] {σ σ' : Sto} {N : Nat} {w : World} {e : TypeId} {v : Value} {xs : List α} {row : Option Nat} (h : Own σ N w e v xs) (he : ∀ p x, σ p = some x → σ' p = some x) (ho : ∀ p : Addr, some p.block ≠ row → σ' p = σ p) (hr : ∀ g, v.ownBlock = some g → row ≠ some g) : Own σ' N w e v xs :=
  h.kept (fun _ _ => rfl) he (fun g hg p hp => ho p (by rw [hp]; exact fun e => hr g hg e.symm))
theorem own_apart0 {w : World} {g : Nat} (h : g < w.heap.size) (he : (Value.slice (some ⟨w.heap.size, 0, none⟩) 1 1).ownBlock = some g) : False := by
  simp [Value.ownBlock] at he
  omega
/-- A row that began in a new block, grown, lies in none of the old ones. -/
theorem own_apart {w w1 : World} {g : Nat} {v : Value} (h : g < w.heap.size) (hw : w1.heap.size = w.heap.size + 1) (hat : v.ownBlock = (Value.slice (some ⟨w.heap.size, 0, none⟩) 1 1).ownBlock ∨ v.ownBlock = some w1.heap.size) (he : v.ownBlock = some g) : False := by
  rcases hat with h1 | h1
  · rw [h1] at he
    exact own_apart0 h he
  · rw [h1] at he
    simp at he
    omega
theorem infoInt : (Try.prog.info? 3).map (fun i => (i.zero, i.size, i.bytes)) = some (some (.int .i64 0), 1, 8) := by kernel_rfl
theorem infoInts : (Try.prog.info? 31).map (fun i => (i.zero, i.size, i.bytes)) = some (some (.slice none 0 0), 1, 24) := by kernel_rfl
theorem cells_i64 {σ : Sto} {k len : Nat} (h : k ≤ len) (hl : len ≤ 9223372036854775807) : Cells σ [.int .i64 k] (k : Int) := by
  refine cells_int.2 ⟨rfl, ?_⟩
  simp [Lit.wf, IntKind.min, IntKind.max, IntKind.signed, IntKind.bits]
  omega

/-! ### the walks -/
def PlacesAt (f : Nat) (t : Tm) : Prop := ∀ (σ : Sto) (v : Value) (w : World), Fit σ w → TmV σ v t → t.size ≤ 1000000 →
    Calls Try.prog f #[v] w fun e w' => ∃ σ' p l c, e = .returned (.slice p l c) ∧ Slc σ' p l c t.places ∧ Ext w.heap.size σ σ' ∧ Fit σ' w' ∧ Below w.heap.size w w'
set_option maxRecDepth 100000 in
theorem places_ref : ∀ (N : Nat) (t : Tm), SizeOf.sizeOf t < N → PlacesAt 32 t := by
  intro N
  induction N with
  | zero => intro t h; omega
  | succ N ih =>
  intro t hN σ v w hs ht hz
  obtain ⟨p, len, cap, rfl, hn, hsl⟩ := ht
  have HL := Lib.hid hsl.length
  have hlm := hsl.max
  obtain ⟨i1, hi, hz0, hz1, hz2⟩ := info_parts infoInt
  have HI := Lib.hid hi; clear hi
  have H0 := Lib.hid hz0; clear hz0
  have H1 := Lib.hid hz1; clear hz1
  have H2 := Lib.hid hz2; clear hz2
  obtain ⟨i2, hi, hz0, hz1, hz2⟩ := info_parts infoInts
  have JI := Lib.hid hi; clear hi
  have J0 := Lib.hid hz0; clear hz0
  have J1 := Lib.hid hz1; clear hz1
  have J2 := Lib.hid hz2; clear hz2
  have hfb : Fit σ (w.alloc (.cells #[.string t.name, .slice p len cap] 25)) := hs.alloc _
  have hown0 : Own σ (w.heap.size + 1) ((w.alloc (.cells #[.string t.name, .slice p len cap] 25)).alloc (.cells #[.slice none 0 0] 31)) 31 (.slice (some ⟨w.heap.size + 1, 0, none⟩) 1 1) [([] : List Int)] := by
    have := Own.new (N := w.heap.size + 1) (e := 31) hfb (cs := #[.slice none 0 0]) (a := ([] : List Int)) (cells_list.2 ⟨none, 0, 0, rfl, Slc.nil σ⟩) (by simp)
    simpa using this
  go_enter Try.func32, Try.ntmps32
  go_wp2_with fail
  go_loopw [3, 4] (fun n i wr => ∃ (k : Nat) (σr : Sto), k ≤ len ∧ i = .int .i64 k ∧ Own σr (w.heap.size + 1) wr 31 n (t.placesTo k) ∧ Ext w.heap.size σ σr ∧ Fit σr wr ∧ Below (w.heap.size + 1) (w.alloc (.cells #[.string t.name, .slice p len cap] 25)) wr) (fun _ i _ => len - (intOf i).toNat)
  case atStart => exact ⟨0, σ, Nat.zero_le _, rfl, hown0, Ext.refl _ _, hfb.alloc _, (Below.refl _ _).alloc (by simp) _⟩
  case round =>
    obtain ⟨k, σr, hk, rfl, hown, hext, hfr, hb⟩ := hrel
    have hbw := box_below hb
    have c1 : wr.cell? ⟨w.heap.size, 1, none⟩ = some (.slice p len cap) := box_cell hb 1
    have hsz := hb.size
    simp only [World.size_alloc] at hsz
    clear hown0 hfb
    by_cases hlt : k < len
    · obtain ⟨b, o, a, q', l, c, rfl, HA, f0, f1, hn', hsl'⟩ := hsl.tm k hlt
      have g0 := hfr _ _ (hext.keep _ _ f0)
      have g1 := hfr _ _ (hext.keep _ _ f1)
      have hsa : a.size ≤ 1000000 ∧ (t.placesTo k).length + a.places.length ≤ 1000000 := by
        have h1 := Tm.sizes_take HA.out
        have h2 := Tm.sizes_take_le t.args (k+1)
        have h3 := Tm.size_eq t
        rw [t.placesTo_length, Tm.places_length]
        omega
      clear f0 f1
      go_wp2_with fail
      refine (ih a (by have := Tm.lt_of_arg (mem_of_get HA.out); omega) σr _ _ hfr ⟨_, _, _, rfl, hn', hsl'.ext hext⟩ hsa.1).mono ?_
      rintro e w1 ⟨σ1, p1, l1, c1', rfl, hsl1, hext1, hf1, hb1⟩
      have hw1 : w.heap.size + 1 ≤ w1.heap.size := by have := hb1.size; omega
      have hown1 := hown.call hb1 hext1
      have hbb1 := below_call hb (by omega) hb1
      have hext01 := hext.trans (hext1.mono (by omega))
      have HL1 := Lib.hid hsl1.length
      have hlm1 := hsl1.max
      clear c1 g0 g1 hbw hsz hown hext hfr hb hext1 hb1
      go_wp2_with fail
      go_loopw [3, 6] (fun n i wr => ∃ (j : Nat) (σr : Sto), j ≤ l1 ∧ i = .int .i64 j ∧ Own σr (w.heap.size + 1) wr 31 n (t.placesTo k ++ (a.places.take j).map (fun p => (k : Int) :: p)) ∧ Ext w.heap.size σ σr ∧ (∀ p x, σ1 p = some x → σr p = some x) ∧ Fit σr wr ∧ Below (w.heap.size + 1) (w.alloc (.cells #[.string t.name, .slice (some ⟨b, o, none⟩) len cap] 25)) wr) (fun _ i _ => l1 - (intOf i).toNat)
      case atStart => exact ⟨0, σ1, Nat.zero_le _, rfl, by simpa using hown1, hext01, fun _ _ h => h, hf1, hbb1⟩
      case round =>
        obtain ⟨j, σr, hj, rfl, hown, hext, hkeep, hfr, hb⟩ := hrel
        have hsz := hb.size
        simp only [World.size_alloc] at hsz
        by_cases hlt2 : j < l1
        · skip
          obtain ⟨b3, o3, pl, q3, l3, c3, hp3, HA3, f3, hsl3⟩ := hsl1.list j hlt2
          subst hp3
          have g3w := hfr _ _ (hkeep _ _ f3)
          have g3 := (hfr.alloc (.cells #[.int .i64 k] 3)) _ _ (hkeep _ _ f3)
          have hsl3' : Slc σr q3 l3 c3 pl := Slc.ext (N := 0) hsl3 ⟨hkeep, fun p hp => absurd hp (Nat.not_lt_zero _)⟩
          have hpl : pl.length ≤ 1000000 := by
            have := Tm.places_deep a pl (mem_of_get HA3.out)
            omega
          have hlj : (t.placesTo k ++ (a.places.take j).map (fun p => (k : Int) :: p)).length + 1 ≤ 1000000 := by
            have h1 := lt_of_get HA3.out
            rw [List.length_append, List.length_map, List.length_take, Nat.min_eq_left (by omega)]
            omega
          have HT : Hid ((a.places.take (j+1)).map (fun p => (k : Int) :: p) = (a.places.take j).map (fun p => (k : Int) :: p) ++ [(k : Int) :: pl]) := Lib.hid (by rw [take_snoc HA3.out, List.map_append]; rfl)
          have hn3 : Own σr (w.heap.size + 1) (wr.alloc (.cells #[.int .i64 k] 3)) 3 (.slice (some ⟨wr.heap.size, 0, none⟩) 1 1) [(k : Int)] := Own.new hfr (cells_i64 hk hlm) (by omega)
          have h63 : [(k : Int)].length + pl.length ≤ maxLen := by simp [maxLen]; omega
          have hby : ([(k : Int)].length + pl.length) * 8 ≤ 140737488355328 := by simp; omega
          have h63' : (t.placesTo k ++ (a.places.take j).map (fun p => (k : Int) :: p)).length + 1 ≤ maxLen := by simp only [maxLen]; omega
          have hby' : ((t.placesTo k ++ (a.places.take j).map (fun p => (k : Int) :: p)).length + 1) * 24 ≤ 140737488355328 := by omega
          have hownA := hown.alloc (.cells #[.int .i64 k] 3)
          clear f3
          go_wp2_with (first
            | (at_builtin; refine wpList_slc rfl _ _ _ rfl hn3 (hfr.alloc _) i1 _ 8 Try.underlying31 HI.out H0.out H1.out H2.out rfl (by decide) q3 l3 c3 _ hsl3' rfl rfl h63 hby (by simp; omega) ?_
               intro v' w2 hg
               obtain ⟨σ2, e2, hf2, ho2, p2, l2, c2, hvv, hsl2⟩ := hg.own.done hg.fit w.heap.size (by omega)
               subst hvv
               have hrow : ∀ g, u3.ownBlock = some g → (Value.slice p2 l2 c2).ownBlock ≠ some g := fun g hv he => own_apart (hown.lt g hv).2 (World.size_alloc _ _) hg.at_ he
               have hrow0 : ∀ g, u3.ownBlock = some g → (Value.slice (some ⟨wr.heap.size, 0, none⟩) 1 1).ownBlock ≠ some g := fun g hv he => own_apart0 (hown.lt g hv).2 he
               have hown2 := ((hownA.grown hg.grown hrow0).known e2.keep ho2 hrow).alloc (.cells #[.slice p2 l2 c2] 31)
               have hw2 : w.heap.size + 1 ≤ w2.heap.size := by have := hg.grown.size; simp at this; omega)
            | (at_builtin; refine wpList_one rfl _ _ _ rfl hown2 (hf2.alloc _) i2 _ 24 Try.underlying54 JI.out J0.out J1.out J2.out rfl (by decide) w2.heap.size _ 31 (heap_alloc_new w2 _) ((k : Int) :: pl) (cells_list.2 ⟨_, _, _, rfl, hsl2⟩) rfl rfl h63' hby' (by simp; omega) ?_; intro v4 w4 hg4))
          go_roundw
          case rel =>
            refine ⟨j + 1, σ2, by omega, by go_num, ?_, hext.trans e2, fun p x h => e2.keep p x (hkeep p x h), hg4.fit, ?_⟩
            · rw [HT.out, ← List.append_assoc]
              exact hg4.own
            · have h1 := (hb.alloc (by omega) (.cells #[.int .i64 k] 3)).grown hg.grown (by simp; omega) (fun g hgk => by simp [Value.ownBlock] at hgk; omega)
              exact (h1.alloc (by omega) (.cells #[.slice p2 l2 c2] 31)).grown hg4.grown (by simp; omega) (fun g hgk => (hown.lt g hgk).1)
          case measure => simp [intOf]; omega
        · obtain rfl : j = l1 := by omega
          have HP : Hid (t.placesTo (k+1) = t.placesTo k ++ (a.places.take j).map (fun p => (k : Int) :: p)) := Lib.hid (by rw [Tm.placesTo_succ HA.out, List.take_of_length_le (by have := HL1.out; omega)])
          go_wp2_with fail
          go_roundw
          case rel => exact ⟨k + 1, σr, by omega, by go_num, by rw [HP.out]; exact hown, hext, hfr, hb⟩
          case measure => simp [intOf]; omega
    · obtain rfl : k = len := by omega
      have HP := Lib.hid (Tm.placesTo_all HL.out)
      go_wp2_with fail
      go_ret
      obtain ⟨σ2, e1, e2, e3, p2, l2, c2, rfl, hsl2⟩ := hown.done hfr w.heap.size (by omega)
      rw [HP.out] at hsl2
      exact ⟨σ2, p2, l2, c2, rfl, hsl2, hext.trans e1, e2, hbw⟩
set_option maxRecDepth 100000 in
theorem places_any : ∀ (N : Nat) (t : Tm), SizeOf.sizeOf t < N → PlacesAt 76 t := by
  intro N
  induction N with
  | zero => intro t h; omega
  | succ N ih =>
  intro t hN σ v w hs ht hz
  obtain ⟨p, len, cap, rfl, hn, hsl⟩ := ht
  have HL := Lib.hid hsl.length
  have hlm := hsl.max
  obtain ⟨i1, hi, hz0, hz1, hz2⟩ := info_parts infoInt
  have HI := Lib.hid hi; clear hi
  have H0 := Lib.hid hz0; clear hz0
  have H1 := Lib.hid hz1; clear hz1
  have H2 := Lib.hid hz2; clear hz2
  obtain ⟨i2, hi, hz0, hz1, hz2⟩ := info_parts infoInts
  have JI := Lib.hid hi; clear hi
  have J0 := Lib.hid hz0; clear hz0
  have J1 := Lib.hid hz1; clear hz1
  have J2 := Lib.hid hz2; clear hz2
  have hfb : Fit σ (w.alloc (.cells #[.string t.name, .slice p len cap] 25)) := hs.alloc _
  have hown0 : Own σ (w.heap.size + 1) (((w.alloc (.cells #[.string t.name, .slice p len cap] 25)).alloc (.cells #[] 3)).alloc (.cells #[.slice (some ⟨w.heap.size + 1, 0, none⟩) 0 0] 31)) 31 (.slice (some ⟨w.heap.size + 1 + 1, 0, none⟩) 1 1) [([] : List Int)] := by
    have := Own.new (N := w.heap.size + 1) (e := 31) (hfb.alloc (.cells #[] 3)) (cs := #[.slice (some ⟨w.heap.size + 1, 0, none⟩) 0 0]) (a := ([] : List Int)) (cells_list.2 ⟨_, 0, 0, rfl, ⟨rfl, Nat.le_refl _, by simp [maxLen], by simp, 0, 0, fun h => absurd rfl h, trivial⟩⟩) (by simp)
    simpa using this
  go_enter Try.func76, Try.ntmps76
  go_wp2_with fail
  go_loopw [3, 13] (fun n i wr => ∃ (k : Nat) (σr : Sto), k ≤ len ∧ i = .int .i64 k ∧ Own σr (w.heap.size + 1) wr 31 n (t.placesTo k) ∧ Ext w.heap.size σ σr ∧ Fit σr wr ∧ Below (w.heap.size + 1) (w.alloc (.cells #[.string t.name, .slice p len cap] 25)) wr) (fun _ i _ => len - (intOf i).toNat)
  case atStart => exact ⟨0, σ, Nat.zero_le _, rfl, hown0, Ext.refl _ _, (hfb.alloc _).alloc _, ((Below.refl _ _).alloc (by simp) _).alloc (by simp <;> omega) _⟩
  case round =>
    obtain ⟨k, σr, hk, rfl, hown, hext, hfr, hb⟩ := hrel
    have hbw := box_below hb
    have hsz := hb.size
    simp only [World.size_alloc] at hsz
    clear hown0 hfb
    by_cases hlt : k < len
    · obtain ⟨b, o, a, q', l, c, rfl, HA, f0, f1, hn', hsl'⟩ := hsl.tm k hlt
      have g0 := hfr _ _ (hext.keep _ _ f0)
      have g1 := hfr _ _ (hext.keep _ _ f1)
      have hsa : a.size ≤ 1000000 ∧ (t.placesTo k).length + a.places.length ≤ 1000000 := by
        have h1 := Tm.sizes_take HA.out
        have h2 := Tm.sizes_take_le t.args (k+1)
        have h3 := Tm.size_eq t
        rw [t.placesTo_length, Tm.places_length]
        omega
      clear f0 f1
      go_wp2_with fail
      refine (ih a (by have := Tm.lt_of_arg (mem_of_get HA.out); omega) σr _ _ (hfr.alloc _) ⟨_, _, _, rfl, hn', hsl'.ext hext⟩ hsa.1).mono ?_
      rintro e w1 ⟨σ1, p1, l1, c1', rfl, hsl1, hext1, hf1, hb1⟩
      have hw1 : w.heap.size + 1 ≤ w1.heap.size := by have := hb1.size; simp at this; omega
      have hown1 := (hown.alloc _).call hb1 hext1
      have hbb1 := below_alloc_call hb (by omega) hb1
      have hext01 := hext.trans (hext1.mono (by simp; omega))
      have HL1 := Lib.hid hsl1.length
      have hlm1 := hsl1.max
      clear g0 g1 hbw hsz hown hext hfr hb hext1 hb1
      go_wp2_with fail
      go_loopw [3, 21] (fun n i wr => ∃ (j : Nat) (σr : Sto), j ≤ l1 ∧ i = .int .i64 j ∧ Own σr (w.heap.size + 1) wr 31 n (t.placesTo k ++ (a.places.take j).map (fun p => (k : Int) :: p)) ∧ Ext w.heap.size σ σr ∧ (∀ p x, σ1 p = some x → σr p = some x) ∧ Fit σr wr ∧ Below (w.heap.size + 1) (w.alloc (.cells #[.string t.name, .slice (some ⟨b, o, none⟩) len cap] 25)) wr) (fun _ i _ => l1 - (intOf i).toNat)
      case atStart => exact ⟨0, σ1, Nat.zero_le _, rfl, by simpa using hown1, hext01, fun _ _ h => h, hf1, hbb1⟩
      case round =>
        obtain ⟨j, σr, hj, rfl, hown, hext, hkeep, hfr, hb⟩ := hrel
        have hsz := hb.size
        simp only [World.size_alloc] at hsz
        by_cases hlt2 : j < l1
        · skip
          obtain ⟨b3, o3, pl, q3, l3, c3, hp3, HA3, f3, hsl3⟩ := hsl1.list j hlt2
          subst hp3
          have g3w := hfr _ _ (hkeep _ _ f3)
          have g3 := (hfr.alloc (.cells #[.int .i64 k] 3)) _ _ (hkeep _ _ f3)
          have hsl3' : Slc σr q3 l3 c3 pl := Slc.ext (N := 0) hsl3 ⟨hkeep, fun p hp => absurd hp (Nat.not_lt_zero _)⟩
          have hpl : pl.length ≤ 1000000 := by
            have := Tm.places_deep a pl (mem_of_get HA3.out)
            omega
          have hlj : (t.placesTo k ++ (a.places.take j).map (fun p => (k : Int) :: p)).length + 1 ≤ 1000000 := by
            have h1 := lt_of_get HA3.out
            rw [List.length_append, List.length_map, List.length_take, Nat.min_eq_left (by omega)]
            omega
          have HT : Hid ((a.places.take (j+1)).map (fun p => (k : Int) :: p) = (a.places.take j).map (fun p => (k : Int) :: p) ++ [(k : Int) :: pl]) := Lib.hid (by rw [take_snoc HA3.out, List.map_append]; rfl)
          have hn3 : Own σr (w.heap.size + 1) (wr.alloc (.cells #[.int .i64 k] 3)) 3 (.slice (some ⟨wr.heap.size, 0, none⟩) 1 1) [(k : Int)] := Own.new hfr (cells_i64 hk hlm) (by omega)
          have h63 : [(k : Int)].length + pl.length ≤ maxLen := by simp [maxLen]; omega
          have hby : ([(k : Int)].length + pl.length) * 8 ≤ 140737488355328 := by simp; omega
          have h63' : (t.placesTo k ++ (a.places.take j).map (fun p => (k : Int) :: p)).length + 1 ≤ maxLen := by simp only [maxLen]; omega
          have hby' : ((t.placesTo k ++ (a.places.take j).map (fun p => (k : Int) :: p)).length + 1) * 24 ≤ 140737488355328 := by omega
          have hownA := hown.alloc (.cells #[.int .i64 k] 3)
          clear f3
          go_wp2_with (first
            | (at_builtin; refine wpList_slc rfl _ _ _ rfl hn3 (hfr.alloc _) i1 _ 8 Try.underlying31 HI.out H0.out H1.out H2.out rfl (by decide) q3 l3 c3 _ hsl3' rfl rfl h63 hby (by simp; omega) ?_
               intro v' w2 hg
               obtain ⟨σ2, e2, hf2, ho2, p2, l2, c2, hvv, hsl2⟩ := hg.own.done hg.fit w.heap.size (by omega)
               subst hvv
               have hrow : ∀ g, u3.ownBlock = some g → (Value.slice p2 l2 c2).ownBlock ≠ some g := fun g hv he => own_apart (hown.lt g hv).2 (World.size_alloc _ _) hg.at_ he
               have hrow0 : ∀ g, u3.ownBlock = some g → (Value.slice (some ⟨wr.heap.size, 0, none⟩) 1 1).ownBlock ≠ some g := fun g hv he => own_apart0 (hown.lt g hv).2 he
               have hown2 := ((hownA.grown hg.grown hrow0).known e2.keep ho2 hrow).alloc (.cells #[.slice p2 l2 c2] 31)
               have hw2 : w.heap.size + 1 ≤ w2.heap.size := by have := hg.grown.size; simp at this; omega)
            | (at_builtin; refine wpList_one rfl _ _ _ rfl hown2 (hf2.alloc _) i2 _ 24 Try.underlying54 JI.out J0.out J1.out J2.out rfl (by decide) w2.heap.size _ 31 (heap_alloc_new w2 _) ((k : Int) :: pl) (cells_list.2 ⟨_, _, _, rfl, hsl2⟩) rfl rfl h63' hby' (by simp; omega) ?_; intro v4 w4 hg4))
          go_roundw
          case rel =>
            refine ⟨j + 1, σ2, by omega, by go_num, ?_, hext.trans e2, fun p x h => e2.keep p x (hkeep p x h), hg4.fit, ?_⟩
            · rw [HT.out, ← List.append_assoc]
              exact hg4.own
            · have h1 := (hb.alloc (by omega) (.cells #[.int .i64 k] 3)).grown hg.grown (by simp; omega) (fun g hgk => by simp [Value.ownBlock] at hgk; omega)
              exact (h1.alloc (by omega) (.cells #[.slice p2 l2 c2] 31)).grown hg4.grown (by simp; omega) (fun g hgk => (hown.lt g hgk).1)
          case measure => simp [intOf]; omega
        · obtain rfl : j = l1 := by omega
          have HP : Hid (t.placesTo (k+1) = t.placesTo k ++ (a.places.take j).map (fun p => (k : Int) :: p)) := Lib.hid (by rw [Tm.placesTo_succ HA.out, List.take_of_length_le (by have := HL1.out; omega)])
          go_wp2_with fail
          go_roundw
          case rel => exact ⟨k + 1, σr, by omega, by go_num, by rw [HP.out]; exact hown, hext, hfr, hb⟩
          case measure => simp [intOf]; omega
    · obtain rfl : k = len := by omega
      have HP := Lib.hid (Tm.placesTo_all HL.out)
      go_wp2_with fail
      go_ret
      obtain ⟨σ2, e1, e2, e3, p2, l2, c2, rfl, hsl2⟩ := hown.done hfr w.heap.size (by omega)
      rw [HP.out] at hsl2
      exact ⟨σ2, p2, l2, c2, rfl, hsl2, hext.trans e1, e2, hbw⟩
end Go.Proofs.Ytkjbaabkaboaoaa
