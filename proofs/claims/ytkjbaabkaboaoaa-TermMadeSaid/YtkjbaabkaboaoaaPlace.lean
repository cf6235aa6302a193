/-
  Places in a term: looking up, putting in: the walks (program and reference).
  Conditions: none.
-/
import Derived.Test.YtkjbaabkaboaoaaCopy
import Derived.Deep.QuietTactic
import Derived.BigQuiet
namespace Go.Proofs.Ytkjbaabkaboaoaa
open Go Go.RowKit
set_option maxHeartbeats 400000
set_option linter.unusedVariables false

/-! ### plain -/
/-- what stands at a place -/
def Tm.at_ : Tm → List Int → Option Tm
  | t, [] => some t
  | t, i :: is => if 0 ≤ i ∧ i < t.args.length then (match t.args[i.toNat]? with | some a => Tm.at_ a is | none => none) else none
theorem Tm.at_no {t : Tm} {i : Int} {is : List Int} (h : ¬ (0 ≤ i ∧ i < t.args.length)) : t.at_ (i :: is) = none := by
  rw [Tm.at_, if_neg h]
theorem Tm.at_yes {t a : Tm} {n : Nat} {is : List Int} (h : t.args[n]? = some a) : t.at_ ((n : Int) :: is) = a.at_ is := by
  have hl := lt_of_get h
  rw [Tm.at_, if_pos ⟨by omega, by omega⟩]
  simp [h]
theorem drop_get {α : Type} {xs : List α} {k : Nat} {a : α} (h : xs[k]? = some a) : xs.drop k = a :: xs.drop (k+1) := by
  have hk := lt_of_get h
  rw [List.getElem?_eq_getElem hk] at h
  rw [List.drop_eq_getElem_cons hk]
  simp at h
  rw [h]

theorem Fit.drewN {σ : Sto} {w : World} (h : Fit σ w) (n : Nat) : Fit σ (w.drewN n) := h
theorem Blk.drewN {w : World} {g : Nat} {t : TypeId} {cs : Array Value} (h : Blk w g t cs) (n : Nat) : Blk (w.drewN n) g t cs := h
/-- The rest of a slice behind its first k things. -/
theorem Slc.cut {α : Type} [Cod α] {σ : Sto} {p : Option Addr} {len cap : Nat} {xs : List α} (h : Slc σ p len cap xs) (k : Nat) (hk : k ≤ len) : Slc σ (if cap = k then p else p.map (·.add (k * Cod.wid α))) (len - k) (cap - k) (xs.drop k) := by
  obtain ⟨h1, h2, h3, h4, b, o, h5, h6⟩ := h
  refine ⟨by rw [List.length_drop, h1], by omega, by omega, fun hp => ?_, b, o + k * Cod.wid α, fun h0 => ?_, by rw [List.map_drop]; exact h6.drop k⟩
  · split at hp
    · omega
    · have := h4 (by simpa using hp)
      omega
  · rw [if_neg (by omega), h5 (by omega)]
    simp [Addr.add]
theorem below_drewN {B : Nat} {a w : World} (h : Below B a w) (n : Nat) : Below B a (w.drewN n) := ⟨h.os, h.tape, h.output, h.size, h.block⟩

/-! ### the walks -/
/-- the zero term -/
def zeroTm : Value := .agg #[.string ⟨#[]⟩, .slice none 0 0]
def AtPost (σ : Sto) (w : World) (r : Option Tm) (e : Ending) (w' : World) : Prop :=
  match r with
  | some x => ∃ p l c, e = .returned (.tuple #[.agg #[.string x.name, .slice p l c], .bool true]) ∧ x.name.size ≤ maxLen ∧ Slc σ p l c x.args ∧ Below w.heap.size w w'
  | none => e = .returned (.tuple #[.agg #[.string ⟨#[]⟩, .slice none 0 0], .bool false]) ∧ Below w.heap.size w w'

set_option maxRecDepth 100000 in
theorem below_any (t : Tm) (is : List Int) (σ : Sto) (v : Value) (q : Option Addr) (l c : Nat) (w : World) (hs : Fit σ w) (ht : TmV σ v t) (hq : Slc σ q l c is) :
    Calls Try.prog 59 #[v, .slice q l c] w fun e w' => AtPost σ w (t.at_ is) e w' := by
  obtain ⟨p, len, cap, rfl, hn, hsl⟩ := ht
  have HL := Lib.hid hq.length
  have hqm := hq.max
  go_enter Try.func59, Try.ntmps59
  go_wp2_with fail
  go_loopw [10] (fun i wr => ∃ (k : Nat) (x : Tm) (p : Option Addr) (len cap : Nat), k ≤ l ∧ i = .int .i64 k ∧ Blk wr w.heap.size 25 #[.string x.name, .slice p len cap] ∧ Blk wr (w.heap.size + 1) 25 #[.string ⟨#[]⟩, .slice none 0 0] ∧ x.name.size ≤ maxLen ∧ Slc σ p len cap x.args ∧ Hid (t.at_ is = x.at_ (is.drop k)) ∧ Below w.heap.size w wr) (fun i _ => l - (intOf i).toNat)
  case atStart =>
    refine ⟨0, t, p, len, cap, Nat.zero_le _, rfl, (Blk.new w _ _).alloc _, ?_, hn, hsl, rfl, ((Below.refl _ _).alloc (Nat.le_refl _) _).alloc (by simp) _⟩
    have := Blk.new (w.alloc (.cells #[.string t.name, .slice p len cap] 25)) 25 #[.string ⟨#[]⟩, .slice none 0 0]
    simpa using this
  case round =>
    obtain ⟨k, x, p, len, cap, hk, rfl, B, R, hn, hsl, HX, hb⟩ := hrel
    have hlm := hsl.max
    have c0 : wr.cell? ⟨w.heap.size, 0, none⟩ = some (.string x.name) := B.cell 0
    have c1 : wr.cell? ⟨w.heap.size, 1, none⟩ = some (.slice p len cap) := B.cell 1
    have c2 : wr.frozen? ⟨w.heap.size, 0, none⟩ = false := B.frozen 0
    have c3 : wr.frozen? ⟨w.heap.size, 1, none⟩ = false := B.frozen 1
    have r0 : wr.cell? ⟨w.heap.size + 1, 0, none⟩ = some (.string ⟨#[]⟩) := R.cell 0
    have r1 : wr.cell? ⟨w.heap.size + 1, 1, none⟩ = some (.slice none 0 0) := R.cell 1
    have r2 : wr.frozen? ⟨w.heap.size + 1, 0, none⟩ = false := R.frozen 0
    have r3 : wr.frozen? ⟨w.heap.size + 1, 1, none⟩ = false := R.frozen 1
    have hfw := hs.below hb
    by_cases hlt : k < l
    · obtain ⟨b, o, i, rfl, HI, f0, hi0, hi1⟩ := hq.int k hlt
      have g0 := hfw _ _ f0
      have HD := Lib.hid (drop_get HI.out)
      have HS := Lib.hid hsl.length
      by_cases hneg : i < 0
      · go_wp2_with fail
        have HA : t.at_ is = none := by rw [HX.out, HD.out]; exact Tm.at_no (by omega)
        rw [HA]
        have Rb := (R.put 0 (.string ⟨#[]⟩)).put 1 (.slice none 0 0)
        have k0 := Rb.cell 0
        have k1 := Rb.cell 1
        refine bodyPost_ret (v := .tuple #[.agg #[.string ⟨#[]⟩, .slice none 0 0], .bool false]) (by simp [results, Try.results59, go_sem, k0, k1]) rfl ⟨rfl, (hb.setCell (by simp) _).setCell (by simp) _⟩
      · by_cases hge : (len : Int) ≤ i
        · go_wp2_with fail
          have HA : t.at_ is = none := by rw [HX.out, HD.out]; exact Tm.at_no (by have := HS.out; omega)
          rw [HA]
          have Rb := (R.put 0 (.string ⟨#[]⟩)).put 1 (.slice none 0 0)
          have k0 := Rb.cell 0
          have k1 := Rb.cell 1
          refine bodyPost_ret (v := .tuple #[.agg #[.string ⟨#[]⟩, .slice none 0 0], .bool false]) (by simp [results, Try.results59, go_sem, k0, k1]) rfl ⟨rfl, (hb.setCell (by simp) _).setCell (by simp) _⟩
        · obtain ⟨n, rfl⟩ : ∃ n : Nat, i = n := ⟨i.toNat, by omega⟩
          have hn1 : n < len := by omega
          obtain ⟨b', o', a, q', l', c', rfl, HA, e0, e1, hn', hsl'⟩ := hsl.tm n hn1
          have g1 := hfw _ _ e0
          have g2 := hfw _ _ e1
          clear hneg hge
          go_wp2_with fail
          go_roundw
          case rel =>
            refine ⟨k + 1, a, q', l', c', by omega, by go_num, (B.put 0 _).put 1 _, (R.far (by simp) _).far (by simp) _, hn', hsl', ?_, (hb.setCell (by simp) _).setCell (by simp) _⟩
            show _ = _
            rw [HX.out, HD.out]
            exact Tm.at_yes HA.out
          case measure => simp [intOf]; omega
    · obtain rfl : k = l := by omega
      go_wp2_with fail
      have HA : t.at_ is = some x := by rw [HX.out, List.drop_of_length_le (by have := HL.out; omega)]; rfl
      rw [HA]
      have Rb := (R.put 0 (.string x.name)).put 1 (.slice p len cap)
      have k0 := Rb.cell 0
      have k1 := Rb.cell 1
      refine bodyPost_ret (v := .tuple #[.agg #[.string x.name, .slice p len cap], .bool true]) (by simp [results, Try.results59, go_sem, k0, k1]) rfl ⟨p, len, cap, rfl, hn, hsl, (hb.setCell (by simp) _).setCell (by simp) _⟩

set_option maxRecDepth 100000 in
theorem atOf_ref : ∀ (is : List Int) (t : Tm) (σ : Sto) (v : Value) (q : Option Addr) (l c : Nat) (w : World), Fit σ w → TmV σ v t → Slc σ q l c is →
    Calls Try.prog 17 #[v, .slice q l c] w fun e w' => AtPost σ w (t.at_ is) e w' := by
  intro is
  induction is with
  | nil =>
    intro t σ v q l c w hs ht hq
    obtain ⟨p, len, cap, rfl, hn, hsl⟩ := ht
    obtain rfl : l = 0 := hq.length
    go_enter Try.func17, Try.ntmps17
    go_wp2_with fail
    refine bodyPost_ret (v := .tuple #[.agg #[.string t.name, .slice p len cap], .bool true]) (by simp [results, Try.results17, go_sem]) rfl ⟨p, len, cap, rfl, hn, hsl, ((Below.refl _ _).alloc (Nat.le_refl _) _).alloc (by simp) _⟩
  | cons i is ih =>
    intro t σ v q l c w hs ht hq
    obtain ⟨p, len, cap, rfl, hn, hsl⟩ := ht
    obtain ⟨l, rfl⟩ : ∃ l', l = l' + 1 := ⟨is.length, hq.length⟩
    obtain ⟨b, o, i', rfl, HI, f0, hi0, hi1⟩ := hq.int 0 (by omega)
    obtain rfl : i' = i := by have := HI.out; simpa using this.symm
    have g0 : w.cell? ⟨b, o, none⟩ = some (.int .i64 i') := by simpa using hs _ _ f0
    have hqm := hq.max
    have hlm := hsl.max
    have lb : b < w.heap.size := World.block_lt_of_cell? w ⟨b, o, none⟩ g0
    have HS := Lib.hid hsl.length
    have hbz : Below w.heap.size w (((w.alloc (.cells #[.string t.name, .slice p len cap] 25)).alloc (.cells #[.string ⟨#[]⟩, .slice none 0 0] 25))) := ((Below.refl _ _).alloc (Nat.le_refl _) _).alloc (by simp) _
    by_cases hneg : i' < 0
    · have HA : Hid (t.at_ (i' :: is) = none) := Tm.at_no (by omega)
      go_enter Try.func17, Try.ntmps17
      go_wp2_with fail
      go_quiet (fail)
      go_wp2_with fail
      rw [HA.out]
      refine bodyPost_ret (v := .tuple #[.agg #[.string ⟨#[]⟩, .slice none 0 0], .bool false]) (by simp [results, Try.results17, go_sem]) rfl ⟨rfl, ?_⟩
      exact ((below_drewN hbz _).setCell (by simp) _).setCell (by simp) _
    · by_cases hge : (len : Int) ≤ i'
      · have HA : Hid (t.at_ (i' :: is) = none) := Tm.at_no (by have := HS.out; omega)
        go_enter Try.func17, Try.ntmps17
        go_wp2_with fail
        go_quiet (fail)
        go_wp2_with fail
        rw [HA.out]
        refine bodyPost_ret (v := .tuple #[.agg #[.string ⟨#[]⟩, .slice none 0 0], .bool false]) (by simp [results, Try.results17, go_sem]) rfl ⟨rfl, ?_⟩
        exact ((below_drewN hbz _).setCell (by simp) _).setCell (by simp) _
      · obtain ⟨n, rfl⟩ : ∃ n : Nat, i' = n := ⟨i'.toNat, by omega⟩
        have hn1 : n < len := by omega
        obtain ⟨b', o', a, q', l', c', rfl, HA, e0, e1, hn', hsl'⟩ := hsl.tm n hn1
        have g1 := hs _ _ e0
        have g2 := hs _ _ e1
        have lb' : b' < w.heap.size := World.block_lt_of_cell? w _ g1
        have HN : Hid (t.at_ ((n : Int) :: is) = a.at_ is) := Tm.at_yes HA.out
        clear hneg hge f0 e0 e1
        have hc0 : l + 1 ≤ c := hq.2.1
        have hc1 : (0 : Int) < (l : Int) + 1 := by omega
        have hc2 : (1 : Int) ≤ (l : Int) + 1 := by omega
        have hc3 : (l : Int) + 1 ≤ (c : Int) := by omega
        have hc4 : (n : Int) < (len : Int) := by omega
        have hcm := hq.capmax
        have hcut := hq.cut 1 (by omega)
        have HC : Hid (Slc σ (if c = 1 then some ⟨b, o, none⟩ else some ⟨b, o + 1, none⟩) l (c - 1) is) := by
          show Slc _ _ _ _ _
          have e : (if c = 1 then some (⟨b, o, none⟩ : Addr) else some ⟨b, o + 1, none⟩) = (if c = 1 then some ⟨b, o, none⟩ else (some ⟨b, o, none⟩ : Option Addr).map (·.add (1 * Cod.wid Int))) := by
            split <;> rfl
          rw [e]
          simpa using hcut
        clear hcut
        have hfz : Fit σ ((w.alloc (.cells #[.string t.name, .slice (some ⟨b', o', none⟩) len cap] 25)).alloc (.cells #[.string ⟨#[]⟩, .slice none 0 0] 25)) := (hs.alloc _).alloc _
        have B0 := (Blk.new w 25 #[.string t.name, .slice (some ⟨b', o', none⟩) len cap]).alloc (.cells #[.string ⟨#[]⟩, .slice none 0 0] 25)
        have R0 := Blk.new (w.alloc (.cells #[.string t.name, .slice (some ⟨b', o', none⟩) len cap] 25)) 25 #[.string ⟨#[]⟩, .slice none 0 0]
        simp only [World.size_alloc] at R0
        rcases hr : a.at_ is with _ | x
        all_goals
          have HR := Lib.hid hr; clear hr
          by_cases hc : c = 1
          · have HC' := HC
            simp only [hc, if_true] at HC'
            clear HC
            obtain rfl : l = 0 := by omega
            subst hc
            go_enter Try.func17, Try.ntmps17
            go_wp2_with fail
            go_quiet (fail)
            go_wp2_with fail
            go_region_held3 (fun w' => w'.cell? ⟨w.heap.size, 1, none⟩ = some (.slice (some ⟨b', o', none⟩) len cap) ∧ w'.cell? ⟨b, o, none⟩ = some (.int .i64 n) ∧ w'.cell? ⟨b', o' + n * 2, none⟩ = some (.string a.name) ∧ w'.cell? ⟨b', o' + n * 2 + 1, none⟩ = some (.slice q' l' c'))
              (first | (go_keep; done) | exact ⟨K1, K2, K3, K4⟩ | ((try dsimp only); (repeat' apply And.intro) <;> first | (go_keep; done) | (refine cell_far (cell_far ?_ (by simp <;> omega)) (by simp <;> omega); assumption) | (refine cell_far ?_ (by simp <;> omega); assumption)))
              (first | (go_at_call 17; refine (ih a σ _ _ _ _ _ (hfz.drewN _) ⟨q', l', c', rfl, hn', hsl'⟩ HC'.out).mono ?_
                        intro e w1 h1
                        rw [HR.out] at h1
                        first
                          | (obtain ⟨rfl, hb1⟩ := h1)
                          | (obtain ⟨p2, l2, c2, rfl, hn2, hsl2, hb1⟩ := h1)
                        have K1 : w1.cell? ⟨w.heap.size, 1, none⟩ = some (.slice (some ⟨b', o', none⟩) len cap) := ((B0.drewN _).call hb1).cell 1
                        have hf1 := (hfz.drewN _).below hb1
                        have hb2 : Below w.heap.size w w1 := (below_drewN hbz _).trans (hb1.mono (by simp [World.drewN] <;> omega))
                        have K2 : w1.cell? ⟨b, o, none⟩ = some (.int .i64 n) := (hb2.cell (p := ⟨b, o, none⟩) lb).trans g0
                        have K3 : w1.cell? ⟨b', o' + n * 2, none⟩ = some (.string a.name) := (hb2.cell (p := ⟨b', o' + n * 2, none⟩) lb').trans g1
                        have K4 : w1.cell? ⟨b', o' + n * 2 + 1, none⟩ = some (.slice q' l' c') := (hb2.cell (p := ⟨b', o' + n * 2 + 1, none⟩) lb').trans g2
                        have R1 := (R0.drewN _).call hb1
                        have r0 : w1.cell? ⟨w.heap.size + 1, 0, none⟩ = some (.string ⟨#[]⟩) := R1.cell 0
                        have r1 : w1.cell? ⟨w.heap.size + 1, 1, none⟩ = some (.slice none 0 0) := R1.cell 1
                        have r2 : w1.frozen? ⟨w.heap.size + 1, 0, none⟩ = false := R1.frozen 0
                        have r3 : w1.frozen? ⟨w.heap.size + 1, 1, none⟩ = false := R1.frozen 1))
            all_goals
              go_wp2_with fail
              rw [HN.out, HR.out]
              first
                | (have Rb := (R1.put 0 (.string x.name)).put 1 (.slice p2 l2 c2)
                   have k0 := Rb.cell 0
                   have k1 := Rb.cell 1
                   exact bodyPost_ret (v := .tuple #[.agg #[.string x.name, .slice p2 l2 c2], .bool true]) (by simp [results, Try.results17, go_sem, k0, k1]) rfl ⟨p2, l2, c2, rfl, hn2, hsl2, (hb2.setCell (by simp) _).setCell (by simp) _⟩)
                | (have Rb := (R1.put 0 (.string ⟨#[]⟩)).put 1 (.slice none 0 0)
                   have k0 := Rb.cell 0
                   have k1 := Rb.cell 1
                   exact bodyPost_ret (v := .tuple #[.agg #[.string ⟨#[]⟩, .slice none 0 0], .bool false]) (by simp [results, Try.results17, go_sem, k0, k1]) rfl ⟨rfl, (hb2.setCell (by simp) _).setCell (by simp) _⟩)
          · have HC' := HC
            simp only [hc, if_false] at HC'
            clear HC
            go_enter Try.func17, Try.ntmps17
            go_wp2_with fail
            go_quiet (fail)
            go_wp2_with fail
            go_region_held3 (fun w' => w'.cell? ⟨w.heap.size, 1, none⟩ = some (.slice (some ⟨b', o', none⟩) len cap) ∧ w'.cell? ⟨b, o, none⟩ = some (.int .i64 n) ∧ w'.cell? ⟨b', o' + n * 2, none⟩ = some (.string a.name) ∧ w'.cell? ⟨b', o' + n * 2 + 1, none⟩ = some (.slice q' l' c'))
              (first | (go_keep; done) | exact ⟨K1, K2, K3, K4⟩ | ((try dsimp only); (repeat' apply And.intro) <;> first | (go_keep; done) | (refine cell_far (cell_far ?_ (by simp <;> omega)) (by simp <;> omega); assumption) | (refine cell_far ?_ (by simp <;> omega); assumption)))
              (first | (go_at_call 17; refine (ih a σ _ _ _ _ _ (hfz.drewN _) ⟨q', l', c', rfl, hn', hsl'⟩ HC'.out).mono ?_
                        intro e w1 h1
                        rw [HR.out] at h1
                        first
                          | (obtain ⟨rfl, hb1⟩ := h1)
                          | (obtain ⟨p2, l2, c2, rfl, hn2, hsl2, hb1⟩ := h1)
                        have K1 : w1.cell? ⟨w.heap.size, 1, none⟩ = some (.slice (some ⟨b', o', none⟩) len cap) := ((B0.drewN _).call hb1).cell 1
                        have hf1 := (hfz.drewN _).below hb1
                        have hb2 : Below w.heap.size w w1 := (below_drewN hbz _).trans (hb1.mono (by simp [World.drewN] <;> omega))
                        have K2 : w1.cell? ⟨b, o, none⟩ = some (.int .i64 n) := (hb2.cell (p := ⟨b, o, none⟩) lb).trans g0
                        have K3 : w1.cell? ⟨b', o' + n * 2, none⟩ = some (.string a.name) := (hb2.cell (p := ⟨b', o' + n * 2, none⟩) lb').trans g1
                        have K4 : w1.cell? ⟨b', o' + n * 2 + 1, none⟩ = some (.slice q' l' c') := (hb2.cell (p := ⟨b', o' + n * 2 + 1, none⟩) lb').trans g2
                        have R1 := (R0.drewN _).call hb1
                        have r0 : w1.cell? ⟨w.heap.size + 1, 0, none⟩ = some (.string ⟨#[]⟩) := R1.cell 0
                        have r1 : w1.cell? ⟨w.heap.size + 1, 1, none⟩ = some (.slice none 0 0) := R1.cell 1
                        have r2 : w1.frozen? ⟨w.heap.size + 1, 0, none⟩ = false := R1.frozen 0
                        have r3 : w1.frozen? ⟨w.heap.size + 1, 1, none⟩ = false := R1.frozen 1))
            all_goals
              go_wp2_with fail
              rw [HN.out, HR.out]
              first
                | (have Rb := (R1.put 0 (.string x.name)).put 1 (.slice p2 l2 c2)
                   have k0 := Rb.cell 0
                   have k1 := Rb.cell 1
                   exact bodyPost_ret (v := .tuple #[.agg #[.string x.name, .slice p2 l2 c2], .bool true]) (by simp [results, Try.results17, go_sem, k0, k1]) rfl ⟨p2, l2, c2, rfl, hn2, hsl2, (hb2.setCell (by simp) _).setCell (by simp) _⟩)
                | (have Rb := (R1.put 0 (.string ⟨#[]⟩)).put 1 (.slice none 0 0)
                   have k0 := Rb.cell 0
                   have k1 := Rb.cell 1
                   exact bodyPost_ret (v := .tuple #[.agg #[.string ⟨#[]⟩, .slice none 0 0], .bool false]) (by simp [results, Try.results17, go_sem, k0, k1]) rfl ⟨rfl, (hb2.setCell (by simp) _).setCell (by simp) _⟩)
end Go.Proofs.Ytkjbaabkaboaoaa
