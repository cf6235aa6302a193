/-
  The variables of a term: the program's walk.
  Conditions: none.
-/
import Derived.Test.YtkjbaabkaboaoaaPlaces
import Derived.Maps.Range
import Derived.Maps.RangeWalk
namespace Go.Proofs.Ytkjbaabkaboaoaa
open Go Go.RowKit
set_option maxHeartbeats 400000
set_option linter.unusedVariables false

theorem index_any (x : ByteArray) (xs : List ByteArray) (σ : Sto) (p : Option Addr) (len cap : Nat) (w : World) (hs : Fit σ w) (hx : Slc σ p len cap xs) :
    Calls Try.prog 116 #[.slice p len cap, .string x] w fun e w' => ∃ n : Int, e = .returned (.int .i64 n) ∧ Hid ((0 ≤ n) ↔ (isIn x xs = true)) ∧ w = w' := by
  have HL := Lib.hid hx.length
  have hlm := hx.max
  go_enter Try.func116, Try.ntmps116
  go_wp2_with fail
  go_loop [8] (fun i => ∃ k : Nat, k ≤ len ∧ i = .int .i64 k ∧ Hid (x ∉ xs.take k)) (fun i => len - (intOf i).toNat)
  case atStart => exact ⟨0, Nat.zero_le _, rfl, Lib.hid (by simp)⟩
  case round =>
    obtain ⟨k, hk, rfl, HK⟩ := hrel
    by_cases hlt : k < len
    · obtain ⟨b, o, a, rfl, HA, f0, ha⟩ := hx.str k hlt
      have g0 := hs _ _ f0
      clear f0
      by_cases heq : x = a
      · subst heq
        have HM : Hid (isIn x xs = true) := Lib.hid (isIn_iff.2 (mem_of_get HA.out))
        go_wp2_with fail
        go_ret
        exact ⟨_, rfl, Lib.hid (by simp [HM.out]), rfl⟩
      · have HT : Hid (x ∉ xs.take (k+1)) := Lib.hid (by rw [take_snoc HA.out]; simp [HK.out]; exact heq)
        have hse := str_ne heq
        go_wp2_with fail
        refine ⟨⟨k + 1, by omega, by go_num, HT⟩, ?_⟩
        simp [intOf]; omega
    · obtain rfl : k = len := by omega
      have HM : Hid (isIn x xs = false) := Lib.hid (by have := HK.out; rw [List.take_of_length_le (by have := HL.out; omega)] at this; exact isIn_no.2 this)
      go_wp2_with fail
      go_ret
      exact ⟨_, rfl, Lib.hid (by simp [HM.out]), rfl⟩
theorem contains_any (x : ByteArray) (xs : List ByteArray) (σ : Sto) (p : Option Addr) (len cap : Nat) (w : World) (hs : Fit σ w) (hx : Slc σ p len cap xs) :
    Calls Try.prog 87 #[.slice p len cap, .string x] w fun e w' => e = .returned (.bool (isIn x xs)) ∧ w = w' := by
  go_enter Try.func87, Try.ntmps87
  go_wp2_with fail
  refine (index_any x xs σ p len cap w hs hx).mono ?_
  rintro e w1 ⟨n, rfl, HN, rfl⟩
  go_wp2_with fail
  go_ret
  exact ⟨ret_bool (by rw [Bool.eq_iff_iff]; have := HN.out; simp; omega), rfl⟩

/-- What a call does that appends onto its argument hv, a row that nobody else holds. -/
structure Turned {α : Type} [Cod α] (σ : Sto) (N : Nat) (w : World) (e : TypeId) (hv : Value) (v : Value) (xs : List α) (w' : World) : Prop where
  own : Own σ N w' e v xs
  fit : Fit σ w'
  grown : w.grownBy w' hv.ownBlock
  at_ : v.ownBlock = hv.ownBlock ∨ ∀ g, v.ownBlock = some g → w.heap.size ≤ g
theorem Turned.refl {α : Type} [Cod α] {σ : Sto} {N : Nat} {w : World} {e : TypeId} {v : Value} {xs : List α} (h : Own σ N w e v xs) (hf : Fit σ w) : Turned σ N w e v v xs w := ⟨h, hf, grownBy_refl w _, .inl rfl⟩
theorem Turned.trans {α : Type} [Cod α] {σ : Sto} {N : Nat} {w w1 w2 : World} {e : TypeId} {h v u : Value} {xs ys : List α} (a : Turned σ N w e h v xs w1) (b : Turned σ N w1 e v u ys w2) : Turned σ N w e h u ys w2 := by
  refine ⟨b.own, b.fit, a.grown.andThen b.grown fun j hj => ?_, ?_⟩
  · rcases a.at_ with h1 | h1
    · exact .inr (by rw [← h1, hj])
    · exact .inl (h1 j hj)
  · rcases b.at_ with h2 | h2
    · rw [h2]; exact a.at_
    · exact .inr fun g hg => Nat.le_trans a.grown.size (h2 g hg)
theorem Turned.alloc {α : Type} [Cod α] {σ : Sto} {N : Nat} {w w1 : World} {e : TypeId} {h v : Value} {xs : List α} (a : Turned σ N w e h v xs w1) (o : Obj) : Turned σ N w e h v xs (w1.alloc o) :=
  ⟨a.own.alloc o, a.fit.alloc o, a.grown.andThen (World.grownBy_alloc w1 o none) (by simp), a.at_⟩
/-- the start: only new blocks -/
theorem Turned.start {α : Type} [Cod α] {σ : Sto} {N : Nat} {w w1 w2 : World} {e : TypeId} {h v : Value} {xs : List α} (g : w.grownBy w1 none) (a : Turned σ N w1 e h v xs w2) : Turned σ N w e h v xs w2 :=
  ⟨a.own, a.fit, (g.but h.ownBlock).andThen a.grown (fun j hj => .inr hj), by
    rcases a.at_ with h1 | h1
    · exact .inl h1
    · exact .inr fun g' hg => Nat.le_trans g.size (h1 g' hg)⟩
theorem Grew.turned {α : Type} [Cod α] {σ : Sto} {N : Nat} {w w' : World} {e : TypeId} {v v' : Value} {xs : List α} (h : Grew σ N w e v xs v' w') : Turned σ N w e v v' xs w' :=
  ⟨h.own, h.fit, h.grown, by
    rcases h.at_ with h1 | h1
    · exact .inl h1
    · exact .inr fun g hg => by rw [h1] at hg; simp at hg; omega⟩
theorem Turned.box {α : Type} [Cod α] {σ : Sto} {N : Nat} {w w' : World} {e : TypeId} {h v : Value} {xs : List α} (a : Turned σ N w e h v xs w') {g : Nat} {T : TypeId} {cs : Array Value} (hb : Blk w g T cs) (hn : h.ownBlock ≠ some g) : Blk w' g T cs := hb.grown a.grown hn

def VarsAt (t : Tm) : Prop := ∀ (σ : Sto) (v : Value) (w : World) (hv : Value) (have_ : List ByteArray) (N : Nat), Fit σ w → TmV σ v t → t.size ≤ 1000000 → Own σ N w 9 hv have_ → N ≤ w.heap.size → have_.length + t.size ≤ 1000000 →
    Calls Try.prog 109 #[v, hv] w fun e w' => ∃ v', e = .returned v' ∧ Turned σ N w 9 hv v' (addVars have_ t.knots) w'
theorem addVars_knots (l : List ByteArray) (t : Tm) : addVars l t.knots = addVars (addVar l t.name) (Tm.knotsL t.args) := by rw [Tm.knots_eq]; rfl
set_option maxRecDepth 100000 in
theorem vars_any : ∀ (N : Nat) (t : Tm), SizeOf.sizeOf t < N → VarsAt t := by
  intro N
  induction N with
  | zero => intro t h; omega
  | succ N ih =>
  intro t hN σ v w hv have_ M hs ht hz hown hM hlen
  obtain ⟨p, len, cap, rfl, hn, hsl⟩ := ht
  have HL := Lib.hid hsl.length
  have hlm := hsl.max
  obtain ⟨i0, hi, hz0, hz1, hz2⟩ := info_parts infoStr
  have HI := Lib.hid hi; clear hi
  have H0 := Lib.hid hz0; clear hz0
  have H1 := Lib.hid hz1; clear hz1
  have H2 := Lib.hid hz2; clear hz2
  have hs1 : Fit σ (w.alloc (.cells #[.string t.name, .slice p len cap] 25)) := hs.alloc _
  have hown1 : Own σ M (w.alloc (.cells #[.string t.name, .slice p len cap] 25)) 9 hv have_ := hown.alloc _
  have hT : Blk (w.alloc (.cells #[.string t.name, .slice p len cap] 25)) w.heap.size 25 #[.string t.name, .slice p len cap] := Blk.new _ _ _
  have hne : hv.ownBlock ≠ some w.heap.size := fun e => by have := (hown.lt _ e).2; omega
  have hst : w.grownBy (w.alloc (.cells #[.string t.name, .slice p len cap] 25)) none := World.grownBy_alloc _ _ _
  have hp1 := t.size_pos
  obtain ⟨σ2, he2, hf2, _, p2, l2, c2, hv2, hsl2⟩ := hown1.done hs1 0 (Nat.zero_le _)
  subst hv2
  have h63 : have_.length + 1 ≤ maxLen := by simp only [maxLen]; omega
  have hbb : (have_.length + 1) * 16 ≤ 140737488355328 := by omega
  have HZ : Hid (SizeOf.sizeOf t < N + 1) := Lib.hid hN
  have hB1 : ∀ (u : Value) (l0 : List ByteArray) (w1 : World), Turned σ M (w.alloc (.cells #[.string t.name, .slice p len cap] 25)) 9 (.slice p2 l2 c2) u l0 w1 → w1.cell? ⟨w.heap.size, 1, none⟩ = some (.slice p len cap) := fun _ _ _ h => (h.box hT hne).cell 1
  have c0 : (w.alloc (.cells #[.string t.name, .slice p len cap] 25)).cell? ⟨w.heap.size, 0, none⟩ = some (.string t.name) := hT.cell 0
  have c1 : (w.alloc (.cells #[.string t.name, .slice p len cap] 25)).cell? ⟨w.heap.size, 1, none⟩ = some (.slice p len cap) := hT.cell 1
  have HB := Lib.hid hB1
  clear hB1
  have hM1 : M ≤ w.heap.size + 1 := by omega
  go_enter Try.func109, Try.ntmps109
  go_wp2_with fail
  refine (var_any _ _).mono ?_
  rintro e w1 ⟨rfl, rfl⟩
  cases hva : isVar t.name with
  | false =>
    have HV := Lib.hid (addVar_no (l := have_) hva)
    have HT0 : Turned σ M (w.alloc (.cells #[.string t.name, .slice p len cap] 25)) 9 (.slice p2 l2 c2) (.slice p2 l2 c2) (addVar have_ t.name) (w.alloc (.cells #[.string t.name, .slice p len cap] 25)) := by rw [HV.out]; exact Turned.refl hown1 hs1
    clear hva
    go_wp2_with fail
    go_loopw [1, 25] (fun n i wr => ∃ k : Nat, k ≤ len ∧ i = .int .i64 k ∧ Turned σ M (w.alloc (.cells #[.string t.name, .slice p len cap] 25)) 9 (.slice p2 l2 c2) n (addVars (addVar have_ t.name) (Tm.knotsL (t.args.take k))) wr) (fun _ i _ => len - (intOf i).toNat)
    case atStart => exact ⟨0, Nat.zero_le _, rfl, HT0⟩
    case round =>
      obtain ⟨k, hk, rfl, hTu⟩ := hrel
      by_cases hlt : k < len
      · obtain ⟨b, o, a, q', l, c, rfl, HA, f0, f1, hn', hsl'⟩ := hsl.tm k hlt
        have g0 := hTu.fit _ _ f0
        have g1 := hTu.fit _ _ f1
        have hsa : a.size ≤ 1000000 ∧ (addVars (addVar have_ t.name) (Tm.knotsL (t.args.take k))).length + a.size ≤ 1000000 := by
          have h1 := Tm.sizes_take HA.out
          have h2 := Tm.sizes_take_le t.args (k+1)
          have h3 := Tm.size_eq t
          have h4 := addVars_length (Tm.knotsL (t.args.take k)) (addVar have_ t.name)
          have h5 := addVar_length have_ t.name
          rw [Tm.knotsL_length] at h4
          omega
        have HK : Hid (addVars (addVar have_ t.name) (Tm.knotsL (t.args.take (k+1))) = addVars (addVars (addVar have_ t.name) (Tm.knotsL (t.args.take k))) a.knots) := Lib.hid (by rw [Tm.knotsL_take HA.out, addVars_append])
        have hMr : M ≤ wr.heap.size := by have := hTu.grown.size; simp at this; omega
        clear f0 f1
        go_wp2_with fail
        refine (ih a (by have := Tm.lt_of_arg (mem_of_get HA.out); omega) σ _ _ _ _ M (hTu.fit.alloc _) ⟨_, _, _, rfl, hn', hsl'⟩ hsa.1 (hTu.own.alloc _) (by simp; omega) hsa.2).mono ?_
        rintro e w3 ⟨v3, rfl, hT3⟩
        go_wp2_with fail
        go_roundw
        case rel => exact ⟨k + 1, by omega, by go_num, by rw [HK.out]; exact (hTu.alloc _).trans hT3⟩
        case measure => simp [intOf]; omega
      · obtain rfl : k = len := by omega
        have HK : Hid (addVars have_ t.knots = addVars (addVar have_ t.name) (Tm.knotsL (t.args.take k))) := Lib.hid (by rw [addVars_knots, List.take_of_length_le (by have := HL.out; omega)])
        go_wp2_with fail
        go_ret
        exact ⟨_, rfl, by rw [HK.out]; exact Turned.start hst hTu⟩
  | true =>
    have HV := Lib.hid hva; clear hva
    go_wp2_with fail
    refine (contains_any _ _ σ2 _ _ _ _ hf2 hsl2).mono ?_
    rintro e w2 ⟨rfl, rfl⟩
    cases hi : isIn t.name have_ with
    | true =>
      have HV' := Lib.hid (addVar_in hi)
      have HT0 : Turned σ M (w.alloc (.cells #[.string t.name, .slice p len cap] 25)) 9 (.slice p2 l2 c2) (.slice p2 l2 c2) (addVar have_ t.name) (w.alloc (.cells #[.string t.name, .slice p len cap] 25)) := by rw [HV'.out]; exact Turned.refl hown1 hs1
      clear hi
      go_wp2_with fail
      go_loopw [1, 25] (fun n i wr => ∃ k : Nat, k ≤ len ∧ i = .int .i64 k ∧ Turned σ M (w.alloc (.cells #[.string t.name, .slice p len cap] 25)) 9 (.slice p2 l2 c2) n (addVars (addVar have_ t.name) (Tm.knotsL (t.args.take k))) wr) (fun _ i _ => len - (intOf i).toNat)
      case atStart => exact ⟨0, Nat.zero_le _, rfl, HT0⟩
      case round =>
        obtain ⟨k, hk, rfl, hTu⟩ := hrel
        by_cases hlt : k < len
        · obtain ⟨b, o, a, q', l, c, rfl, HA, f0, f1, hn', hsl'⟩ := hsl.tm k hlt
          have g0 := hTu.fit _ _ f0
          have g1 := hTu.fit _ _ f1
          have hsa : a.size ≤ 1000000 ∧ (addVars (addVar have_ t.name) (Tm.knotsL (t.args.take k))).length + a.size ≤ 1000000 := by
            have h1 := Tm.sizes_take HA.out
            have h2 := Tm.sizes_take_le t.args (k+1)
            have h3 := Tm.size_eq t
            have h4 := addVars_length (Tm.knotsL (t.args.take k)) (addVar have_ t.name)
            have h5 := addVar_length have_ t.name
            rw [Tm.knotsL_length] at h4
            omega
          have HK : Hid (addVars (addVar have_ t.name) (Tm.knotsL (t.args.take (k+1))) = addVars (addVars (addVar have_ t.name) (Tm.knotsL (t.args.take k))) a.knots) := Lib.hid (by rw [Tm.knotsL_take HA.out, addVars_append])
          have hMr : M ≤ wr.heap.size := by have := hTu.grown.size; simp at this; omega
          clear f0 f1
          go_wp2_with fail
          refine (ih a (by have := Tm.lt_of_arg (mem_of_get HA.out); omega) σ _ _ _ _ M (hTu.fit.alloc _) ⟨_, _, _, rfl, hn', hsl'⟩ hsa.1 (hTu.own.alloc _) (by simp; omega) hsa.2).mono ?_
          rintro e w3 ⟨v3, rfl, hT3⟩
          go_wp2_with fail
          go_roundw
          case rel => exact ⟨k + 1, by omega, by go_num, by rw [HK.out]; exact (hTu.alloc _).trans hT3⟩
          case measure => simp [intOf]; omega
        · obtain rfl : k = len := by omega
          have HK : Hid (addVars have_ t.knots = addVars (addVar have_ t.name) (Tm.knotsL (t.args.take k))) := Lib.hid (by rw [addVars_knots, List.take_of_length_le (by have := HL.out; omega)])
          go_wp2_with fail
          go_ret
          exact ⟨_, rfl, by rw [HK.out]; exact Turned.start hst hTu⟩
    | false =>
      have HV' := Lib.hid (addVar_yes HV.out hi)
      clear hi
      go_wp2_with (at_builtin; refine wpList_one rfl _ _ _ rfl (hown1.alloc _) (hs1.alloc _) i0 _ 16 Try.underlying53 HI.out H0.out H1.out H2.out rfl (by decide) (w.heap.size + 1) #[.string t.name] 9 (by have := heap_alloc_new (w.alloc (.cells #[.string t.name, .slice p len cap] 25)) (.cells #[.string t.name] 9); simpa using this) t.name (cells_str.2 ⟨rfl, hn⟩) rfl rfl h63 hbb (by simp; omega) ?_
                   intro v' w2 hg
                   have HT0 : Turned σ M (w.alloc (.cells #[.string t.name, .slice p len cap] 25)) 9 (.slice p2 l2 c2) v' (addVar have_ t.name) w2 := by rw [HV'.out]; exact Turned.start (World.grownBy_alloc _ _ _) hg.turned
                   have cc2 := HB.out _ _ _ HT0)
      go_loopw [1, 25] (fun n i wr => ∃ k : Nat, k ≤ len ∧ i = .int .i64 k ∧ Turned σ M (w.alloc (.cells #[.string t.name, .slice p len cap] 25)) 9 (.slice p2 l2 c2) n (addVars (addVar have_ t.name) (Tm.knotsL (t.args.take k))) wr) (fun _ i _ => len - (intOf i).toNat)
      case atStart => exact ⟨0, Nat.zero_le _, rfl, HT0⟩
      case round =>
        obtain ⟨k, hk, rfl, hTu⟩ := hrel
        by_cases hlt : k < len
        · obtain ⟨b, o, a, q', l, c, rfl, HA, f0, f1, hn', hsl'⟩ := hsl.tm k hlt
          have g0 := hTu.fit _ _ f0
          have g1 := hTu.fit _ _ f1
          have hsa : a.size ≤ 1000000 ∧ (addVars (addVar have_ t.name) (Tm.knotsL (t.args.take k))).length + a.size ≤ 1000000 := by
            have h1 := Tm.sizes_take HA.out
            have h2 := Tm.sizes_take_le t.args (k+1)
            have h3 := Tm.size_eq t
            have h4 := addVars_length (Tm.knotsL (t.args.take k)) (addVar have_ t.name)
            have h5 := addVar_length have_ t.name
            rw [Tm.knotsL_length] at h4
            omega
          have HK : Hid (addVars (addVar have_ t.name) (Tm.knotsL (t.args.take (k+1))) = addVars (addVars (addVar have_ t.name) (Tm.knotsL (t.args.take k))) a.knots) := Lib.hid (by rw [Tm.knotsL_take HA.out, addVars_append])
          have hMr : M ≤ wr.heap.size := by have := hTu.grown.size; simp at this; omega
          clear f0 f1
          go_wp2_with fail
          refine (ih a (by have := Tm.lt_of_arg (mem_of_get HA.out); omega) σ _ _ _ _ M (hTu.fit.alloc _) ⟨_, _, _, rfl, hn', hsl'⟩ hsa.1 (hTu.own.alloc _) (by simp; omega) hsa.2).mono ?_
          rintro e w3 ⟨v3, rfl, hT3⟩
          go_wp2_with fail
          go_roundw
          case rel => exact ⟨k + 1, by omega, by go_num, by rw [HK.out]; exact (hTu.alloc _).trans hT3⟩
          case measure => simp [intOf]; omega
        · obtain rfl : k = len := by omega
          have HK : Hid (addVars have_ t.knots = addVars (addVar have_ t.name) (Tm.knotsL (t.args.take k))) := Lib.hid (by rw [addVars_knots, List.take_of_length_le (by have := HL.out; omega)])
          go_wp2_with fail
          go_ret
          exact ⟨_, rfl, by rw [HK.out]; exact Turned.start hst hTu⟩
theorem below_of_grown {w w' : World} (h : w.grownBy w' none) : Below w.heap.size w w' := ⟨h.os, h.tape, h.output, h.size, fun g hg => h.block g hg (by simp)⟩
theorem Vars_any (t : Tm) (σ : Sto) (v : Value) (w : World) (hs : Fit σ w) (ht : TmV σ v t) (hz : t.size ≤ 1000000) :
    Calls Try.prog 75 #[v] w fun e w' => ∃ σ' p l c, e = .returned (.slice p l c) ∧ Slc σ' p l c t.varsOf ∧ Ext w.heap.size σ σ' ∧ Fit σ' w' ∧ Below w.heap.size w w' := by
  obtain ⟨p, len, cap, rfl, hn, hsl⟩ := ht
  go_enter Try.func75, Try.ntmps75
  go_wp2_with fail
  refine (vars_any _ t (Nat.lt_succ_self _) σ _ _ _ [] w.heap.size (hs.alloc _) ⟨_, _, _, rfl, hn, hsl⟩ hz (Own.nil _ _ _ _) (by simp) (by simpa using hz)).mono ?_
  rintro e w1 ⟨v', rfl, hT⟩
  go_wp2_with fail
  go_ret
  obtain ⟨σ2, e1, e2, e3, p2, l2, c2, rfl, hsl2⟩ := hT.own.done hT.fit w.heap.size (Nat.le_refl _)
  exact ⟨σ2, p2, l2, c2, rfl, hsl2, e1, e2, below_alloc_call (Below.refl _ _) (Nat.le_refl _) (below_of_grown hT.grown)⟩
theorem may_size {t : Tm} (h : t.may = 0) : t.size ≤ 200 := by
  have h1 := Tm.chk_range t
  unfold Tm.may at h
  split at h <;> omega
theorem names_any (t : Tm) (σ : Sto) (v : Value) (w : World) (hs : Fit σ w) (ht : TmV σ v t) :
    Calls Try.prog 34 #[v] w fun e w' => ∃ σ' p l c, e = .returned (.tuple #[.slice p l c, .int .i64 t.may]) ∧ Slc σ' p l c (if t.may = 0 then t.varsOf else []) ∧ Ext w.heap.size σ σ' ∧ Fit σ' w' ∧ Below w.heap.size w w' := by
  obtain ⟨p, len, cap, rfl, hn, hsl⟩ := ht
  have T0 := Blk.new w 25 #[.string t.name, .slice p len cap]
  go_enter Try.func34, Try.ntmps34
  go_wp2_with fail
  refine (check_any t σ _ _ (hs.alloc _) ⟨_, _, _, rfl, hn, hsl⟩).mono ?_
  rintro e w1 ⟨rfl, hb1⟩
  have T1 := T0.call hb1
  have t0 : w1.cell? ⟨w.heap.size, 0, none⟩ = some (.string t.name) := T1.cell 0
  have t1 : w1.cell? ⟨w.heap.size, 1, none⟩ = some (.slice p len cap) := T1.cell 1
  have hf1 := (hs.alloc (.cells #[.string t.name, .slice p len cap] 25)).below hb1
  have hb01 : Below w.heap.size w w1 := below_alloc_call (Below.refl _ _) (Nat.le_refl _) hb1
  by_cases hmt : t.may = 0
  · have HM := Lib.hid hmt
    have hz := may_size hmt
    rw [hmt]
    clear hmt
    go_wp2_with fail
    refine (Vars_any t σ _ _ hf1 ⟨_, _, _, rfl, hn, hsl⟩ (by omega)).mono ?_
    rintro e w2 ⟨σ2, p2, l2, c2, rfl, hsl2, hext2, hf2, hb2⟩
    go_wp2_with fail
    refine bodyPost_ret (v := .tuple #[.slice p2 l2 c2, .int .i64 0]) (by simp [results, Try.results34, go_sem]) rfl ⟨σ2, p2, l2, c2, rfl, hsl2, hext2.mono hb01.size, hf2, hb01.trans (hb2.mono hb01.size)⟩
  · have hne := ne_true hmt
    have HM := Lib.hid hmt
    go_wp2_with fail
    refine bodyPost_ret (v := .tuple #[.slice none 0 0, .int .i64 t.may]) (by simp [results, Try.results34, go_sem]) rfl ⟨σ, none, 0, 0, rfl, Slc.nil _, Ext.refl _ _, hf1, hb01⟩
theorem allPlaces_any (t : Tm) (σ : Sto) (v : Value) (w : World) (hs : Fit σ w) (ht : TmV σ v t) :
    Calls Try.prog 35 #[v] w fun e w' => ∃ σ' p l c, e = .returned (.tuple #[.slice p l c, .int .i64 t.may]) ∧ Slc σ' p l c (if t.may = 0 then t.places else []) ∧ Ext w.heap.size σ σ' ∧ Fit σ' w' ∧ Below w.heap.size w w' := by
  obtain ⟨p, len, cap, rfl, hn, hsl⟩ := ht
  have T0 := Blk.new w 25 #[.string t.name, .slice p len cap]
  go_enter Try.func35, Try.ntmps35
  go_wp2_with fail
  refine (check_any t σ _ _ (hs.alloc _) ⟨_, _, _, rfl, hn, hsl⟩).mono ?_
  rintro e w1 ⟨rfl, hb1⟩
  have T1 := T0.call hb1
  have t0 : w1.cell? ⟨w.heap.size, 0, none⟩ = some (.string t.name) := T1.cell 0
  have t1 : w1.cell? ⟨w.heap.size, 1, none⟩ = some (.slice p len cap) := T1.cell 1
  have hf1 := (hs.alloc (.cells #[.string t.name, .slice p len cap] 25)).below hb1
  have hb01 : Below w.heap.size w w1 := below_alloc_call (Below.refl _ _) (Nat.le_refl _) hb1
  by_cases hmt : t.may = 0
  · have HM := Lib.hid hmt
    have hz := may_size hmt
    rw [hmt]
    clear hmt
    go_wp2_with fail
    refine (places_any _ t (Nat.lt_succ_self _) σ _ _ hf1 ⟨_, _, _, rfl, hn, hsl⟩ (by omega)).mono ?_
    rintro e w2 ⟨σ2, p2, l2, c2, rfl, hsl2, hext2, hf2, hb2⟩
    go_wp2_with fail
    refine bodyPost_ret (v := .tuple #[.slice p2 l2 c2, .int .i64 0]) (by simp [results, Try.results35, go_sem]) rfl ⟨σ2, p2, l2, c2, rfl, hsl2, hext2.mono hb01.size, hf2, hb01.trans (hb2.mono hb01.size)⟩
  · have hne := ne_true hmt
    have HM := Lib.hid hmt
    go_wp2_with fail
    refine bodyPost_ret (v := .tuple #[.slice none 0 0, .int .i64 t.may]) (by simp [results, Try.results35, go_sem]) rfl ⟨σ, none, 0, 0, rfl, Slc.nil _, Ext.refl _ _, hf1, hb01⟩
end Go.Proofs.Ytkjbaabkaboaoaa
