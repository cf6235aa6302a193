/-
  Part 12 of the texts: Place; OwnSet; Reg; With; PutOf; Put; Lists; Text; Vars; Places; VarsAny; Build. Conditions: none.
-/
import Derived.Test.YtohgkbgpcnmdpaaTxt11
import Derived.Deep.QuietTactic
import Derived.BigQuiet
import Derived.Maps.Range
import Derived.Maps.RangeWalk
import Derived.Lib.FrozenHead2
import Derived.Lib.OthersKept
import Derived.Shelf.Strings.BuilderK
namespace Go.Proofs.Ytohgkbgpcnmdpaa
open Go Go.RowKit
set_option maxHeartbeats 400000
set_option linter.unusedVariables false

/-! ### plain -/
/-- what stands at a place -/
def Tm.at_ : Tm → List Int → Option Tm
  | t, [] => some t
  | t, i :: is => if 0 ≤ i ∧ i < t.args.length then (match t.args[i.toNat]? with | some a => Tm.at_ a is | none => none) else none
theorem Tm.at_no {t : Tm} {i : Int} {is : List Int} (h : ¬ (0 ≤ i ∧ i < t.args.length)) : t.at_ (i :: is) = none := by
  rw [Tm.at_, if_neg h]
theorem Tm.at_yes {t a : Tm} {n : Nat} {is : List Int} (h : t.args[n]? = some a) : t.at_ ((n : Int) :: is) = a.at_ is := by
  have hl := lt_of_get h
  rw [Tm.at_, if_pos ⟨by omega, by omega⟩]
  simp [h]
theorem drop_get {α : Type} {xs : List α} {k : Nat} {a : α} (h : xs[k]? = some a) : xs.drop k = a :: xs.drop (k+1) := by
  have hk := lt_of_get h
  rw [List.getElem?_eq_getElem hk] at h
  rw [List.drop_eq_getElem_cons hk]
  simp at h
  rw [h]

/-- The rest of a slice behind its first k things. -/
theorem Slc.cut {α : Type} [Cod α] {σ : Sto} {p : Option Addr} {len cap : Nat} {xs : List α} (h : Slc σ p len cap xs) (k : Nat) (hk : k ≤ len) : Slc σ (if cap = k then p else p.map (·.add (k * Cod.wid α))) (len - k) (cap - k) (xs.drop k) := by
  obtain ⟨h1, h2, h3, h4, b, o, h5, h6⟩ := h
  refine ⟨by rw [List.length_drop, h1], by omega, by omega, fun hp => ?_, b, o + k * Cod.wid α, fun h0 => ?_, by rw [List.map_drop]; exact h6.drop k⟩
  · split at hp
    · omega
    · have := h4 (by simpa using hp)
      omega
  · rw [if_neg (by omega), h5 (by omega)]
    simp [Addr.add]
/-! ### the walks -/
def AtPost (σ : Sto) (w : World) (r : Option Tm) (e : Ending) (w' : World) : Prop :=
  match r with
  | some x => ∃ p l c, e = .returned (.tuple #[.agg #[.string x.name, .slice p l c], .bool true]) ∧ x.name.size ≤ maxLen ∧ Slc σ p l c x.args ∧ Below w.heap.size w w'
  | none => e = .returned (.tuple #[.agg #[.string ⟨#[]⟩, .slice none 0 0], .bool false]) ∧ Below w.heap.size w w'

set_option maxRecDepth 100000 in
theorem below_any (t : Tm) (is : List Int) (σ : Sto) (v : Value) (q : Option Addr) (l c : Nat) (w : World) (hs : Fit σ w) (ht : TmV σ v t) (hq : Slc σ q l c is) :
    Calls Try.prog 33 #[v, .slice q l c] w fun e w' => AtPost σ w (t.at_ is) e w' := by
  obtain ⟨p, len, cap, rfl, hn, hsl⟩ := ht
  have HL := Lib.hid hq.length
  have hqm := hq.max
  go_enter Try.func33, Try.ntmps33
  go_wp2_with fail
  go_loopw [10] (fun i wr => ∃ (k : Nat) (x : Tm) (p : Option Addr) (len cap : Nat), k ≤ l ∧ i = .int .i64 k ∧ Blk wr w.heap.size 24 #[.string x.name, .slice p len cap] ∧ Blk wr (w.heap.size + 1) 24 #[.string ⟨#[]⟩, .slice none 0 0] ∧ x.name.size ≤ maxLen ∧ Slc σ p len cap x.args ∧ Hid (t.at_ is = x.at_ (is.drop k)) ∧ Below w.heap.size w wr) (fun i _ => l - (intOf i).toNat)
  case atStart =>
    refine ⟨0, t, p, len, cap, Nat.zero_le _, rfl, (Blk.new w _ _).alloc _, ?_, hn, hsl, rfl, ((Below.refl _ _).alloc (Nat.le_refl _) _).alloc (by simp) _⟩
    have := Blk.new (w.alloc (.cells #[.string t.name, .slice p len cap] 24)) 24 #[.string ⟨#[]⟩, .slice none 0 0]
    simpa using this
  case round =>
    obtain ⟨k, x, p, len, cap, hk, rfl, B, R, hn, hsl, HX, hb⟩ := hrel
    have hlm := hsl.max
    have c0 : wr.cell? ⟨w.heap.size, 0, none⟩ = some (.string x.name) := B.cell 0
    have c1 : wr.cell? ⟨w.heap.size, 1, none⟩ = some (.slice p len cap) := B.cell 1
    have c2 : wr.frozen? ⟨w.heap.size, 0, none⟩ = false := B.frozen 0
    have c3 : wr.frozen? ⟨w.heap.size, 1, none⟩ = false := B.frozen 1
    have r0 : wr.cell? ⟨w.heap.size + 1, 0, none⟩ = some (.string ⟨#[]⟩) := R.cell 0
    have r1 : wr.cell? ⟨w.heap.size + 1, 1, none⟩ = some (.slice none 0 0) := R.cell 1
    have r2 : wr.frozen? ⟨w.heap.size + 1, 0, none⟩ = false := R.frozen 0
    have r3 : wr.frozen? ⟨w.heap.size + 1, 1, none⟩ = false := R.frozen 1
    have hfw := hs.below hb
    by_cases hlt : k < l
    · obtain ⟨b, o, i, rfl, HI, f0, hi0, hi1⟩ := hq.int k hlt
      have g0 := fitC hfw f0
      have HD := Lib.hid (drop_get HI.out)
      have HS := Lib.hid hsl.length
      by_cases hneg : i < 0
      · go_wp2_with fail
        have HA : t.at_ is = none := by rw [HX.out, HD.out]; exact Tm.at_no (by omega)
        rw [HA]
        have Rb := (R.put 0 (.string ⟨#[]⟩)).put 1 (.slice none 0 0)
        have k0 := Rb.cell 0
        have k1 := Rb.cell 1
        refine bodyPost_ret (v := .tuple #[.agg #[.string ⟨#[]⟩, .slice none 0 0], .bool false]) (by simp [results, Try.results33, go_sem, k0, k1]) rfl ⟨rfl, (hb.setCell (by simp) _).setCell (by simp) _⟩
      · by_cases hge : (len : Int) ≤ i
        · go_wp2_with fail
          have HA : t.at_ is = none := by rw [HX.out, HD.out]; exact Tm.at_no (by have := HS.out; omega)
          rw [HA]
          have Rb := (R.put 0 (.string ⟨#[]⟩)).put 1 (.slice none 0 0)
          have k0 := Rb.cell 0
          have k1 := Rb.cell 1
          refine bodyPost_ret (v := .tuple #[.agg #[.string ⟨#[]⟩, .slice none 0 0], .bool false]) (by simp [results, Try.results33, go_sem, k0, k1]) rfl ⟨rfl, (hb.setCell (by simp) _).setCell (by simp) _⟩
        · obtain ⟨n, rfl⟩ : ∃ n : Nat, i = n := ⟨i.toNat, by omega⟩
          have hn1 : n < len := by omega
          obtain ⟨b', o', a, q', l', c', rfl, HA, e0, e1, hn', hsl'⟩ := hsl.tm n hn1
          have g1 := fitC hfw e0
          have g2 := fitC hfw e1
          clear hneg hge
          go_wp2_with fail
          go_roundw
          case rel =>
            refine ⟨k + 1, a, q', l', c', by omega, by go_num, (B.put 0 _).put 1 _, (R.far (by simp) _).far (by simp) _, hn', hsl', ?_, (hb.setCell (by simp) _).setCell (by simp) _⟩
            show _ = _
            rw [HX.out, HD.out]
            exact Tm.at_yes HA.out
          case measure => simp [intOf]; omega
    · obtain rfl : k = l := by omega
      go_wp2_with fail
      have HA : t.at_ is = some x := by rw [HX.out, List.drop_of_length_le (by have := HL.out; omega)]; rfl
      rw [HA]
      have Rb := (R.put 0 (.string x.name)).put 1 (.slice p len cap)
      have k0 := Rb.cell 0
      have k1 := Rb.cell 1
      refine bodyPost_ret (v := .tuple #[.agg #[.string x.name, .slice p len cap], .bool true]) (by simp [results, Try.results33, go_sem, k0, k1]) rfl ⟨p, len, cap, rfl, hn, hsl, (hb.setCell (by simp) _).setCell (by simp) _⟩

end Go.Proofs.Ytohgkbgpcnmdpaa

namespace Go.Proofs.Ytohgkbgpcnmdpaa
open Go Go.RowKit
set_option maxHeartbeats 400000
set_option linter.unusedVariables false
open Cod (wid dat)

theorem Dat.AggIs.get {σ : Sto} {e : Nat} : ∀ {ds : List Dat} {cs : List Value}, (∀ d ∈ ds, ∀ xs, d.Is σ xs → xs.length = e) → Dat.AggIs σ ds cs → ∀ k (h : k < ds.length), ∃ xs, ds[k].Is σ xs ∧ ∀ j x, xs[j]? = some x → cs[k * e + j]? = some x
  | [], _, _, _, k, h => absurd h (by simp)
  | d :: ds, cs, hl, hd, 0, h => by
    obtain ⟨x, y, rfl, h1, h2⟩ := hd
    refine ⟨x, h1, fun j u hj => ?_⟩
    have := lt_of_get hj
    rw [Nat.zero_mul, Nat.zero_add, List.getElem?_append_left this]
    exact hj
  | d :: ds, cs, hl, hd, k + 1, h => by
    obtain ⟨x, y, rfl, h1, h2⟩ := hd
    obtain ⟨xs, h3, h4⟩ := Dat.AggIs.get (e := e) (fun d hd => hl d (by simp [hd])) h2 k (by simpa using h)
    have hx := hl d (by simp) x h1
    refine ⟨xs, by simpa using h3, fun j u hj => ?_⟩
    rw [List.getElem?_append_right (by rw [Nat.add_mul]; omega)]
    rw [show (k + 1) * e + j - x.length = k * e + j by rw [Nat.add_mul]; omega]
    exact h4 j u hj
theorem Dat.AggIs.set {σ : Sto} {e : Nat} {d' : Dat} {ys : List Value} (hy : d'.Is σ ys) (hyl : ys.length = e) : ∀ {ds : List Dat} {cs : List Value}, (∀ d ∈ ds, ∀ xs, d.Is σ xs → xs.length = e) → Dat.AggIs σ ds cs → ∀ k, k < ds.length → Dat.AggIs σ (ds.set k d') (cs.take (k * e) ++ (ys ++ cs.drop (k * e + e)))
  | [], _, _, _, k, h => absurd h (by simp)
  | d :: ds, cs, hl, hd, 0, h => by
    obtain ⟨x, y, rfl, h1, h2⟩ := hd
    have hx := hl d (by simp) x h1
    refine ⟨ys, y, ?_, hy, h2⟩
    rw [Nat.zero_mul, List.take_zero, Nat.zero_add, ← hx, List.drop_left]
    rfl
  | d :: ds, cs, hl, hd, k + 1, h => by
    obtain ⟨x, y, rfl, h1, h2⟩ := hd
    have hx := hl d (by simp) x h1
    have ih := Dat.AggIs.set hy hyl (fun d hd => hl d (by simp [hd])) h2 k (by simpa using h)
    refine ⟨x, _, ?_, h1, ih⟩
    have e1 : (k + 1) * e = x.length + k * e := by rw [Nat.add_mul]; omega
    rw [e1, List.take_append, List.take_of_length_le (by omega), Nat.add_sub_cancel_left, show x.length + k * e + e = x.length + (k * e + e) by omega, List.drop_append, List.drop_of_length_le (by omega : x.length ≤ x.length + (k * e + e)), Nat.add_sub_cancel_left]
    simp
theorem set_two (cs : List Value) (i : Nat) (x y : Value) (h : i + 1 < cs.length) : (cs.set i x).set (i + 1) y = cs.take i ++ ([x, y] ++ cs.drop (i + 2)) := by
  apply List.ext_getElem?
  intro j
  rw [List.getElem?_set, List.getElem?_set, List.length_set, List.getElem?_append, List.length_take, List.getElem?_append, List.getElem?_take, List.getElem?_drop]
  by_cases h1 : j < i
  · rw [if_neg (by omega), if_neg (by omega), if_pos (by omega), if_pos h1]
  · rw [if_neg (show ¬ j < min i cs.length by omega)]
    by_cases h2 : j = i
    · subst h2
      rw [if_neg (by omega), if_pos rfl, if_pos (by omega), if_pos (by simp; omega)]
      simp [show min j cs.length = j by omega]
    · by_cases h3 : j = i + 1
      · subst h3
        rw [if_pos rfl, if_pos (by omega), if_pos (by simp; omega)]
        simp [show min i cs.length = i by omega]
      · rw [if_neg (by omega), if_neg (by omega), if_neg (by simp; omega)]
        congr 1
        simp
        omega

section
variable {α : Type} [Cod α] {σ : Sto} {w : World} {N : Nat} {e : TypeId} {v : Value} {xs : List α}
theorem dats_len (σ : Sto) (xs : List α) : ∀ d ∈ xs.map dat, ∀ ys, d.Is σ ys → ys.length = wid α := fun d hd ys hy => by
  obtain ⟨a, _, rfl⟩ := List.mem_map.1 hd
  exact Cod.len σ a ys hy
/-- The k-th thing of an owned row. -/
theorem Own.get (h : Own σ N w e v xs) (k : Nat) (a : α) (hk : xs[k]? = some a) :
    ∃ g c, v = .slice (some ⟨g, 0, none⟩) xs.length c ∧ N ≤ g ∧ g < w.heap.size ∧ ∃ cs, Cells σ cs a ∧ (∀ j x, cs[j]? = some x → w.cell? ⟨g, k * wid α + j, none⟩ = some x) ∧ ∀ j, w.frozen? ⟨g, j, none⟩ = false := by
  obtain ⟨cs, h1, h2⟩ := h.row
  have hkl := lt_of_get hk
  obtain ⟨ys, h3, h4⟩ := Dat.AggIs.get (e := wid α) (dats_len σ xs) h2 k (by simpa using hkl)
  rcases h1.2 with ⟨rfl, h0⟩ | ⟨g, cap, cur, rfl, hg, hh, hn, hm, hcs, htake⟩
  · omega
  · refine ⟨g, cap, rfl, hg, (Array.getElem?_eq_some_iff.1 hh).1, ys, ?_, fun j x hj => ?_, fun j => by simp [World.frozen?, hh]⟩
    · have : (xs.map dat)[k]'(by simpa using hkl) = dat a := by
        rw [List.getElem?_eq_getElem hkl] at hk
        simp at hk
        simp [hk]
      rw [this] at h3
      exact h3
    · have := h1.cells (g := g) rfl (k * wid α + j) x (h4 j x hj)
      rw [add_zero_off, Nat.zero_add] at this
      exact this
/-- A thing of two cells of an owned row written anew. -/
theorem Own.set2 (h : Own σ N w e v xs) (h2 : wid α = 2) (k : Nat) (hk : k < xs.length) {g : Nat} (hg : v.ownBlock = some g) (y : α) (c0 c1 : Value) (hc : Cells σ [c0, c1] y) :
    Own σ N ((w.setCell ⟨g, k * 2, none⟩ c0).setCell ⟨g, k * 2 + 1, none⟩ c1) e v (xs.set k y) := by
  obtain ⟨cs, h1, h3⟩ := h.row
  obtain ⟨p, c, rfl, _, _, _, hp⟩ := h.shape
  cases p with
  | none => simp [Value.ownBlock] at hg
  | some a =>
    obtain ⟨g', rfl, _, _⟩ := hp a rfl
    simp [Value.ownBlock] at hg
    subst hg
    rw [h2] at h1
    have k1 := ((h1.stored (k * 2) c0).1.stored (k * 2 + 1) c1).1
    have hl : k * 2 + 1 < cs.length := by have := h1.1; omega
    rw [set_two cs (k * 2) c0 c1 hl] at k1
    have k2 := Dat.AggIs.set (e := 2) (d' := dat y) (ys := [c0, c1]) hc rfl (fun d hd ys hy => h2 ▸ dats_len σ xs d hd ys hy) h3 k (by simpa using hk)
    refine ⟨⟨_, by rw [h2, List.length_set]; exact k1, by rw [List.map_set]; exact k2⟩, h.free⟩
end
/-- The k-th term of an owned row. -/
theorem Own.tm {σ : Sto} {N : Nat} {w : World} {e : TypeId} {v : Value} {xs : List Tm} (h : Own σ N w e v xs) (k : Nat) (a : Tm) (hk : xs[k]? = some a) :
    ∃ g c q l c', v = .slice (some ⟨g, 0, none⟩) xs.length c ∧ N ≤ g ∧ g < w.heap.size ∧ w.cell? ⟨g, k * 2, none⟩ = some (.string a.name) ∧ w.cell? ⟨g, k * 2 + 1, none⟩ = some (.slice q l c') ∧ a.name.size ≤ maxLen ∧ Slc σ q l c' a.args ∧ w.frozen? ⟨g, k * 2, none⟩ = false ∧ w.frozen? ⟨g, k * 2 + 1, none⟩ = false := by
  obtain ⟨g, c, hv, hg, hgl, cs, hc, h1, h2⟩ := h.get k a hk
  obtain ⟨q, l, c', rfl, h4, h5⟩ := cells_tm.1 hc
  exact ⟨g, c, q, l, c', hv, hg, hgl, h1 0 _ rfl, h1 1 _ rfl, h4, h5, h2 _, h2 _⟩
end Go.Proofs.Ytohgkbgpcnmdpaa

namespace Go.Proofs.Ytohgkbgpcnmdpaa
open Go Go.RowKit
set_option maxHeartbeats 400000
set_option linter.unusedVariables false

section
variable {P : Program} {l : List Oper} {Q : Exit → Act → World → Prop} {md : Region.Mode} {S : World → Prop} {m : Nat}

/-- Whatever order is picked from here on; S holds behind each operation, till m has come up. -/
def wpAnyM (P : Program) (md : Region.Mode) (l : List Oper) (Q : Exit → Act → World → Prop) (S : World → Prop) (m : Nat) : Nat → Array Bool → Act → World → Prop
  | 0, listed, a, w => Region.ready md l.toArray listed = [] ∧ Q .normal a w
  | fuel + 1, listed, a, w =>
    (Region.ready md l.toArray listed = [] → Q .normal a w) ∧
    ∀ i ∈ Region.ready md l.toArray listed, wpOp P l.toArray Q i (fun a' w' => ((listed.setIfInBounds i true).getD m true = false → S w') ∧ wpAnyM P md l Q S m fuel (listed.setIfInBounds i true) a' w') a w

theorem wpAny_of_M : ∀ (fuel : Nat) (listed : Array Bool) (a : Act) (w : World), wpAnyM P md l Q S m fuel listed a w → wpAny P md l.toArray Q fuel listed a w
  | 0, _, _, _, h => h
  | fuel + 1, _, _, _, h => ⟨h.1, fun i hi => wpOp_mono (fun a' w' h' => wpAny_of_M fuel _ a' w' h'.2) (h.2 i hi)⟩

/-- Does operation m wait for operation i by an edge of its own? -/
def waitsFor (md : Region.Mode) (l : List Oper) (m i : Nat) : Bool := match l[m]? with
  | some o => o.after.any fun e => Region.binds md e && e.on == i
  | none => false
theorem waits_spec {i : Nat} (h : waitsFor md l m i = true) {listed : Array Bool} (hm : m ∈ Region.ready md l.toArray listed) : listed.getD i false = true := by
  obtain ⟨_, o, ho, hall⟩ := mem_ready.1 hm
  have ho' : l[m]? = some o := by simpa using ho
  simp only [waitsFor, ho'] at h
  obtain ⟨k, hk, h2⟩ := Array.any_eq_true.1 h
  simp only [Bool.and_eq_true, beq_iff_eq] at h2
  have := hall _ (Array.getElem_mem hk) h2.1
  rw [h2.2] at this
  exact this

theorem wpAnyM_first {i : Nat} {oi : Oper} {v : Value} (hi : l.toArray[i]? = some oi) (hsel : ∀ (j : Nat) (o : Oper) cs b, l.toArray[j]? = some o → o.op ≠ .select cs b)
    (hQ : ∀ c a w, Q (.panic c) (a.put oi.dst v) w → Q (.panic c) a w) (hm : waitsFor md l m i = true) (hne : m ≠ i) :
    ∀ (fuel : Nat) (listed : Array Bool) (a : Act) (w : World),
      (∀ j oj, l.toArray[j]? = some oj → j ≠ i → listed.getD j true = false → (∀ e ∈ oj.after, Region.binds md e = true → e.on ≠ i) → oi.apart l.toArray oj = true) →
      i ∈ Region.ready md l.toArray listed → listed.getD m true = false → YieldsIf P l.toArray S oi v a → S w →
      wpAnyM P md l Q S m fuel (listed.setIfInBounds i true) (a.put oi.dst v) w → wpAnyM P md l Q S m (fuel + 1) listed a w := by
  intro fuel
  induction fuel with
  | zero =>
    intro listed a w _ hr hml hy hS H
    refine ⟨fun h => (by rw [h] at hr; cases hr), fun j hj => ?_⟩
    by_cases hji : j = i
    · subst hji; exact hy.wpOp hi hS ⟨fun _ => hS, H⟩
    · have := ready_mono hj hji
      rw [H.1] at this
      cases this
  | succ fuel ih =>
    intro listed a w hfree hr hml hy hS H
    refine ⟨fun h => (by rw [h] at hr; cases hr), fun j hj => ?_⟩
    by_cases hji : j = i
    · subst hji; exact hy.wpOp hi hS ⟨fun _ => hS, H⟩
    · have hun := (mem_ready.1 hr).1
      have hjm : j ≠ m := by
        rintro rfl
        have h1 := waits_spec hm hj
        rcases Nat.lt_or_ge i listed.size with h' | h'
        · simp [h'] at h1 hun; rw [hun] at h1; cases h1
        · simp [Array.getElem?_eq_none h'] at h1
      have h1 := H.2 j (ready_mono hj hji)
      obtain ⟨hjun, oj, hoj, hall⟩ := mem_ready.1 hj
      have hnot : ∀ e ∈ oj.after, Region.binds md e = true → e.on ≠ i := fun e he hb heq => by
        have h1 := hall e he hb
        rw [heq] at h1
        rcases Nat.lt_or_ge i listed.size with h' | h'
        · simp [h'] at hun h1; rw [hun] at h1; cases h1
        · simp [Array.getElem?_eq_none h'] at h1
      have h2 := wpOp_putIf (S := S) hoj (hfree j oj hoj hji hjun hnot) (fun cs b => hsel i oi cs b hi) (fun cs b => hsel j oj cs b hoj) hQ hy h1
      have hfree' : ∀ k ok, l.toArray[k]? = some ok → k ≠ i → (listed.setIfInBounds j true).getD k true = false →
          (∀ e ∈ ok.after, Region.binds md e = true → e.on ≠ i) → oi.apart l.toArray ok = true := fun k ok hk hki hun hno => by
        refine hfree k ok hk hki ?_ hno
        by_cases hjk : j = k
        · subst hjk; exact hjun
        · rw [getD_set_ne true hjk] at hun; exact hun
      refine wpOp_mono (fun a' w' h3 => ?_) h2
      have hSw : S w' := h3.2.1 (by rw [getD_set_ne true hjm, getD_set_ne true (Ne.symm hne)]; exact hml)
      refine ⟨fun _ => hSw, ih (listed.setIfInBounds j true) a' w' hfree' (ready_mono hr (Ne.symm hji)) (by rw [getD_set_ne true hjm]; exact hml) h3.1 hSw ?_⟩
      rw [Array.setIfInBounds_comm _ _ hji]
      exact h3.2.2

/-- Take number i first: it may come up, yields v in every world that meets S, nobody who could come before it touches its temporaries, and m waits for it. -/
theorem takeM {i : Nat} {oi : Oper} {rest : List Oper} {v : Value} {fuel : Nat} {listed : Array Bool} {a : Act} {w : World} (hi : l.drop i = oi :: rest)
    (hs : Region.noSelect l.toArray = true) (hf : Region.free md l.toArray listed i = true) (hr : (Region.ready md l.toArray listed).contains i = true)
    (hm : (waitsFor md l m i && !(m == i) && !(listed.getD m true)) = true)
    (hQ : ∀ c a w, Q (.panic c) (a.put oi.dst v) w → Q (.panic c) a w) (hw : Region.wanted oi (yielded l.toArray a.tmps) = true) (hy : ∀ w, S w → (execOp a.eval oi).run P w = .ok (.value v) w) (hS : S w)
    (h : wpAnyM P md l Q S m fuel (listed.setIfInBounds i true) (a.put oi.dst v) w) : wpAnyM P md l Q S m (fuel + 1) listed a w := by
  have hi' : l.toArray[i]? = some oi := by
    have : (l.drop i)[0]? = some oi := by rw [hi]; rfl
    simpa using this
  simp only [Bool.and_eq_true, Bool.not_eq_true', beq_eq_false_iff_ne] at hm
  exact wpAnyM_first hi' (Region.noSelect_spec hs) hQ hm.1.1 hm.1.2 fuel listed a w (Region.free_spec hi' hf) (by simpa using hr) hm.2 (.inl ⟨hw, hy⟩) hS h
/-- Number i alone may come up. -/
theorem runM {i : Nat} {oi : Oper} {rest : List Oper} {fuel : Nat} {listed : Array Bool} {a : Act} {w : World} (hr : Region.ready md l.toArray listed = [i]) (hi : l.drop i = oi :: rest) (hg : oi.guard = none)
    (h : ∀ K : Act → World → Prop, Hid (∀ a' w', S w' → (S w' → wpAnyM P md l Q S m fuel (listed.setIfInBounds i true) a' w') → K a' w') → oi.wp P a w K Q) : wpAnyM P md l Q S m (fuel + 1) listed a w := by
  have hi' : l.toArray[i]? = some oi := by
    have : (l.drop i)[0]? = some oi := by rw [hi]; rfl
    simpa using this
  refine ⟨fun h0 => (by rw [hr] at h0; cases h0), fun j hj => ?_⟩
  rw [hr] at hj
  obtain rfl : j = i := by simpa using hj
  unfold wpOp
  simp only [hi']
  rw [if_pos (by simp [Region.wanted, hg])]
  exact .inl (h _ (fun a' w' hS hk => ⟨fun _ => hS, hk hS⟩))
/-- Number m is the last. -/
theorem lastM {oi : Oper} {rest : List Oper} {fuel : Nat} {listed : Array Bool} {a : Act} {w : World} (hr : Region.ready md l.toArray listed = [m]) (hd : Region.ready md l.toArray (listed.setIfInBounds m true) = []) (hml : (listed.setIfInBounds m true).getD m true = true) (hi : l.drop m = oi :: rest) (hg : oi.guard = none)
    (h : ∀ K : Act → World → Prop, Hid (∀ a' w', Q .normal a' w' → K a' w') → oi.wp P a w K Q) : wpAnyM P md l Q S m (fuel + 1) listed a w := by
  have hi' : l.toArray[m]? = some oi := by
    have : (l.drop m)[0]? = some oi := by rw [hi]; rfl
    simpa using this
  refine ⟨fun h0 => (by rw [hr] at h0; cases h0), fun j hj => ?_⟩
  rw [hr] at hj
  obtain rfl : j = m := by simpa using hj
  unfold wpOp
  simp only [hi']
  rw [if_pos (by simp [Region.wanted, hg])]
  refine .inl (h _ (fun a' w' hq => ⟨fun h0 => (by rw [hml] at h0; cases h0), ?_⟩))
  cases fuel with
  | zero => exact ⟨hd, hq⟩
  | succ n => exact ⟨fun _ => hq, by rw [hd]; simp⟩
/-- The beginning: S is shown of the world behind the draw. -/
theorem beginM {id : Nat} {a : Act} {w : World} (S : World → Prop) (m : Nat) (hm : P.follows .mixedOrders = true) (hS : S w.drew)
    (h : S w.drew → wpAnyM P .any l Q S m l.length (Array.replicate l.length false) a w.drew) : (Code.region id l.toArray true).wp P Q a w :=
  wp_region_any hm (wpAny_of_M _ _ _ _ (by simpa using h hS))
end
end Go.Proofs.Ytohgkbgpcnmdpaa

namespace Go.Proofs.Ytohgkbgpcnmdpaa
open Go Go.RowKit
set_option maxHeartbeats 400000
set_option linter.unusedVariables false

/-! ### plain -/
def Tm.put : Tm → List Int → Tm → Tm
  | _, [], x => x
  | t, i :: is, x => .mk t.name (match t.args[i.toNat]? with | some a => t.args.set i.toNat (Tm.put a is x) | none => t.args)
theorem Tm.put_yes {t a : Tm} {n : Nat} {is : List Int} {x : Tm} (h : t.args[n]? = some a) : t.put ((n : Int) :: is) x = .mk t.name (t.args.set n (a.put is x)) := by
  rw [Tm.put]
  simp [h]
theorem Tm.at_some {t : Tm} {i : Int} {is : List Int} (h : t.at_ (i :: is) ≠ none) : ∃ (n : Nat) (a : Tm), i = n ∧ t.args[n]? = some a ∧ a.at_ is ≠ none := by
  rw [Tm.at_] at h
  split at h
  · rename_i hi
    have hn : i.toNat < t.args.length := by omega
    refine ⟨i.toNat, t.args[i.toNat], by omega, List.getElem?_eq_getElem hn, ?_⟩
    rw [List.getElem?_eq_getElem hn] at h
    exact h
  · exact absurd rfl h

/-- A call that hands back a term, made anew or not. -/
def TmPost (σ : Sto) (w : World) (r : Tm) (e : Ending) (w' : World) : Prop :=
  ∃ σ' p l c, e = .returned (.agg #[.string r.name, .slice p l c]) ∧ r.name.size ≤ maxLen ∧ Slc σ' p l c r.args ∧ Ext w.heap.size σ σ' ∧ Fit σ' w' ∧ Below w.heap.size w w'
theorem copy_done (t : Tm) (σ : Sto) (v : Value) (w : World) (hs : Fit σ w) (ht : TmV σ v t) (hz : t.size ≤ 1000000) :
    Calls Try.prog 34 #[v] w (TmPost σ w t) :=
  (copy_any _ t (Nat.lt_succ_self _) σ v w hs ht hz).mono fun e w' ⟨σ1, v1, he, ho, h1, h2, h3⟩ => by
    obtain ⟨σ2, p, l, c, rfl, h4, h5, h6, h7⟩ := ho.done h2 (Nat.le_refl _)
    exact ⟨σ2, p, l, c, he, h4, h5, h1.trans h6, h7, h3⟩

/-! ### the walk -/
def WithAt (is : List Int) : Prop := ∀ (t x : Tm) (σ : Sto) (v u : Value) (q : Option Addr) (l c : Nat) (w : World), Fit σ w → TmV σ v t → TmV σ u x → Slc σ q l c is → t.at_ is ≠ none → t.size ≤ 1000000 → x.size ≤ 1000000 →
    Calls Try.prog 35 #[v, .slice q l c, u] w (TmPost σ w (t.put is x))
set_option maxRecDepth 100000 in
theorem with_any : ∀ (is : List Int), WithAt is := by
  intro is
  induction is with
  | nil =>
    intro t x σ v u q l c w hs ht hx hq hat hz1 hz2
    obtain ⟨p, len, cap, rfl, hn, hsl⟩ := ht
    obtain ⟨p', len', cap', rfl, hn', hsl'⟩ := hx
    obtain rfl : l = 0 := hq.length
    have hbz : Below w.heap.size w (((w.alloc (.cells #[.string t.name, .slice p len cap] 24)).alloc (.cells #[.string x.name, .slice p' len' cap'] 24)).alloc (.cells #[.string ⟨#[]⟩, .slice none 0 0] 24)) := (((Below.refl _ _).alloc (Nat.le_refl _) _).alloc (by simp) _).alloc (by simp; omega) _
    have R0 := Blk.new ((w.alloc (.cells #[.string t.name, .slice p len cap] 24)).alloc (.cells #[.string x.name, .slice p' len' cap'] 24)) 24 #[.string ⟨#[]⟩, .slice none 0 0]
    simp only [World.size_alloc] at R0
    go_enter Try.func35, Try.ntmps35
    go_wp2_with fail
    refine (copy_done x σ _ _ (((hs.alloc _).alloc _).alloc _) ⟨_, _, _, rfl, hn', hsl'⟩ hz2).mono ?_
    rintro e w1 ⟨σ1, p1, l1, c1, rfl, hn1, hsl1, hext1, hf1, hb1⟩
    have R1 := R0.call hb1
    have r0 : w1.cell? ⟨w.heap.size + 1 + 1, 0, none⟩ = some (.string ⟨#[]⟩) := R1.cell 0
    have r1 : w1.cell? ⟨w.heap.size + 1 + 1, 1, none⟩ = some (.slice none 0 0) := R1.cell 1
    have r2 : w1.frozen? ⟨w.heap.size + 1 + 1, 0, none⟩ = false := R1.frozen 0
    have r3 : w1.frozen? ⟨w.heap.size + 1 + 1, 1, none⟩ = false := R1.frozen 1
    go_wp2_with fail
    have Rb := (R1.put 0 (.string x.name)).put 1 (.slice p1 l1 c1)
    have k0 := Rb.cell 0
    have k1 := Rb.cell 1
    have hb2 := hbz.trans (hb1.mono (by simp; omega))
    have z0 : σ1 ⟨w.heap.size + 1 + 1, 0, none⟩ = none := by rw [hext1.old _ (by simp)]; exact hs.no (by simp; omega)
    have z1 : σ1 ⟨w.heap.size + 1 + 1, 1, none⟩ = none := by rw [hext1.old _ (by simp)]; exact hs.no (by simp; omega)
    exact bodyPost_ret (v := .agg #[.string x.name, .slice p1 l1 c1]) (by simp [results, Try.results35, go_sem, k0, k1]) rfl ⟨σ1, p1, l1, c1, rfl, hn1, hsl1, hext1.mono (by simp; omega), (hf1.setCell z0 _).setCell z1 _, (hb2.setCell (by simp; omega) _).setCell (by simp; omega) _⟩
  | cons i is ih =>
    intro t x σ v u q l c w hs ht hx hq hat hz1 hz2
    obtain ⟨p, len, cap, rfl, hn, hsl⟩ := ht
    obtain ⟨p', len', cap', rfl, hn', hsl'⟩ := hx
    obtain ⟨n, a, rfl, ha, hat'⟩ := Tm.at_some hat
    obtain ⟨l, rfl⟩ : ∃ l', l = l' + 1 := ⟨is.length, hq.length⟩
    obtain ⟨b, o, i', rfl, HI, f0, hi0, hi1⟩ := hq.int 0 (by omega)
    obtain rfl : i' = n := by have := HI.out; simpa using this.symm
    have g0 : w.cell? ⟨b, o, none⟩ = some (.int .i64 n) := by simpa using fitC hs f0
    have hqm := hq.max
    have hlm := hsl.max
    have lb : b < w.heap.size := World.block_lt_of_cell? w ⟨b, o, none⟩ g0
    have HPUT := Lib.hid (Tm.put_yes (is := is) (x := x) ha)
    have HAT := Lib.hid hat'
    have HA := Lib.hid ha
    have hza : a.size ≤ 1000000 := by
      have h1 := Tm.size_mem (mem_of_get ha)
      have h2 := Tm.size_eq t
      omega
    have hnl : n < t.args.length := lt_of_get ha
    have hc0 : l + 1 ≤ c := hq.2.1
    have hc1 : (0 : Int) < (l : Int) + 1 := by omega
    have hc2 : (1 : Int) ≤ (l : Int) + 1 := by omega
    have hc3 : (l : Int) + 1 ≤ (c : Int) := by omega
    have hcm := hq.capmax
    have HL := Lib.hid hsl.length
    have hcut := hq.cut 1 (by omega)
    have HC : Hid (Slc σ (if c = 1 then some ⟨b, o, none⟩ else some ⟨b, o + 1, none⟩) l (c - 1) is) := by
      show Slc _ _ _ _ _
      have e : (if c = 1 then some (⟨b, o, none⟩ : Addr) else some ⟨b, o + 1, none⟩) = (if c = 1 then some ⟨b, o, none⟩ else (some ⟨b, o, none⟩ : Option Addr).map (·.add (1 * Cod.wid Int))) := by
        split <;> rfl
      rw [e]
      simpa using hcut
    clear hcut ha hat hat' f0
    have hfz : Fit σ (((w.alloc (.cells #[.string t.name, .slice p len cap] 24)).alloc (.cells #[.string x.name, .slice p' len' cap'] 24)).alloc (.cells #[.string ⟨#[]⟩, .slice none 0 0] 24)) := ((hs.alloc _).alloc _).alloc _
    have hbz : Below w.heap.size w (((w.alloc (.cells #[.string t.name, .slice p len cap] 24)).alloc (.cells #[.string x.name, .slice p' len' cap'] 24)).alloc (.cells #[.string ⟨#[]⟩, .slice none 0 0] 24)) := (((Below.refl _ _).alloc (Nat.le_refl _) _).alloc (by simp) _).alloc (by simp; omega) _
    have T0 := ((Blk.new w 24 #[.string t.name, .slice p len cap]).alloc (.cells #[.string x.name, .slice p' len' cap'] 24)).alloc (.cells #[.string ⟨#[]⟩, .slice none 0 0] 24)
    have X0 := (Blk.new (w.alloc (.cells #[.string t.name, .slice p len cap] 24)) 24 #[.string x.name, .slice p' len' cap']).alloc (.cells #[.string ⟨#[]⟩, .slice none 0 0] 24)
    have R0 := Blk.new ((w.alloc (.cells #[.string t.name, .slice p len cap] 24)).alloc (.cells #[.string x.name, .slice p' len' cap'] 24)) 24 #[.string ⟨#[]⟩, .slice none 0 0]
    simp only [World.size_alloc] at R0 X0
    by_cases hc : c = 1
    · have HC' := HC
      simp only [hc, if_true] at HC'
      clear HC
      obtain rfl : l = 0 := by omega
      subst hc
      go_enter Try.func35, Try.ntmps35
      go_wp2_with fail
      refine (copy_any _ t (Nat.lt_succ_self _) σ _ _ hfz ⟨_, _, _, rfl, hn, hsl⟩ hz1).mono ?_
      rintro e w1 ⟨σ1, v1, rfl, ⟨⟨u1, rfl, hown⟩, _⟩, hext1, hf1, hb1⟩
      have hsz1 : w.heap.size + 1 + 1 + 1 ≤ w1.heap.size := by have := hb1.size; simpa using this
      obtain ⟨g, cg, q2, l2, c2, rfl, hg1, hg2, -, -, hna, hsla, -, -⟩ := hown.tm n a HA.out
      simp only [World.size_alloc] at hg1
      have hown' : Own σ1 (w.heap.size + 1 + 1 + 1) w1 24 (.slice (some ⟨g, 0, none⟩) t.args.length cg) t.args := by simpa using hown
      have T1 := T0.call hb1
      have X1 := X0.call hb1
      have R1 := R0.call hb1
      have t0 : w1.cell? ⟨w.heap.size, 0, none⟩ = some (.string t.name) := T1.cell 0
      have t1 : w1.cell? ⟨w.heap.size, 1, none⟩ = some (.slice p len cap) := T1.cell 1
      have t2 : w1.frozen? ⟨w.heap.size, 0, none⟩ = false := T1.frozen 0
      have t3 : w1.frozen? ⟨w.heap.size, 1, none⟩ = false := T1.frozen 1
      have hb01 := hbz.trans (hb1.mono (by simp; omega))
      have hnl1 : (n : Int) < (t.args.length : Int) := by omega
      clear hown
      go_wp2_with fail
      obtain ⟨w2, hw2⟩ : ∃ w2, w2 = (w1.setCell ⟨w.heap.size, 0, none⟩ (.string t.name)).setCell ⟨w.heap.size, 1, none⟩ (.slice (some ⟨g, 0, none⟩) t.args.length cg) := ⟨_, rfl⟩
      rw [← hw2]
      have T2 : Blk w2 w.heap.size 24 #[.string t.name, .slice (some ⟨g, 0, none⟩) t.args.length cg] := by rw [hw2]; exact (T1.put 0 _).put 1 _
      have X2 : Blk w2 (w.heap.size + 1) 24 #[.string x.name, .slice p' len' cap'] := by rw [hw2]; exact (X1.far (by simp) _).far (by simp) _
      have R2 : Blk w2 (w.heap.size + 1 + 1) 24 #[.string ⟨#[]⟩, .slice none 0 0] := by rw [hw2]; exact (R1.far (by simp <;> omega) _).far (by simp <;> omega) _
      have hown2 : Own σ1 (w.heap.size + 1 + 1 + 1) w2 24 (.slice (some ⟨g, 0, none⟩) t.args.length cg) t.args := by
        rw [hw2]
        exact (hown'.setCell (hown'.notAt (g := w.heap.size) (by omega)) _ (p := ⟨w.heap.size, 0, none⟩)).setCell (hown'.notAt (g := w.heap.size) (by omega)) _ (p := ⟨w.heap.size, 1, none⟩)
      have z0 : ∀ j k, j < 3 → σ1 ⟨w.heap.size + j, k, none⟩ = none := fun j k hj => by rw [hext1.old _ (by simp; omega)]; exact hs.no (by simp)
      have hf2 : Fit σ1 w2 := by rw [hw2]; exact (hf1.setCell (z0 0 0 (by omega)) _).setCell (z0 0 1 (by omega)) _
      have hb02 : Below w.heap.size w w2 := by rw [hw2]; exact (hb01.setCell (by simp) _).setCell (by simp) _
      have hsz2 : w.heap.size + 1 + 1 + 1 ≤ w2.heap.size := by rw [hw2]; simpa using hsz1
      have HZ := Lib.hid z0
      clear hw2 T1 X1 R1 t0 t1 t2 t3 hown' hf1 hb01 hb1 hsz1 hg2 z0
      obtain ⟨g', cg', q3, l3, c3, hv, -, hg2, e0, e1, hna3, hsla3, e2, e3⟩ := hown2.tm n a HA.out
      obtain ⟨rfl, rfl⟩ : g' = g ∧ cg' = cg := by simpa using hv.symm
      have t1 : w2.cell? ⟨w.heap.size, 1, none⟩ = some (.slice (some ⟨g', 0, none⟩) t.args.length cg') := T2.cell 1
      have x0 : w2.cell? ⟨w.heap.size + 1, 0, none⟩ = some (.string x.name) := X2.cell 0
      have x1 : w2.cell? ⟨w.heap.size + 1, 1, none⟩ = some (.slice p' len' cap') := X2.cell 1
      have g1 : w2.cell? ⟨b, o, none⟩ = some (.int .i64 n) := (hb02.cell (p := ⟨b, o, none⟩) lb).trans g0
      have hi0n : (0 : Int) ≤ (n : Int) := by omega
      refine beginM (fun w' => w'.cell? ⟨w.heap.size, 1, none⟩ = some (.slice (some ⟨g', 0, none⟩) t.args.length cg') ∧ w'.cell? ⟨b, o, none⟩ = some (.int .i64 n) ∧ w'.cell? ⟨w.heap.size + 1, 0, none⟩ = some (.string x.name) ∧ w'.cell? ⟨w.heap.size + 1, 1, none⟩ = some (.slice p' len' cap') ∧ w'.cell? ⟨g', n * 2, none⟩ = some (.string a.name) ∧ w'.cell? ⟨g', n * 2 + 1, none⟩ = some (.slice q3 l3 c3)) 17 (by kernel_rfl) ⟨t1, g1, x0, x1, e0, e1⟩ (fun hHeld => ?_)
      refine takeM (i := 0) (v := ?_) rfl (by kernel_rfl) (by kernel_rfl) (by kernel_rfl) (by kernel_rfl) (fun _ _ _ h => h) (by rfl) ?_ hHeld ?_
      rotate_left 1
      · intro w' hSw
        try dsimp only at hSw
        go_simp
        try with_reducible rfl
      try simp only [Act.put, List.setIfInBounds_toArray, List.set_cons_zero, List.set_cons_succ]
      refine takeM (i := 1) (v := ?_) rfl (by kernel_rfl) (by kernel_rfl) (by kernel_rfl) (by kernel_rfl) (fun _ _ _ h => h) (by rfl) ?_ hHeld ?_
      rotate_left 1
      · intro w' hSw
        try dsimp only at hSw
        go_simp
        try with_reducible rfl
      try simp only [Act.put, List.setIfInBounds_toArray, List.set_cons_zero, List.set_cons_succ]
      refine takeM (i := 2) (v := ?_) rfl (by kernel_rfl) (by kernel_rfl) (by kernel_rfl) (by kernel_rfl) (fun _ _ _ h => h) (by rfl) ?_ hHeld ?_
      rotate_left 1
      · intro w' hSw
        try dsimp only at hSw
        go_simp
        try with_reducible rfl
      try simp only [Act.put, List.setIfInBounds_toArray, List.set_cons_zero, List.set_cons_succ]
      refine takeM (i := 3) (v := ?_) rfl (by kernel_rfl) (by kernel_rfl) (by kernel_rfl) (by kernel_rfl) (fun _ _ _ h => h) (by rfl) ?_ hHeld ?_
      rotate_left 1
      · intro w' hSw
        try dsimp only at hSw
        go_simp
        try with_reducible rfl
      try simp only [Act.put, List.setIfInBounds_toArray, List.set_cons_zero, List.set_cons_succ]
      refine takeM (i := 4) (v := ?_) rfl (by kernel_rfl) (by kernel_rfl) (by kernel_rfl) (by kernel_rfl) (fun _ _ _ h => h) (by rfl) ?_ hHeld ?_
      rotate_left 1
      · intro w' hSw
        try dsimp only at hSw
        go_simp
        try with_reducible rfl
      try simp only [Act.put, List.setIfInBounds_toArray, List.set_cons_zero, List.set_cons_succ]
      refine takeM (i := 5) (v := ?_) rfl (by kernel_rfl) (by kernel_rfl) (by kernel_rfl) (by kernel_rfl) (fun _ _ _ h => h) (by rfl) ?_ hHeld ?_
      rotate_left 1
      · intro w' hSw
        try dsimp only at hSw
        go_simp
        try with_reducible rfl
      try simp only [Act.put, List.setIfInBounds_toArray, List.set_cons_zero, List.set_cons_succ]
      refine takeM (i := 6) (v := ?_) rfl (by kernel_rfl) (by kernel_rfl) (by kernel_rfl) (by kernel_rfl) (fun _ _ _ h => h) (by rfl) ?_ hHeld ?_
      rotate_left 1
      · intro w' hSw
        try dsimp only at hSw
        go_simp
        try with_reducible rfl
      try simp only [Act.put, List.setIfInBounds_toArray, List.set_cons_zero, List.set_cons_succ]
      refine takeM (i := 7) (v := ?_) rfl (by kernel_rfl) (by kernel_rfl) (by kernel_rfl) (by kernel_rfl) (fun _ _ _ h => h) (by rfl) ?_ hHeld ?_
      rotate_left 1
      · intro w' hSw
        try dsimp only at hSw
        go_simp
        try with_reducible rfl
      try simp only [Act.put, List.setIfInBounds_toArray, List.set_cons_zero, List.set_cons_succ]
      refine takeM (i := 8) (v := ?_) rfl (by kernel_rfl) (by kernel_rfl) (by kernel_rfl) (by kernel_rfl) (fun _ _ _ h => h) (by rfl) ?_ hHeld ?_
      rotate_left 1
      · intro w' hSw
        try dsimp only at hSw
        go_simp
        try with_reducible rfl
      try simp only [Act.put, List.setIfInBounds_toArray, List.set_cons_zero, List.set_cons_succ]
      refine takeM (i := 9) (v := ?_) rfl (by kernel_rfl) (by kernel_rfl) (by kernel_rfl) (by kernel_rfl) (fun _ _ _ h => h) (by rfl) ?_ hHeld ?_
      rotate_left 1
      · intro w' hSw
        try dsimp only at hSw
        go_simp
        try with_reducible rfl
      try simp only [Act.put, List.setIfInBounds_toArray, List.set_cons_zero, List.set_cons_succ]
      refine takeM (i := 10) (v := ?_) rfl (by kernel_rfl) (by kernel_rfl) (by kernel_rfl) (by kernel_rfl) (fun _ _ _ h => h) (by rfl) ?_ hHeld ?_
      rotate_left 1
      · intro w' hSw
        try dsimp only at hSw
        go_simp
        try with_reducible rfl
      try simp only [Act.put, List.setIfInBounds_toArray, List.set_cons_zero, List.set_cons_succ]
      refine takeM (i := 11) (v := ?_) rfl (by kernel_rfl) (by kernel_rfl) (by kernel_rfl) (by kernel_rfl) (fun _ _ _ h => h) (by rfl) ?_ hHeld ?_
      rotate_left 1
      · intro w' hSw
        try dsimp only at hSw
        go_simp
        try with_reducible rfl
      try simp only [Act.put, List.setIfInBounds_toArray, List.set_cons_zero, List.set_cons_succ]
      refine takeM (i := 12) (v := ?_) rfl (by kernel_rfl) (by kernel_rfl) (by kernel_rfl) (by kernel_rfl) (fun _ _ _ h => h) (by rfl) ?_ hHeld ?_
      rotate_left 1
      · intro w' hSw
        try dsimp only at hSw
        go_simp
        try with_reducible rfl
      try simp only [Act.put, List.setIfInBounds_toArray, List.set_cons_zero, List.set_cons_succ]
      refine takeM (i := 13) (v := ?_) rfl (by kernel_rfl) (by kernel_rfl) (by kernel_rfl) (by kernel_rfl) (fun _ _ _ h => h) (by rfl) ?_ hHeld ?_
      rotate_left 1
      · intro w' hSw
        try dsimp only at hSw
        go_simp
        try with_reducible rfl
      try simp only [Act.put, List.setIfInBounds_toArray, List.set_cons_zero, List.set_cons_succ]
      refine takeM (i := 14) (v := ?_) rfl (by kernel_rfl) (by kernel_rfl) (by kernel_rfl) (by kernel_rfl) (fun _ _ _ h => h) (by rfl) ?_ hHeld ?_
      rotate_left 1
      · intro w' hSw
        try dsimp only at hSw
        go_simp
        try with_reducible rfl
      try simp only [Act.put, List.setIfInBounds_toArray, List.set_cons_zero, List.set_cons_succ]
      refine runM (i := 15) (by kernel_rfl) rfl rfl ?_
      intro K hK
      go_simp
      refine (ih a x σ1 _ _ _ _ _ _ hf2.drew ⟨_, _, _, rfl, hna3, hsla3⟩ ⟨_, _, _, rfl, hn', hsl'.ext hext1⟩ (HC'.out.ext hext1) HAT.out hza hz2).mono ?_
      rintro e w3 ⟨σ3, p3, l4, c4, rfl, hn3, hsl3, hext3, hf3, hb3⟩
      have T3 := T2.drew.call hb3
      have X3 := X2.drew.call hb3
      have R3 := R2.drew.call hb3
      have hb03 := hb02.drew.trans (hb3.mono (by simp; omega))
      have hown3 := hown2.drew.call hb3 hext3
      obtain ⟨_, _, q5, l5, c5, hv5, _, _, d0, d1, _, _, d2, d3⟩ := hown3.tm n a HA.out
      simp only [Value.slice.injEq, Option.some.injEq, Addr.mk.injEq, true_and, and_true] at hv5
      obtain ⟨rfl, rfl⟩ := hv5
      have K1 : w3.cell? ⟨w.heap.size, 1, none⟩ = some (.slice (some ⟨g', 0, none⟩) t.args.length cg') := T3.cell 1
      have K2 : w3.cell? ⟨b, o, none⟩ = some (.int .i64 n) := (hb03.cell (p := ⟨b, o, none⟩) lb).trans g0
      have K3 : w3.cell? ⟨w.heap.size + 1, 0, none⟩ = some (.string x.name) := X3.cell 0
      have K4 : w3.cell? ⟨w.heap.size + 1, 1, none⟩ = some (.slice p' len' cap') := X3.cell 1
      have K5 : w3.cell? ⟨g', n * 2, none⟩ = some (.string a.name) := (hb3.cell (p := ⟨g', n * 2, none⟩) hg2).trans e0
      have K6 : w3.cell? ⟨g', n * 2 + 1, none⟩ = some (.slice q3 l3 c3) := (hb3.cell (p := ⟨g', n * 2 + 1, none⟩) hg2).trans e1
      clear d0 d1 t1 x0 x1 g1 e0 e1
      refine hK.out _ _ ⟨K1, K2, K3, K4, K5, K6⟩ (fun hHeld => ?_)
      clear hK K
      try simp only [Act.put, List.setIfInBounds_toArray, List.set_cons_zero, List.set_cons_succ]
      refine takeM (i := 16) (v := ?_) rfl (by kernel_rfl) (by kernel_rfl) (by kernel_rfl) (by kernel_rfl) (fun _ _ _ h => h) (by rfl) ?_ hHeld ?_
      rotate_left 1
      · intro w' hSw
        try dsimp only at hSw
        go_simp
        try with_reducible rfl
      try simp only [Act.put, List.setIfInBounds_toArray, List.set_cons_zero, List.set_cons_succ]
      refine lastM (by kernel_rfl) (by kernel_rfl) (by kernel_rfl) rfl rfl ?_
      intro K hK
      go_simp
      refine hK.out _ _ ?_
      clear hK K
      try simp only [Act.put, List.setIfInBounds_toArray, List.set_cons_zero, List.set_cons_succ]
      obtain ⟨w4, hw4⟩ : ∃ w4, w4 = (w3.setCell ⟨g', n * 2, none⟩ (.string (a.put is x).name)).setCell ⟨g', n * 2 + 1, none⟩ (.slice p3 l4 c4) := ⟨_, rfl⟩
      rw [← hw4]
      have hz3 : ∀ j k, j < 3 → σ3 ⟨w.heap.size + j, k, none⟩ = none := fun j k hj => by rw [hext3.old _ (by simp; omega)]; exact HZ.out j k hj
      have T4 : Blk w4 w.heap.size 24 #[.string t.name, .slice (some ⟨g', 0, none⟩) t.args.length cg'] := by rw [hw4]; exact (T3.far (by simp; omega) _).far (by simp; omega) _
      have R4 : Blk w4 (w.heap.size + 1 + 1) 24 #[.string ⟨#[]⟩, .slice none 0 0] := by rw [hw4]; exact (R3.far (by simp; omega) _).far (by simp; omega) _
      have own4 : Own σ3 (w.heap.size + 1 + 1 + 1) w4 24 (.slice (some ⟨g', 0, none⟩) t.args.length cg') (t.args.set n (a.put is x)) := by
        rw [hw4]
        exact hown3.set2 rfl n hnl rfl _ _ _ (cells_tm.2 ⟨p3, l4, c4, rfl, hn3, hsl3⟩)
      have hf4 : Fit σ3 w4 := by rw [hw4]; exact (hf3.setCell (hown3.free g' rfl _ rfl) _).setCell (hown3.free g' rfl _ rfl) _
      have hb04 : Below w.heap.size w w4 := by rw [hw4]; exact (hb03.setCell (by simp; omega) _).setCell (by simp; omega) _
      clear hw4 T3 X3 R3 hf3 hown3 hb3 K1 K2 K3 K4 K5 K6 d2 d3
      have t0 : w4.cell? ⟨w.heap.size, 0, none⟩ = some (.string t.name) := T4.cell 0
      have t1 : w4.cell? ⟨w.heap.size, 1, none⟩ = some (.slice (some ⟨g', 0, none⟩) t.args.length cg') := T4.cell 1
      have r0 : w4.cell? ⟨w.heap.size + 1 + 1, 0, none⟩ = some (.string ⟨#[]⟩) := R4.cell 0
      have r1 : w4.cell? ⟨w.heap.size + 1 + 1, 1, none⟩ = some (.slice none 0 0) := R4.cell 1
      have r2 : w4.frozen? ⟨w.heap.size + 1 + 1, 0, none⟩ = false := R4.frozen 0
      have r3 : w4.frozen? ⟨w.heap.size + 1 + 1, 1, none⟩ = false := R4.frozen 1
      go_wp2_with fail
      have Rb := (R4.put 0 (.string t.name)).put 1 (.slice (some ⟨g', 0, none⟩) t.args.length cg')
      have k0 := Rb.cell 0
      have k1 := Rb.cell 1
      have own5 := (own4.setCell (own4.notAt (g := w.heap.size + 1 + 1) (by omega)) (.string t.name) (p := ⟨w.heap.size + 1 + 1, 0, none⟩)).setCell (own4.notAt (g := w.heap.size + 1 + 1) (by omega)) (.slice (some ⟨g', 0, none⟩) t.args.length cg') (p := ⟨w.heap.size + 1 + 1, 1, none⟩)
      have hf5 := (hf4.setCell (p := ⟨w.heap.size + 1 + 1, 0, none⟩) (hz3 2 0 (by omega)) (.string t.name)).setCell (p := ⟨w.heap.size + 1 + 1, 1, none⟩) (hz3 2 1 (by omega)) (.slice (some ⟨g', 0, none⟩) t.args.length cg')
      obtain ⟨σ4, e1', e2', _, p6, l6, c6, hv6, hsl6⟩ := own5.done hf5 w.heap.size (by omega)
      simp only [Value.slice.injEq] at hv6
      obtain ⟨rfl, rfl, rfl⟩ := hv6
      rw [HPUT.out]
      exact bodyPost_ret (v := .agg #[.string t.name, .slice (some ⟨g', 0, none⟩) t.args.length cg']) (by simp [results, Try.results35, go_sem, k0, k1]) rfl
        ⟨σ4, _, _, _, rfl, hn, hsl6, (hext1.mono (by simp; omega)).trans ((hext3.mono (by simp; omega)).trans e1'), e2', (hb04.setCell (by simp; omega) _).setCell (by simp; omega) _⟩
    · have HC' := HC
      simp only [hc, if_false] at HC'
      clear HC
      go_enter Try.func35, Try.ntmps35
      go_wp2_with fail
      refine (copy_any _ t (Nat.lt_succ_self _) σ _ _ hfz ⟨_, _, _, rfl, hn, hsl⟩ hz1).mono ?_
      rintro e w1 ⟨σ1, v1, rfl, ⟨⟨u1, rfl, hown⟩, _⟩, hext1, hf1, hb1⟩
      have hsz1 : w.heap.size + 1 + 1 + 1 ≤ w1.heap.size := by have := hb1.size; simpa using this
      obtain ⟨g, cg, q2, l2, c2, rfl, hg1, hg2, -, -, hna, hsla, -, -⟩ := hown.tm n a HA.out
      simp only [World.size_alloc] at hg1
      have hown' : Own σ1 (w.heap.size + 1 + 1 + 1) w1 24 (.slice (some ⟨g, 0, none⟩) t.args.length cg) t.args := by simpa using hown
      have T1 := T0.call hb1
      have X1 := X0.call hb1
      have R1 := R0.call hb1
      have t0 : w1.cell? ⟨w.heap.size, 0, none⟩ = some (.string t.name) := T1.cell 0
      have t1 : w1.cell? ⟨w.heap.size, 1, none⟩ = some (.slice p len cap) := T1.cell 1
      have t2 : w1.frozen? ⟨w.heap.size, 0, none⟩ = false := T1.frozen 0
      have t3 : w1.frozen? ⟨w.heap.size, 1, none⟩ = false := T1.frozen 1
      have hb01 := hbz.trans (hb1.mono (by simp; omega))
      have hnl1 : (n : Int) < (t.args.length : Int) := by omega
      clear hown
      go_wp2_with fail
      obtain ⟨w2, hw2⟩ : ∃ w2, w2 = (w1.setCell ⟨w.heap.size, 0, none⟩ (.string t.name)).setCell ⟨w.heap.size, 1, none⟩ (.slice (some ⟨g, 0, none⟩) t.args.length cg) := ⟨_, rfl⟩
      rw [← hw2]
      have T2 : Blk w2 w.heap.size 24 #[.string t.name, .slice (some ⟨g, 0, none⟩) t.args.length cg] := by rw [hw2]; exact (T1.put 0 _).put 1 _
      have X2 : Blk w2 (w.heap.size + 1) 24 #[.string x.name, .slice p' len' cap'] := by rw [hw2]; exact (X1.far (by simp) _).far (by simp) _
      have R2 : Blk w2 (w.heap.size + 1 + 1) 24 #[.string ⟨#[]⟩, .slice none 0 0] := by rw [hw2]; exact (R1.far (by simp <;> omega) _).far (by simp <;> omega) _
      have hown2 : Own σ1 (w.heap.size + 1 + 1 + 1) w2 24 (.slice (some ⟨g, 0, none⟩) t.args.length cg) t.args := by
        rw [hw2]
        exact (hown'.setCell (hown'.notAt (g := w.heap.size) (by omega)) _ (p := ⟨w.heap.size, 0, none⟩)).setCell (hown'.notAt (g := w.heap.size) (by omega)) _ (p := ⟨w.heap.size, 1, none⟩)
      have z0 : ∀ j k, j < 3 → σ1 ⟨w.heap.size + j, k, none⟩ = none := fun j k hj => by rw [hext1.old _ (by simp; omega)]; exact hs.no (by simp)
      have hf2 : Fit σ1 w2 := by rw [hw2]; exact (hf1.setCell (z0 0 0 (by omega)) _).setCell (z0 0 1 (by omega)) _
      have hb02 : Below w.heap.size w w2 := by rw [hw2]; exact (hb01.setCell (by simp) _).setCell (by simp) _
      have hsz2 : w.heap.size + 1 + 1 + 1 ≤ w2.heap.size := by rw [hw2]; simpa using hsz1
      have HZ := Lib.hid z0
      clear hw2 T1 X1 R1 t0 t1 t2 t3 hown' hf1 hb01 hb1 hsz1 hg2 z0
      obtain ⟨g', cg', q3, l3, c3, hv, -, hg2, e0, e1, hna3, hsla3, e2, e3⟩ := hown2.tm n a HA.out
      obtain ⟨rfl, rfl⟩ : g' = g ∧ cg' = cg := by simpa using hv.symm
      have t1 : w2.cell? ⟨w.heap.size, 1, none⟩ = some (.slice (some ⟨g', 0, none⟩) t.args.length cg') := T2.cell 1
      have x0 : w2.cell? ⟨w.heap.size + 1, 0, none⟩ = some (.string x.name) := X2.cell 0
      have x1 : w2.cell? ⟨w.heap.size + 1, 1, none⟩ = some (.slice p' len' cap') := X2.cell 1
      have g1 : w2.cell? ⟨b, o, none⟩ = some (.int .i64 n) := (hb02.cell (p := ⟨b, o, none⟩) lb).trans g0
      have hi0n : (0 : Int) ≤ (n : Int) := by omega
      refine beginM (fun w' => w'.cell? ⟨w.heap.size, 1, none⟩ = some (.slice (some ⟨g', 0, none⟩) t.args.length cg') ∧ w'.cell? ⟨b, o, none⟩ = some (.int .i64 n) ∧ w'.cell? ⟨w.heap.size + 1, 0, none⟩ = some (.string x.name) ∧ w'.cell? ⟨w.heap.size + 1, 1, none⟩ = some (.slice p' len' cap') ∧ w'.cell? ⟨g', n * 2, none⟩ = some (.string a.name) ∧ w'.cell? ⟨g', n * 2 + 1, none⟩ = some (.slice q3 l3 c3)) 17 (by kernel_rfl) ⟨t1, g1, x0, x1, e0, e1⟩ (fun hHeld => ?_)
      refine takeM (i := 0) (v := ?_) rfl (by kernel_rfl) (by kernel_rfl) (by kernel_rfl) (by kernel_rfl) (fun _ _ _ h => h) (by rfl) ?_ hHeld ?_
      rotate_left 1
      · intro w' hSw
        try dsimp only at hSw
        go_simp
        try with_reducible rfl
      try simp only [Act.put, List.setIfInBounds_toArray, List.set_cons_zero, List.set_cons_succ]
      refine takeM (i := 1) (v := ?_) rfl (by kernel_rfl) (by kernel_rfl) (by kernel_rfl) (by kernel_rfl) (fun _ _ _ h => h) (by rfl) ?_ hHeld ?_
      rotate_left 1
      · intro w' hSw
        try dsimp only at hSw
        go_simp
        try with_reducible rfl
      try simp only [Act.put, List.setIfInBounds_toArray, List.set_cons_zero, List.set_cons_succ]
      refine takeM (i := 2) (v := ?_) rfl (by kernel_rfl) (by kernel_rfl) (by kernel_rfl) (by kernel_rfl) (fun _ _ _ h => h) (by rfl) ?_ hHeld ?_
      rotate_left 1
      · intro w' hSw
        try dsimp only at hSw
        go_simp
        try with_reducible rfl
      try simp only [Act.put, List.setIfInBounds_toArray, List.set_cons_zero, List.set_cons_succ]
      refine takeM (i := 3) (v := ?_) rfl (by kernel_rfl) (by kernel_rfl) (by kernel_rfl) (by kernel_rfl) (fun _ _ _ h => h) (by rfl) ?_ hHeld ?_
      rotate_left 1
      · intro w' hSw
        try dsimp only at hSw
        go_simp
        try with_reducible rfl
      try simp only [Act.put, List.setIfInBounds_toArray, List.set_cons_zero, List.set_cons_succ]
      refine takeM (i := 4) (v := ?_) rfl (by kernel_rfl) (by kernel_rfl) (by kernel_rfl) (by kernel_rfl) (fun _ _ _ h => h) (by rfl) ?_ hHeld ?_
      rotate_left 1
      · intro w' hSw
        try dsimp only at hSw
        go_simp
        try with_reducible rfl
      try simp only [Act.put, List.setIfInBounds_toArray, List.set_cons_zero, List.set_cons_succ]
      refine takeM (i := 5) (v := ?_) rfl (by kernel_rfl) (by kernel_rfl) (by kernel_rfl) (by kernel_rfl) (fun _ _ _ h => h) (by rfl) ?_ hHeld ?_
      rotate_left 1
      · intro w' hSw
        try dsimp only at hSw
        go_simp
        try with_reducible rfl
      try simp only [Act.put, List.setIfInBounds_toArray, List.set_cons_zero, List.set_cons_succ]
      refine takeM (i := 6) (v := ?_) rfl (by kernel_rfl) (by kernel_rfl) (by kernel_rfl) (by kernel_rfl) (fun _ _ _ h => h) (by rfl) ?_ hHeld ?_
      rotate_left 1
      · intro w' hSw
        try dsimp only at hSw
        go_simp
        try with_reducible rfl
      try simp only [Act.put, List.setIfInBounds_toArray, List.set_cons_zero, List.set_cons_succ]
      refine takeM (i := 7) (v := ?_) rfl (by kernel_rfl) (by kernel_rfl) (by kernel_rfl) (by kernel_rfl) (fun _ _ _ h => h) (by rfl) ?_ hHeld ?_
      rotate_left 1
      · intro w' hSw
        try dsimp only at hSw
        go_simp
        try with_reducible rfl
      try simp only [Act.put, List.setIfInBounds_toArray, List.set_cons_zero, List.set_cons_succ]
      refine takeM (i := 8) (v := ?_) rfl (by kernel_rfl) (by kernel_rfl) (by kernel_rfl) (by kernel_rfl) (fun _ _ _ h => h) (by rfl) ?_ hHeld ?_
      rotate_left 1
      · intro w' hSw
        try dsimp only at hSw
        go_simp
        try with_reducible rfl
      try simp only [Act.put, List.setIfInBounds_toArray, List.set_cons_zero, List.set_cons_succ]
      refine takeM (i := 9) (v := ?_) rfl (by kernel_rfl) (by kernel_rfl) (by kernel_rfl) (by kernel_rfl) (fun _ _ _ h => h) (by rfl) ?_ hHeld ?_
      rotate_left 1
      · intro w' hSw
        try dsimp only at hSw
        go_simp
        try with_reducible rfl
      try simp only [Act.put, List.setIfInBounds_toArray, List.set_cons_zero, List.set_cons_succ]
      refine takeM (i := 10) (v := ?_) rfl (by kernel_rfl) (by kernel_rfl) (by kernel_rfl) (by kernel_rfl) (fun _ _ _ h => h) (by rfl) ?_ hHeld ?_
      rotate_left 1
      · intro w' hSw
        try dsimp only at hSw
        go_simp
        try with_reducible rfl
      try simp only [Act.put, List.setIfInBounds_toArray, List.set_cons_zero, List.set_cons_succ]
      refine takeM (i := 11) (v := ?_) rfl (by kernel_rfl) (by kernel_rfl) (by kernel_rfl) (by kernel_rfl) (fun _ _ _ h => h) (by rfl) ?_ hHeld ?_
      rotate_left 1
      · intro w' hSw
        try dsimp only at hSw
        go_simp
        try with_reducible rfl
      try simp only [Act.put, List.setIfInBounds_toArray, List.set_cons_zero, List.set_cons_succ]
      refine takeM (i := 12) (v := ?_) rfl (by kernel_rfl) (by kernel_rfl) (by kernel_rfl) (by kernel_rfl) (fun _ _ _ h => h) (by rfl) ?_ hHeld ?_
      rotate_left 1
      · intro w' hSw
        try dsimp only at hSw
        go_simp
        try with_reducible rfl
      try simp only [Act.put, List.setIfInBounds_toArray, List.set_cons_zero, List.set_cons_succ]
      refine takeM (i := 13) (v := ?_) rfl (by kernel_rfl) (by kernel_rfl) (by kernel_rfl) (by kernel_rfl) (fun _ _ _ h => h) (by rfl) ?_ hHeld ?_
      rotate_left 1
      · intro w' hSw
        try dsimp only at hSw
        go_simp
        try with_reducible rfl
      try simp only [Act.put, List.setIfInBounds_toArray, List.set_cons_zero, List.set_cons_succ]
      refine takeM (i := 14) (v := ?_) rfl (by kernel_rfl) (by kernel_rfl) (by kernel_rfl) (by kernel_rfl) (fun _ _ _ h => h) (by rfl) ?_ hHeld ?_
      rotate_left 1
      · intro w' hSw
        try dsimp only at hSw
        go_simp
        try with_reducible rfl
      try simp only [Act.put, List.setIfInBounds_toArray, List.set_cons_zero, List.set_cons_succ]
      refine runM (i := 15) (by kernel_rfl) rfl rfl ?_
      intro K hK
      go_simp
      refine (ih a x σ1 _ _ _ _ _ _ hf2.drew ⟨_, _, _, rfl, hna3, hsla3⟩ ⟨_, _, _, rfl, hn', hsl'.ext hext1⟩ (HC'.out.ext hext1) HAT.out hza hz2).mono ?_
      rintro e w3 ⟨σ3, p3, l4, c4, rfl, hn3, hsl3, hext3, hf3, hb3⟩
      have T3 := T2.drew.call hb3
      have X3 := X2.drew.call hb3
      have R3 := R2.drew.call hb3
      have hb03 := hb02.drew.trans (hb3.mono (by simp; omega))
      have hown3 := hown2.drew.call hb3 hext3
      obtain ⟨_, _, q5, l5, c5, hv5, _, _, d0, d1, _, _, d2, d3⟩ := hown3.tm n a HA.out
      simp only [Value.slice.injEq, Option.some.injEq, Addr.mk.injEq, true_and, and_true] at hv5
      obtain ⟨rfl, rfl⟩ := hv5
      have K1 : w3.cell? ⟨w.heap.size, 1, none⟩ = some (.slice (some ⟨g', 0, none⟩) t.args.length cg') := T3.cell 1
      have K2 : w3.cell? ⟨b, o, none⟩ = some (.int .i64 n) := (hb03.cell (p := ⟨b, o, none⟩) lb).trans g0
      have K3 : w3.cell? ⟨w.heap.size + 1, 0, none⟩ = some (.string x.name) := X3.cell 0
      have K4 : w3.cell? ⟨w.heap.size + 1, 1, none⟩ = some (.slice p' len' cap') := X3.cell 1
      have K5 : w3.cell? ⟨g', n * 2, none⟩ = some (.string a.name) := (hb3.cell (p := ⟨g', n * 2, none⟩) hg2).trans e0
      have K6 : w3.cell? ⟨g', n * 2 + 1, none⟩ = some (.slice q3 l3 c3) := (hb3.cell (p := ⟨g', n * 2 + 1, none⟩) hg2).trans e1
      clear d0 d1 t1 x0 x1 g1 e0 e1
      refine hK.out _ _ ⟨K1, K2, K3, K4, K5, K6⟩ (fun hHeld => ?_)
      clear hK K
      try simp only [Act.put, List.setIfInBounds_toArray, List.set_cons_zero, List.set_cons_succ]
      refine takeM (i := 16) (v := ?_) rfl (by kernel_rfl) (by kernel_rfl) (by kernel_rfl) (by kernel_rfl) (fun _ _ _ h => h) (by rfl) ?_ hHeld ?_
      rotate_left 1
      · intro w' hSw
        try dsimp only at hSw
        go_simp
        try with_reducible rfl
      try simp only [Act.put, List.setIfInBounds_toArray, List.set_cons_zero, List.set_cons_succ]
      refine lastM (by kernel_rfl) (by kernel_rfl) (by kernel_rfl) rfl rfl ?_
      intro K hK
      go_simp
      refine hK.out _ _ ?_
      clear hK K
      try simp only [Act.put, List.setIfInBounds_toArray, List.set_cons_zero, List.set_cons_succ]
      obtain ⟨w4, hw4⟩ : ∃ w4, w4 = (w3.setCell ⟨g', n * 2, none⟩ (.string (a.put is x).name)).setCell ⟨g', n * 2 + 1, none⟩ (.slice p3 l4 c4) := ⟨_, rfl⟩
      rw [← hw4]
      have hz3 : ∀ j k, j < 3 → σ3 ⟨w.heap.size + j, k, none⟩ = none := fun j k hj => by rw [hext3.old _ (by simp; omega)]; exact HZ.out j k hj
      have T4 : Blk w4 w.heap.size 24 #[.string t.name, .slice (some ⟨g', 0, none⟩) t.args.length cg'] := by rw [hw4]; exact (T3.far (by simp; omega) _).far (by simp; omega) _
      have R4 : Blk w4 (w.heap.size + 1 + 1) 24 #[.string ⟨#[]⟩, .slice none 0 0] := by rw [hw4]; exact (R3.far (by simp; omega) _).far (by simp; omega) _
      have own4 : Own σ3 (w.heap.size + 1 + 1 + 1) w4 24 (.slice (some ⟨g', 0, none⟩) t.args.length cg') (t.args.set n (a.put is x)) := by
        rw [hw4]
        exact hown3.set2 rfl n hnl rfl _ _ _ (cells_tm.2 ⟨p3, l4, c4, rfl, hn3, hsl3⟩)
      have hf4 : Fit σ3 w4 := by rw [hw4]; exact (hf3.setCell (hown3.free g' rfl _ rfl) _).setCell (hown3.free g' rfl _ rfl) _
      have hb04 : Below w.heap.size w w4 := by rw [hw4]; exact (hb03.setCell (by simp; omega) _).setCell (by simp; omega) _
      clear hw4 T3 X3 R3 hf3 hown3 hb3 K1 K2 K3 K4 K5 K6 d2 d3
      have t0 : w4.cell? ⟨w.heap.size, 0, none⟩ = some (.string t.name) := T4.cell 0
      have t1 : w4.cell? ⟨w.heap.size, 1, none⟩ = some (.slice (some ⟨g', 0, none⟩) t.args.length cg') := T4.cell 1
      have r0 : w4.cell? ⟨w.heap.size + 1 + 1, 0, none⟩ = some (.string ⟨#[]⟩) := R4.cell 0
      have r1 : w4.cell? ⟨w.heap.size + 1 + 1, 1, none⟩ = some (.slice none 0 0) := R4.cell 1
      have r2 : w4.frozen? ⟨w.heap.size + 1 + 1, 0, none⟩ = false := R4.frozen 0
      have r3 : w4.frozen? ⟨w.heap.size + 1 + 1, 1, none⟩ = false := R4.frozen 1
      go_wp2_with fail
      have Rb := (R4.put 0 (.string t.name)).put 1 (.slice (some ⟨g', 0, none⟩) t.args.length cg')
      have k0 := Rb.cell 0
      have k1 := Rb.cell 1
      have own5 := (own4.setCell (own4.notAt (g := w.heap.size + 1 + 1) (by omega)) (.string t.name) (p := ⟨w.heap.size + 1 + 1, 0, none⟩)).setCell (own4.notAt (g := w.heap.size + 1 + 1) (by omega)) (.slice (some ⟨g', 0, none⟩) t.args.length cg') (p := ⟨w.heap.size + 1 + 1, 1, none⟩)
      have hf5 := (hf4.setCell (p := ⟨w.heap.size + 1 + 1, 0, none⟩) (hz3 2 0 (by omega)) (.string t.name)).setCell (p := ⟨w.heap.size + 1 + 1, 1, none⟩) (hz3 2 1 (by omega)) (.slice (some ⟨g', 0, none⟩) t.args.length cg')
      obtain ⟨σ4, e1', e2', _, p6, l6, c6, hv6, hsl6⟩ := own5.done hf5 w.heap.size (by omega)
      simp only [Value.slice.injEq] at hv6
      obtain ⟨rfl, rfl, rfl⟩ := hv6
      rw [HPUT.out]
      exact bodyPost_ret (v := .agg #[.string t.name, .slice (some ⟨g', 0, none⟩) t.args.length cg']) (by simp [results, Try.results35, go_sem, k0, k1]) rfl
        ⟨σ4, _, _, _, rfl, hn, hsl6, (hext1.mono (by simp; omega)).trans ((hext3.mono (by simp; omega)).trans e1'), e2', (hb04.setCell (by simp; omega) _).setCell (by simp; omega) _⟩
end Go.Proofs.Ytohgkbgpcnmdpaa

namespace Go.Proofs.Ytohgkbgpcnmdpaa
open Go Go.RowKit
set_option maxHeartbeats 400000
set_option linter.unusedVariables false
open Cod (wid dat)
section
variable {α : Type} [Cod α] {σ : Sto} {P : Program} {w : World}
end

end Go.Proofs.Ytohgkbgpcnmdpaa

namespace Go.Proofs.Ytohgkbgpcnmdpaa
open Go Go.RowKit
set_option maxHeartbeats 400000
set_option linter.unusedVariables false

/-- the zero term -/
def Tm.zero : Tm := .mk ⟨#[]⟩ []
end Go.Proofs.Ytohgkbgpcnmdpaa

namespace Go.Proofs.Ytohgkbgpcnmdpaa
open Go Go.RowKit
set_option maxHeartbeats 400000
set_option linter.unusedVariables false

end Go.Proofs.Ytohgkbgpcnmdpaa

namespace Go.Proofs.Ytohgkbgpcnmdpaa
open Go Go.RowKit
set_option maxHeartbeats 400000
set_option linter.unusedVariables false

/-! ### plain -/
def sep (k : Nat) : ByteArray := if k = 0 then ⟨#[40]⟩ else ⟨#[44]⟩
mutual
def Tm.text : Tm → ByteArray
  | .mk n xs => n ++ Tm.textsFrom 0 xs ++ (if xs.length = 0 then ⟨#[]⟩ else ⟨#[41]⟩)
def Tm.textsFrom : Nat → List Tm → ByteArray
  | _, [] => ⟨#[]⟩
  | k, t :: ts => sep k ++ t.text ++ Tm.textsFrom (k+1) ts
end
theorem empty_append (b : ByteArray) : (⟨#[]⟩ : ByteArray) ++ b = b := ByteArray.empty_append
theorem append_empty (b : ByteArray) : b ++ (⟨#[]⟩ : ByteArray) = b := ByteArray.append_empty
theorem Tm.text_eq (t : Tm) : t.text = t.name ++ Tm.textsFrom 0 t.args ++ (if t.args.length = 0 then ⟨#[]⟩ else ⟨#[41]⟩) := by cases t; rfl
theorem Tm.textsFrom_snoc (a : Tm) : ∀ (k : Nat) (xs : List Tm), Tm.textsFrom k (xs ++ [a]) = Tm.textsFrom k xs ++ (sep (k + xs.length) ++ a.text)
  | k, [] => by simp [Tm.textsFrom, empty_append, append_empty]
  | k, t :: ts => by
    rw [List.cons_append, Tm.textsFrom, Tm.textsFrom_snoc a (k+1) ts, Tm.textsFrom, List.length_cons, show k + 1 + ts.length = k + (ts.length + 1) by omega]
    simp only [ByteArray.append_assoc]
theorem Tm.textsFrom_append : ∀ (k : Nat) (xs ys : List Tm), Tm.textsFrom k (xs ++ ys) = Tm.textsFrom k xs ++ Tm.textsFrom (k + xs.length) ys
  | k, [], ys => by simp [Tm.textsFrom, empty_append]
  | k, t :: ts, ys => by
    rw [List.cons_append, Tm.textsFrom, Tm.textsFrom_append (k+1) ts, Tm.textsFrom, List.length_cons, show k + 1 + ts.length = k + (ts.length + 1) by omega]
    simp only [ByteArray.append_assoc]
theorem sep_size (k : Nat) : (sep k).size = 1 := by unfold sep; split <;> rfl
/-- what stands ahead of the k-th argument -/
def Tm.ahead (t : Tm) (k : Nat) : ByteArray := t.name ++ Tm.textsFrom 0 (t.args.take k)
theorem Tm.ahead_zero (t : Tm) : t.ahead 0 = t.name := by simp [Tm.ahead, Tm.textsFrom, append_empty]
theorem Tm.ahead_succ {t : Tm} {k : Nat} {a : Tm} (h : t.args[k]? = some a) : t.ahead (k+1) = t.ahead k ++ sep k ++ a.text := by
  have hl := lt_of_get h
  unfold Tm.ahead
  rw [take_snoc h, Tm.textsFrom_snoc, List.length_take, Nat.min_eq_left (by omega), Nat.zero_add]
  simp only [ByteArray.append_assoc]
theorem Tm.ahead_all {t : Tm} {k : Nat} (h : k = t.args.length) : t.text = t.ahead k ++ (if k = 0 then ⟨#[]⟩ else ⟨#[41]⟩) := by
  subst h
  rw [Tm.text_eq, Tm.ahead, List.take_length]
theorem Tm.ahead_le (t : Tm) (k : Nat) : (t.ahead k).size ≤ t.text.size := by
  rw [Tm.text_eq, Tm.ahead]
  have : t.args = t.args.take k ++ t.args.drop k := (List.take_append_drop k t.args).symm
  conv => rhs; rw [this]
  rw [Tm.textsFrom_append]
  simp only [ByteArray.size_append]
  omega

/-! ### the walk -/
end Go.Proofs.Ytohgkbgpcnmdpaa

namespace Go.Proofs.Ytohgkbgpcnmdpaa
open Go Go.RowKit
set_option maxHeartbeats 400000
set_option linter.unusedVariables false

/-! ### plain -/
/-! ### the walk -/
end Go.Proofs.Ytohgkbgpcnmdpaa

namespace Go.Proofs.Ytohgkbgpcnmdpaa
open Go Go.RowKit
set_option maxHeartbeats 400000
set_option linter.unusedVariables false

/-! ### plain -/
/-! ### memory -/
/-- The k-th of a slice of slices. -/
theorem Slc.list {α : Type} [Cod α] {σ : Sto} {p : Option Addr} {len cap : Nat} {xs : List (List α)} (h : Slc σ p len cap xs) (k : Nat) (hk : k < len) :
    ∃ b o a q l c, p = some ⟨b, o, none⟩ ∧ Hid (xs[k]? = some a) ∧ σ ⟨b, o + k, none⟩ = some (.slice q l c) ∧ Slc σ q l c a := by
  have hl := h.length
  obtain ⟨b, o, hp, cs, h1, h2, h3⟩ := h.get k (by omega)
  obtain ⟨q, l, c, rfl, h4⟩ := cells_list.1 h3
  have := h2 0 _ rfl
  exact ⟨b, o, xs[k], q, l, c, hp, Lib.hid (List.getElem?_eq_getElem (by omega)), by simpa [Cod.wid] using this, h4⟩
theorem Own.grown {α : Type} [Cod α] {σ : Sto} {N : Nat} {w w' : World} {e : TypeId} {v : Value} {xs : List α} {row : Option Nat} (h : Own σ N w e v xs) (hg : w.grownBy w' row) (hr : ∀ g, v.ownBlock = some g → row ≠ some g) : Own σ N w' e v xs :=
  h.kept (fun g hv => hg.block g (h.lt g hv).2 (fun e => hr g hv e.symm)) (fun _ _ h => h) (fun _ _ _ _ => rfl)
/-- More is known elsewhere. -/
theorem Own.known {α : Type} [Cod α] {σ σ' : Sto} {N : Nat} {w : World} {e : TypeId} {v : Value} {xs : List α} {row : Option Nat} (h : Own σ N w e v xs) (he : ∀ p x, σ p = some x → σ' p = some x) (ho : ∀ p : Addr, some p.block ≠ row → σ' p = σ p) (hr : ∀ g, v.ownBlock = some g → row ≠ some g) : Own σ' N w e v xs :=
  h.kept (fun _ _ => rfl) he (fun g hg p hp => ho p (by rw [hp]; exact fun e => hr g hg e.symm))
theorem own_apart0 {w : World} {g : Nat} (h : g < w.heap.size) (he : (Value.slice (some ⟨w.heap.size, 0, none⟩) 1 1).ownBlock = some g) : False := by
  simp [Value.ownBlock] at he
  omega
/-- A row that began in a new block, grown, lies in none of the old ones. -/
theorem own_apart {w w1 : World} {g : Nat} {v : Value} (h : g < w.heap.size) (hw : w1.heap.size = w.heap.size + 1) (hat : v.ownBlock = (Value.slice (some ⟨w.heap.size, 0, none⟩) 1 1).ownBlock ∨ v.ownBlock = some w1.heap.size) (he : v.ownBlock = some g) : False := by
  rcases hat with h1 | h1
  · rw [h1] at he
    exact own_apart0 h he
  · rw [h1] at he
    simp at he
    omega
theorem infoInt : (Try.prog.info? 3).map (fun i => (i.zero, i.size, i.bytes)) = some (some (.int .i64 0), 1, 8) := by kernel_rfl
theorem infoInts : (Try.prog.info? 30).map (fun i => (i.zero, i.size, i.bytes)) = some (some (.slice none 0 0), 1, 24) := by kernel_rfl
theorem cells_i64 {σ : Sto} {k len : Nat} (h : k ≤ len) (hl : len ≤ 9223372036854775807) : Cells σ [.int .i64 k] (k : Int) := by
  refine cells_int.2 ⟨rfl, ?_⟩
  simp [Lit.wf, IntKind.min, IntKind.max, IntKind.signed, IntKind.bits]
  omega

/-! ### the walks -/
def PlacesAt (f : Nat) (t : Tm) : Prop := ∀ (σ : Sto) (v : Value) (w : World), Fit σ w → TmV σ v t → t.size ≤ 1000000 →
    Calls Try.prog f #[v] w fun e w' => ∃ σ' p l c, e = .returned (.slice p l c) ∧ Slc σ' p l c t.places ∧ Ext w.heap.size σ σ' ∧ Fit σ' w' ∧ Below w.heap.size w w'
set_option maxRecDepth 100000 in
theorem places_any : ∀ (N : Nat) (t : Tm), SizeOf.sizeOf t < N → PlacesAt 32 t := by
  intro N
  induction N with
  | zero => intro t h; omega
  | succ N ih =>
  intro t hN σ v w hs ht hz
  obtain ⟨p, len, cap, rfl, hn, hsl⟩ := ht
  have HL := Lib.hid hsl.length
  have hlm := hsl.max
  obtain ⟨i1, hi, hz0, hz1, hz2⟩ := info_parts infoInt
  have HI := Lib.hid hi; clear hi
  have H0 := Lib.hid hz0; clear hz0
  have H1 := Lib.hid hz1; clear hz1
  have H2 := Lib.hid hz2; clear hz2
  obtain ⟨i2, hi, hz0, hz1, hz2⟩ := info_parts infoInts
  have JI := Lib.hid hi; clear hi
  have J0 := Lib.hid hz0; clear hz0
  have J1 := Lib.hid hz1; clear hz1
  have J2 := Lib.hid hz2; clear hz2
  have hfb : Fit σ (w.alloc (.cells #[.string t.name, .slice p len cap] 24)) := hs.alloc _
  have hown0 : Own σ (w.heap.size + 1) (((w.alloc (.cells #[.string t.name, .slice p len cap] 24)).alloc (.cells #[] 3)).alloc (.cells #[.slice (some ⟨w.heap.size + 1, 0, none⟩) 0 0] 30)) 30 (.slice (some ⟨w.heap.size + 1 + 1, 0, none⟩) 1 1) [([] : List Int)] := by
    have := Own.new (N := w.heap.size + 1) (e := 30) (hfb.alloc (.cells #[] 3)) (cs := #[.slice (some ⟨w.heap.size + 1, 0, none⟩) 0 0]) (a := ([] : List Int)) (cells_list.2 ⟨_, 0, 0, rfl, ⟨rfl, Nat.le_refl _, by simp [maxLen], by simp, 0, 0, fun h => absurd rfl h, trivial⟩⟩) (by simp)
    simpa using this
  go_enter Try.func32, Try.ntmps32
  go_wp2_with fail
  go_loopw [3, 13] (fun n i wr => ∃ (k : Nat) (σr : Sto), k ≤ len ∧ i = .int .i64 k ∧ Own σr (w.heap.size + 1) wr 30 n (t.placesTo k) ∧ Ext w.heap.size σ σr ∧ Fit σr wr ∧ Below (w.heap.size + 1) (w.alloc (.cells #[.string t.name, .slice p len cap] 24)) wr) (fun _ i _ => len - (intOf i).toNat)
  case atStart => exact ⟨0, σ, Nat.zero_le _, rfl, hown0, Ext.refl _ _, (hfb.alloc _).alloc _, ((Below.refl _ _).alloc (by simp) _).alloc (by simp <;> omega) _⟩
  case round =>
    obtain ⟨k, σr, hk, rfl, hown, hext, hfr, hb⟩ := hrel
    have hbw := box_below hb
    have hsz := hb.size
    simp only [World.size_alloc] at hsz
    clear hown0 hfb
    by_cases hlt : k < len
    · obtain ⟨b, o, a, q', l, c, rfl, HA, f0, f1, hn', hsl'⟩ := hsl.tm k hlt
      have g0 := fitC hfr (hext.keep _ _ f0)
      have g1 := fitC hfr (hext.keep _ _ f1)
      have hsa : a.size ≤ 1000000 ∧ (t.placesTo k).length + a.places.length ≤ 1000000 := by
        have h1 := Tm.sizes_take HA.out
        have h2 := Tm.sizes_take_le t.args (k+1)
        have h3 := Tm.size_eq t
        rw [t.placesTo_length, Tm.places_length]
        omega
      clear f0 f1
      go_wp2_with fail
      refine (ih a (by have := Tm.lt_of_arg (mem_of_get HA.out); omega) σr _ _ (hfr.alloc _) ⟨_, _, _, rfl, hn', hsl'.ext hext⟩ hsa.1).mono ?_
      rintro e w1 ⟨σ1, p1, l1, c1', rfl, hsl1, hext1, hf1, hb1⟩
      have hw1 : w.heap.size + 1 ≤ w1.heap.size := by have := hb1.size; simp at this; omega
      have hown1 := (hown.alloc _).call hb1 hext1
      have hbb1 := below_alloc_call hb (by omega) hb1
      have hext01 := hext.trans (hext1.mono (by simp; omega))
      have HL1 := Lib.hid hsl1.length
      have hlm1 := hsl1.max
      clear g0 g1 hbw hsz hown hext hfr hb hext1 hb1
      go_wp2_with fail
      go_loopw [3, 21] (fun n i wr => ∃ (j : Nat) (σr : Sto), j ≤ l1 ∧ i = .int .i64 j ∧ Own σr (w.heap.size + 1) wr 30 n (t.placesTo k ++ (a.places.take j).map (fun p => (k : Int) :: p)) ∧ Ext w.heap.size σ σr ∧ (∀ p x, σ1 p = some x → σr p = some x) ∧ Fit σr wr ∧ Below (w.heap.size + 1) (w.alloc (.cells #[.string t.name, .slice (some ⟨b, o, none⟩) len cap] 24)) wr) (fun _ i _ => l1 - (intOf i).toNat)
      case atStart => exact ⟨0, σ1, Nat.zero_le _, rfl, by simpa using hown1, hext01, fun _ _ h => h, hf1, hbb1⟩
      case round =>
        obtain ⟨j, σr, hj, rfl, hown, hext, hkeep, hfr, hb⟩ := hrel
        have hsz := hb.size
        simp only [World.size_alloc] at hsz
        by_cases hlt2 : j < l1
        · skip
          obtain ⟨b3, o3, pl, q3, l3, c3, hp3, HA3, f3, hsl3⟩ := hsl1.list j hlt2
          subst hp3
          have g3w := fitC hfr (hkeep _ _ f3)
          have g3 := fitC (hfr.alloc (.cells #[.int .i64 k] 3)) (hkeep _ _ f3)
          have hsl3' : Slc σr q3 l3 c3 pl := Slc.ext (N := 0) hsl3 ⟨hkeep, fun p hp => absurd hp (Nat.not_lt_zero _)⟩
          have hpl : pl.length ≤ 1000000 := by
            have := Tm.places_deep a pl (mem_of_get HA3.out)
            omega
          have hlj : (t.placesTo k ++ (a.places.take j).map (fun p => (k : Int) :: p)).length + 1 ≤ 1000000 := by
            have h1 := lt_of_get HA3.out
            rw [List.length_append, List.length_map, List.length_take, Nat.min_eq_left (by omega)]
            omega
          have HT : Hid ((a.places.take (j+1)).map (fun p => (k : Int) :: p) = (a.places.take j).map (fun p => (k : Int) :: p) ++ [(k : Int) :: pl]) := Lib.hid (by rw [take_snoc HA3.out, List.map_append]; rfl)
          have hn3 : Own σr (w.heap.size + 1) (wr.alloc (.cells #[.int .i64 k] 3)) 3 (.slice (some ⟨wr.heap.size, 0, none⟩) 1 1) [(k : Int)] := Own.new hfr (cells_i64 hk hlm) (by omega)
          have h63 : [(k : Int)].length + pl.length ≤ maxLen := by simp [maxLen]; omega
          have hby : ([(k : Int)].length + pl.length) * 8 ≤ 140737488355328 := by simp; omega
          have h63' : (t.placesTo k ++ (a.places.take j).map (fun p => (k : Int) :: p)).length + 1 ≤ maxLen := by simp only [maxLen]; omega
          have hby' : ((t.placesTo k ++ (a.places.take j).map (fun p => (k : Int) :: p)).length + 1) * 24 ≤ 140737488355328 := by omega
          have hownA := hown.alloc (.cells #[.int .i64 k] 3)
          clear f3
          go_wp2_with (first
            | (at_builtin; refine wpList_slc rfl _ _ _ rfl hn3 (hfr.alloc _) i1 _ 8 Try.underlying30 HI.out H0.out H1.out H2.out rfl (by decide) q3 l3 c3 _ hsl3' rfl rfl h63 hby (by simp; omega) ?_
               intro v' w2 hg
               obtain ⟨σ2, e2, hf2, ho2, p2, l2, c2, hvv, hsl2⟩ := hg.own.done hg.fit w.heap.size (by omega)
               subst hvv
               have hrow : ∀ g, u3.ownBlock = some g → (Value.slice p2 l2 c2).ownBlock ≠ some g := fun g hv he => own_apart (hown.lt g hv).2 (World.size_alloc _ _) hg.at_ he
               have hrow0 : ∀ g, u3.ownBlock = some g → (Value.slice (some ⟨wr.heap.size, 0, none⟩) 1 1).ownBlock ≠ some g := fun g hv he => own_apart0 (hown.lt g hv).2 he
               have hown2 := ((hownA.grown hg.grown hrow0).known e2.keep ho2 hrow).alloc (.cells #[.slice p2 l2 c2] 30)
               have hw2 : w.heap.size + 1 ≤ w2.heap.size := by have := hg.grown.size; simp at this; omega)
            | (at_builtin; refine wpList_one rfl _ _ _ rfl hown2 (hf2.alloc _) i2 _ 24 Try.underlying35 JI.out J0.out J1.out J2.out rfl (by decide) w2.heap.size _ 30 (heap_alloc_new w2 _) ((k : Int) :: pl) (cells_list.2 ⟨_, _, _, rfl, hsl2⟩) rfl rfl h63' hby' (by simp; omega) ?_; intro v4 w4 hg4))
          go_roundw
          case rel =>
            refine ⟨j + 1, σ2, by omega, by go_num, ?_, hext.trans e2, fun p x h => e2.keep p x (hkeep p x h), hg4.fit, ?_⟩
            · rw [HT.out, ← List.append_assoc]
              exact hg4.own
            · have h1 := (hb.alloc (by omega) (.cells #[.int .i64 k] 3)).grown hg.grown (by simp; omega) (fun g hgk => by simp [Value.ownBlock] at hgk; omega)
              exact (h1.alloc (by omega) (.cells #[.slice p2 l2 c2] 30)).grown hg4.grown (by simp; omega) (fun g hgk => (hown.lt g hgk).1)
          case measure => simp [intOf]; omega
        · obtain rfl : j = l1 := by omega
          have HP : Hid (t.placesTo (k+1) = t.placesTo k ++ (a.places.take j).map (fun p => (k : Int) :: p)) := Lib.hid (by rw [Tm.placesTo_succ HA.out, List.take_of_length_le (by have := HL1.out; omega)])
          go_wp2_with fail
          go_roundw
          case rel => exact ⟨k + 1, σr, by omega, by go_num, by rw [HP.out]; exact hown, hext, hfr, hb⟩
          case measure => simp [intOf]; omega
    · obtain rfl : k = len := by omega
      have HP := Lib.hid (Tm.placesTo_all HL.out)
      go_wp2_with fail
      go_ret
      obtain ⟨σ2, e1, e2, e3, p2, l2, c2, rfl, hsl2⟩ := hown.done hfr w.heap.size (by omega)
      rw [HP.out] at hsl2
      exact ⟨σ2, p2, l2, c2, rfl, hsl2, hext.trans e1, e2, hbw⟩
end Go.Proofs.Ytohgkbgpcnmdpaa

namespace Go.Proofs.Ytohgkbgpcnmdpaa
open Go Go.RowKit
set_option maxHeartbeats 400000
set_option linter.unusedVariables false

/-- What a call does that appends onto its argument hv, a row that nobody else holds. -/
structure Turned {α : Type} [Cod α] (σ : Sto) (N : Nat) (w : World) (e : TypeId) (hv : Value) (v : Value) (xs : List α) (w' : World) : Prop where
  own : Own σ N w' e v xs
  fit : Fit σ w'
  grown : w.grownBy w' hv.ownBlock
  at_ : v.ownBlock = hv.ownBlock ∨ ∀ g, v.ownBlock = some g → w.heap.size ≤ g
theorem Turned.refl {α : Type} [Cod α] {σ : Sto} {N : Nat} {w : World} {e : TypeId} {v : Value} {xs : List α} (h : Own σ N w e v xs) (hf : Fit σ w) : Turned σ N w e v v xs w := ⟨h, hf, grownBy_refl w _, .inl rfl⟩
theorem Turned.trans {α : Type} [Cod α] {σ : Sto} {N : Nat} {w w1 w2 : World} {e : TypeId} {h v u : Value} {xs ys : List α} (a : Turned σ N w e h v xs w1) (b : Turned σ N w1 e v u ys w2) : Turned σ N w e h u ys w2 := by
  refine ⟨b.own, b.fit, a.grown.andThen b.grown fun j hj => ?_, ?_⟩
  · rcases a.at_ with h1 | h1
    · exact .inr (by rw [← h1, hj])
    · exact .inl (h1 j hj)
  · rcases b.at_ with h2 | h2
    · rw [h2]; exact a.at_
    · exact .inr fun g hg => Nat.le_trans a.grown.size (h2 g hg)
theorem Turned.alloc {α : Type} [Cod α] {σ : Sto} {N : Nat} {w w1 : World} {e : TypeId} {h v : Value} {xs : List α} (a : Turned σ N w e h v xs w1) (o : Obj) : Turned σ N w e h v xs (w1.alloc o) :=
  ⟨a.own.alloc o, a.fit.alloc o, a.grown.andThen (World.grownBy_alloc w1 o none) (by simp), a.at_⟩
/-- the start: only new blocks -/
theorem Turned.start {α : Type} [Cod α] {σ : Sto} {N : Nat} {w w1 w2 : World} {e : TypeId} {h v : Value} {xs : List α} (g : w.grownBy w1 none) (a : Turned σ N w1 e h v xs w2) : Turned σ N w e h v xs w2 :=
  ⟨a.own, a.fit, (g.but h.ownBlock).andThen a.grown (fun j hj => .inr hj), by
    rcases a.at_ with h1 | h1
    · exact .inl h1
    · exact .inr fun g' hg => Nat.le_trans g.size (h1 g' hg)⟩
theorem Turned.box {α : Type} [Cod α] {σ : Sto} {N : Nat} {w w' : World} {e : TypeId} {h v : Value} {xs : List α} (a : Turned σ N w e h v xs w') {g : Nat} {T : TypeId} {cs : Array Value} (hb : Blk w g T cs) (hn : h.ownBlock ≠ some g) : Blk w' g T cs := hb.grown a.grown hn

theorem may_size {t : Tm} (h : t.may = 0) : t.size ≤ 200 := by
  have h1 := Tm.chk_range t
  unfold Tm.may at h
  split at h <;> omega
theorem allPlaces_any (t : Tm) (σ : Sto) (v : Value) (w : World) (hs : Fit σ w) (ht : TmV σ v t) :
    Calls Try.prog 13 #[v] w fun e w' => ∃ σ' p l c, e = .returned (.tuple #[.slice p l c, .int .i64 t.may]) ∧ Slc σ' p l c (if t.may = 0 then t.places else []) ∧ Ext w.heap.size σ σ' ∧ Fit σ' w' ∧ Below w.heap.size w w' := by
  obtain ⟨p, len, cap, rfl, hn, hsl⟩ := ht
  have T0 := Blk.new w 24 #[.string t.name, .slice p len cap]
  go_enter Try.func13, Try.ntmps13
  go_wp2_with fail
  refine (check_any t σ _ _ (hs.alloc _) ⟨_, _, _, rfl, hn, hsl⟩).mono ?_
  rintro e w1 ⟨rfl, hb1⟩
  have T1 := T0.call hb1
  have t0 : w1.cell? ⟨w.heap.size, 0, none⟩ = some (.string t.name) := T1.cell 0
  have t1 : w1.cell? ⟨w.heap.size, 1, none⟩ = some (.slice p len cap) := T1.cell 1
  have hf1 := (hs.alloc (.cells #[.string t.name, .slice p len cap] 24)).below hb1
  have hb01 : Below w.heap.size w w1 := below_alloc_call (Below.refl _ _) (Nat.le_refl _) hb1
  by_cases hmt : t.may = 0
  · have HM := Lib.hid hmt
    have hz := may_size hmt
    rw [hmt]
    clear hmt
    go_wp2_with fail
    refine (places_any _ t (Nat.lt_succ_self _) σ _ _ hf1 ⟨_, _, _, rfl, hn, hsl⟩ (by omega)).mono ?_
    rintro e w2 ⟨σ2, p2, l2, c2, rfl, hsl2, hext2, hf2, hb2⟩
    go_wp2_with fail
    refine bodyPost_ret (v := .tuple #[.slice p2 l2 c2, .int .i64 0]) (by simp [results, Try.results13, go_sem]) rfl ⟨σ2, p2, l2, c2, rfl, hsl2, hext2.mono hb01.size, hf2, hb01.trans (hb2.mono hb01.size)⟩
  · have hne := ne_true hmt
    have HM := Lib.hid hmt
    go_wp2_with fail
    refine bodyPost_ret (v := .tuple #[.slice none 0 0, .int .i64 t.may]) (by simp [results, Try.results13, go_sem]) rfl ⟨σ, none, 0, 0, rfl, Slc.nil _, Ext.refl _ _, hf1, hb01⟩
end Go.Proofs.Ytohgkbgpcnmdpaa

namespace Go.Proofs.Ytohgkbgpcnmdpaa
open Go Go.RowKit
set_option linter.unusedVariables false

theorem sizeBuilder : (Try.prog.info? 91).map (fun i => i.size) = some 2 := by kernel_rfl
theorem infoByte : (Try.prog.info? 5).map (fun i => (i.zero, i.size, i.bytes)) = some (some (.int .u8 0), 1, 1) := by kernel_rfl

set_option maxHeartbeats 1000000 in
set_option maxRecDepth 100000 in
theorem copyCheck_used (b : Nat) (w : World) (h0 : w.cell? ⟨b, 0, none⟩ = some (.pointer (some ⟨b, 0, none⟩))) :
    Calls Try.prog 72 #[.pointer (some ⟨b, 0, none⟩)] w fun e w' => e = .returned (.tuple #[]) ∧ w' = w := by
  obtain ⟨j, hj, _⟩ := Option.map_eq_some_iff.1 sizeBuilder
  go_enter Try.func72, Try.ntmps72
  go_wp2
  rw [Lib.run_neq_ptr_same w _ Try.underlying88 hj]
  go_wp2
  go_end0
  exact ⟨rfl, rfl⟩

set_option maxHeartbeats 1000000 in
set_option maxRecDepth 100000 in
theorem copyCheck_fresh (b : Nat) (w : World) (h0 : w.cell? ⟨b, 0, none⟩ = some (.pointer none)) (hsh : w.shape? b = some (91, 2)) (hfz : w.frozen? ⟨b, 0, none⟩ = false) :
    Calls Try.prog 72 #[.pointer (some ⟨b, 0, none⟩)] w fun e w' => e = .returned (.tuple #[]) ∧ w' = w.setCell ⟨b, 0, none⟩ (.pointer (some ⟨b, 0, none⟩)) := by
  obtain ⟨j, hj, hjs⟩ := Option.map_eq_some_iff.1 sizeBuilder
  go_enter Try.func72, Try.ntmps72
  go_wp2
  rw [Lib.run_to_unsafe w ⟨b, 0, none⟩ Try.underlying88 Try.underlying117 hj (by rw [hjs]; decide) hsh (Nat.zero_lt_succ 1)]
  simp only [Result.andThen]
  rw [Oper.upon_value]
  go_wp2
  rw [run_callFunc_extern Try.func75 (by kernel_rfl) (by kernel_rfl) (by kernel_rfl) (e := Extern.AbiNoEscape.same) (by kernel_rfl)]
  rw [Lib.run_noEscape]
  simp only [Result.andThen]
  rw [Oper.upon_value]
  go_wp2
  rw [Lib.run_from_unsafe w ⟨b, 0, none⟩ Try.underlying117 Try.underlying88 hj hsh (by kernel_rfl)]
  simp only [Result.andThen]
  rw [Oper.upon_value]
  go_wp2
  go_end0
  exact ⟨rfl, rfl⟩
theorem copyCheck_any (B b : Nat) (bs : List Value) (w : World) (h : Lib.IsBuilderF 91 5 B b bs w) :
    Calls Try.prog 72 #[.pointer (some ⟨b, 0, none⟩)] w fun e w' => e = .returned (.tuple #[]) ∧ (Lib.BuilderAtF 91 5 B b (.pointer (some ⟨b, 0, none⟩)) bs w' ∧ Below B w w' ∧ Lib.OthersKept 5 (some b) w w') := by
  rcases h with h | h
  · refine (copyCheck_fresh b w h.cell0 h.shape h.frozen0).mono ?_
    rintro e w' ⟨rfl, rfl⟩
    exact ⟨rfl, h.used _, (Below.refl B w).setCell (p := ⟨b, 0, none⟩) h.1 _, (Lib.OthersKept.refl _ _ w).setCell ⟨b, 0, none⟩ rfl _⟩
  · refine (copyCheck_used b w h.cell0).mono ?_
    rintro e w' ⟨rfl, rfl⟩
    exact ⟨rfl, h, Below.refl B _, Lib.OthersKept.refl _ _ _⟩

set_option maxHeartbeats 2000000 in
set_option maxRecDepth 100000 in
theorem writeByte_any (B b : Nat) (bs : List Value) (c : Int) (w : World) (h : Lib.IsBuilderF 91 5 B b bs w) (hlen : bs.length + 1 ≤ 140737488355328) (hBw : B ≤ w.heap.size) :
    Calls Try.prog 68 #[.pointer (some ⟨b, 0, none⟩), .int .u8 c] w fun e w' => e = .returned .nilIface ∧ (Lib.BuilderAtF 91 5 B b (.pointer (some ⟨b, 0, none⟩)) (bs ++ [.int .u8 c]) w' ∧ Below B w w' ∧ Lib.OthersKept 5 (some b) w w') := by
  obtain ⟨i0, hi, hz0, hz1, hz2⟩ := info_parts infoByte
  go_enter Try.func68, Try.ntmps68
  go_wp2_with (go_at_call 72; refine (copyCheck_any B b bs _ h).mono ?_)
  rintro e w1 ⟨rfl, h1, hb1, hk1⟩
  obtain ⟨hB, v, hbk, hown, hne⟩ := h1
  have c0 : w1.cell? ⟨b, 0, none⟩ = some (.pointer (some ⟨b, 0, none⟩)) := by rw [Lib.cell_of_heap hbk]; rfl
  have c1 : w1.cell? ⟨b, 1, none⟩ = some v := by rw [Lib.cell_of_heap hbk]; rfl
  go_wp2_with (at_builtin; refine wpList_append_ownF _ rfl _ _ 89 rfl B 5 i0 (.int .u8 0) 1 1 Try.underlying89 hi hz0 hz1 hz2 rfl (by decide) _ _ _ rfl (hown.alloc _) ⟨w1.heap.size, 0, none⟩ 1 1 [.int .u8 c] rfl rfl ?c1 ?c2 ?c3 ?c4 ?c5 ?_)
  case c1 =>
    intro j u hj
    match j, hj with
    | 0, hj => simp at hj; subst hj; simp [Addr.add]
  case c2 => intro u hu; simp at hu; subst hu; rfl
  case c3 => unfold maxLen; omega
  case c4 => omega
  case c5 => have := hb1.size; simp; omega
  intro v' w2 hown' hgrow _
  have hlt : b < w1.heap.size := by
    rcases Nat.lt_or_ge b w1.heap.size with h' | h'
    · exact h'
    · simp [Array.getElem?_eq_none h'] at hbk
  have hb2 : w2.heap[b]? = some (.cells #[.pointer (some ⟨b, 0, none⟩), v] 91 (0, 0)) := by
    rw [hgrow.block b (by simp; omega) (fun e => hne e.symm), Lib.alloc_old w1 _ b hlt]
    exact hbk
  have d0 : w2.cell? ⟨b, 0, none⟩ = some (.pointer (some ⟨b, 0, none⟩)) := by rw [Lib.cell_of_heap hb2]; rfl
  have d1 : w2.cell? ⟨b, 1, none⟩ = some v := by rw [Lib.cell_of_heap hb2]; rfl
  have f1 : w2.frozen? ⟨b, 1, none⟩ = false := Lib.frozen_of_heap hb2 1
  obtain ⟨g, cap, rfl⟩ : ∃ g cap, v' = .slice (some ⟨g, 0, none⟩) (bs.length + 1) cap := by
    rcases hown'.2 with ⟨_, h0⟩ | ⟨g, cap, cur, fz, hv, _⟩
    · omega
    · exact ⟨g, cap, hv⟩
  go_wp2
  go_ret
  refine ⟨rfl, ?_, ?_, ((hk1.alloc _).grown hgrow (Lib.ownsRowF_kind (hown.alloc _))).setCell ⟨b, 1, none⟩ rfl _⟩
  · exact Lib.BuilderAtF.put (T := 91) (e := 5) hB hb2 (bs' := bs ++ [.int .u8 c]) (by simpa using hown') (by decide)
  · exact ((hb1.alloc (by have := hb1.size; omega) _).grown hgrow (by have := hb1.size; simp; omega) (fun k hk => (hown.lt k hk).1)).setCell (p := ⟨b, 1, none⟩) hB _

set_option maxHeartbeats 2000000 in
set_option maxRecDepth 100000 in
theorem writeString_any (B b : Nat) (bs : List Value) (s : ByteArray) (w : World) (h : Lib.IsBuilderF 91 5 B b bs w) (hlen : bs.length + s.size ≤ 140737488355328) (hBw : B ≤ w.heap.size) :
    Calls Try.prog 67 #[.pointer (some ⟨b, 0, none⟩), .string s] w fun e w' => e = .returned (.tuple #[.int .i64 s.size, .nilIface]) ∧ (Lib.BuilderAtF 91 5 B b (.pointer (some ⟨b, 0, none⟩)) (bs ++ Lib.strCells s) w' ∧ Below B w w' ∧ Lib.OthersKept 5 (some b) w w') := by
  obtain ⟨i0, hi, hz0, hz1, hz2⟩ := info_parts infoByte
  go_enter Try.func67, Try.ntmps67
  go_wp2_with (go_at_call 72; refine (copyCheck_any B b bs _ h).mono ?_)
  rintro e w1 ⟨rfl, h1, hb1, hk1⟩
  obtain ⟨hB, v, hbk, hown, hne⟩ := h1
  have c0 : w1.cell? ⟨b, 0, none⟩ = some (.pointer (some ⟨b, 0, none⟩)) := by rw [Lib.cell_of_heap hbk]; rfl
  have c1 : w1.cell? ⟨b, 1, none⟩ = some v := by rw [Lib.cell_of_heap hbk]; rfl
  go_wp2_with (at_builtin; refine Lib.wpList_append_own_stringF _ rfl _ _ 89 9 rfl B 5 i0 Try.underlying89 Try.underlying9 hi hz0 hz1 hz2 _ _ _ rfl hown s rfl ?c3 ?c4 ?c5 ?_)
  case c3 => unfold maxLen; omega
  case c4 => omega
  case c5 => have := hb1.size; omega
  intro v' w2 hown' hgrow _
  have hlt : b < w1.heap.size := by
    rcases Nat.lt_or_ge b w1.heap.size with h' | h'
    · exact h'
    · simp [Array.getElem?_eq_none h'] at hbk
  have hb2 : w2.heap[b]? = some (.cells #[.pointer (some ⟨b, 0, none⟩), v] 91 (0, 0)) := by
    rw [hgrow.block b hlt (fun e => hne e.symm)]
    exact hbk
  have d0 : w2.cell? ⟨b, 0, none⟩ = some (.pointer (some ⟨b, 0, none⟩)) := by rw [Lib.cell_of_heap hb2]; rfl
  have d1 : w2.cell? ⟨b, 1, none⟩ = some v := by rw [Lib.cell_of_heap hb2]; rfl
  have f1 : w2.frozen? ⟨b, 1, none⟩ = false := Lib.frozen_of_heap hb2 1
  obtain ⟨ao, n', cap, rfl⟩ : ∃ ao n' cap, v' = .slice ao n' cap := by
    rcases hown'.2 with ⟨hv, _⟩ | ⟨g, cap, cur, fz, hv, _⟩
    · exact ⟨_, _, _, hv⟩
    · exact ⟨_, _, _, hv⟩
  go_wp2
  go_ret2
  refine ⟨rfl, ?_, ?_, (hk1.grown hgrow (Lib.ownsRowF_kind hown)).setCell ⟨b, 1, none⟩ rfl _⟩
  · exact Lib.BuilderAtF.put (T := 91) (e := 5) hB hb2 (bs' := bs ++ Lib.strCells s) (by simpa [Lib.strCells_length] using hown') (by decide)
  · exact (hb1.grown hgrow (by have := hb1.size; omega) (fun k hk => (hown.lt k hk).1)).setCell (p := ⟨b, 1, none⟩) hB _

set_option maxHeartbeats 1000000 in
set_option maxRecDepth 100000 in
theorem builderString_any (B b : Nat) (l : List UInt8) (w : World) (h : Lib.IsBuilderF 91 5 B b (Lib.byteCells l) w) (h0 : l ≠ []) :
    Calls Try.prog 56 #[.pointer (some ⟨b, 0, none⟩)] w fun e w' => e = .returned (.string ⟨l.toArray⟩) ∧ Below B w w' := by
  obtain ⟨p, hp, hAt⟩ : ∃ p, (p = .pointer none ∨ p = .pointer (some ⟨b, 0, none⟩)) ∧ Lib.BuilderAtF 91 5 B b p (Lib.byteCells l) w := by
    rcases h with h | h
    · exact ⟨_, .inl rfl, h⟩
    · exact ⟨_, .inr rfl, h⟩
  obtain ⟨hB, v, hbk, hown, hne⟩ := hAt
  have hl0 : l.length ≠ 0 := by simpa using h0
  rw [Lib.byteCells_length] at hown
  obtain ⟨g, cap, cur, fz, rfl, hbg, hg, hfz, hnc, hcm, hcs, htake⟩ : ∃ g cap cur fz, v = .slice (some ⟨g, 0, none⟩) l.length cap ∧ B ≤ g ∧ w.heap[g]? = some (.cells cur 5 fz) ∧ fz.2 ≤ l.length * 1 ∧ l.length ≤ cap ∧ cap ≤ maxLen ∧ cur.size = cap * 1 ∧ cur.toList.take (l.length * 1) = Lib.byteCells l := by
    rcases hown.2 with ⟨_, hz⟩ | ⟨g, cap, cur, fz, hv, r⟩
    · exact absurd hz hl0
    · exact ⟨g, cap, cur, fz, hv, r⟩
  have c1 : w.drew.cell? ⟨b, 1, none⟩ = some (.slice (some ⟨g, 0, none⟩) l.length cap) := by
    have : w.drew.heap[b]? = some (.cells #[p, .slice (some ⟨g, 0, none⟩) l.length cap] 91 (0, 0)) := hbk
    rw [Lib.cell_of_heap this]; rfl
  have hSD : (Builtin.unsafeSliceData_ #[89] 111 #[.slice (some ⟨g, 0, none⟩) l.length cap]).run Try.prog w.drew = .ok (.pointer (some ⟨g, 0, none⟩)) w.drew :=
    Lib.run_unsafeSliceData_row _ _ _ _ _ _ (by omega)
  have hUS : (Builtin.unsafeString_ #[111, 3] 9 #[.pointer (some ⟨g, 0, none⟩), .int .i64 l.length]).run Try.prog w.drew = .ok (.string ⟨l.toArray⟩) (w.drew.freeze ⟨g, 0, none⟩ l.length) := by
    refine Lib.run_unsafeString_row w.drew 111 3 9 5 Try.underlying111 (by kernel_rfl) g cur.size (by have hg' : w.drew.heap[g]? = some (.cells cur 5 fz) := hg; simp [World.shape?, hg']) l h0 (by omega) (by unfold maxLen at hcm; omega) ?_
    intro j x hx
    have := hown.cells (g := g) rfl j (.int .u8 x.toNat) (by simp [Lib.byteCells, hx])
    exact this
  go_enter Try.func56, Try.ntmps56
  go_wp2
  have mixed : Try.prog.follows Departure.mixedOrders = true := by kernel_rfl
  go_region_o
  all_goals (go_wp2; go_ret; exact ⟨rfl, Lib.below_freeze (Below.drew (Below.refl B w)) (p := ⟨g, 0, none⟩) hbg _⟩)
end Go.Proofs.Ytohgkbgpcnmdpaa
