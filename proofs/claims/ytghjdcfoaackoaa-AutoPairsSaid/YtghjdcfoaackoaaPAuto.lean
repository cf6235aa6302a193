/-
  Automata on terms, in plain Lean: what may be, in which states a term may end, the automata of both sets and of one of them. No program in sight.
  Conditions: none.
-/
import Derived.Test.YtghjdcfoaackoaaPTerm
namespace Go.Proofs.Ytghjdcfoaackoaa
open Go Go.RowKit
set_option linter.unusedVariables false

structure Mv where
  name : ByteArray
  frm : List Int
  to_ : Int
structure Au where
  states : Int
  moves : List Mv
  last : List Int

/-! ### what may be -/
def inS (S : Int) (s : Int) : Bool := decide (0 ≤ s) && decide (s < S)
def Mv.err (S : Int) (m : Mv) : Int := if nameOk m.name = true ∧ isVar m.name = false then (if 4 < m.frm.length then 3 else if m.frm.all (inS S) = true ∧ inS S m.to_ = true then 0 else 10) else 1
def mvsErr (S : Int) : List Mv → Int
  | [] => 0
  | m :: ms => if m.err S = 0 then mvsErr S ms else m.err S
def Au.may (a : Au) (S M : Int) : Int := if a.states < 0 ∨ S < a.states ∨ M < a.moves.length then 3 else if mvsErr a.states a.moves = 0 then (if a.last.all (inS a.states) = true then 0 else 10) else mvsErr a.states a.moves
theorem mvsErr_append (S : Int) (xs ys : List Mv) : mvsErr S (xs ++ ys) = if mvsErr S xs = 0 then mvsErr S ys else mvsErr S xs := by
  induction xs with
  | nil => simp [mvsErr]
  | cons x xs ih =>
    simp only [List.cons_append, mvsErr, ih]
    by_cases h : x.err S = 0
    · simp [h]
    · simp [h]
theorem mvsErr_take {S : Int} {xs : List Mv} {k : Nat} {m : Mv} (hm : xs[k]? = some m) (h : mvsErr S (xs.take k) = 0) : mvsErr S (xs.take (k + 1)) = m.err S := by
  rw [take_snoc hm, mvsErr_append, if_pos h]
  simp only [mvsErr]
  split
  · rename_i h1
    rw [h1]
  · rfl
theorem mvsErr_no {S : Int} {xs : List Mv} {k : Nat} (h : ¬ mvsErr S (xs.take k) = 0) : mvsErr S xs = mvsErr S (xs.take k) := by
  have := mvsErr_append S (xs.take k) (xs.drop k)
  rw [List.take_append_drop, if_neg h] at this
  exact this
theorem mvsErr_ok {S : Int} : ∀ {xs : List Mv}, mvsErr S xs = 0 ↔ ∀ m ∈ xs, m.err S = 0
  | [] => by simp [mvsErr]
  | x :: xs => by
    rw [mvsErr]
    by_cases h : x.err S = 0
    · rw [if_pos h, mvsErr_ok]
      simp [h]
    · rw [if_neg h]
      simp [h]
theorem Mv.err_ok {S : Int} {m : Mv} : m.err S = 0 ↔ (nameOk m.name = true ∧ isVar m.name = false) ∧ m.frm.length ≤ 4 ∧ m.frm.all (inS S) = true ∧ inS S m.to_ = true := by
  unfold Mv.err
  by_cases h1 : nameOk m.name = true ∧ isVar m.name = false
  · rw [if_pos h1]
    by_cases h2 : 4 < m.frm.length
    · rw [if_pos h2]
      constructor
      · intro h; cases h
      · intro h; omega
    · rw [if_neg h2]
      by_cases h3 : m.frm.all (inS S) = true ∧ inS S m.to_ = true
      · rw [if_pos h3]
        exact ⟨fun _ => ⟨h1, by omega, h3⟩, fun _ => rfl⟩
      · rw [if_neg h3]
        constructor
        · intro h; cases h
        · intro h; exact absurd h.2.2 h3
  · rw [if_neg h1]
    constructor
    · intro h; cases h
    · intro h; exact absurd h.1 h1
theorem Au.may_ok {a : Au} {S M : Int} : a.may S M = 0 ↔ (0 ≤ a.states ∧ a.states ≤ S ∧ a.moves.length ≤ M) ∧ (∀ m ∈ a.moves, m.err a.states = 0) ∧ a.last.all (inS a.states) = true := by
  unfold Au.may
  by_cases h1 : a.states < 0 ∨ S < a.states ∨ M < a.moves.length
  · rw [if_pos h1]
    constructor
    · intro h; cases h
    · intro h; omega
  · rw [if_neg h1, ← mvsErr_ok]
    by_cases h2 : mvsErr a.states a.moves = 0
    · rw [if_pos h2]
      by_cases h3 : a.last.all (inS a.states) = true
      · rw [if_pos h3]
        exact ⟨fun _ => ⟨by omega, h2, h3⟩, fun _ => rfl⟩
      · rw [if_neg h3]
        constructor
        · intro h; cases h
        · intro h; exact absurd h.2.2 h3
    · rw [if_neg h2]
      constructor
      · intro h; exact absurd h h2
      · intro h; exact absurd h.2.1 h2
theorem inS_iff {S s : Int} : inS S s = true ↔ 0 ≤ s ∧ s < S := by simp [inS]

/-! ### in which states a term may end -/
/-- A move fits states that may stand below. -/
def allIn : List (List Bool) → List Int → Bool
  | b :: bs, s :: ss => b.getD s.toNat false && allIn bs ss
  | [], [] => true
  | _, _ => false
def Mv.fits (m : Mv) (n : ByteArray) (below : List (List Bool)) : Bool := decide (m.name = n) && allIn below m.frm
/-- what a move adds -/
def addMv (n : ByteArray) (below : List (List Bool)) (out : List Bool) (m : Mv) : List Bool := if m.fits n below = true then out.set m.to_.toNat true else out
def Au.ending (a : Au) (n : ByteArray) (below : List (List Bool)) : List Bool := a.moves.foldl (addMv n below) (List.replicate a.states.toNat false)
mutual
def Au.ends (a : Au) : Tm → List Bool
  | .mk n xs => a.ending n (a.endsL xs)
def Au.endsL (a : Au) : List Tm → List (List Bool)
  | [] => []
  | t :: ts => a.ends t :: a.endsL ts
end
theorem Au.ends_eq (a : Au) (t : Tm) : a.ends t = a.ending t.name (a.endsL t.args) := by cases t; rfl
theorem Au.endsL_eq (a : Au) : ∀ ts : List Tm, a.endsL ts = ts.map a.ends
  | [] => rfl
  | t :: ts => by rw [Au.endsL, Au.endsL_eq a ts]; rfl
def Au.acc (a : Au) (t : Tm) : Bool := a.last.any fun s => (a.ends t).getD s.toNat false
theorem addMv_length (n : ByteArray) (below : List (List Bool)) (out : List Bool) (m : Mv) : (addMv n below out m).length = out.length := by
  unfold addMv
  split <;> simp
theorem fold_length (n : ByteArray) (below : List (List Bool)) : ∀ (ms : List Mv) (out : List Bool), (ms.foldl (addMv n below) out).length = out.length
  | [], _ => rfl
  | m :: ms, out => by rw [List.foldl_cons, fold_length n below ms, addMv_length]
theorem Au.ending_length (a : Au) (n : ByteArray) (below : List (List Bool)) : (a.ending n below).length = a.states.toNat := by
  unfold Au.ending
  rw [fold_length]
  simp
theorem Au.ends_length (a : Au) (t : Tm) : (a.ends t).length = a.states.toNat := by rw [Au.ends_eq, Au.ending_length]
theorem fold_get (n : ByteArray) (below : List (List Bool)) (i : Nat) : ∀ (ms : List Mv) (out : List Bool), i < out.length → (ms.foldl (addMv n below) out).getD i false = (out.getD i false || ms.any fun m => m.fits n below && decide (m.to_.toNat = i))
  | [], out, h => by simp
  | m :: ms, out, h => by
    rw [List.foldl_cons, fold_get n below i ms _ (by rw [addMv_length]; exact h), List.any_cons, ← Bool.or_assoc]
    congr 1
    unfold addMv
    by_cases hf : m.fits n below = true
    · rw [if_pos hf, hf, Bool.true_and]
      by_cases he : m.to_.toNat = i
      · subst he
        simp [List.getD_eq_getElem?_getD, h]
      · simp [List.getD_eq_getElem?_getD, List.getElem?_set_ne he, he]
    · rw [if_neg hf]
      have : m.fits n below = false := by simpa using hf
      rw [this]
      simp
/-- A state in which a term may end: some move fits. -/
theorem Au.ends_get (a : Au) (t : Tm) (i : Nat) (h : i < a.states.toNat) : (a.ends t).getD i false = a.moves.any fun m => m.fits t.name (a.endsL t.args) && decide (m.to_.toNat = i) := by
  rw [Au.ends_eq]
  unfold Au.ending
  rw [fold_get _ _ _ _ _ (by simpa using h)]
  simp [List.getD_eq_getElem?_getD, h]

/-! ### of both, of one of them -/
def bothFrm (B : Int) (m n : Mv) : List Int := List.zipWith (fun i j => i * B + j) m.frm n.frm
def bothMv (B : Int) (m n : Mv) : Mv := ⟨m.name, bothFrm B m n, m.to_ * B + n.to_⟩
def meets (m n : Mv) : Bool := decide (m.name = n.name) && decide (m.frm.length = n.frm.length)
def bothOf (B : Int) (m : Mv) (ns : List Mv) : List Mv := (ns.filter (meets m)).map (bothMv B m)
def bothAll (B : Int) (ms ns : List Mv) : List Mv := ms.flatMap fun m => bothOf B m ns
def bothLast (B : Int) (ss ts : List Int) : List Int := ss.flatMap fun s => ts.map fun t => s * B + t
def Au.both (a b : Au) : Au := ⟨a.states * b.states, bothAll b.states a.moves b.moves, bothLast b.states a.last b.last⟩
def moreMv (A : Int) (m : Mv) : Mv := ⟨m.name, m.frm.map (· + A), m.to_ + A⟩
def Au.either (a b : Au) : Au := ⟨a.states + b.states, a.moves ++ b.moves.map (moreMv a.states), a.last ++ b.last.map (· + a.states)⟩

/-- All that is told of an automaton is within its states. -/
structure Au.Good (a : Au) : Prop where
  states : 0 ≤ a.states
  to_ : ∀ m ∈ a.moves, 0 ≤ m.to_ ∧ m.to_ < a.states
  frm : ∀ m ∈ a.moves, ∀ s ∈ m.frm, 0 ≤ s ∧ s < a.states
  last : ∀ s ∈ a.last, 0 ≤ s ∧ s < a.states
theorem Au.may_good {a : Au} {S M : Int} (h : a.may S M = 0) : a.Good := by
  obtain ⟨h1, h2, h3⟩ := Au.may_ok.1 h
  refine ⟨h1.1, fun m hm => ?_, fun m hm s hs => ?_, fun s hs => ?_⟩
  · exact inS_iff.1 (Mv.err_ok.1 (h2 m hm)).2.2.2
  · exact inS_iff.1 (List.all_eq_true.1 (Mv.err_ok.1 (h2 m hm)).2.2.1 s hs)
  · exact inS_iff.1 (List.all_eq_true.1 h3 s hs)
theorem pair_nat {s u : Int} {B : Int} (hs : 0 ≤ s) (hu : 0 ≤ u) (hB : 0 ≤ B) : (s * B + u).toNat = s.toNat * B.toNat + u.toNat := by
  obtain ⟨a, rfl⟩ := Int.eq_ofNat_of_zero_le hs
  obtain ⟨b, rfl⟩ := Int.eq_ofNat_of_zero_le hu
  obtain ⟨c, rfl⟩ := Int.eq_ofNat_of_zero_le hB
  simp only [Int.toNat_natCast]
  rw [← Int.natCast_mul, ← Int.natCast_add, Int.toNat_natCast]
theorem pair_inj {a b c d B : Nat} (hb : b < B) (hd : d < B) : a * B + b = c * B + d ↔ a = c ∧ b = d := by
  constructor
  · intro h
    have h1 : (a * B + b) / B = a := by
      rw [Nat.mul_comm, Nat.mul_add_div (by omega), Nat.div_eq_of_lt hb, Nat.add_zero]
    have h2 : (c * B + d) / B = c := by
      rw [Nat.mul_comm, Nat.mul_add_div (by omega), Nat.div_eq_of_lt hd, Nat.add_zero]
    have h3 : a = c := by rw [← h1, h, h2]
    subst h3
    exact ⟨rfl, by omega⟩
  · rintro ⟨rfl, rfl⟩
    rfl
theorem pair_lt {a b A B : Nat} (ha : a < A) (hb : b < B) : a * B + b < A * B := by
  have : (a + 1) * B ≤ A * B := Nat.mul_le_mul_right B ha
  rw [Nat.add_mul] at this
  omega
theorem allIn_length : ∀ {bs : List (List Bool)} {ss : List Int}, allIn bs ss = true → ss.length = bs.length
  | [], [], _ => rfl
  | [], _ :: _, h => by simp [allIn] at h
  | _ :: _, [], h => by simp [allIn] at h
  | b :: bs, s :: ss, h => by
    simp only [allIn, Bool.and_eq_true] at h
    simp [allIn_length h.2]
theorem both_allIn {A B : Int} (hB : 0 ≤ B) {e ea eb : Tm → List Bool} : ∀ {ts : List Tm} {ss us : List Int}, ss.length = us.length → (∀ s ∈ ss, 0 ≤ s ∧ s < A) → (∀ u ∈ us, 0 ≤ u ∧ u < B) →
    (∀ t ∈ ts, ∀ i j : Nat, i < A.toNat → j < B.toNat → (e t).getD (i * B.toNat + j) false = ((ea t).getD i false && (eb t).getD j false)) →
    allIn (ts.map e) (List.zipWith (fun i j => i * B + j) ss us) = (allIn (ts.map ea) ss && allIn (ts.map eb) us)
  | [], [], [], _, _, _, _ => by simp [allIn]
  | [], s :: ss, u :: us, _, _, _, _ => by simp [allIn]
  | t :: ts, [], [], _, _, _, _ => by simp [allIn]
  | t :: ts, s :: ss, u :: us, hl, hs, hu, h => by
    have h1 := hs s (by simp)
    have h2 := hu u (by simp)
    simp only [List.map_cons, List.zipWith_cons_cons, allIn]
    rw [pair_nat h1.1 h2.1 hB, h t (by simp) _ _ (by omega) (by omega), both_allIn hB (by simpa using hl) (fun x hx => hs x (by simp [hx])) (fun x hx => hu x (by simp [hx])) (fun x hx => h x (by simp [hx]))]
    generalize (ea t).getD s.toNat false = p
    generalize (eb t).getD u.toNat false = q
    generalize allIn (ts.map ea) ss = r
    generalize allIn (ts.map eb) us = w
    cases p <;> cases q <;> cases r <;> cases w <;> rfl
  | _, [], _ :: _, hl, _, _, _ => by simp at hl
  | _, _ :: _, [], hl, _, _, _ => by simp at hl
theorem mem_bothAll {B : Int} {ms ns : List Mv} {x : Mv} : x ∈ bothAll B ms ns ↔ ∃ m ∈ ms, ∃ n ∈ ns, meets m n = true ∧ x = bothMv B m n := by
  unfold bothAll bothOf
  simp only [List.mem_flatMap, List.mem_map, List.mem_filter]
  constructor
  · rintro ⟨m, hm, n, ⟨hn, h⟩, rfl⟩
    exact ⟨m, hm, n, hn, h, rfl⟩
  · rintro ⟨m, hm, n, hn, h, rfl⟩
    exact ⟨m, hm, n, ⟨hn, h⟩, rfl⟩
theorem both_states {a b : Au} (ha : a.Good) (hb : b.Good) : (a.both b).states.toNat = a.states.toNat * b.states.toNat := by
  have := pair_nat (u := 0) ha.states (by omega) hb.states
  simpa [Au.both] using this
theorem both_ends {a b : Au} (ha : a.Good) (hb : b.Good) : ∀ (N : Nat) (t : Tm), SizeOf.sizeOf t < N → ∀ i j : Nat, i < a.states.toNat → j < b.states.toNat →
    ((a.both b).ends t).getD (i * b.states.toNat + j) false = ((a.ends t).getD i false && (b.ends t).getD j false) := by
  intro N
  induction N with
  | zero => intro t h; omega
  | succ N ih =>
    intro t hN i j hi hj
    rw [Au.ends_get _ _ _ (by rw [both_states ha hb]; exact pair_lt hi hj), Au.ends_get _ _ _ hi, Au.ends_get _ _ _ hj]
    have key : ∀ m ∈ a.moves, ∀ n ∈ b.moves, m.frm.length = n.frm.length → allIn ((a.both b).endsL t.args) (bothFrm b.states m n) = (allIn (a.endsL t.args) m.frm && allIn (b.endsL t.args) n.frm) := fun m hm n hn hl => by
      rw [Au.endsL_eq, Au.endsL_eq, Au.endsL_eq]
      exact both_allIn hb.states hl (ha.frm m hm) (hb.frm n hn) (fun x hx i j hi hj => ih x (by have := Tm.lt_of_arg hx; omega) i j hi hj)
    rw [Bool.eq_iff_iff, Bool.and_eq_true, List.any_eq_true, List.any_eq_true, List.any_eq_true]
    constructor
    · rintro ⟨x, hx, h⟩
      obtain ⟨m, hm, n, hn, hmn, rfl⟩ := mem_bothAll.1 hx
      simp only [meets, Bool.and_eq_true, decide_eq_true_eq] at hmn
      simp only [Mv.fits, Bool.and_eq_true, decide_eq_true_eq] at h
      obtain ⟨⟨h1, h2⟩, h3⟩ := h
      have h2' := (key m hm n hn hmn.2).symm.trans h2
      rw [Bool.and_eq_true] at h2'
      have q1 := ha.to_ m hm
      have q2 := hb.to_ n hn
      simp only [bothMv] at h1 h3
      rw [pair_nat q1.1 q2.1 hb.states, pair_inj (by omega) hj] at h3
      refine ⟨⟨m, hm, ?_⟩, ⟨n, hn, ?_⟩⟩
      · simp [Mv.fits, h1, h2'.1, h3.1]
      · simp [Mv.fits, ← hmn.1, h1, h2'.2, h3.2]
    · rintro ⟨⟨m, hm, h⟩, ⟨n, hn, g⟩⟩
      simp only [Mv.fits, Bool.and_eq_true, decide_eq_true_eq] at h g
      have hl : m.frm.length = n.frm.length := by
        rw [allIn_length h.1.2, allIn_length g.1.2, Au.endsL_eq, Au.endsL_eq, List.length_map, List.length_map]
      have q1 := ha.to_ m hm
      have q2 := hb.to_ n hn
      refine ⟨bothMv b.states m n, mem_bothAll.2 ⟨m, hm, n, hn, by simp [meets, h.1.1, g.1.1, hl], rfl⟩, ?_⟩
      have h2 := key m hm n hn hl
      rw [h.1.2, g.1.2] at h2
      simp only [Mv.fits, Bool.and_eq_true, decide_eq_true_eq]
      refine ⟨⟨h.1.1, h2⟩, ?_⟩
      simp only [bothMv]
      rw [pair_nat q1.1 q2.1 hb.states, h.2, g.2]
theorem both_acc {a b : Au} (ha : a.Good) (hb : b.Good) (t : Tm) : (a.both b).acc t = (a.acc t && b.acc t) := by
  unfold Au.acc
  have e : (a.both b).last = bothLast b.states a.last b.last := rfl
  rw [e, Bool.eq_iff_iff, Bool.and_eq_true, List.any_eq_true, List.any_eq_true, List.any_eq_true]
  unfold bothLast
  constructor
  · rintro ⟨x, hx, h⟩
    obtain ⟨s, hs, hx⟩ := List.mem_flatMap.1 hx
    obtain ⟨u, hu, rfl⟩ := List.mem_map.1 hx
    have q1 := ha.last s hs
    have q2 := hb.last u hu
    rw [pair_nat q1.1 q2.1 hb.states, both_ends ha hb _ t (Nat.lt_succ_self _) _ _ (by omega) (by omega), Bool.and_eq_true] at h
    exact ⟨⟨s, hs, h.1⟩, ⟨u, hu, h.2⟩⟩
  · rintro ⟨⟨s, hs, h⟩, ⟨u, hu, g⟩⟩
    have q1 := ha.last s hs
    have q2 := hb.last u hu
    refine ⟨s * b.states + u, List.mem_flatMap.2 ⟨s, hs, List.mem_map.2 ⟨u, hu, rfl⟩⟩, ?_⟩
    rw [pair_nat q1.1 q2.1 hb.states, both_ends ha hb _ t (Nat.lt_succ_self _) _ _ (by omega) (by omega), Bool.and_eq_true]
    exact ⟨h, g⟩

/-! ### of one of them -/
theorem allIn_same {e ea : Tm → List Bool} : ∀ {ts : List Tm} {ss us : List Int}, ss.length = us.length → (∀ t ∈ ts, ∀ k, (h1 : k < ss.length) → (h2 : k < us.length) → (e t).getD (ss[k]).toNat false = (ea t).getD (us[k]).toNat false) →
    allIn (ts.map e) ss = allIn (ts.map ea) us
  | [], [], [], _, _ => rfl
  | [], _ :: _, _ :: _, _, _ => rfl
  | _ :: _, [], [], _, _ => rfl
  | t :: ts, s :: ss, u :: us, hl, h => by
    simp only [List.map_cons, allIn]
    have h0 := h t (by simp) 0 (by simp) (by simp)
    simp only [List.getElem_cons_zero] at h0
    rw [h0, allIn_same (by simpa using hl) (fun x hx k h1 h2 => by
      have := h x (by simp [hx]) (k + 1) (by simpa using h1) (by simpa using h2)
      simpa using this)]
  | _, [], _ :: _, hl, _ => by simp at hl
  | _, _ :: _, [], hl, _ => by simp at hl
theorem either_states {a b : Au} (ha : a.Good) (hb : b.Good) : (a.either b).states.toNat = a.states.toNat + b.states.toNat := by
  have h1 := ha.states
  have h2 := hb.states
  simp only [Au.either]
  omega
theorem either_ends {a b : Au} (ha : a.Good) (hb : b.Good) : ∀ (N : Nat) (t : Tm), SizeOf.sizeOf t < N →
    (∀ i : Nat, i < a.states.toNat → ((a.either b).ends t).getD i false = (a.ends t).getD i false) ∧ (∀ j : Nat, j < b.states.toNat → ((a.either b).ends t).getD (j + a.states.toNat) false = (b.ends t).getD j false) := by
  intro N
  induction N with
  | zero => intro t h; omega
  | succ N ih =>
    intro t hN
    have hA := ha.states
    have hB := hb.states
    have k1 : ∀ m ∈ a.moves, allIn ((a.either b).endsL t.args) m.frm = allIn (a.endsL t.args) m.frm := fun m hm => by
      rw [Au.endsL_eq, Au.endsL_eq]
      refine allIn_same rfl (fun x hx k h1 h2 => ?_)
      have := ha.frm m hm _ (List.getElem_mem h1)
      exact (ih x (by have := Tm.lt_of_arg hx; omega)).1 _ (by omega)
    have k2 : ∀ m ∈ b.moves, allIn ((a.either b).endsL t.args) (m.frm.map (· + a.states)) = allIn (b.endsL t.args) m.frm := fun m hm => by
      rw [Au.endsL_eq, Au.endsL_eq]
      refine allIn_same (by simp) (fun x hx k h1 h2 => ?_)
      have q := hb.frm m hm _ (List.getElem_mem h2)
      have := (ih x (by have := Tm.lt_of_arg hx; omega)).2 (m.frm[k]).toNat (by omega)
      rw [List.getElem_map, ← this]
      congr 1
      omega
    have e : (a.either b).moves = a.moves ++ b.moves.map (moreMv a.states) := rfl
    constructor
    · intro i hi
      rw [Au.ends_get _ _ _ (by rw [either_states ha hb]; omega), Au.ends_get _ _ _ hi, e, List.any_append]
      have h0 : (b.moves.map (moreMv a.states)).any (fun m => m.fits t.name ((a.either b).endsL t.args) && decide (m.to_.toNat = i)) = false := by
        rw [List.any_eq_false]
        intro x hx
        obtain ⟨m, hm, rfl⟩ := List.mem_map.1 hx
        have := hb.to_ m hm
        intro h
        rw [Bool.and_eq_true] at h
        have h3 := of_decide_eq_true h.2
        simp only [moreMv] at h3
        omega
      rw [h0, Bool.or_false, Bool.eq_iff_iff, List.any_eq_true, List.any_eq_true]
      constructor <;> rintro ⟨m, hm, h⟩ <;> refine ⟨m, hm, ?_⟩
      · simpa [Mv.fits, k1 m hm] using h
      · simpa [Mv.fits, k1 m hm] using h
    · intro j hj
      rw [Au.ends_get _ _ _ (by rw [either_states ha hb]; omega), Au.ends_get _ _ _ hj, e, List.any_append]
      have h0 : a.moves.any (fun m => m.fits t.name ((a.either b).endsL t.args) && decide (m.to_.toNat = j + a.states.toNat)) = false := by
        rw [List.any_eq_false]
        intro m hm
        have := ha.to_ m hm
        simp only [Bool.and_eq_true, decide_eq_true_eq, not_and]
        intro _
        omega
      rw [h0, Bool.false_or, Bool.eq_iff_iff, List.any_eq_true, List.any_eq_true]
      have q : ∀ m ∈ b.moves, ((m.to_ + a.states).toNat = j + a.states.toNat ↔ m.to_.toNat = j) := fun m hm => by
        have := hb.to_ m hm
        omega
      constructor
      · rintro ⟨x, hx, h⟩
        obtain ⟨m, hm, rfl⟩ := List.mem_map.1 hx
        simp only [moreMv, Mv.fits, Bool.and_eq_true, decide_eq_true_eq, k2 m hm, q m hm] at h
        refine ⟨m, hm, ?_⟩
        simp only [Mv.fits, Bool.and_eq_true, decide_eq_true_eq]
        exact ⟨⟨of_decide_eq_true h.1.1, h.1.2⟩, h.2⟩
      · rintro ⟨m, hm, h⟩
        refine ⟨moreMv a.states m, List.mem_map.2 ⟨m, hm, rfl⟩, ?_⟩
        simp only [Mv.fits, Bool.and_eq_true, decide_eq_true_eq] at h
        simp only [moreMv, Mv.fits, Bool.and_eq_true, decide_eq_true_eq, k2 m hm, q m hm]
        exact ⟨⟨decide_eq_true h.1.1, h.1.2⟩, h.2⟩
theorem either_acc {a b : Au} (ha : a.Good) (hb : b.Good) (t : Tm) : (a.either b).acc t = (a.acc t || b.acc t) := by
  obtain ⟨h1, h2⟩ := either_ends ha hb _ t (Nat.lt_succ_self _)
  have hA := ha.states
  unfold Au.acc
  have e : (a.either b).last = a.last ++ b.last.map (· + a.states) := rfl
  rw [e, List.any_append]
  congr 1
  · rw [Bool.eq_iff_iff, List.any_eq_true, List.any_eq_true]
    constructor <;> rintro ⟨s, hs, h⟩ <;> refine ⟨s, hs, ?_⟩
    · have := ha.last s hs
      rwa [h1 _ (by omega)] at h
    · have := ha.last s hs
      rwa [h1 _ (by omega)]
  · rw [Bool.eq_iff_iff, List.any_eq_true, List.any_eq_true]
    have q : ∀ s ∈ b.last, (s + a.states).toNat = s.toNat + a.states.toNat ∧ s.toNat < b.states.toNat := fun s hs => by
      have := hb.last s hs
      omega
    constructor
    · rintro ⟨x, hx, h⟩
      obtain ⟨s, hs, rfl⟩ := List.mem_map.1 hx
      obtain ⟨q1, q2⟩ := q s hs
      rw [q1, h2 _ q2] at h
      exact ⟨s, hs, h⟩
    · rintro ⟨s, hs, h⟩
      obtain ⟨q1, q2⟩ := q s hs
      exact ⟨_, List.mem_map.2 ⟨s, hs, rfl⟩, by rw [q1, h2 _ q2]; exact h⟩

/-! ### these may be, too -/
theorem pair_range {i j A B : Int} (hi : 0 ≤ i ∧ i < A) (hj : 0 ≤ j ∧ j < B) : 0 ≤ i * B + j ∧ i * B + j < A * B := by
  have h1 : 0 ≤ i * B := Int.mul_nonneg hi.1 (by omega)
  have h2 : (i + 1) * B ≤ A * B := Int.mul_le_mul_of_nonneg_right (by omega) (by omega)
  rw [Int.add_mul] at h2
  omega
theorem bothFrm_range {m n : Mv} {A B : Int} (hm : ∀ s ∈ m.frm, 0 ≤ s ∧ s < A) (hn : ∀ s ∈ n.frm, 0 ≤ s ∧ s < B) : ∀ s ∈ bothFrm B m n, 0 ≤ s ∧ s < A * B := by
  intro s hs
  unfold bothFrm at hs
  rw [List.mem_iff_getElem] at hs
  obtain ⟨k, hk, rfl⟩ := hs
  rw [List.getElem_zipWith]
  exact pair_range (hm _ (List.getElem_mem _)) (hn _ (List.getElem_mem _))
theorem bothOf_length (B : Int) (m : Mv) (ns : List Mv) : (bothOf B m ns).length ≤ ns.length := by
  unfold bothOf
  rw [List.length_map]
  exact List.length_filter_le _ _
theorem bothAll_length (B : Int) : ∀ ms ns : List Mv, (bothAll B ms ns).length ≤ ms.length * ns.length
  | [], ns => by simp [bothAll]
  | m :: ms, ns => by
    have h1 := bothAll_length B ms ns
    have h2 := bothOf_length B m ns
    unfold bothAll at h1 ⊢
    rw [List.flatMap_cons, List.length_append, List.length_cons, Nat.add_mul]
    omega
theorem bothLast_length (B : Int) : ∀ ss ts : List Int, (bothLast B ss ts).length = ss.length * ts.length
  | [], ts => by simp [bothLast]
  | s :: ss, ts => by
    have h1 := bothLast_length B ss ts
    unfold bothLast at h1 ⊢
    rw [List.flatMap_cons, List.length_append, List.length_map, h1, List.length_cons, Nat.add_mul]
    omega
theorem both_may {a b : Au} (ha : a.may 8 40 = 0) (hb : b.may 8 40 = 0) : (a.both b).may 64 1600 = 0 := by
  have ga := Au.may_good ha
  have gb := Au.may_good hb
  obtain ⟨a1, a2, a3⟩ := Au.may_ok.1 ha
  obtain ⟨b1, b2, b3⟩ := Au.may_ok.1 hb
  refine Au.may_ok.2 ⟨⟨Int.mul_nonneg ga.states gb.states, ?_, ?_⟩, fun x hx => ?_, ?_⟩
  · have h1 : a.states * b.states ≤ 8 * b.states := Int.mul_le_mul_of_nonneg_right a1.2.1 gb.states
    show a.states * b.states ≤ 64
    omega
  · have h1 := bothAll_length b.states a.moves b.moves
    have h2 : a.moves.length * b.moves.length ≤ 40 * b.moves.length := Nat.mul_le_mul_right _ (by omega)
    show ((bothAll b.states a.moves b.moves).length : Int) ≤ 1600
    omega
  · obtain ⟨m, hm, n, hn, hmn, rfl⟩ := mem_bothAll.1 hx
    have q1 := Mv.err_ok.1 (a2 m hm)
    refine Mv.err_ok.2 ⟨q1.1, ?_, ?_, ?_⟩
    · simp only [bothMv, bothFrm, List.length_zipWith]
      omega
    · exact List.all_eq_true.2 fun s hs => inS_iff.2 (bothFrm_range (ga.frm m hm) (gb.frm n hn) s hs)
    · exact inS_iff.2 (pair_range (ga.to_ m hm) (gb.to_ n hn))
  · refine List.all_eq_true.2 fun x hx => inS_iff.2 ?_
    obtain ⟨s, hs, hx⟩ := List.mem_flatMap.1 hx
    obtain ⟨u, hu, rfl⟩ := List.mem_map.1 hx
    exact pair_range (ga.last s hs) (gb.last u hu)
theorem either_may {a b : Au} (ha : a.may 8 40 = 0) (hb : b.may 8 40 = 0) : (a.either b).may 64 1600 = 0 := by
  have ga := Au.may_good ha
  have gb := Au.may_good hb
  obtain ⟨a1, a2, a3⟩ := Au.may_ok.1 ha
  obtain ⟨b1, b2, b3⟩ := Au.may_ok.1 hb
  have e : (a.either b).states = a.states + b.states := rfl
  refine Au.may_ok.2 ⟨⟨by rw [e]; omega, by rw [e]; omega, ?_⟩, fun x hx => ?_, ?_⟩
  · simp only [Au.either, List.length_append, List.length_map]
    omega
  · rw [e]
    rcases List.mem_append.1 hx with hx | hx
    · have q := Mv.err_ok.1 (a2 x hx)
      refine Mv.err_ok.2 ⟨q.1, q.2.1, List.all_eq_true.2 fun s hs => inS_iff.2 ?_, inS_iff.2 ?_⟩
      · have := ga.frm x hx s hs
        omega
      · have := ga.to_ x hx
        omega
    · obtain ⟨m, hm, rfl⟩ := List.mem_map.1 hx
      have q := Mv.err_ok.1 (b2 m hm)
      refine Mv.err_ok.2 ⟨q.1, by simpa [moreMv] using q.2.1, List.all_eq_true.2 fun s hs => inS_iff.2 ?_, inS_iff.2 ?_⟩
      · obtain ⟨u, hu, rfl⟩ := List.mem_map.1 hs
        have := gb.frm m hm u hu
        omega
      · have := gb.to_ m hm
        simp only [moreMv]
        omega
  · rw [e]
    refine List.all_eq_true.2 fun x hx => inS_iff.2 ?_
    rcases List.mem_append.1 hx with hx | hx
    · have := ga.last x hx
      omega
    · obtain ⟨u, hu, rfl⟩ := List.mem_map.1 hx
      have := gb.last u hu
      omega
end Go.Proofs.Ytghjdcfoaackoaa
