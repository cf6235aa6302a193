/-
  Part 15 of the texts: PPath2; IrBoth; BBoth; IrOrder; POrder; BMet; BEnds. Conditions: none.
-/
import Derived.Test.YtpajlfdhmjgpnaaPathP14
namespace Go.Proofs.Ytpajlfdhmjgpnaa
open Go Go.RowKit
set_option linter.unusedVariables false

mutual
theorem Tm.knots_drop : ∀ (t : Tm) (i : Nat) (x : Tm), t.knots[i]? = some x → ∃ rest, t.knots.drop i = x.knots ++ rest
  | .mk n xs, i, x, h => by
    rw [Tm.knots] at h ⊢
    cases i with
    | zero =>
      rw [List.getElem?_cons_zero] at h
      cases h
      exact ⟨[], by rw [List.drop_zero, List.append_nil, Tm.knots]⟩
    | succ i =>
      rw [List.getElem?_cons_succ] at h
      rw [List.drop_succ_cons]
      exact Tm.knotsL_drop xs i x h
theorem Tm.knotsL_drop : ∀ (xs : List Tm) (i : Nat) (x : Tm), (Tm.knotsL xs)[i]? = some x → ∃ rest, (Tm.knotsL xs).drop i = x.knots ++ rest
  | [], i, x, h => by simp [Tm.knotsL] at h
  | t :: ts, i, x, h => by
    rw [Tm.knotsL] at h ⊢
    by_cases hi : i < t.knots.length
    · rw [List.getElem?_append_left hi] at h
      obtain ⟨rest, hr⟩ := Tm.knots_drop t i x h
      exact ⟨rest ++ Tm.knotsL ts, by rw [List.drop_append_of_le_length (by omega), hr, List.append_assoc]⟩
    · rw [List.getElem?_append_right (by omega)] at h
      obtain ⟨rest, hr⟩ := Tm.knotsL_drop ts _ x h
      exact ⟨rest, by rw [List.drop_append, List.drop_eq_nil_of_le (by omega), List.nil_append]; exact hr⟩
end
/-- Where the m-th one below a knot stands. -/
def kidAt (x : Tm) (i m : Nat) : Nat := i + 1 + Tm.sizes (x.args.take m)
theorem kidAt_zero (x : Tm) (i : Nat) : kidAt x i 0 = i + 1 := by unfold kidAt; simp [Tm.sizes]
theorem kidAt_succ {x c : Tm} {m : Nat} (i : Nat) (h : x.args[m]? = some c) : kidAt x i (m + 1) = kidAt x i m + c.size := by
  unfold kidAt
  rw [take_snoc h, Tm.sizes_append]
  simp only [Tm.sizes]
  omega
theorem kidAt_end (x : Tm) (i : Nat) : kidAt x i x.args.length = i + x.size := by
  unfold kidAt
  rw [List.take_length]
  cases x
  simp only [Tm.size, Tm.args_mk]
  omega
theorem kidAt_le (x : Tm) (i m : Nat) : kidAt x i m ≤ i + x.size := by
  by_cases h : x.args.length ≤ m
  · rw [← kidAt_end x i]
    unfold kidAt
    rw [List.take_of_length_le h, List.take_length]
    exact Nat.le_refl _
  · rw [← kidAt_end x i]
    unfold kidAt
    have e : x.args = x.args.take m ++ x.args.drop m := (List.take_append_drop _ _).symm
    rw [List.take_length]
    conv => rhs; rw [e, Tm.sizes_append]
    omega
theorem kid_gt (x : Tm) (i m : Nat) : i < kidAt x i m := by unfold kidAt; omega
theorem kid_lt {x : Tm} {i m : Nat} (h : m < x.args.length) : kidAt x i m < i + x.size := by
  have h1 : x.args[m]? = some x.args[m] := List.getElem?_eq_getElem h
  have h2 := kidAt_succ i h1
  have h3 := kidAt_le x i (m + 1)
  have : 0 < (x.args[m]).size := Tm.size_pos _
  omega
theorem knot_kid {t x c : Tm} {i m : Nat} (h : t.knots[i]? = some x) (hc : x.args[m]? = some c) : t.knots[kidAt x i m]? = some c := by
  obtain ⟨rest, hr⟩ := Tm.knots_drop t i x h
  have hm : m < x.args.length := (List.getElem?_eq_some_iff.1 hc).1
  have e : t.knots[kidAt x i m]? = (t.knots.drop i)[kidAt x i m - i]? := by
    rw [List.getElem?_drop]
    congr 1
    have := kid_gt x i m
    omega
  rw [e, hr, List.getElem?_append_left (by rw [Tm.knots_length]; have := kid_lt (i := i) hm; have := kid_gt x i m; omega)]
  have e2 : kidAt x i m - i = Tm.sizes (x.args.take m) + 1 := by unfold kidAt; omega
  rw [e2, Tm.knots_eq, List.getElem?_cons_succ]
  have e3 : x.args = x.args.take m ++ c :: x.args.drop (m + 1) := by
    have h1 := (List.getElem?_eq_some_iff.1 hc).2
    conv => lhs; rw [← List.take_append_drop m x.args, List.drop_eq_getElem_cons hm, h1]
  have e4 : Tm.knotsL x.args = Tm.knotsL (x.args.take m) ++ (c.knots ++ Tm.knotsL (x.args.drop (m + 1))) := by
    conv => lhs; rw [e3, Tm.knotsL_append, Tm.knotsL]
  rw [e4, List.getElem?_append_right (by rw [Tm.knotsL_length]; exact Nat.le_refl _), Tm.knotsL_length, Nat.sub_self, Tm.knots_eq]
  rfl
theorem knot_end {t x : Tm} {i : Nat} (h : t.knots[i]? = some x) : i + x.size ≤ t.size := by
  obtain ⟨rest, hr⟩ := Tm.knots_drop t i x h
  have h1 := congrArg List.length hr
  have hi : i < t.knots.length := (List.getElem?_eq_some_iff.1 h).1
  rw [List.length_drop, List.length_append, Tm.knots_length, Tm.knots_length] at h1
  rw [Tm.knots_length] at hi
  omega

/-! ### the order, decided -/
open Classical in
noncomputable def paB (row : List ByteArray) (a b : Tm) : Bool := decide (Pa row a b)
theorem paB_iff {row : List ByteArray} {a b : Tm} : paB row a b = true ↔ Pa row a b := by unfold paB; simp
theorem paB_no {row : List ByteArray} {a b : Tm} : paB row a b = false ↔ ¬ Pa row a b := by unfold paB; simp
theorem paB_var {row : List ByteArray} {a b : Tm} (h : isVar a.name = true) : paB row a b = false := paB_no.2 fun k => by have := k.fn; rw [h] at this; cases this
theorem paB_kid {row : List ByteArray} {a b x : Tm} (h : isVar a.name = false) (hx : x ∈ a.args) (k : x = b ∨ paB row x b = true) : paB row a b = true :=
  paB_iff.2 (pa_iff.2 ⟨h, .inl ⟨x, hx, k.imp id paB_iff.1⟩⟩)
/-- None below is it, or above it: what is left to look at. -/
theorem paB_rest {row : List ByteArray} {a b : Tm} (h : isVar a.name = false) (hno : ∀ x ∈ a.args, x ≠ b ∧ paB row x b = false) : Pa row a b ↔ (isVar b.name = false ∧ ¬ symI row a b < 0 ∧ (∀ y ∈ b.args, Pa row a y) ∧ (0 < symI row a b ∨ Lex (Pa row) a.args b.args)) := by
  rw [pa_iff]
  constructor
  · rintro ⟨_, ⟨x, hx, e | k⟩ | h⟩
    · exact absurd e (hno x hx).1
    · exact absurd k (paB_no.1 (hno x hx).2)
    · exact h
  · exact fun k => ⟨h, .inr k⟩
theorem paB_stop {row : List ByteArray} {a b : Tm} (h : isVar a.name = false) (hno : ∀ x ∈ a.args, x ≠ b ∧ paB row x b = false) (hs : isVar b.name = true ∨ symI row a b < 0 ∨ ∃ y ∈ b.args, paB row a y = false) : paB row a b = false := by
  rw [paB_no, paB_rest h hno]
  rintro ⟨h1, h2, h3, _⟩
  rcases hs with hs | hs | ⟨y, hy, k⟩
  · rw [h1] at hs; cases hs
  · exact h2 hs
  · exact paB_no.1 k (h3 y hy)
theorem paB_gt {row : List ByteArray} {a b : Tm} (h : isVar a.name = false) (hb : isVar b.name = false) (hs : 0 < symI row a b) (hall : ∀ y ∈ b.args, paB row a y = true) : paB row a b = true :=
  paB_iff.2 (.gt h hb hs fun y hy => paB_iff.1 (hall y hy))
theorem Lex.tail {R : Tm → Tm → Prop} : ∀ {xs ys : List Tm} {x y : Tm}, x ≠ y → Lex R (x :: xs) (y :: ys) → R x y
  | _, _, _, _, hne, .here _ h _ => h
  | _, _, _, _, hne, .on _ => absurd rfl hne
theorem Lex.same {R : Tm → Tm → Prop} : ∀ {xs ys : List Tm} {x : Tm}, Lex R (x :: xs) (x :: ys) → Lex R xs ys
  | _, _, _, .here hne _ _ => absurd rfl hne
  | _, _, _, .on h => h
theorem Lex.first {R : Tm → Tm → Prop} {x y : Tm} {us vs : List Tm} (hne : x ≠ y) : ∀ {p q : List Tm}, p = q → Lex R (p ++ x :: us) (q ++ y :: vs) → R x y
  | [], _, rfl, h => Lex.tail hne h
  | z :: p, _, rfl, h => Lex.first hne rfl (Lex.same h)
theorem split_at {xs : List Tm} {k : Nat} {x : Tm} (h : xs[k]? = some x) : xs = xs.take k ++ x :: xs.drop (k + 1) := by
  have hm : k < xs.length := (List.getElem?_eq_some_iff.1 h).1
  have h1 := (List.getElem?_eq_some_iff.1 h).2
  conv => lhs; rw [← List.take_append_drop k xs, List.drop_eq_getElem_cons hm, h1]
/-- The first place where two rows differ tells. -/
theorem paB_first {row : List ByteArray} {a b x y : Tm} {k : Nat} (h : isVar a.name = false) (hb : isVar b.name = false) (hno : ∀ x ∈ a.args, x ≠ b ∧ paB row x b = false) (hs : symI row a b = 0) (hall : ∀ y ∈ b.args, paB row a y = true) (hp : a.args.take k = b.args.take k) (hx : a.args[k]? = some x) (hy : b.args[k]? = some y) (hne : x ≠ y) : paB row a b = paB row x y := by
  cases hxy : paB row x y with
  | true => exact paB_iff.2 (.lex h hb hs (fun y hy => paB_iff.1 (hall y hy)) (split_at hx) ((split_at hy).trans (by rw [hp])) hne (paB_iff.1 hxy))
  | false =>
    rw [paB_no, paB_rest h hno]
    rintro ⟨_, _, _, k1 | k1⟩
    · omega
    · refine paB_no.1 hxy ?_
      rw [split_at hx, split_at hy] at k1
      exact Lex.first hne hp k1
/-- All the same below: not above. -/
theorem paB_same {row : List ByteArray} {a b : Tm} (h : isVar a.name = false) (hno : ∀ x ∈ a.args, x ≠ b ∧ paB row x b = false) (hs : symI row a b = 0) (he : a.args = b.args) : paB row a b = false := by
  rw [paB_no, paB_rest h hno]
  rintro ⟨_, _, _, k1 | k1⟩
  · omega
  · rw [he] at k1
    exact Lex.irrefl k1
end Go.Proofs.Ytpajlfdhmjgpnaa

namespace Go.Proofs.Ytpajlfdhmjgpnaa
open Go Go.RowKit
set_option maxRecDepth 100000

def ir_match_Both : IR :=
  (.seq
  (.ops
  [.mk (some 2) none (.box 24 (.t 0)) .no, .mk (some 3) none (.box 24 (.t 1)) .no, .mk (some 4) none (.mov (.c (.one (.st (.int .i64 0)))))
  .no])
  (.seq
  (.seq
  (.ops
  [.mk (some 6) none (.load true 2 (.t 2)) .no, .mk (some 7) none (.call 48 [.t 6]) .no, .mk (some 5) none (.mov (.t 7)) .no])
  (.seq
  (.ops
  [.mk (some 8) none (.mov (.t 5)) .no, .mk (some 9) none (.bin .neq (.t 8) (.c (.one (.st (.int .i64 0)))))
  .no])
  (.cond (.t 9)
  (.seq
  (.ops
  [.mk (some 10) none (.mov (.t 5)) .no, .mk (some 4) none (.mov (.t 10)) .no])
  .ret)
  .skip)))
  (.seq
  (.ops
  [.mk (some 11) none (.load true 2 (.t 3)) .no, .mk (some 12) none (.call 48 [.t 11]) .no, .mk (some 4) none (.mov (.t 12)) .no])
  .ret)))
theorem tr_match_Both : trCode Try.prog 13 [] (Try.f40.body.getD .skip) = some ir_match_Both := by kernel_rfl
theorem ac_match_Both {xs : List AV} {r : AV} (hn : xs.length ≤ 13) (h : ∀ C : Ctx, C.n = 13 → IWP Try.prog C [] ir_match_Both (FinQ [.t 4] r) (AS.start xs)) : ACalls Try.prog 40 xs r :=
  acalls_of Try.func40 rfl tr_match_Both rfl hn h
theorem acS_match_Both {xs : List AV} {S S' : AStore} {r : AV} (hn : xs.length ≤ 13) (h : Clean S → ∀ C : Ctx, C.n = 13 → IWP Try.prog C [] ir_match_Both (FinS C [.t 4] r S') (AS.startS xs S)) : ACallsS Try.prog 40 xs S r S' :=
  acallsS_of Try.func40 rfl tr_match_Both rfl hn h

end Go.Proofs.Ytpajlfdhmjgpnaa

namespace Go.Proofs.Ytpajlfdhmjgpnaa
open Go Go.RowKit
set_option linter.unusedVariables false
set_option linter.unusedSimpArgs false
set_option maxHeartbeats 800000

theorem both_a (a b : Tm) : ACalls Try.prog 40 [aTm a, aTm b] (aInt (twoMay a b)) := by
  refine ac_match_Both (Nat.le_of_ble_eq_true rfl) fun C hC => ?_
  unfold ir_match_Both
  repeat' (first | (with_reducible first | refine Wa ?_ | refine Wb ?_ | refine Wc ?_ | refine Wd ?_ | refine We ?_ | refine Wf ?_ | refine Wg ?_ | refine Wh ?_ | refine Wi ?_ | refine Wj ?_ | refine Wk (by decide) ?_ | refine Wl ?_ | refine Wm ?_ | refine Wn ?_) | ((with_reducible first | refine Wo (fun K hK => ?_) | refine Wp ?_ | refine Wq ?_ | refine Wr ?_); (try simp only [go_sem, List.forall_mem_nil, ↓guard_ite, ↓pick_ite, seval, encT_eq, inR_i64, decide_eq_true_eq, decide_eq_false_iff_not, Int.ofNat_lt]); (repeat with_reducible refine And.intro (by first | omega | (with_reducible first | exact lens_encT | exact lens_encL | exact lens_encB | exact lens_encP) | (simp; done) | (simp only [List.length_take, List.length_map, List.length_append, maxLen_eq]; omega)) ?_); (try (with_reducible refine hK _ ?_; clear hK K)); (try with_reducible refine ite_conj ?_)))
  refine ⟨_, checkT_a a, ?_⟩
  by_cases h : a.may = 0
  · repeat' (first | (with_reducible first | refine Wa ?_ | refine Wb ?_ | refine Wc ?_ | refine Wd ?_ | refine We ?_ | refine Wf ?_ | refine Wg ?_ | refine Wh ?_ | refine Wi ?_ | refine Wj ?_ | refine Wk (by decide) ?_ | refine Wl ?_ | refine Wm ?_ | refine Wn ?_) | refine CallG.mk _ (checkT_a b) ?_ | ((with_reducible first | refine Wo (fun K hK => ?_) | refine Wp ?_ | refine Wq ?_ | refine Wr ?_); (try simp only [go_sem, List.forall_mem_nil, ↓guard_ite, ↓pick_ite, seval, encT_eq, inR_i64, h, decide_eq_true_eq, decide_eq_false_iff_not, Int.ofNat_lt]); (repeat with_reducible refine And.intro (by first | omega | (with_reducible first | exact lens_encT | exact lens_encL | exact lens_encB | exact lens_encP) | (simp; done) | (simp only [List.length_take, List.length_map, List.length_append, maxLen_eq]; omega)) ?_); (try (with_reducible refine hK _ ?_; clear hK K)); (try with_reducible refine ite_conj ?_)))
    simp only [go_sem, List.forall_mem_nil, ↓guard_ite, ↓pick_ite, seval, FinQ, AS.result, resAll, resOne, tupV]
    unfold twoMay
    rw [if_pos h]
  · repeat' (first | (with_reducible first | refine Wa ?_ | refine Wb ?_ | refine Wc ?_ | refine Wd ?_ | refine We ?_ | refine Wf ?_ | refine Wg ?_ | refine Wh ?_ | refine Wi ?_ | refine Wj ?_ | refine Wk (by decide) ?_ | refine Wl ?_ | refine Wm ?_ | refine Wn ?_) | ((with_reducible first | refine Wo (fun K hK => ?_) | refine Wp ?_ | refine Wq ?_ | refine Wr ?_); (try simp only [go_sem, List.forall_mem_nil, ↓guard_ite, ↓pick_ite, seval, encT_eq, inR_i64, h, decide_eq_true_eq, decide_eq_false_iff_not, Int.ofNat_lt]); (repeat with_reducible refine And.intro (by first | omega | (with_reducible first | exact lens_encT | exact lens_encL | exact lens_encB | exact lens_encP) | (simp; done) | (simp only [List.length_take, List.length_map, List.length_append, maxLen_eq]; omega)) ?_); (try (with_reducible refine hK _ ?_; clear hK K)); (try with_reducible refine ite_conj ?_)))
    simp only [go_sem, List.forall_mem_nil, ↓guard_ite, ↓pick_ite, seval, FinQ, AS.result, resAll, resOne, tupV]
    unfold twoMay
    rw [if_neg h]
theorem twoMay_zero {a b : Tm} (h : twoMay a b = 0) : a.may = 0 ∧ b.may = 0 := by
  unfold twoMay at h
  split at h
  · rename_i h1
    exact ⟨h1, h⟩
  · rename_i h1
    exact absurd h h1
end Go.Proofs.Ytpajlfdhmjgpnaa

namespace Go.Proofs.Ytpajlfdhmjgpnaa
open Go Go.RowKit
set_option maxRecDepth 100000

def ir_term_Size : IR :=
  (.seq
  (.ops
  [.mk (some 1) none (.box 24 (.t 0)) .no, .mk (some 2) none (.mov (.c (.one (.st (.int .i64 0)))))
  .no])
  (.seq
  (.ops
  [.mk (some 3) none (.mov (.c (.one (.st (.int .i64 1)))))
  .no])
  (.seq
  (.seq
  (.ops
  [.mk (some 6) none (.fieldAddr 1 (.t 1)) .no, .mk (some 7) none (.load false 1 (.t 6)) .no, .mk (some 8) none (.len false (.t 7)) .no, .mk (some 9) none (.mov (.c (.one (.st (.int .i64 0)))))
  .no])
  (.block 0
  (.loop
  (.seq
  (.ops
  [.mk (some 10) none (.bin .lss (.t 9) (.t 8))
  .no])
  (.seq (.cond (.t 10) .skip (.exit 0))
  (.seq
  (.block 1
  (.seq
  (.ops
  [.mk (some 11) none (.indexAddr 2 (.t 7) (.t 9))
  .no, .mk (some 12) none (.load true 2 (.t 11)) .no, .mk (some 5) none
  (.alloc 24 [.st (.str (ByteArray.mk (#[]))), .full []])
  .no, .mk none none (.store 2 (.t 5) (.t 12))
  .no])
  (.ops
  [.mk (some 13) none (.mov (.t 3)) .no, .mk (some 14) none (.load true 2 (.t 5)) .no, .mk (some 15) none (.call 74 [.t 14]) .no, .mk (some 16) none (.bin .add (.t 13) (.t 15))
  .no, .mk (some 3) none (.mov (.t 16)) .no])))
  (.ops
  [.mk (some 17) none (.bin .add (.t 9) (.c (.one (.st (.int .i64 1)))))
  .no, .mk (some 9) none (.mov (.t 17)) .no])))))))
  (.seq
  (.ops
  [.mk (some 18) none (.mov (.t 3)) .no, .mk (some 2) none (.mov (.t 18)) .no])
  .ret))))
theorem tr_term_Size : trCode Try.prog 19 [] (Try.f74.body.getD .skip) = some ir_term_Size := by kernel_rfl
theorem ac_term_Size {xs : List AV} {r : AV} (hn : xs.length ≤ 19) (h : ∀ C : Ctx, C.n = 19 → IWP Try.prog C [] ir_term_Size (FinQ [.t 2] r) (AS.start xs)) : ACalls Try.prog 74 xs r :=
  acalls_of Try.func74 rfl tr_term_Size rfl hn h
theorem acS_term_Size {xs : List AV} {S S' : AStore} {r : AV} (hn : xs.length ≤ 19) (h : Clean S → ∀ C : Ctx, C.n = 19 → IWP Try.prog C [] ir_term_Size (FinS C [.t 2] r S') (AS.startS xs S)) : ACallsS Try.prog 74 xs S r S' :=
  acallsS_of Try.func74 rfl tr_term_Size rfl hn h

def ir_slices_Index_string_stringR : IR :=
  (.seq
  (.ops
  [.mk (some 4) none (.mov (.c (.one (.st (.int .i64 0)))))
  .no])
  (.seq
  (.seq
  (.ops
  [.mk (some 6) none (.mov (.t 0)) .no, .mk (some 7) none (.len false (.t 6)) .no, .mk (some 8) none (.mov (.c (.one (.st (.int .i64 0)))))
  .no])
  (.block 0
  (.loop
  (.seq
  (.ops
  [.mk (some 9) none (.bin .lss (.t 8) (.t 7))
  .no])
  (.seq (.cond (.t 9) .skip (.exit 0))
  (.seq
  (.block 1
  (.seq
  (.ops
  [.mk (some 10) none (.mov (.t 8)) .no, .mk (some 5) none (.mov (.t 10)) .no])
  (.seq
  (.ops
  [.mk (some 11) none (.mov (.t 1)) .no, .mk (some 12) none (.mov (.t 0)) .no, .mk (some 13) none (.mov (.t 5)) .no, .mk (some 14) none (.indexAddr 1 (.t 12) (.t 13))
  .no, .mk (some 15) none (.load false 1 (.t 14)) .no, .mk (some 16) none (.bin .eql (.t 11) (.t 15))
  .no])
  (.cond (.t 16)
  (.seq
  (.ops
  [.mk (some 17) none (.mov (.t 5)) .no, .mk (some 4) none (.mov (.t 17)) .no])
  .ret)
  .skip))))
  (.ops
  [.mk (some 18) none (.bin .add (.t 8) (.c (.one (.st (.int .i64 1)))))
  .no, .mk (some 8) none (.mov (.t 18)) .no])))))))
  (.seq
  (.ops
  [.mk (some 4) none (.mov (.c (.one (.st (.int .i64 (-1))))))
  .no])
  .ret)))
theorem tr_slices_Index_string_stringR : trCode Try.prog 19 [] (Try.f78.body.getD .skip) = some ir_slices_Index_string_stringR := by kernel_rfl
theorem ac_slices_Index_string_stringR {xs : List AV} {r : AV} (hn : xs.length ≤ 19) (h : ∀ C : Ctx, C.n = 19 → IWP Try.prog C [] ir_slices_Index_string_stringR (FinQ [.t 4] r) (AS.start xs)) : ACalls Try.prog 78 xs r :=
  acalls_of Try.func78 rfl tr_slices_Index_string_stringR rfl hn h
theorem acS_slices_Index_string_stringR {xs : List AV} {S S' : AStore} {r : AV} (hn : xs.length ≤ 19) (h : Clean S → ∀ C : Ctx, C.n = 19 → IWP Try.prog C [] ir_slices_Index_string_stringR (FinS C [.t 4] r S') (AS.startS xs S)) : ACallsS Try.prog 78 xs S r S' :=
  acallsS_of Try.func78 rfl tr_slices_Index_string_stringR rfl hn h

def ir_cmp_isNaN_int : IR :=
  (.seq
  (.ops
  [.mk (some 2) none (.mov (.c (.one (.st (.bool false)))))
  .no])
  (.seq
  (.ops
  [.mk (some 3) none (.mov (.t 0)) .no, .mk (some 4) none (.mov (.t 0)) .no, .mk (some 5) none (.bin .neq (.t 3) (.t 4)) .no, .mk (some 2) none (.mov (.t 5)) .no])
  .ret))
theorem tr_cmp_isNaN_int : trCode Try.prog 6 [] (Try.f92.body.getD .skip) = some ir_cmp_isNaN_int := by kernel_rfl
theorem ac_cmp_isNaN_int {xs : List AV} {r : AV} (hn : xs.length ≤ 6) (h : ∀ C : Ctx, C.n = 6 → IWP Try.prog C [] ir_cmp_isNaN_int (FinQ [.t 2] r) (AS.start xs)) : ACalls Try.prog 92 xs r :=
  acalls_of Try.func92 rfl tr_cmp_isNaN_int rfl hn h
theorem acS_cmp_isNaN_int {xs : List AV} {S S' : AStore} {r : AV} (hn : xs.length ≤ 6) (h : Clean S → ∀ C : Ctx, C.n = 6 → IWP Try.prog C [] ir_cmp_isNaN_int (FinS C [.t 2] r S') (AS.startS xs S)) : ACallsS Try.prog 92 xs S r S' :=
  acallsS_of Try.func92 rfl tr_cmp_isNaN_int rfl hn h

def ir_cmp_Compare_int : IR :=
  (.seq
  (.ops
  [.mk (some 4) none (.mov (.c (.one (.st (.int .i64 0)))))
  .no])
  (.seq
  (.ops
  [.mk (some 7) none (.mov (.t 0)) .no, .mk (some 8) none (.call 92 [.t 7]) .no, .mk (some 5) none (.mov (.t 8)) .no])
  (.seq
  (.ops
  [.mk (some 9) none (.mov (.t 1)) .no, .mk (some 10) none (.call 92 [.t 9]) .no, .mk (some 6) none (.mov (.t 10)) .no])
  (.seq
  (.seq
  (.ops [.mk (some 11) none (.mov (.t 5)) .no])
  (.cond (.t 11)
  (.seq
  (.seq
  (.ops [.mk (some 12) none (.mov (.t 6)) .no])
  (.cond (.t 12)
  (.seq
  (.ops
  [.mk (some 4) none (.mov (.c (.one (.st (.int .i64 0)))))
  .no])
  .ret)
  .skip))
  (.seq
  (.ops
  [.mk (some 4) none (.mov (.c (.one (.st (.int .i64 (-1))))))
  .no])
  .ret))
  .skip))
  (.seq
  (.seq
  (.ops [.mk (some 13) none (.mov (.t 6)) .no])
  (.cond (.t 13)
  (.seq
  (.ops
  [.mk (some 4) none (.mov (.c (.one (.st (.int .i64 1)))))
  .no])
  .ret)
  .skip))
  (.seq
  (.seq
  (.ops
  [.mk (some 14) none (.mov (.t 0)) .no, .mk (some 15) none (.mov (.t 1)) .no, .mk (some 16) none (.bin .lss (.t 14) (.t 15))
  .no])
  (.cond (.t 16)
  (.seq
  (.ops
  [.mk (some 4) none (.mov (.c (.one (.st (.int .i64 (-1))))))
  .no])
  .ret)
  .skip))
  (.seq
  (.seq
  (.ops
  [.mk (some 17) none (.mov (.t 0)) .no, .mk (some 18) none (.mov (.t 1)) .no, .mk (some 19) none (.bin .gtr (.t 17) (.t 18))
  .no])
  (.cond (.t 19)
  (.seq
  (.ops
  [.mk (some 4) none (.mov (.c (.one (.st (.int .i64 1)))))
  .no])
  .ret)
  .skip))
  (.seq
  (.ops
  [.mk (some 4) none (.mov (.c (.one (.st (.int .i64 0)))))
  .no])
  .ret))))))))
theorem tr_cmp_Compare_int : trCode Try.prog 20 [] (Try.f85.body.getD .skip) = some ir_cmp_Compare_int := by kernel_rfl
theorem ac_cmp_Compare_int {xs : List AV} {r : AV} (hn : xs.length ≤ 20) (h : ∀ C : Ctx, C.n = 20 → IWP Try.prog C [] ir_cmp_Compare_int (FinQ [.t 4] r) (AS.start xs)) : ACalls Try.prog 85 xs r :=
  acalls_of Try.func85 rfl tr_cmp_Compare_int rfl hn h
theorem acS_cmp_Compare_int {xs : List AV} {S S' : AStore} {r : AV} (hn : xs.length ≤ 20) (h : Clean S → ∀ C : Ctx, C.n = 20 → IWP Try.prog C [] ir_cmp_Compare_int (FinS C [.t 4] r S') (AS.startS xs S)) : ACallsS Try.prog 85 xs S r S' :=
  acallsS_of Try.func85 rfl tr_cmp_Compare_int rfl hn h

def ir_cmp_Or_int : IR :=
  (.seq
  (.ops
  [.mk (some 2) none (.mov (.c (.one (.st (.int .i64 0)))))
  .no])
  (.seq
  (.ops
  [.mk (some 3) none (.mov (.c (.one (.st (.int .i64 0)))))
  .no])
  (.seq
  (.seq
  (.ops
  [.mk (some 6) none (.mov (.t 0)) .no, .mk (some 7) none (.len false (.t 6)) .no, .mk (some 8) none (.mov (.c (.one (.st (.int .i64 0)))))
  .no])
  (.block 0
  (.loop
  (.seq
  (.ops
  [.mk (some 9) none (.bin .lss (.t 8) (.t 7))
  .no])
  (.seq (.cond (.t 9) .skip (.exit 0))
  (.seq
  (.block 1
  (.seq
  (.ops
  [.mk (some 10) none (.indexAddr 1 (.t 6) (.t 8))
  .no, .mk (some 11) none (.load false 1 (.t 10)) .no, .mk (some 5) none (.mov (.t 11)) .no])
  (.seq
  (.ops
  [.mk (some 12) none (.mov (.t 5)) .no, .mk (some 13) none (.mov (.t 3)) .no, .mk (some 14) none (.bin .neq (.t 12) (.t 13))
  .no])
  (.cond (.t 14)
  (.seq
  (.ops
  [.mk (some 15) none (.mov (.t 5)) .no, .mk (some 2) none (.mov (.t 15)) .no])
  .ret)
  .skip))))
  (.ops
  [.mk (some 16) none (.bin .add (.t 8) (.c (.one (.st (.int .i64 1)))))
  .no, .mk (some 8) none (.mov (.t 16)) .no])))))))
  (.seq
  (.ops
  [.mk (some 17) none (.mov (.t 3)) .no, .mk (some 2) none (.mov (.t 17)) .no])
  .ret))))
theorem tr_cmp_Or_int : trCode Try.prog 18 [] (Try.f84.body.getD .skip) = some ir_cmp_Or_int := by kernel_rfl
theorem ac_cmp_Or_int {xs : List AV} {r : AV} (hn : xs.length ≤ 18) (h : ∀ C : Ctx, C.n = 18 → IWP Try.prog C [] ir_cmp_Or_int (FinQ [.t 2] r) (AS.start xs)) : ACalls Try.prog 84 xs r :=
  acalls_of Try.func84 rfl tr_cmp_Or_int rfl hn h
theorem acS_cmp_Or_int {xs : List AV} {S S' : AStore} {r : AV} (hn : xs.length ≤ 18) (h : Clean S → ∀ C : Ctx, C.n = 18 → IWP Try.prog C [] ir_cmp_Or_int (FinS C [.t 2] r S') (AS.startS xs S)) : ACallsS Try.prog 84 xs S r S' :=
  acallsS_of Try.func84 rfl tr_cmp_Or_int rfl hn h

def ir_order_symbols : IR :=
  (.seq
  (.ops
  [.mk (some 4) none (.box 24 (.t 1)) .no, .mk (some 5) none (.box 24 (.t 2)) .no, .mk (some 6) none (.mov (.c (.one (.st (.int .i64 0)))))
  .no])
  (.seq
  (.ops
  [.mk (some 7) none (.mov (.t 0)) .no, .mk (some 8) none (.fieldAddr 0 (.t 4)) .no, .mk (some 9) none (.load false 1 (.t 8)) .no, .mk (some 10) none (.call 78 [.t 7, .t 9]) .no, .mk (some 11) none (.mov (.t 0)) .no, .mk (some 12) none (.fieldAddr 0 (.t 5)) .no, .mk (some 13) none (.load false 1 (.t 12)) .no, .mk (some 14) none (.call 78 [.t 11, .t 13]) .no, .mk (some 15) none (.call 85 [.t 10, .t 14]) .no, .mk (some 16) none (.fieldAddr 0 (.t 4)) .no, .mk (some 17) none (.load false 1 (.t 16)) .no, .mk (some 18) none (.fieldAddr 0 (.t 5)) .no, .mk (some 19) none (.load false 1 (.t 18)) .no, .mk (some 20) none (.call 81 [.t 17, .t 19]) .no, .mk (some 21) none (.fieldAddr 1 (.t 4)) .no, .mk (some 22) none (.load false 1 (.t 21)) .no, .mk (some 23) none (.len false (.t 22)) .no, .mk (some 24) none (.fieldAddr 1 (.t 5)) .no, .mk (some 25) none (.load false 1 (.t 24)) .no, .mk (some 26) none (.len false (.t 25)) .no, .mk (some 27) none (.call 85 [.t 23, .t 26]) .no, .mk (some 28) none (.buildFlat [.t 15, .t 20, .t 27])
  .no, .mk (some 29) none (.call 84 [.t 28]) .no, .mk (some 6) none (.mov (.t 29)) .no])
  .ret))
theorem tr_order_symbols : trCode Try.prog 30 [] (Try.f75.body.getD .skip) = some ir_order_symbols := by kernel_rfl
theorem ac_order_symbols {xs : List AV} {r : AV} (hn : xs.length ≤ 30) (h : ∀ C : Ctx, C.n = 30 → IWP Try.prog C [] ir_order_symbols (FinQ [.t 6] r) (AS.start xs)) : ACalls Try.prog 75 xs r :=
  acalls_of Try.func75 rfl tr_order_symbols rfl hn h
theorem acS_order_symbols {xs : List AV} {S S' : AStore} {r : AV} (hn : xs.length ≤ 30) (h : Clean S → ∀ C : Ctx, C.n = 30 → IWP Try.prog C [] ir_order_symbols (FinS C [.t 6] r S') (AS.startS xs S)) : ACallsS Try.prog 75 xs S r S' :=
  acallsS_of Try.func75 rfl tr_order_symbols rfl hn h

def ir_order_Check : IR :=
  (.seq
  (.ops
  [.mk (some 2) none (.mov (.c (.one (.st (.int .i64 0)))))
  .no])
  (.seq
  (.seq
  (.ops
  [.mk (some 5) none (.mov (.t 0)) .no, .mk (some 6) none (.len false (.t 5)) .no, .mk (some 7) none (.bin .gtr (.t 6) (.c (.one (.st (.int .i64 40)))))
  .no])
  (.cond (.t 7)
  (.seq
  (.ops
  [.mk (some 2) none (.mov (.c (.one (.st (.int .i64 3)))))
  .no])
  .ret)
  .skip))
  (.seq
  (.seq
  (.ops
  [.mk (some 8) none (.mov (.t 0)) .no, .mk (some 9) none (.len false (.t 8)) .no, .mk (some 10) none (.mov (.c (.one (.st (.int .i64 0)))))
  .no])
  (.block 0
  (.loop
  (.seq
  (.ops
  [.mk (some 11) none (.bin .lss (.t 10) (.t 9))
  .no])
  (.seq (.cond (.t 11) .skip (.exit 0))
  (.seq
  (.block 1
  (.seq
  (.ops
  [.mk (some 12) none (.mov (.t 10)) .no, .mk (some 13) none (.indexAddr 1 (.t 8) (.t 10))
  .no, .mk (some 14) none (.load false 1 (.t 13)) .no, .mk (some 3) none (.mov (.t 12)) .no, .mk (some 4) none (.mov (.t 14)) .no])
  (.seq
  (.seq
  (.ops
  [.mk (some 15) none (.mov (.t 4)) .no, .mk (some 16) none (.call 60 [.t 15]) .no, .mk (some 17) none (.un .not (.t 16)) .no, .mk (some 18) none (.mov (.t 17)) .no, .mk (some 19) (some (18, false)) (.mov (.t 4)) .no, .mk (some 20) (some (18, false)) (.call 61 [.t 19]) .no, .mk (some 21) none
  (.pick (.t 18) (.c (.one (.st (.bool true)))) (.t 20))
  .no])
  (.cond (.t 21)
  (.seq
  (.ops
  [.mk (some 2) none (.mov (.c (.one (.st (.int .i64 1)))))
  .no])
  .ret)
  .skip))
  (.seq
  (.ops
  [.mk (some 22) none (.mov (.t 0)) .no, .mk (some 23) none (.mov (.t 3)) .no, .mk (some 24) none
  (.sliceL 1 (.t 22) none (some (.t 23))) .no, .mk (some 25) none (.mov (.t 4)) .no, .mk (some 26) none (.call 62 [.t 24, .t 25])
  .no])
  (.cond (.t 26)
  (.seq
  (.ops
  [.mk (some 2) none (.mov (.c (.one (.st (.int .i64 4)))))
  .no])
  .ret)
  .skip)))))
  (.ops
  [.mk (some 27) none (.bin .add (.t 10) (.c (.one (.st (.int .i64 1)))))
  .no, .mk (some 10) none (.mov (.t 27)) .no])))))))
  (.seq
  (.ops
  [.mk (some 2) none (.mov (.c (.one (.st (.int .i64 0)))))
  .no])
  .ret))))
theorem tr_order_Check : trCode Try.prog 28 [] (Try.f33.body.getD .skip) = some ir_order_Check := by kernel_rfl
theorem ac_order_Check {xs : List AV} {r : AV} (hn : xs.length ≤ 28) (h : ∀ C : Ctx, C.n = 28 → IWP Try.prog C [] ir_order_Check (FinQ [.t 2] r) (AS.start xs)) : ACalls Try.prog 33 xs r :=
  acalls_of Try.func33 rfl tr_order_Check rfl hn h
theorem acS_order_Check {xs : List AV} {S S' : AStore} {r : AV} (hn : xs.length ≤ 28) (h : Clean S → ∀ C : Ctx, C.n = 28 → IWP Try.prog C [] ir_order_Check (FinS C [.t 2] r S') (AS.startS xs S)) : ACallsS Try.prog 33 xs S r S' :=
  acallsS_of Try.func33 rfl tr_order_Check rfl hn h

def ir_order_args : IR :=
  (.seq
  (.ops
  [.mk (some 4) none (.box 24 (.t 1)) .no, .mk (some 5) none (.box 24 (.t 2)) .no, .mk (some 6) none (.mov (.c (.one (.st (.int .i64 0)))))
  .no])
  (.seq
  (.seq
  (.ops
  [.mk (some 8) none (.mov (.t 0)) .no, .mk (some 9) none (.call 33 [.t 8]) .no, .mk (some 7) none (.mov (.t 9)) .no])
  (.seq
  (.ops
  [.mk (some 10) none (.mov (.t 7)) .no, .mk (some 11) none (.bin .neq (.t 10) (.c (.one (.st (.int .i64 0)))))
  .no])
  (.cond (.t 11)
  (.seq
  (.ops
  [.mk (some 12) none (.mov (.t 7)) .no, .mk (some 6) none (.mov (.t 12)) .no])
  .ret)
  .skip)))
  (.seq
  (.ops
  [.mk (some 13) none (.load true 2 (.t 4)) .no, .mk (some 14) none (.load true 2 (.t 5)) .no, .mk (some 15) none (.call 40 [.t 13, .t 14]) .no, .mk (some 6) none (.mov (.t 15)) .no])
  .ret)))
theorem tr_order_args : trCode Try.prog 16 [] (Try.f57.body.getD .skip) = some ir_order_args := by kernel_rfl
theorem ac_order_args {xs : List AV} {r : AV} (hn : xs.length ≤ 16) (h : ∀ C : Ctx, C.n = 16 → IWP Try.prog C [] ir_order_args (FinQ [.t 6] r) (AS.start xs)) : ACalls Try.prog 57 xs r :=
  acalls_of Try.func57 rfl tr_order_args rfl hn h
theorem acS_order_args {xs : List AV} {S S' : AStore} {r : AV} (hn : xs.length ≤ 16) (h : Clean S → ∀ C : Ctx, C.n = 16 → IWP Try.prog C [] ir_order_args (FinS C [.t 6] r S') (AS.startS xs S)) : ACallsS Try.prog 57 xs S r S' :=
  acallsS_of Try.func57 rfl tr_order_args rfl hn h

def ir_order_count : IR :=
  (.seq
  (.ops [.mk (some 3) none (.box 24 (.t 0)) .no])
  (.seq
  (.seq
  (.ops
  [.mk (some 8) none (.fieldAddr 0 (.t 3)) .no, .mk (some 9) none (.load false 1 (.t 8)) .no, .mk (some 10) none (.call 61 [.t 9]) .no])
  (.cond (.t 10)
  (.ops
  [.mk (some 11) none (.mov (.t 1)) .no, .mk (some 12) none (.fieldAddr 0 (.t 3)) .no, .mk (some 13) none (.load false 1 (.t 12)) .no, .mk (some 14) none
  (.lookup none false (.one (.st (.int .i64 0))) (.t 11) (.t 13))
  .no, .mk (some 15) none (.mov (.t 2)) .no, .mk (some 16) none (.bin .add (.t 14) (.t 15))
  .no, .mk none none
  (.mapSet none (.t 11) (.t 13) (.t 16)) .no])
  .skip))
  (.seq
  (.ops
  [.mk (some 17) none (.fieldAddr 1 (.t 3)) .no, .mk (some 18) none (.load false 1 (.t 17)) .no, .mk (some 19) none (.len false (.t 18)) .no, .mk (some 20) none (.mov (.c (.one (.st (.int .i64 0)))))
  .no])
  (.block 0
  (.loop
  (.seq
  (.ops
  [.mk (some 21) none (.bin .lss (.t 20) (.t 19))
  .no])
  (.seq (.cond (.t 21) .skip (.exit 0))
  (.seq
  (.block 1
  (.seq
  (.ops
  [.mk (some 22) none (.indexAddr 2 (.t 18) (.t 20))
  .no, .mk (some 23) none (.load true 2 (.t 22)) .no, .mk (some 7) none
  (.alloc 24 [.st (.str (ByteArray.mk (#[]))), .full []])
  .no, .mk none none (.store 2 (.t 7) (.t 23))
  .no])
  (.ops
  [.mk (some 24) none (.load true 2 (.t 7)) .no, .mk (some 25) none (.mov (.t 1)) .no, .mk (some 26) none (.mov (.t 2)) .no, .mk (some 27) none
  (.callS 73 [.t 24, .t 25, .t 26]) .no])))
  (.ops
  [.mk (some 28) none (.bin .add (.t 20) (.c (.one (.st (.int .i64 1)))))
  .no, .mk (some 20) none (.mov (.t 28)) .no])))))))))
theorem tr_order_count : trCode Try.prog 29 [27] (Try.f73.body.getD .skip) = some ir_order_count := by kernel_rfl
theorem ac_order_count {xs : List AV} {r : AV} (hn : xs.length ≤ 29) (h : ∀ C : Ctx, C.n = 29 → IWP Try.prog C [27] ir_order_count (FinQ [] r) (AS.start xs)) : ACalls Try.prog 73 xs r :=
  acalls_of Try.func73 rfl tr_order_count rfl hn h
theorem acS_order_count {xs : List AV} {S S' : AStore} {r : AV} (hn : xs.length ≤ 29) (h : Clean S → ∀ C : Ctx, C.n = 29 → IWP Try.prog C [27] ir_order_count (FinS C [] r S') (AS.startS xs S)) : ACallsS Try.prog 73 xs S r S' :=
  acallsS_of Try.func73 rfl tr_order_count rfl hn h

def ir_order_heavier : IR :=
  (.seq
  (.ops
  [.mk (some 4) none (.box 24 (.t 1)) .no, .mk (some 5) none (.box 24 (.t 2)) .no, .mk (some 6) none (.mov (.c (.one (.st (.bool false)))))
  .no])
  (.seq
  (.ops
  [.mk (some 13) none (.makeMap none) .no, .mk (some 7) none (.mov (.t 13)) .no])
  (.seq
  (.ops
  [.mk (some 14) none (.load true 2 (.t 4)) .no, .mk (some 15) none (.mov (.t 7)) .no, .mk (some 16) none
  (.callS 73
  [.t 14, .t 15, .c (.one (.st (.int .i64 1)))])
  .no])
  (.seq
  (.ops
  [.mk (some 17) none (.load true 2 (.t 5)) .no, .mk (some 18) none (.mov (.t 7)) .no, .mk (some 19) none
  (.callS 73
  [.t 17, .t 18, .c (.one (.st (.int .i64 (-1))))])
  .no])
  (.seq
  (.seq
  (.ops
  [.mk (some 20) none (.mov (.t 7)) .no, .mk (some 21) none (.rangeM (.t 20)) .no])
  (.block 0
  (.loop
  (.seq
  (.ops
  [.mk (some 22) none (.next (.t 21)) .no, .mk (some 23) none (.extract 0 (.t 22)) .no])
  (.seq (.cond (.t 23) .skip (.exit 0))
  (.block 1
  (.seq
  (.ops
  [.mk (some 24) none (.entry (.t 21)) .no, .mk (some 25) none (.extract 1 (.t 24)) .no, .mk (some 9) none (.mov (.t 25)) .no])
  (.seq
  (.ops
  [.mk (some 26) none (.mov (.t 9)) .no, .mk (some 27) none (.bin .lss (.t 26) (.c (.one (.st (.int .i64 0)))))
  .no])
  (.cond (.t 27)
  (.seq
  (.ops
  [.mk (some 6) none (.mov (.c (.one (.st (.bool false)))))
  .no])
  .ret)
  .skip)))))))))
  (.seq
  (.seq
  (.ops
  [.mk (some 28) none (.load true 2 (.t 4)) .no, .mk (some 29) none (.call 74 [.t 28]) .no, .mk (some 30) none (.load true 2 (.t 5)) .no, .mk (some 31) none (.call 74 [.t 30]) .no, .mk (some 32) none (.bin .sub (.t 29) (.t 31))
  .no, .mk (some 10) none (.mov (.t 32)) .no])
  (.seq
  (.ops
  [.mk (some 33) none (.mov (.t 10)) .no, .mk (some 34) none (.bin .neq (.t 33) (.c (.one (.st (.int .i64 0)))))
  .no])
  (.cond (.t 34)
  (.seq
  (.ops
  [.mk (some 35) none (.mov (.t 10)) .no, .mk (some 36) none (.bin .gtr (.t 35) (.c (.one (.st (.int .i64 0)))))
  .no, .mk (some 6) none (.mov (.t 36)) .no])
  .ret)
  .skip)))
  (.seq
  (.seq
  (.ops
  [.mk (some 37) none (.fieldAddr 0 (.t 4)) .no, .mk (some 38) none (.load false 1 (.t 37)) .no, .mk (some 39) none (.call 61 [.t 38]) .no, .mk (some 40) none (.mov (.t 39)) .no, .mk (some 41) (some (40, false)) (.fieldAddr 0 (.t 5)) .no, .mk (some 42) (some (40, false)) (.load false 1 (.t 41)) .no, .mk (some 43) (some (40, false)) (.call 61 [.t 42]) .no, .mk (some 44) none
  (.pick (.t 40) (.c (.one (.st (.bool true)))) (.t 43))
  .no])
  (.cond (.t 44)
  (.seq
  (.ops
  [.mk (some 6) none (.mov (.c (.one (.st (.bool false)))))
  .no])
  .ret)
  .skip))
  (.seq
  (.seq
  (.ops
  [.mk (some 45) none (.mov (.t 0)) .no, .mk (some 46) none (.load true 2 (.t 4)) .no, .mk (some 47) none (.load true 2 (.t 5)) .no, .mk (some 48) none (.call 75 [.t 45, .t 46, .t 47]) .no, .mk (some 11) none (.mov (.t 48)) .no])
  (.seq
  (.ops
  [.mk (some 49) none (.mov (.t 11)) .no, .mk (some 50) none (.bin .neq (.t 49) (.c (.one (.st (.int .i64 0)))))
  .no])
  (.cond (.t 50)
  (.seq
  (.ops
  [.mk (some 51) none (.mov (.t 11)) .no, .mk (some 52) none (.bin .gtr (.t 51) (.c (.one (.st (.int .i64 0)))))
  .no, .mk (some 6) none (.mov (.t 52)) .no])
  .ret)
  .skip)))
  (.seq
  (.seq
  (.ops
  [.mk (some 53) none (.fieldAddr 1 (.t 4)) .no, .mk (some 54) none (.load false 1 (.t 53)) .no, .mk (some 55) none (.len false (.t 54)) .no, .mk (some 56) none (.mov (.c (.one (.st (.int .i64 0)))))
  .no])
  (.block 2
  (.loop
  (.seq
  (.ops
  [.mk (some 57) none (.bin .lss (.t 56) (.t 55))
  .no])
  (.seq (.cond (.t 57) .skip (.exit 2))
  (.seq
  (.block 3
  (.seq
  (.ops
  [.mk (some 58) none (.mov (.t 56)) .no, .mk (some 12) none (.mov (.t 58)) .no])
  (.seq
  (.ops
  [.mk (some 59) none (.fieldAddr 1 (.t 4)) .no, .mk (some 60) none (.load false 1 (.t 59)) .no, .mk (some 61) none (.mov (.t 12)) .no, .mk (some 62) none (.indexAddr 2 (.t 60) (.t 61))
  .no, .mk (some 63) none (.load true 2 (.t 62)) .no, .mk (some 64) none (.fieldAddr 1 (.t 5)) .no, .mk (some 65) none (.load false 1 (.t 64)) .no, .mk (some 66) none (.mov (.t 12)) .no, .mk (some 67) none (.indexAddr 2 (.t 65) (.t 66))
  .no, .mk (some 68) none (.load true 2 (.t 67)) .no, .mk (some 69) none (.call 76 [.t 63, .t 68])
  .no, .mk (some 70) none (.un .not (.t 69)) .no])
  (.cond (.t 70)
  (.seq
  (.ops
  [.mk (some 71) none (.mov (.t 0)) .no, .mk (some 72) none (.fieldAddr 1 (.t 4)) .no, .mk (some 73) none (.load false 1 (.t 72))
  .no, .mk (some 74) none (.mov (.t 12)) .no, .mk (some 75) none (.indexAddr 2 (.t 73) (.t 74))
  .no, .mk (some 76) none (.load true 2 (.t 75)) .no, .mk (some 77) none (.fieldAddr 1 (.t 5)) .no, .mk (some 78) none (.load false 1 (.t 77))
  .no, .mk (some 79) none (.mov (.t 12)) .no, .mk (some 80) none (.indexAddr 2 (.t 78) (.t 79))
  .no, .mk (some 81) none (.load true 2 (.t 80)) .no, .mk (some 82) none (.call 59 [.t 71, .t 76, .t 81])
  .no, .mk (some 6) none (.mov (.t 82)) .no])
  .ret)
  .skip))))
  (.ops
  [.mk (some 83) none (.bin .add (.t 56) (.c (.one (.st (.int .i64 1)))))
  .no, .mk (some 56) none (.mov (.t 83)) .no])))))))
  (.seq
  (.ops
  [.mk (some 6) none (.mov (.c (.one (.st (.bool false)))))
  .no])
  .ret))))))))))
theorem tr_order_heavier : trCode Try.prog 84 [16, 19] (Try.f59.body.getD .skip) = some ir_order_heavier := by kernel_rfl
theorem ac_order_heavier {xs : List AV} {r : AV} (hn : xs.length ≤ 84) (h : ∀ C : Ctx, C.n = 84 → IWP Try.prog C [16, 19] ir_order_heavier (FinQ [.t 6] r) (AS.start xs)) : ACalls Try.prog 59 xs r :=
  acalls_of Try.func59 rfl tr_order_heavier rfl hn h
theorem acS_order_heavier {xs : List AV} {S S' : AStore} {r : AV} (hn : xs.length ≤ 84) (h : Clean S → ∀ C : Ctx, C.n = 84 → IWP Try.prog C [16, 19] ir_order_heavier (FinS C [.t 6] r S') (AS.startS xs S)) : ACallsS Try.prog 59 xs S r S' :=
  acallsS_of Try.func59 rfl tr_order_heavier rfl hn h

def ir_order_Weight : IR :=
  (.seq
  (.ops
  [.mk (some 4) none (.box 24 (.t 1)) .no, .mk (some 5) none (.box 24 (.t 2)) .no, .mk (some 6) none (.mov (.c (.one (.st (.bool false)))))
  .no, .mk (some 7) none (.mov (.c (.one (.st (.int .i64 0)))))
  .no])
  (.seq
  (.seq
  (.ops
  [.mk (some 9) none (.mov (.t 0)) .no, .mk (some 10) none (.load true 2 (.t 4)) .no, .mk (some 11) none (.load true 2 (.t 5)) .no, .mk (some 12) none (.call 57 [.t 9, .t 10, .t 11])
  .no, .mk (some 8) none (.mov (.t 12)) .no])
  (.seq
  (.ops
  [.mk (some 13) none (.mov (.t 8)) .no, .mk (some 14) none (.bin .neq (.t 13) (.c (.one (.st (.int .i64 0)))))
  .no])
  (.cond (.t 14)
  (.seq
  (.ops
  [.mk (some 15) none (.mov (.t 8)) .no, .mk (some 6) none (.mov (.c (.one (.st (.bool false)))))
  .no, .mk (some 7) none (.mov (.t 15)) .no])
  .ret)
  .skip)))
  (.seq
  (.ops
  [.mk (some 16) none (.mov (.t 0)) .no, .mk (some 17) none (.load true 2 (.t 4)) .no, .mk (some 18) none (.load true 2 (.t 5)) .no, .mk (some 19) none (.call 59 [.t 16, .t 17, .t 18])
  .no, .mk (some 6) none (.mov (.t 19)) .no, .mk (some 7) none (.mov (.c (.one (.st (.int .i64 0)))))
  .no])
  .ret)))
theorem tr_order_Weight : trCode Try.prog 20 [] (Try.f32.body.getD .skip) = some ir_order_Weight := by kernel_rfl
theorem ac_order_Weight {xs : List AV} {r : AV} (hn : xs.length ≤ 20) (h : ∀ C : Ctx, C.n = 20 → IWP Try.prog C [] ir_order_Weight (FinQ [.t 6, .t 7] r) (AS.start xs)) : ACalls Try.prog 32 xs r :=
  acalls_of Try.func32 rfl tr_order_Weight rfl hn h
theorem acS_order_Weight {xs : List AV} {S S' : AStore} {r : AV} (hn : xs.length ≤ 20) (h : Clean S → ∀ C : Ctx, C.n = 20 → IWP Try.prog C [] ir_order_Weight (FinS C [.t 6, .t 7] r S') (AS.startS xs S)) : ACallsS Try.prog 32 xs S r S' :=
  acallsS_of Try.func32 rfl tr_order_Weight rfl hn h

end Go.Proofs.Ytpajlfdhmjgpnaa

namespace Go.Proofs.Ytpajlfdhmjgpnaa
open Go Go.RowKit
set_option linter.unusedVariables false

/-- The first that is not zero. -/
def firstNZ : List Int → Int
  | [] => 0
  | x :: xs => if x ≠ 0 then x else firstNZ xs
theorem symI_first (row : List ByteArray) (a b : Tm) : symI row a b = firstNZ [cmpZ (rankOf row a.name) (rankOf row b.name), cmpI a.name b.name, cmpZ a.args.length b.args.length] := by
  unfold symI
  simp only [firstNZ]
  split
  · rfl
  · split
    · rfl
    · split
      · rfl
      · omega
/-- A row of symbols: what is wrong with it. -/
def rowGo : List ByteArray → List ByteArray → Int
  | _, [] => 0
  | seen, x :: xs => if nameOk x = true ∧ isVar x = false then (if isIn x seen = true then 4 else rowGo (seen ++ [x]) xs) else 1
def rowMay (row : List ByteArray) : Int := if 40 < row.length then 3 else rowGo [] row

/-! ### counts -/
abbrev Ct := ByteArray × Int
def findC (l : List Ct) (v : ByteArray) : Option Int := (l.find? fun b => decide (b.1 = v)).map (·.2)
def getC (l : List Ct) (v : ByteArray) : Int := (findC l v).getD 0
def putC : List Ct → ByteArray → Int → List Ct
  | [], v, n => [(v, n)]
  | b :: l, v, n => if b.1 = v then (v, n) :: l else b :: putC l v n
mutual
/-- So much more for each variable's knot. -/
def Tm.cnt (by_ : Int) : Tm → List Ct → List Ct
  | .mk n xs, l => Tm.cntL by_ xs (if isVar n = true then putC l n (getC l n + by_) else l)
def Tm.cntL (by_ : Int) : List Tm → List Ct → List Ct
  | [], l => l
  | t :: ts, l => Tm.cntL by_ ts (t.cnt by_ l)
end
theorem Tm.cntL_append (by_ : Int) : ∀ (xs ys : List Tm) (l : List Ct), Tm.cntL by_ (xs ++ ys) l = Tm.cntL by_ ys (Tm.cntL by_ xs l)
  | [], ys, l => rfl
  | x :: xs, ys, l => by
    simp only [List.cons_append, Tm.cntL]
    exact Tm.cntL_append by_ xs ys _
theorem Tm.cntL_take {by_ : Int} {xs : List Tm} {k : Nat} {a : Tm} {l : List Ct} (h : xs[k]? = some a) : Tm.cntL by_ (xs.take (k + 1)) l = a.cnt by_ (Tm.cntL by_ (xs.take k) l) := by
  rw [take_snoc h, Tm.cntL_append]
  rfl
theorem findC_cons (b : Ct) (l : List Ct) (v : ByteArray) : findC (b :: l) v = if b.1 = v then some b.2 else findC l v := by
  unfold findC
  by_cases h : b.1 = v
  · rw [List.find?_cons_of_pos (by simpa using h), if_pos h]; rfl
  · rw [List.find?_cons_of_neg (by simpa using h), if_neg h]
theorem getC_put (l : List Ct) (v u : ByteArray) (n : Int) : getC (putC l v n) u = if v = u then n else getC l u := by
  unfold getC
  induction l with
  | nil =>
    rw [putC, findC_cons]
    split
    · rfl
    · rfl
  | cons b l ih =>
    rw [putC]
    by_cases h : b.1 = v
    · rw [if_pos h, findC_cons, findC_cons]
      by_cases e : v = u
      · rw [if_pos e, if_pos e]; rfl
      · rw [if_neg e, if_neg e, if_neg (by rw [h]; exact e)]
    · rw [if_neg h, findC_cons, findC_cons]
      by_cases e : b.1 = u
      · rw [if_pos e, if_pos e, if_neg (fun e2 => h (e.trans e2.symm))]
      · rw [if_neg e, if_neg e]
        exact ih
theorem putC_keys (l : List Ct) (v : ByteArray) (n : Int) : ∀ b ∈ putC l v n, b.1 = v ∨ b ∈ l := by
  induction l with
  | nil => intro b hb; rw [putC, List.mem_singleton] at hb; subst hb; exact .inl rfl
  | cons c l ih =>
    intro b hb
    rw [putC] at hb
    split at hb
    · rcases List.mem_cons.1 hb with rfl | hb
      · exact .inl rfl
      · exact .inr (by simp [hb])
    · rcases List.mem_cons.1 hb with rfl | hb
      · exact .inr (by simp)
      · rcases ih b hb with h | h
        · exact .inl h
        · exact .inr (by simp [h])
def NamedC (l : List Ct) : Prop := (l.map (·.1)).Nodup
theorem namedC_put {l : List Ct} (h : NamedC l) (v : ByteArray) (n : Int) : NamedC (putC l v n) := by
  unfold NamedC at *
  induction l with
  | nil => simp [putC]
  | cons c l ih =>
    rw [List.map_cons, List.nodup_cons] at h
    rw [putC]
    split
    · rename_i e
      subst e
      rw [List.map_cons, List.nodup_cons]
      exact h
    · rename_i e
      rw [List.map_cons, List.nodup_cons]
      refine ⟨fun hm => ?_, ih h.2⟩
      obtain ⟨b, hb, e2⟩ := List.mem_map.1 hm
      rcases putC_keys l v n b hb with h3 | h3
      · exact e (e2.symm.trans h3)
      · exact h.1 (by rw [← e2]; exact List.mem_map_of_mem h3)
/-- What counting keeps. -/
structure CntOk (l : List Ct) : Prop where
  named : NamedC l
  vars : ∀ b ∈ l, isVar b.1 = true
theorem cntOk_put {l : List Ct} (h : CntOk l) {v : ByteArray} (hv : isVar v = true) (n : Int) : CntOk (putC l v n) :=
  ⟨namedC_put h.named v n, fun b hb => by
    rcases putC_keys l v n b hb with h1 | h1
    · rw [h1]; exact hv
    · exact h.vars b h1⟩
mutual
theorem cnt_ok (by_ : Int) : ∀ (t : Tm) (l : List Ct), CntOk l → CntOk (t.cnt by_ l)
  | .mk n xs, l, h => by
    rw [Tm.cnt]
    refine cntL_ok by_ xs _ ?_
    split
    · rename_i hv
      exact cntOk_put h hv _
    · exact h
theorem cntL_ok (by_ : Int) : ∀ (xs : List Tm) (l : List Ct), CntOk l → CntOk (Tm.cntL by_ xs l)
  | [], l, h => h
  | t :: ts, l, h => cntL_ok by_ ts _ (cnt_ok by_ t l h)
end
mutual
theorem getC_cnt (by_ : Int) (v : ByteArray) (hv : isVar v = true) : ∀ (t : Tm) (l : List Ct), getC (t.cnt by_ l) v = getC l v + by_ * t.occN v
  | .mk n xs, l => by
    rw [Tm.cnt, getC_cntL by_ v hv xs, Tm.occN]
    by_cases e : n = v
    · subst e
      rw [if_pos hv, getC_put, if_pos rfl, if_pos rfl, Int.natCast_add, Int.mul_add]
      simp only [Int.natCast_one, Int.mul_one]
      omega
    · rw [if_neg e, Nat.zero_add]
      split
      · rw [getC_put, if_neg e]
      · rfl
theorem getC_cntL (by_ : Int) (v : ByteArray) (hv : isVar v = true) : ∀ (xs : List Tm) (l : List Ct), getC (Tm.cntL by_ xs l) v = getC l v + by_ * Tm.occNs v xs
  | [], l => by simp [Tm.cntL, Tm.occNs]
  | t :: ts, l => by
    rw [Tm.cntL, getC_cntL by_ v hv ts, getC_cnt by_ v hv t, Tm.occNs, Int.natCast_add, Int.mul_add]
    omega
end
mutual
theorem occN_le (v : ByteArray) : ∀ t : Tm, t.occN v ≤ t.size
  | .mk n xs => by
    rw [Tm.occN, Tm.size]
    have := occNs_le v xs
    split <;> omega
theorem occNs_le (v : ByteArray) : ∀ xs : List Tm, Tm.occNs v xs ≤ Tm.sizes xs
  | [] => Nat.le_refl _
  | t :: ts => by
    rw [Tm.occNs, Tm.sizes]
    have := occN_le v t
    have := occNs_le v ts
    omega
end
theorem findC_mem {l : List Ct} {v : ByteArray} {n : Int} (h : findC l v = some n) : (v, n) ∈ l := by
  induction l with
  | nil => cases h
  | cons b l ih =>
    rw [findC_cons] at h
    split at h
    · rename_i e
      cases h
      rw [← e]
      simp
    · exact List.mem_cons_of_mem _ (ih h)
theorem findC_of {l : List Ct} (hn : NamedC l) {b : Ct} (h : b ∈ l) : findC l b.1 = some b.2 := by
  unfold NamedC at hn
  induction l with
  | nil => cases h
  | cons c l ih =>
    rw [List.map_cons, List.nodup_cons] at hn
    rw [findC_cons]
    rcases List.mem_cons.1 h with rfl | h
    · rw [if_pos rfl]
    · rw [if_neg fun e => hn.1 (by rw [e]; exact List.mem_map_of_mem h)]
      exact ih hn.2 h
/-- Each variable with how often it stands in the first, less how often in the second. -/
def diffC (a b : Tm) : List Ct := b.cnt (-1) (a.cnt 1 [])
theorem diffC_ok (a b : Tm) : CntOk (diffC a b) := cnt_ok _ _ _ (cnt_ok _ _ _ ⟨List.nodup_nil, by simp⟩)
theorem diffC_get (a b : Tm) {v : ByteArray} (hv : isVar v = true) : getC (diffC a b) v = (a.occN v : Int) - b.occN v := by
  unfold diffC
  rw [getC_cnt _ _ hv, getC_cnt _ _ hv]
  show (0 : Int) + 1 * _ + -1 * _ = _
  omega
theorem diffC_all {a b : Tm} : (∀ c ∈ diffC a b, 0 ≤ c.2) ↔ okV a b := by
  constructor
  · intro h v hv
    have hg := diffC_get a b hv
    unfold getC at hg
    cases hf : findC (diffC a b) v with
    | none => rw [hf] at hg; simp only [Option.getD_none] at hg; omega
    | some n =>
      rw [hf] at hg
      simp only [Option.getD_some] at hg
      have := h _ (findC_mem hf)
      simp only at this
      omega
  · intro h c hc
    have hv := (diffC_ok a b).vars c hc
    have hg := diffC_get a b hv
    unfold getC at hg
    rw [findC_of (diffC_ok a b).named hc] at hg
    simp only [Option.getD_some] at hg
    have := h c.1 hv
    omega
end Go.Proofs.Ytpajlfdhmjgpnaa

namespace Go.Proofs.Ytpajlfdhmjgpnaa
open Go Go.RowKit
set_option linter.unusedVariables false

/-- A walk through a row in any order, each place once. -/
def met {α : Type} (l : List α) (seen : List Nat) : List α := seen.filterMap fun j => l[j]?
theorem met_snoc {α : Type} {l : List α} {seen : List Nat} {j : Nat} {b : α} (h : l[j]? = some b) : met l (seen ++ [j]) = met l seen ++ [b] := by
  unfold met
  rw [List.filterMap_append, List.filterMap_cons_some h]
  rfl
theorem met_len {α : Type} {l : List α} : ∀ {seen : List Nat}, (∀ j ∈ seen, j < l.length) → (met l seen).length = seen.length
  | [], _ => rfl
  | j :: seen, h => by
    have hj := h j (by simp)
    unfold met
    rw [List.filterMap_cons_some (List.getElem?_eq_getElem hj), List.length_cons, List.length_cons]
    exact congrArg (· + 1) (met_len fun i hi => h i (by simp [hi]))
theorem seen_len {n : Nat} {seen : List Nat} (hn : seen.Nodup) (h : ∀ j ∈ seen, j < n) : seen.length ≤ n := by
  have h1 : seen.Perm ((List.range n).filter fun j => decide (j ∈ seen)) := (List.perm_ext_iff_of_nodup hn (List.nodup_range.filter _)).2 fun j => by
    rw [List.mem_filter, List.mem_range, decide_eq_true_eq]
    exact ⟨fun hj => ⟨h j hj, hj⟩, fun hj => hj.2⟩
  rw [h1.length_eq]
  exact Nat.le_trans (List.length_filter_le _ _) (Nat.le_of_eq List.length_range)
theorem met_perm {α : Type} {l : List α} {seen : List Nat} (hn : seen.Nodup) (h : ∀ j ∈ seen, j < l.length) (hall : ∀ j, j < l.length → j ∈ seen) : (met l seen).Perm l := by
  have hp : seen.Perm (List.range l.length) := (List.perm_ext_iff_of_nodup hn List.nodup_range).2 fun j => ⟨fun hj => List.mem_range.2 (h j hj), fun hj => hall j (List.mem_range.1 hj)⟩
  have := hp.filterMap fun j => l[j]?
  rw [filterMap_range] at this
  exact this
end Go.Proofs.Ytpajlfdhmjgpnaa

namespace Go.Proofs.Ytpajlfdhmjgpnaa
open Go Go.RowKit
set_option linter.unusedVariables false

theorem dropS_at {ds : List Nat} (hds : ∀ d ∈ ds, d < 1000) {S : AStore} {i : Nat} (hi : 1000 ≤ i) (hb : ∀ b, S i = some b → b.high = true) : dropS ds S i = S i := by
  unfold dropS
  rw [not_ds hds hi, if_neg (by simp)]
  cases h : S i with
  | none => rfl
  | some b => rw [Option.map_some, ABlk.purge_high hds (hb b h)]
theorem purgeS {ds : List Nat} (hds : ∀ d ∈ ds, d < 1000) {x : Option ABlk} (hb : ∀ b, x = some b → b.high = true) : x.map (ABlk.purge ds) = x := by
  cases h : x with
  | none => rfl
  | some b => rw [Option.map_some, ABlk.purge_high hds (hb b h)]
theorem lowS_is {S S1 : AStore} {a0 : Nat} {b : ABlk} (hS : Clean S) (ha : 1000 ≤ a0) (h1 : S1 a0 = some b) (h2 : ∀ i, 1000 ≤ i → i ≠ a0 → S1 i = S i) : lowS S1 = updE S a0 (some b) := by
  funext i
  show (if i < 1000 then none else S1 i) = _
  by_cases e : i = a0
  · subst e
    rw [if_neg (by omega), updE_same, h1]
  · rw [updE_ne _ e]
    by_cases hi : i < 1000
    · rw [if_pos hi, clean_none hS hi]
    · rw [if_neg hi, h2 i (by omega) e]
theorem highs_is {S S1 : AStore} {a0 : Nat} {b : ABlk} (hS : Clean S) (hb : b.high = true) (h1 : S1 a0 = some b) (h2 : ∀ i, 1000 ≤ i → i ≠ a0 → S1 i = S i) : ∀ i c, 1000 ≤ i → S1 i = some c → c.high = true := fun i c hi hc => by
  by_cases e : i = a0
  · subst e
    rw [h1] at hc
    cases hc
    exact hb
  · rw [h2 i hi e] at hc
    exact (hS i c hc).2
/-- The end of a call that has turned one block of its caller. -/
theorem finS_one {C : Ctx} {rs : List RV} {r : AV} {e : AX} {s : AS} {S : AStore} {a0 : Nat} {b : ABlk} (r0 : AV) (hS : Clean S) (ha : 1000 ≤ a0) (hb : b.high = true) (he : match e with | .normal => True | .ret => True | _ => False)
    (h1 : (resAll s rs).map tupV = some r0) (h2 : outV s.S r0 = some r) (h3 : s.S a0 = some b) (h4 : ∀ i, 1000 ≤ i → i ≠ a0 → s.S i = S i) : FinS C rs r (updE S a0 (some b)) e s :=
  finS_low he r0 h1 h2 (highs_is hS hb h3 h4) (lowS_is hS ha h3 h4) (clean_upd hS ha hb)

/-- The end of a call that has turned two blocks of its caller. -/
theorem finS_two {C : Ctx} {rs : List RV} {r : AV} {e : AX} {s : AS} {S : AStore} {a0 b0 : Nat} {b c : ABlk} (r0 : AV) (hS : Clean S) (ha : 1000 ≤ a0) (hb0 : 1000 ≤ b0) (hne : b0 ≠ a0) (hb : b.high = true) (hc : c.high = true) (he : match e with | .normal => True | .ret => True | _ => False)
    (h1 : (resAll s rs).map tupV = some r0) (h2 : outV s.S r0 = some r) (h3 : s.S a0 = some b) (h3' : s.S b0 = some c) (h4 : ∀ i, 1000 ≤ i → i ≠ a0 → i ≠ b0 → s.S i = S i) : FinS C rs r (updE (updE S a0 (some b)) b0 (some c)) e s :=
  finS_low he r0 h1 h2 (fun i x hi hx => by
    by_cases e1 : i = a0
    · subst e1; rw [h3] at hx; cases hx; exact hb
    · by_cases e2 : i = b0
      · subst e2; rw [h3'] at hx; cases hx; exact hc
      · rw [h4 i hi e1 e2] at hx; exact (hS i x hx).2) (by
    funext i
    show (if i < 1000 then none else s.S i) = _
    by_cases e2 : i = b0
    · subst e2
      rw [updE_same, if_neg (by omega), h3']
    · rw [updE_ne _ e2]
      by_cases e1 : i = a0
      · subst e1
        rw [updE_same, if_neg (by omega), h3]
      · rw [updE_ne _ e1]
        by_cases hi : i < 1000
        · rw [if_pos hi, clean_none hS hi]
        · rw [if_neg hi, h4 i (by omega) e1 e2]) (clean_upd (clean_upd hS ha hb) hb0 hc)
/-- A cell of a box, as it would lie in memory that stays. -/
theorem Ghost.settleC {C : Ctx} {s : AS} (id j : Nat) {ty : TypeId} {cs : List AC} {c : AC} {x : SV} (hb : s.S id = some (.box ty cs)) (hc : cs[j]? = some c) (hx : stC s.S c = some x) : Ghost C s (s.set id (.box ty (cs.set j (.st x)))) := fun a w ⟨σ, ι, R⟩ => by
  have hbk := R.blk id _ hb
  cases hbk with
  | @box _ _ g vs h1 h2 h3 h4 h5 =>
    obtain ⟨v, hv, hr⟩ := h4.get hc
    have hsr := R.stC hr hx
    obtain ⟨hu2, R2⟩ := R.turn (w' := w) hb (.box ty (cs.set j (.st x))) (ι id) (σ' := σ) (fun _ _ h => h) (fun _ _ _ => rfl) R.fit (Nat.le_refl _) (fun _ => ⟨rfl, rfl⟩) ⟨rfl, rfl, rfl⟩ (Nat.le_refl _) (fun _ _ _ => rfl) (fun g h => .inl h) (fun hu2 => by
      refine .box h1 h2 h3 (All2.of_get (by rw [List.length_set]; exact h4.len) fun k u c' hu' hck => ?_) h5
      by_cases hk : k = j
      · subst hk
        rw [hv] at hu'
        cases hu'
        have hlt : k < cs.length := (List.getElem?_eq_some_iff.1 hc).1
        rw [List.getElem?_set_self hlt] at hck
        cases hck
        exact .st hsr
      · rw [List.getElem?_set_ne (fun e => hk e.symm)] at hck
        obtain ⟨u', q1, q2⟩ := h4.get hck
        rw [hu'] at q1
        cases q1
        exact q2.mono (fun _ _ h => h) hu2)
    exact ⟨_, _, R2⟩
theorem oneTo_same (i a0 : Nat) : oneTo i a0 i = a0 := by simp [oneTo]
end Go.Proofs.Ytpajlfdhmjgpnaa
