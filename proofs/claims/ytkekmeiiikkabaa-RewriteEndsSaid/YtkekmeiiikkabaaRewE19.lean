/-
  Part 19 of the texts: BRewR; IrHugeP; BHugeP. Conditions: none.
-/
import Derived.Test.YtkekmeiiikkabaaRewE18
namespace Go.Proofs.Ytkekmeiiikkabaa
open Go Go.RowKit
set_option linter.unusedVariables false
set_option linter.unusedSimpArgs false
set_option maxHeartbeats 1000000

def fitsV (r : Pr) (t : Tm) : AV := if isCase r.1 t = true then .tup [aTm (onTo (caseOf r.1 t) r.2).1, aBool true, aBool (!(onTo (caseOf r.1 t) r.2).2)] else .tup [aTm Tm.nil, aBool false, aBool false]
theorem fits_a (r : Pr) (t : Tm) (hp : r.1.size ≤ 100000) (hq : r.2.size ≤ 100000) (ht : t.size ≤ 1000000) : ACalls Try.prog 28 [aPr r, aTm t] (fitsV r t) := by
  unfold fitsV
  refine ac_R_fits (Nat.le_of_ble_eq_true rfl) fun C hC => ?_
  unfold ir_R_fits
  by_cases h : isCase r.1 t = true
  · rw [if_pos h]
    repeat' (first | (with_reducible first | refine Wa ?_ | refine Wb ?_ | refine Wc ?_ | refine Wd ?_ | refine We ?_ | refine Wf ?_ | refine Wg ?_ | refine Wh ?_ | refine Wi ?_ | refine Wj ?_ | refine Wk (by decide) ?_ | refine Wl ?_ | refine Wm ?_ | refine Wn ?_) | refine CallG.mk _ (matchOf_a r.1 t hp ht) ?_ | refine CallG.mk _ (onRef_a (caseOf r.1 t) r.2 (by omega)) ?_ | ((with_reducible first | refine Wo (fun K hK => ?_) | refine Wp ?_ | refine Wq ?_ | refine Wr ?_); (try simp only [go_sem, List.forall_mem_nil, ↓guard_ite, ↓pick_ite, seval, encT_eq, inR_i64, h, decide_eq_true_eq, decide_eq_false_iff_not, Int.ofNat_lt]); (repeat with_reducible refine And.intro (by first | omega | (with_reducible first | exact lens_encT | exact lens_encL | exact lens_encB | exact lens_encP) | (simp; done) | (simp only [List.length_take, List.length_map, List.length_append, maxLen_eq]; omega)) ?_); (try (with_reducible refine hK _ ?_; clear hK K)); (try with_reducible refine ite_conj ?_)))
    simp only [go_sem, List.forall_mem_nil, ↓guard_ite, ↓pick_ite, seval, FinQ, AS.result, resAll, resOne, tupV]
  · rw [if_neg h]
    repeat' (first | (with_reducible first | refine Wa ?_ | refine Wb ?_ | refine Wc ?_ | refine Wd ?_ | refine We ?_ | refine Wf ?_ | refine Wg ?_ | refine Wh ?_ | refine Wi ?_ | refine Wj ?_ | refine Wk (by decide) ?_ | refine Wl ?_ | refine Wm ?_ | refine Wn ?_) | refine CallG.mk _ (matchOf_a r.1 t hp ht) ?_ | ((with_reducible first | refine Wo (fun K hK => ?_) | refine Wp ?_ | refine Wq ?_ | refine Wr ?_); (try simp only [go_sem, List.forall_mem_nil, ↓guard_ite, ↓pick_ite, seval, encT_eq, inR_i64, h, decide_eq_true_eq, decide_eq_false_iff_not, Int.ofNat_lt]); (repeat with_reducible refine And.intro (by first | omega | (with_reducible first | exact lens_encT | exact lens_encL | exact lens_encB | exact lens_encP) | (simp; done) | (simp only [List.length_take, List.length_map, List.length_append, maxLen_eq]; omega)) ?_); (try (with_reducible refine hK _ ?_; clear hK K)); (try with_reducible refine ite_conj ?_)))
    simp only [go_sem, List.forall_mem_nil, ↓guard_ite, ↓pick_ite, seval, FinQ, AS.result, resAll, resOne, tupV]
    rfl
theorem fit_a {R : List Pr} (hR : GoodRules R) (t : Tm) (ht : t.size ≤ 1000000) : ACalls Try.prog 55 [aPrs R, aTm t] (aBool (fitR R t)) := by
  have h40 := hR.len
  refine ac_R_Fit (Nat.le_of_ble_eq_true rfl) fun C hC => ?_
  unfold ir_R_Fit
  repeat' (first | (with_reducible first | refine Wa ?_ | refine Wb ?_ | refine Wc ?_ | refine Wd ?_ | refine We ?_ | refine Wf ?_ | refine Wg ?_ | refine Wh ?_ | refine Wi ?_ | refine Wj ?_ | refine Wk (by decide) ?_ | refine Wl ?_ | refine Wm ?_ | refine Wn ?_) | ((with_reducible first | refine Wo (fun K hK => ?_) | refine Wp ?_ | refine Wq ?_ | refine Wr ?_); (try simp only [go_sem, List.forall_mem_nil, ↓guard_ite, ↓pick_ite, seval, encT_eq, inR_i64, decide_eq_true_eq, decide_eq_false_iff_not, Int.ofNat_lt]); (repeat with_reducible refine And.intro (by first | omega | (with_reducible first | exact lens_encT | exact lens_encL | exact lens_encB | exact lens_encP) | (simp; done) | (simp only [List.length_take, List.length_map, List.length_append, maxLen_eq]; omega)) ?_); (try (with_reducible refine hK _ ?_; clear hK K)); (try with_reducible refine ite_conj ?_)))
  refine IWP.loop (fun m s => ∃ k, k ≤ R.length ∧ m = R.length - k ∧ (R.take k).any (fun r => isCase r.1 t) = false ∧ s.env 0 = aPrs R ∧ s.env 3 = .one (.ptr 3 1 0 0) ∧ s.S 3 = some (boxTt t) ∧ s.env 5 = aInt k) R.length ⟨0, Nat.zero_le _, rfl, rfl, rfl, rfl, rfl, rfl⟩ ?_
  rintro m ⟨env, S⟩ ⟨k, hk, rfl, hno, e0, e3, s3, e5⟩
  simp only at e0 e3 s3 e5
  by_cases hlt : (k : Int) < R.length
  · obtain ⟨r, hr⟩ := get_lt (show k < R.length by omega)
    have z1 := (Tm.may_chk (hR.left r (mem_of_get hr))).2
    by_cases hcase : isCase r.1 t = true
    · have hf : fitR R t = true := List.any_eq_true.2 ⟨r, mem_of_get hr, hcase⟩
      repeat' (first | (with_reducible first | refine Wa ?_ | refine Wb ?_ | refine Wc ?_ | refine Wd ?_ | refine We ?_ | refine Wf ?_ | refine Wg ?_ | refine Wh ?_ | refine Wi ?_ | refine Wj ?_ | refine Wk (by decide) ?_ | refine Wl ?_ | refine Wm ?_ | refine Wn ?_) | refine CallG.mk _ (matchOf_a r.1 t (by omega) ht) ?_ | ((with_reducible first | refine Wo (fun K hK => ?_) | refine Wp ?_ | refine Wq ?_ | refine Wr ?_); (try simp only [go_sem, List.forall_mem_nil, ↓guard_ite, ↓pick_ite, seval, encT_eq, inR_i64, e0, e3, s3, e5, hlt, hr, encP, hcase, decide_eq_true_eq, decide_eq_false_iff_not, Int.ofNat_lt]); (repeat with_reducible refine And.intro (by first | omega | (with_reducible first | exact lens_encT | exact lens_encL | exact lens_encB | exact lens_encP) | (simp; done) | (simp only [List.length_take, List.length_map, List.length_append, maxLen_eq]; omega)) ?_); (try (with_reducible refine hK _ ?_; clear hK K)); (try with_reducible refine ite_conj ?_)))
      simp only [go_sem, List.forall_mem_nil, ↓guard_ite, ↓pick_ite, seval, FinQ, AS.result, resAll, resOne, tupV, hf]
    · repeat' (first | (with_reducible first | refine Wa ?_ | refine Wb ?_ | refine Wc ?_ | refine Wd ?_ | refine We ?_ | refine Wf ?_ | refine Wg ?_ | refine Wh ?_ | refine Wi ?_ | refine Wj ?_ | refine Wk (by decide) ?_ | refine Wl ?_ | refine Wm ?_ | refine Wn ?_) | refine CallG.mk _ (matchOf_a r.1 t (by omega) ht) ?_ | ((with_reducible first | refine Wo (fun K hK => ?_) | refine Wp ?_ | refine Wq ?_ | refine Wr ?_); (try simp only [go_sem, List.forall_mem_nil, ↓guard_ite, ↓pick_ite, seval, encT_eq, inR_i64, e0, e3, s3, e5, hlt, hr, encP, hcase, decide_eq_true_eq, decide_eq_false_iff_not, Int.ofNat_lt]); (repeat with_reducible refine And.intro (by first | omega | (with_reducible first | exact lens_encT | exact lens_encL | exact lens_encB | exact lens_encP) | (simp; done) | (simp only [List.length_take, List.length_map, List.length_append, maxLen_eq]; omega)) ?_); (try (with_reducible refine hK _ ?_; clear hK K)); (try with_reducible refine ite_conj ?_)))
      refine then_normal ⟨R.length - (k + 1), by omega, k + 1, by omega, rfl, ?_, ?_⟩
      · rw [take_snoc hr, List.any_append, hno]
        simpa using hcase
      · simp only [go_sem, List.forall_mem_nil, ↓guard_ite, ↓pick_ite, seval, encT_eq, inR_i64, e0, e3, s3, e5]
        congr 3
  · rw [List.take_of_length_le (by omega)] at hno
    repeat' (first | (with_reducible first | refine Wa ?_ | refine Wb ?_ | refine Wc ?_ | refine Wd ?_ | refine We ?_ | refine Wf ?_ | refine Wg ?_ | refine Wh ?_ | refine Wi ?_ | refine Wj ?_ | refine Wk (by decide) ?_ | refine Wl ?_ | refine Wm ?_ | refine Wn ?_) | ((with_reducible first | refine Wo (fun K hK => ?_) | refine Wp ?_ | refine Wq ?_ | refine Wr ?_); (try simp only [go_sem, List.forall_mem_nil, ↓guard_ite, ↓pick_ite, seval, encT_eq, inR_i64, e0, e3, s3, e5, hlt, decide_eq_true_eq, decide_eq_false_iff_not, Int.ofNat_lt]); (repeat with_reducible refine And.intro (by first | omega | (with_reducible first | exact lens_encT | exact lens_encL | exact lens_encB | exact lens_encP) | (simp; done) | (simp only [List.length_take, List.length_map, List.length_append, maxLen_eq]; omega)) ?_); (try (with_reducible refine hK _ ?_; clear hK K)); (try with_reducible refine ite_conj ?_)))
    simp only [go_sem, List.forall_mem_nil, ↓guard_ite, ↓pick_ite, seval, FinQ, AS.result, resAll, resOne, tupV]
    unfold fitR
    rw [hno]
theorem find_snoc {α : Type} {p : α → Bool} {l : List α} {k : Nat} {a : α} (h : l[k]? = some a) (hno : (l.take k).find? p = none) : (p a = true → l.find? p = some a) ∧ (p a = false → (l.take (k + 1)).find? p = none) := by
  refine ⟨fun ha => ?_, fun ha => ?_⟩
  · have e : l = l.take k ++ a :: l.drop (k + 1) := by rw [← drop_get h, List.take_append_drop]
    rw [e, List.find?_append, hno]
    simp [ha]
  · rw [take_snoc h, List.find?_append, hno]
    simp [ha]
def nextV (p : Option (List Int)) : AV := match p with
  | none => .tup [aInts [], aBool false]
  | some q => .tup [aInts q, aBool true]
/-- What is known ahead of each look at those below. -/
def NextInv (R : List Pr) (inner : Bool) (x : Tm) (i : Nat) (b : Bool) : Prop := (inner = false ∧ b = true ∧ i = 1) ∨ (inner = true ∧ ((x.knots.take i).drop 1).any (fitR R) = !b)
theorem next_a {R : List Pr} (hR : GoodRules R) (inner : Bool) (t : Tm) (ht : t.size ≤ 900000) : ACalls Try.prog 38 [aPrs R, aTm t, aBool inner] (nextV (t.findP (testB inner R))) := by
  rw [← Tm.places_find]
  have hpl := Tm.places_length t
  refine ac_R_next (Nat.le_of_ble_eq_true rfl) fun C hC => ?_
  unfold ir_R_next
  repeat' (first | (with_reducible first | refine Wa ?_ | refine Wb ?_ | refine Wc ?_ | refine Wd ?_ | refine We ?_ | refine Wf ?_ | refine Wg ?_ | refine Wh ?_ | refine Wi ?_ | refine Wj ?_ | refine Wk (by decide) ?_ | refine Wl ?_ | refine Wm ?_ | refine Wn ?_) | refine CallG.mk _ (placesN_a t (by omega)) ?_ | ((with_reducible first | refine Wo (fun K hK => ?_) | refine Wp ?_ | refine Wq ?_ | refine Wr ?_); (try simp only [go_sem, List.forall_mem_nil, ↓guard_ite, ↓pick_ite, seval, encT_eq, inR_i64, decide_eq_true_eq, decide_eq_false_iff_not, Int.ofNat_lt]); (repeat with_reducible refine And.intro (by first | omega | (with_reducible first | exact lens_encT | exact lens_encL | exact lens_encB | exact lens_encP) | (simp; done) | (simp only [List.length_take, List.length_map, List.length_append, maxLen_eq]; omega)) ?_); (try (with_reducible refine hK _ ?_; clear hK K)); (try with_reducible refine ite_conj ?_)))
  refine IWP.loopD [10] (fun m s => ∃ k, k ≤ t.places.length ∧ m = t.places.length - k ∧ (t.places.take k).find? (atT (testB inner R) t) = none ∧ s.env 0 = aPrs R ∧ s.env 2 = aBool inner ∧ s.env 4 = .one (.ptr 4 1 0 0) ∧ s.S 4 = some (boxTt t) ∧ s.S 10 = none ∧ s.env 8 = aIss t.places ∧ s.env 9 = aInt k) t.places.length ⟨0, Nat.zero_le _, rfl, rfl, rfl, rfl, rfl, rfl, rfl, rfl, rfl⟩ ?_
  rintro m ⟨env, S⟩ ⟨k, hk, rfl, hno, e0, e2, e4, s4, s10, e8, e9⟩
  simp only at e0 e2 e4 s4 s10 e8 e9
  by_cases hlt : (k : Int) < t.places.length
  · obtain ⟨p, hp⟩ := get_lt (show k < t.places.length by omega)
    obtain ⟨x, hx, hxk⟩ := places_at t p (mem_of_get hp)
    have hxz := knot_size t x hxk
    obtain ⟨g1, g2⟩ := find_snoc hp hno
    have hat : atT (testB inner R) t p = testB inner R x := by unfold atT; rw [hx]
    rw [hat] at g1 g2
    have hcon := atOf_a p t
    rw [hx] at hcon
    by_cases hf : fitR R x = true
    case neg =>
      have hT : testB inner R x = false := by
        rw [← Bool.not_eq_true]
        exact fun h => hf (testB_fit h)
      repeat' (first | (with_reducible first | refine Wa ?_ | refine Wb ?_ | refine Wc ?_ | refine Wd ?_ | refine We ?_ | refine Wf ?_ | refine Wg ?_ | refine Wh ?_ | refine Wi ?_ | refine Wj ?_ | refine Wk (by decide) ?_ | refine Wl ?_ | refine Wm ?_ | refine Wn ?_) | refine CallG.mk _ (hcon) ?_ | refine CallG.mk _ (fit_a hR x (by omega)) ?_ | ((with_reducible first | refine Wo (fun K hK => ?_) | refine Wp ?_ | refine Wq ?_ | refine Wr ?_); (try simp only [go_sem, List.forall_mem_nil, ↓guard_ite, ↓pick_ite, seval, encT_eq, inR_i64, e0, e2, e4, s4, s10, e8, e9, hlt, hp, hf, decide_eq_true_eq, decide_eq_false_iff_not, Int.ofNat_lt]); (repeat with_reducible refine And.intro (by first | omega | (with_reducible first | exact lens_encT | exact lens_encL | exact lens_encB | exact lens_encP) | (simp; done) | (simp only [List.length_take, List.length_map, List.length_append, maxLen_eq]; omega)) ?_); (try (with_reducible refine hK _ ?_; clear hK K)); (try with_reducible refine ite_conj ?_)))
      refine then_normal ⟨t.places.length - (k + 1), by omega, k + 1, by omega, rfl, g2 hT, ?_⟩
      simp only [go_sem, List.forall_mem_nil, ↓guard_ite, ↓pick_ite, seval, AS.drop, dropS, AC.clears, AC.clear, AC.highs, AC.high, Bool.not_false, Bool.true_and, Bool.and_self, AV.purge, AV.purges, AC.purge, ABlk.purge, List.contains_cons, List.contains_nil, Nat.reduceBEq, Bool.or_self, Bool.or_false, Bool.false_or, Bool.or_true, encT_eq, inR_i64, e0, e2, e4, s4, s10, e8, e9]
      congr 3
    case pos =>
    have hkn := Tm.knots_length x
    have hke := Tm.knots_eq x
    repeat' (first | (with_reducible first | refine Wa ?_ | refine Wb ?_ | refine Wc ?_ | refine Wd ?_ | refine We ?_ | refine Wf ?_ | refine Wg ?_ | refine Wh ?_ | refine Wi ?_ | refine Wj ?_ | refine Wk (by decide) ?_ | refine Wl ?_ | refine Wm ?_ | refine Wn ?_) | refine CallG.mk _ (hcon) ?_ | refine CallG.mk _ (fit_a hR x (by omega)) ?_ | refine CallG.mk _ (knots_a x (by omega)) ?_ | ((with_reducible first | refine Wo (fun K hK => ?_) | refine Wp ?_ | refine Wq ?_ | refine Wr ?_); (try simp only [go_sem, List.forall_mem_nil, ↓guard_ite, ↓pick_ite, seval, encT_eq, inR_i64, e0, e2, e4, s4, s10, e8, e9, hlt, hp, hf, decide_eq_true_eq, decide_eq_false_iff_not, Int.ofNat_lt]); (repeat with_reducible refine And.intro (by first | omega | (with_reducible first | exact lens_encT | exact lens_encL | exact lens_encB | exact lens_encP) | (simp; done) | (simp only [List.length_take, List.length_map, List.length_append, maxLen_eq]; omega)) ?_); (try (with_reducible refine hK _ ?_; clear hK K)); (try with_reducible refine ite_conj ?_)))
    refine IWP.loop (fun m s => ∃ (i : Nat) (b : Bool), 1 ≤ i ∧ i ≤ x.knots.length ∧ m = x.knots.length - i ∧ NextInv R inner x i b ∧ s.env 0 = aPrs R ∧ s.env 2 = aBool inner ∧ s.env 4 = .one (.ptr 4 1 0 0) ∧ s.S 4 = some (boxTt t) ∧ s.env 8 = aIss t.places ∧ s.env 9 = aInt k ∧ s.env 12 = aTms x.knots ∧ s.env 13 = aBool b ∧ s.env 14 = aInt i) (x.knots.length - 1) ⟨1, true, by omega, by rw [hke]; simp, rfl, ?_, ?_⟩ ?_
    · cases inner with
      | false => exact .inl ⟨rfl, rfl, rfl⟩
      | true => exact .inr ⟨rfl, by rw [hke]; rfl⟩
    · simp only [go_sem, List.forall_mem_nil, ↓guard_ite, ↓pick_ite, seval, encT_eq, inR_i64, e0, e2, e4, s4, e8, e9]
    rintro m ⟨env, S⟩ ⟨i, b, hi1, hi, rfl, hb, e0, e2, e4, s4, e8, e9, e12, e13, e14⟩
    simp only at e0 e2 e4 s4 e8 e9 e12 e13 e14
    have hdrop : x.knots.drop 1 = Tm.knotsL x.args := by rw [hke]; rfl
    by_cases hil : (i : Int) < x.knots.length
    · obtain ⟨y, hy⟩ := get_lt (show i < x.knots.length by omega)
      rcases hb with ⟨rfl, rfl, rfl⟩ | ⟨rfl, hb⟩
      · have hT : testB false R x = true := hf
        have hfin := g1 hT
        have hil' : (1 : Int) < x.knots.length := by omega
        rw [hfin]
        repeat' (first | (with_reducible first | refine Wa ?_ | refine Wb ?_ | refine Wc ?_ | refine Wd ?_ | refine We ?_ | refine Wf ?_ | refine Wg ?_ | refine Wh ?_ | refine Wi ?_ | refine Wj ?_ | refine Wk (by decide) ?_ | refine Wl ?_ | refine Wm ?_ | refine Wn ?_) | ((with_reducible first | refine Wo (fun K hK => ?_) | refine Wp ?_ | refine Wq ?_ | refine Wr ?_); (try simp only [go_sem, List.forall_mem_nil, ↓guard_ite, ↓pick_ite, seval, encT_eq, inR_i64, e0, e2, e4, s4, e8, e9, e12, e13, e14, hil', hp, decide_eq_true_eq, decide_eq_false_iff_not, Int.ofNat_lt]); (repeat with_reducible refine And.intro (by first | omega | (with_reducible first | exact lens_encT | exact lens_encL | exact lens_encB | exact lens_encP) | (simp; done) | (simp only [List.length_take, List.length_map, List.length_append, maxLen_eq]; omega)) ?_); (try (with_reducible refine hK _ ?_; clear hK K)); (try with_reducible refine ite_conj ?_)))
        simp only [go_sem, List.forall_mem_nil, ↓guard_ite, ↓pick_ite, seval, FinQ, AS.result, resAll, resOne, tupV]
        rfl
      · cases b with
        | true =>
          have hyz : y.size ≤ x.size := knot_size x y (mem_of_get hy)
          repeat' (first | (with_reducible first | refine Wa ?_ | refine Wb ?_ | refine Wc ?_ | refine Wd ?_ | refine We ?_ | refine Wf ?_ | refine Wg ?_ | refine Wh ?_ | refine Wi ?_ | refine Wj ?_ | refine Wk (by decide) ?_ | refine Wl ?_ | refine Wm ?_ | refine Wn ?_) | refine CallG.mk _ (fit_a hR y (by omega)) ?_ | ((with_reducible first | refine Wo (fun K hK => ?_) | refine Wp ?_ | refine Wq ?_ | refine Wr ?_); (try simp only [go_sem, List.forall_mem_nil, ↓guard_ite, ↓pick_ite, seval, encT_eq, inR_i64, e0, e2, e4, s4, e8, e9, e12, e13, e14, hil, hy, decide_eq_true_eq, decide_eq_false_iff_not, Int.ofNat_lt]); (repeat with_reducible refine And.intro (by first | omega | (with_reducible first | exact lens_encT | exact lens_encL | exact lens_encB | exact lens_encP) | (simp; done) | (simp only [List.length_take, List.length_map, List.length_append, maxLen_eq]; omega)) ?_); (try (with_reducible refine hK _ ?_; clear hK K)); (try with_reducible refine ite_conj ?_)))
          refine then_normal ⟨x.knots.length - (i + 1), by omega, i + 1, !fitR R y, by omega, by omega, rfl, .inr ⟨rfl, ?_⟩, ?_⟩
          · have e : (x.knots.take (i + 1)).drop 1 = (x.knots.take i).drop 1 ++ [y] := by
              rw [take_snoc hy, List.drop_append_of_le_length (by rw [List.length_take]; omega)]
            rw [e, List.any_append, hb]
            simp
          · simp only [go_sem, List.forall_mem_nil, ↓guard_ite, ↓pick_ite, seval, encT_eq, inR_i64, e0, e2, e4, s4, e8, e9, e12, e13, e14]
            congr 3
        | false =>
          have hT : testB true R x = false := by
            have h1 : redL R x.args = true := by
              unfold redL
              rw [← hdrop]
              simp only [Bool.not_false] at hb
              rw [List.any_eq_true] at hb ⊢
              obtain ⟨z, hz1, hz2⟩ := hb
              refine ⟨z, ?_, hz2⟩
              rw [List.drop_take] at hz1
              exact List.mem_of_mem_take hz1
            show redI R x = false
            unfold redI
            rw [h1]
            simp
          repeat' (first | (with_reducible first | refine Wa ?_ | refine Wb ?_ | refine Wc ?_ | refine Wd ?_ | refine We ?_ | refine Wf ?_ | refine Wg ?_ | refine Wh ?_ | refine Wi ?_ | refine Wj ?_ | refine Wk (by decide) ?_ | refine Wl ?_ | refine Wm ?_ | refine Wn ?_) | ((with_reducible first | refine Wo (fun K hK => ?_) | refine Wp ?_ | refine Wq ?_ | refine Wr ?_); (try simp only [go_sem, List.forall_mem_nil, ↓guard_ite, ↓pick_ite, seval, encT_eq, inR_i64, e0, e2, e4, s4, e8, e9, e12, e13, e14, hil, decide_eq_true_eq, decide_eq_false_iff_not, Int.ofNat_lt]); (repeat with_reducible refine And.intro (by first | omega | (with_reducible first | exact lens_encT | exact lens_encL | exact lens_encB | exact lens_encP) | (simp; done) | (simp only [List.length_take, List.length_map, List.length_append, maxLen_eq]; omega)) ?_); (try (with_reducible refine hK _ ?_; clear hK K)); (try with_reducible refine ite_conj ?_)))
          refine then_normal ⟨t.places.length - (k + 1), by omega, k + 1, by omega, rfl, g2 hT, ?_⟩
          simp only [go_sem, List.forall_mem_nil, ↓guard_ite, ↓pick_ite, seval, AS.drop, dropS, AC.clears, AC.clear, AC.highs, AC.high, Bool.not_false, Bool.true_and, Bool.and_self, AV.purge, AV.purges, AC.purge, ABlk.purge, List.contains_cons, List.contains_nil, Nat.reduceBEq, Bool.or_self, Bool.or_false, Bool.false_or, Bool.or_true, encT_eq, inR_i64, e0, e2, e4, s4, e8, e9]
          congr 3
    · rcases hb with ⟨rfl, rfl, rfl⟩ | ⟨rfl, hb⟩
      · have hT : testB false R x = true := hf
        have hfin := g1 hT
        have hil' : ¬ (1 : Int) < x.knots.length := by omega
        rw [hfin]
        repeat' (first | (with_reducible first | refine Wa ?_ | refine Wb ?_ | refine Wc ?_ | refine Wd ?_ | refine We ?_ | refine Wf ?_ | refine Wg ?_ | refine Wh ?_ | refine Wi ?_ | refine Wj ?_ | refine Wk (by decide) ?_ | refine Wl ?_ | refine Wm ?_ | refine Wn ?_) | ((with_reducible first | refine Wo (fun K hK => ?_) | refine Wp ?_ | refine Wq ?_ | refine Wr ?_); (try simp only [go_sem, List.forall_mem_nil, ↓guard_ite, ↓pick_ite, seval, encT_eq, inR_i64, e0, e2, e4, s4, e8, e9, e12, e13, e14, hil', hp, decide_eq_true_eq, decide_eq_false_iff_not, Int.ofNat_lt]); (repeat with_reducible refine And.intro (by first | omega | (with_reducible first | exact lens_encT | exact lens_encL | exact lens_encB | exact lens_encP) | (simp; done) | (simp only [List.length_take, List.length_map, List.length_append, maxLen_eq]; omega)) ?_); (try (with_reducible refine hK _ ?_; clear hK K)); (try with_reducible refine ite_conj ?_)))
        simp only [go_sem, List.forall_mem_nil, ↓guard_ite, ↓pick_ite, seval, FinQ, AS.result, resAll, resOne, tupV]
        rfl
      · rw [List.take_of_length_le (by omega), hdrop] at hb
        cases b with
        | true =>
          have hT : testB true R x = true := by
            show redI R x = true
            unfold redI redL
            rw [hf, hb]
            rfl
          have hfin := g1 hT
          rw [hfin]
          repeat' (first | (with_reducible first | refine Wa ?_ | refine Wb ?_ | refine Wc ?_ | refine Wd ?_ | refine We ?_ | refine Wf ?_ | refine Wg ?_ | refine Wh ?_ | refine Wi ?_ | refine Wj ?_ | refine Wk (by decide) ?_ | refine Wl ?_ | refine Wm ?_ | refine Wn ?_) | ((with_reducible first | refine Wo (fun K hK => ?_) | refine Wp ?_ | refine Wq ?_ | refine Wr ?_); (try simp only [go_sem, List.forall_mem_nil, ↓guard_ite, ↓pick_ite, seval, encT_eq, inR_i64, e0, e2, e4, s4, e8, e9, e12, e13, e14, hil, hp, decide_eq_true_eq, decide_eq_false_iff_not, Int.ofNat_lt]); (repeat with_reducible refine And.intro (by first | omega | (with_reducible first | exact lens_encT | exact lens_encL | exact lens_encB | exact lens_encP) | (simp; done) | (simp only [List.length_take, List.length_map, List.length_append, maxLen_eq]; omega)) ?_); (try (with_reducible refine hK _ ?_; clear hK K)); (try with_reducible refine ite_conj ?_)))
          simp only [go_sem, List.forall_mem_nil, ↓guard_ite, ↓pick_ite, seval, FinQ, AS.result, resAll, resOne, tupV]
          rfl
        | false =>
          have hT : testB true R x = false := by
            show redI R x = false
            unfold redI redL
            rw [hb]
            simp
          repeat' (first | (with_reducible first | refine Wa ?_ | refine Wb ?_ | refine Wc ?_ | refine Wd ?_ | refine We ?_ | refine Wf ?_ | refine Wg ?_ | refine Wh ?_ | refine Wi ?_ | refine Wj ?_ | refine Wk (by decide) ?_ | refine Wl ?_ | refine Wm ?_ | refine Wn ?_) | ((with_reducible first | refine Wo (fun K hK => ?_) | refine Wp ?_ | refine Wq ?_ | refine Wr ?_); (try simp only [go_sem, List.forall_mem_nil, ↓guard_ite, ↓pick_ite, seval, encT_eq, inR_i64, e0, e2, e4, s4, e8, e9, e12, e13, e14, hil, decide_eq_true_eq, decide_eq_false_iff_not, Int.ofNat_lt]); (repeat with_reducible refine And.intro (by first | omega | (with_reducible first | exact lens_encT | exact lens_encL | exact lens_encB | exact lens_encP) | (simp; done) | (simp only [List.length_take, List.length_map, List.length_append, maxLen_eq]; omega)) ?_); (try (with_reducible refine hK _ ?_; clear hK K)); (try with_reducible refine ite_conj ?_)))
          refine then_normal ⟨t.places.length - (k + 1), by omega, k + 1, by omega, rfl, g2 hT, ?_⟩
          simp only [go_sem, List.forall_mem_nil, ↓guard_ite, ↓pick_ite, seval, AS.drop, dropS, AC.clears, AC.clear, AC.highs, AC.high, Bool.not_false, Bool.true_and, Bool.and_self, AV.purge, AV.purges, AC.purge, ABlk.purge, List.contains_cons, List.contains_nil, Nat.reduceBEq, Bool.or_self, Bool.or_false, Bool.false_or, Bool.or_true, encT_eq, inR_i64, e0, e2, e4, s4, e8, e9]
          congr 3
  · rw [List.take_of_length_le (by omega)] at hno
    rw [hno]
    repeat' (first | (with_reducible first | refine Wa ?_ | refine Wb ?_ | refine Wc ?_ | refine Wd ?_ | refine We ?_ | refine Wf ?_ | refine Wg ?_ | refine Wh ?_ | refine Wi ?_ | refine Wj ?_ | refine Wk (by decide) ?_ | refine Wl ?_ | refine Wm ?_ | refine Wn ?_) | ((with_reducible first | refine Wo (fun K hK => ?_) | refine Wp ?_ | refine Wq ?_ | refine Wr ?_); (try simp only [go_sem, List.forall_mem_nil, ↓guard_ite, ↓pick_ite, seval, encT_eq, inR_i64, e0, e2, e4, s4, e8, e9, hlt, decide_eq_true_eq, decide_eq_false_iff_not, Int.ofNat_lt]); (repeat with_reducible refine And.intro (by first | omega | (with_reducible first | exact lens_encT | exact lens_encL | exact lens_encB | exact lens_encP) | (simp; done) | (simp only [List.length_take, List.length_map, List.length_append, maxLen_eq]; omega)) ?_); (try (with_reducible refine hK _ ?_; clear hK K)); (try with_reducible refine ite_conj ?_)))
    simp only [go_sem, List.forall_mem_nil, ↓guard_ite, ↓pick_ite, seval, FinQ, AS.result, resAll, resOne, tupV]
    rfl
theorem rootFrom_step {R : List Pr} {t : Tm} {r : Pr} {l : List Pr} : rootFrom R t (r :: l) = if isCase r.1 t = true then (if (onTo (caseOf r.1 t) r.2).2 = true then some ((onTo (caseOf r.1 t) r.2).1, 0) else some (Tm.nil, 8)) else rootFrom R t l := rfl
theorem endOf_a {R : List Pr} (hR : GoodRules R) (inner : Bool) (t0 : Tm) (hc0 : t0.chk = 0) (hz0 : t0.size ≤ 800000) (most : Nat) (hm : most ≤ 1000000) : ACalls Try.prog 15 [aPrs R, aTm t0, aInt most, aBool inner] (endV (endR (stepB inner R) most 0 t0)) := by
  have h40 := hR.len
  unfold endV
  refine ac_R_EndOf (Nat.le_of_ble_eq_true rfl) fun C hC => ?_
  unfold ir_R_EndOf
  repeat' (first | (with_reducible first | refine Wa ?_ | refine Wb ?_ | refine Wc ?_ | refine Wd ?_ | refine We ?_ | refine Wf ?_ | refine Wg ?_ | refine Wh ?_ | refine Wi ?_ | refine Wj ?_ | refine Wk (by decide) ?_ | refine Wl ?_ | refine Wm ?_ | refine Wn ?_) | ((with_reducible first | refine Wo (fun K hK => ?_) | refine Wp ?_ | refine Wq ?_ | refine Wr ?_); (try simp only [go_sem, List.forall_mem_nil, ↓guard_ite, ↓pick_ite, seval, encT_eq, inR_i64, decide_eq_true_eq, decide_eq_false_iff_not, Int.ofNat_lt]); (repeat with_reducible refine And.intro (by first | omega | (with_reducible first | exact lens_encT | exact lens_encL | exact lens_encB | exact lens_encP) | (simp; done) | (simp only [List.length_take, List.length_map, List.length_append, maxLen_eq]; omega)) ?_); (try (with_reducible refine hK _ ?_; clear hK K)); (try with_reducible refine ite_conj ?_)))
  refine IWP.loopD [14, 17] (fun m s => ∃ (n : Nat) (t : Tm), n ≤ most ∧ m = most - n ∧ endR (stepB inner R) most 0 t0 = endR (stepB inner R) (most - n) n t ∧ t.chk = 0 ∧ t.size ≤ 800000 ∧ s.env 0 = aPrs R ∧ s.env 2 = aInt most ∧ s.env 3 = aBool inner ∧ s.env 5 = .one (.ptr 5 1 0 0) ∧ s.env 8 = .one (.ptr 8 1 0 0) ∧ s.env 11 = aInt n ∧ s.S 5 = some (boxTt t) ∧ s.S 8 = some boxT0 ∧ s.S 14 = none ∧ s.S 17 = none)
    most ⟨0, t0, by omega, by omega, rfl, hc0, hz0, rfl, rfl, rfl, rfl, rfl, rfl, rfl, rfl, rfl, rfl⟩ ?_
  rintro m ⟨env, S⟩ ⟨n, t, hn, rfl, hend, hc, hz, e0, e2, e3, e5, e8, e11, s5, s8, s14, s17⟩
  simp only at e0 e2 e3 e5 e8 e11 s5 s8 s14 s17
  rw [hend]
  have hcon := next_a hR inner t (by omega)
  have hfind := stepB_find inner R t
  cases hp : t.findP (testB inner R) with
  | none =>
    rw [hp] at hcon hfind
    unfold nextV at hcon
    rw [endR_none hfind]
    repeat' (first | (with_reducible first | refine Wa ?_ | refine Wb ?_ | refine Wc ?_ | refine Wd ?_ | refine We ?_ | refine Wf ?_ | refine Wg ?_ | refine Wh ?_ | refine Wi ?_ | refine Wj ?_ | refine Wk (by decide) ?_ | refine Wl ?_ | refine Wm ?_ | refine Wn ?_) | refine CallG.mk _ (hcon) ?_ | ((with_reducible first | refine Wo (fun K hK => ?_) | refine Wp ?_ | refine Wq ?_ | refine Wr ?_); (try simp only [go_sem, List.forall_mem_nil, ↓guard_ite, ↓pick_ite, seval, encT_eq, inR_i64, e0, e2, e3, e5, e8, e11, s5, s8, s14, s17, decide_eq_true_eq, decide_eq_false_iff_not, Int.ofNat_lt]); (repeat with_reducible refine And.intro (by first | omega | (with_reducible first | exact lens_encT | exact lens_encL | exact lens_encB | exact lens_encP) | (simp; done) | (simp only [List.length_take, List.length_map, List.length_append, maxLen_eq]; omega)) ?_); (try (with_reducible refine hK _ ?_; clear hK K)); (try with_reducible refine ite_conj ?_)))
    simp only [go_sem, List.forall_mem_nil, ↓guard_ite, ↓pick_ite, seval, FinQ, AS.result, resAll, resOne, tupV, e8, s8]
  | some p =>
    obtain ⟨x, hx, hTx, hxk⟩ := Tm.findP_at _ t p hp
    have hxz := knot_size t x hxk
    have hat := atOf_a p t
    rw [hx] at hat
    rw [hp] at hcon hfind
    unfold nextV at hcon
    simp only [stepAt, hx] at hfind
    cases hr : rootS R x with
    | none =>
      exfalso
      have h1 := testB_fit hTx
      rw [rootS_none.1 hr] at h1
      cases h1
    | some r =>
      obtain ⟨y, e⟩ := r
      rw [hr] at hfind
      simp only [Option.map_some] at hfind
      obtain ⟨g1, g2, g3⟩ := stepB_good hR hc hfind
      have hput := putOf_a p t (by omega) y (by rw [hx]; rfl)
      by_cases hmost : n = most
      · have hmi : (n : Int) = most := by omega
        rw [show most - n = 0 by omega, endR_zero hfind]
        repeat' (first | (with_reducible first | refine Wa ?_ | refine Wb ?_ | refine Wc ?_ | refine Wd ?_ | refine We ?_ | refine Wf ?_ | refine Wg ?_ | refine Wh ?_ | refine Wi ?_ | refine Wj ?_ | refine Wk (by decide) ?_ | refine Wl ?_ | refine Wm ?_ | refine Wn ?_) | refine CallG.mk _ (hcon) ?_ | ((with_reducible first | refine Wo (fun K hK => ?_) | refine Wp ?_ | refine Wq ?_ | refine Wr ?_); (try simp only [go_sem, List.forall_mem_nil, ↓guard_ite, ↓pick_ite, seval, encT_eq, inR_i64, e0, e2, e3, e5, e8, e11, s5, s8, s14, s17, hmi, decide_eq_true_eq, decide_eq_false_iff_not, Int.ofNat_lt]); (repeat with_reducible refine And.intro (by first | omega | (with_reducible first | exact lens_encT | exact lens_encL | exact lens_encB | exact lens_encP) | (simp; done) | (simp only [List.length_take, List.length_map, List.length_append, maxLen_eq]; omega)) ?_); (try (with_reducible refine hK _ ?_; clear hK K)); (try with_reducible refine ite_conj ?_)))
        simp only [go_sem, List.forall_mem_nil, ↓guard_ite, ↓pick_ite, seval, FinQ, AS.result, resAll, resOne, tupV, e8, s8]
        rfl
      have hmi : ¬ (n : Int) = most := by omega
      obtain ⟨k0, hk0⟩ : ∃ k, most - n = k + 1 := ⟨most - n - 1, by omega⟩
      rw [hk0]
      repeat' (first | (with_reducible first | refine Wa ?_ | refine Wb ?_ | refine Wc ?_ | refine Wd ?_ | refine We ?_ | refine Wf ?_ | refine Wg ?_ | refine Wh ?_ | refine Wi ?_ | refine Wj ?_ | refine Wk (by decide) ?_ | refine Wl ?_ | refine Wm ?_ | refine Wn ?_) | refine CallG.mk _ (hcon) ?_ | refine CallG.mk _ (hat) ?_ | ((with_reducible first | refine Wo (fun K hK => ?_) | refine Wp ?_ | refine Wq ?_ | refine Wr ?_); (try simp only [go_sem, List.forall_mem_nil, ↓guard_ite, ↓pick_ite, seval, encT_eq, inR_i64, e0, e2, e3, e5, e8, e11, s5, s8, s14, s17, hmi, decide_eq_true_eq, decide_eq_false_iff_not, Int.ofNat_lt]); (repeat with_reducible refine And.intro (by first | omega | (with_reducible first | exact lens_encT | exact lens_encL | exact lens_encB | exact lens_encP) | (simp; done) | (simp only [List.length_take, List.length_map, List.length_append, maxLen_eq]; omega)) ?_); (try (with_reducible refine hK _ ?_; clear hK K)); (try with_reducible refine ite_conj ?_)))
      refine IWP.loopD [17] (fun m s => ∃ k, k ≤ R.length ∧ m = R.length - k ∧ rootFrom R x (R.drop k) = some (y, e) ∧ s.env 0 = aPrs R ∧ s.env 2 = aInt most ∧ s.env 3 = aBool inner ∧ s.env 5 = .one (.ptr 5 1 0 0) ∧ s.env 8 = .one (.ptr 8 1 0 0) ∧ s.env 11 = aInt (n + 1) ∧ s.env 12 = aInts p ∧ s.env 14 = .one (.ptr 14 1 0 0) ∧ s.env 16 = aInt k ∧ s.S 5 = some (boxTt t) ∧ s.S 8 = some boxT0 ∧ s.S 14 = some (boxTt x) ∧ s.S 17 = none) R.length ⟨0, Nat.zero_le _, rfl, hr, ?_⟩ ?_
      · simp only [go_sem, List.forall_mem_nil, ↓guard_ite, ↓pick_ite, seval, encT_eq, inR_i64, e0, e2, e3, e5, e8, e11, s5, s8, s14, s17]
      rintro m ⟨env, S⟩ ⟨k, hk, rfl, hrk, e0, e2, e3, e5, e8, e11, e12, e14, e16, s5, s8, s14, s17⟩
      simp only at e0 e2 e3 e5 e8 e11 e12 e14 e16 s5 s8 s14 s17
      by_cases hkl : k < R.length
      case neg =>
        rw [List.drop_of_length_le (by omega)] at hrk
        cases hrk
      case pos =>
      have hlt : (k : Int) < R.length := by omega
      obtain ⟨q, hq⟩ := get_lt hkl
      have hmem := mem_of_get hq
      have z1 := (Tm.may_chk (hR.left q hmem)).2
      have z2 := (Tm.may_chk (hR.right q hmem)).2
      rw [drop_get hq, rootFrom_step] at hrk
      have hfits := fits_a q x (by omega) (by omega) (by omega)
      unfold fitsV at hfits
      by_cases hcase : isCase q.1 x = true
      case neg =>
        rw [if_neg hcase] at hrk hfits
        repeat' (first | (with_reducible first | refine Wa ?_ | refine Wb ?_ | refine Wc ?_ | refine Wd ?_ | refine We ?_ | refine Wf ?_ | refine Wg ?_ | refine Wh ?_ | refine Wi ?_ | refine Wj ?_ | refine Wk (by decide) ?_ | refine Wl ?_ | refine Wm ?_ | refine Wn ?_) | refine CallG.mk _ (hfits) ?_ | ((with_reducible first | refine Wo (fun K hK => ?_) | refine Wp ?_ | refine Wq ?_ | refine Wr ?_); (try simp only [go_sem, List.forall_mem_nil, ↓guard_ite, ↓pick_ite, seval, encT_eq, inR_i64, e0, e2, e3, e5, e8, e11, e12, e14, e16, s5, s8, s14, s17, hlt, hq, encP, decide_eq_true_eq, decide_eq_false_iff_not, Int.ofNat_lt]); (repeat with_reducible refine And.intro (by first | omega | (with_reducible first | exact lens_encT | exact lens_encL | exact lens_encB | exact lens_encP) | (simp; done) | (simp only [List.length_take, List.length_map, List.length_append, maxLen_eq]; omega)) ?_); (try (with_reducible refine hK _ ?_; clear hK K)); (try with_reducible refine ite_conj ?_)))
        refine then_normal ⟨R.length - (k + 1), by omega, k + 1, by omega, rfl, hrk, ?_⟩
        simp only [go_sem, List.forall_mem_nil, ↓guard_ite, ↓pick_ite, seval, AS.drop, dropS, AC.clears, AC.clear, AC.highs, AC.high, Bool.not_false, Bool.true_and, Bool.and_self, AV.purge, AV.purges, AC.purge, ABlk.purge, List.contains_cons, List.contains_nil, Nat.reduceBEq, Bool.or_self, Bool.or_false, Bool.false_or, Bool.or_true, encT_eq, inR_i64, e0, e2, e3, e5, e8, e11, e12, e14, e16, s5, s8, s14, s17]
        congr 3
      case pos =>
      rw [if_pos hcase] at hrk hfits
      by_cases hon : (onTo (caseOf q.1 x) q.2).2 = true
      case neg =>
        rw [if_neg hon] at hrk
        simp only [Bool.not_eq_true] at hon
        rw [hon] at hfits
        cases hrk
        rw [endR_bad hfind (by decide)]
        repeat' (first | (with_reducible first | refine Wa ?_ | refine Wb ?_ | refine Wc ?_ | refine Wd ?_ | refine We ?_ | refine Wf ?_ | refine Wg ?_ | refine Wh ?_ | refine Wi ?_ | refine Wj ?_ | refine Wk (by decide) ?_ | refine Wl ?_ | refine Wm ?_ | refine Wn ?_) | refine CallG.mk _ (hfits) ?_ | ((with_reducible first | refine Wo (fun K hK => ?_) | refine Wp ?_ | refine Wq ?_ | refine Wr ?_); (try simp only [go_sem, List.forall_mem_nil, ↓guard_ite, ↓pick_ite, seval, encT_eq, inR_i64, e0, e2, e3, e5, e8, e11, e12, e14, e16, s5, s8, s14, s17, hlt, hq, encP, decide_eq_true_eq, decide_eq_false_iff_not, Int.ofNat_lt]); (repeat with_reducible refine And.intro (by first | omega | (with_reducible first | exact lens_encT | exact lens_encL | exact lens_encB | exact lens_encP) | (simp; done) | (simp only [List.length_take, List.length_map, List.length_append, maxLen_eq]; omega)) ?_); (try (with_reducible refine hK _ ?_; clear hK K)); (try with_reducible refine ite_conj ?_)))
        simp only [go_sem, List.forall_mem_nil, ↓guard_ite, ↓pick_ite, seval, FinQ, AS.result, resAll, resOne, tupV, e8, s8]
        rfl
      case pos =>
      rw [if_pos hon] at hrk
      rw [hon] at hfits
      simp only [Option.some.injEq, Prod.mk.injEq] at hrk
      obtain ⟨hy, he⟩ := hrk
      subst he
      rw [hy] at hfits
      have hsz := sizeR_a (t.putP p y) 2000 (by omega) (by omega)
      by_cases hgr : 2000 < (t.putP p y).size
      · rw [endR_great hfind hgr]
        have hg : (2000 : Int) < capTo (t.putP p y).size 2000 := by unfold capTo; split <;> omega
        repeat' (first | (with_reducible first | refine Wa ?_ | refine Wb ?_ | refine Wc ?_ | refine Wd ?_ | refine We ?_ | refine Wf ?_ | refine Wg ?_ | refine Wh ?_ | refine Wi ?_ | refine Wj ?_ | refine Wk (by decide) ?_ | refine Wl ?_ | refine Wm ?_ | refine Wn ?_) | refine CallG.mk _ (hfits) ?_ | refine CallG.mk _ (hput) ?_ | refine CallG.mk _ (hsz) ?_ | ((with_reducible first | refine Wo (fun K hK => ?_) | refine Wp ?_ | refine Wq ?_ | refine Wr ?_); (try simp only [go_sem, List.forall_mem_nil, ↓guard_ite, ↓pick_ite, seval, encT_eq, inR_i64, e0, e2, e3, e5, e8, e11, e12, e14, e16, s5, s8, s14, s17, hlt, hq, encP, hg, decide_eq_true_eq, decide_eq_false_iff_not, Int.ofNat_lt]); (repeat with_reducible refine And.intro (by first | omega | (with_reducible first | exact lens_encT | exact lens_encL | exact lens_encB | exact lens_encP) | (simp; done) | (simp only [List.length_take, List.length_map, List.length_append, maxLen_eq]; omega)) ?_); (try (with_reducible refine hK _ ?_; clear hK K)); (try with_reducible refine ite_conj ?_)))
        simp only [go_sem, List.forall_mem_nil, ↓guard_ite, ↓pick_ite, seval, FinQ, AS.result, resAll, resOne, tupV, e8, s8]
        rfl
      · have hg : ¬ (2000 : Int) < capTo (t.putP p y).size 2000 := by unfold capTo; split <;> omega
        repeat' (first | (with_reducible first | refine Wa ?_ | refine Wb ?_ | refine Wc ?_ | refine Wd ?_ | refine We ?_ | refine Wf ?_ | refine Wg ?_ | refine Wh ?_ | refine Wi ?_ | refine Wj ?_ | refine Wk (by decide) ?_ | refine Wl ?_ | refine Wm ?_ | refine Wn ?_) | refine CallG.mk _ (hfits) ?_ | refine CallG.mk _ (hput) ?_ | refine CallG.mk _ (hsz) ?_ | ((with_reducible first | refine Wo (fun K hK => ?_) | refine Wp ?_ | refine Wq ?_ | refine Wr ?_); (try simp only [go_sem, List.forall_mem_nil, ↓guard_ite, ↓pick_ite, seval, encT_eq, inR_i64, e0, e2, e3, e5, e8, e11, e12, e14, e16, s5, s8, s14, s17, hlt, hq, encP, hg, decide_eq_true_eq, decide_eq_false_iff_not, Int.ofNat_lt]); (repeat with_reducible refine And.intro (by first | omega | (with_reducible first | exact lens_encT | exact lens_encL | exact lens_encB | exact lens_encP) | (simp; done) | (simp only [List.length_take, List.length_map, List.length_append, maxLen_eq]; omega)) ?_); (try (with_reducible refine hK _ ?_; clear hK K)); (try with_reducible refine ite_conj ?_)))
        refine then_normal ⟨most - (n + 1), by omega, n + 1, t.putP p y, by omega, rfl, ?_, g2 rfl, by omega, ?_⟩
        · rw [show most - (n + 1) = k0 by omega]
          exact endR_on hfind hgr k0 n
        · simp only [go_sem, List.forall_mem_nil, ↓guard_ite, ↓pick_ite, seval, AS.drop, dropS, AC.clears, AC.clear, AC.highs, AC.high, Bool.not_false, Bool.true_and, Bool.and_self, AV.purge, AV.purges, AC.purge, ABlk.purge, List.contains_cons, List.contains_nil, Nat.reduceBEq, Bool.or_self, Bool.or_false, Bool.false_or, Bool.or_true, encT_eq, inR_i64, e0, e2, e3, e5, e8, e11, e12, e14, e16, s5, s8, s14, s17]
          congr 3
theorem meetR_a {R : List Pr} (hR : GoodRules R) (a b : Tm) (ha : a.chk = 0) (hb : b.chk = 0) (za : a.size ≤ 800000) (zb : b.size ≤ 800000) (most : Nat) (hm : most ≤ 1000000) : ACalls Try.prog 16 [aPrs R, aTm a, aTm b, aInt most] (.tup [aBool (metOf R most a b).1, aInt (metOf R most a b).2]) := by
  have l1 := endOf_a hR true a ha za most hm
  have l2 := endOf_a hR true b hb zb most hm
  have e : stepB true R = Tm.inn R := rfl
  rw [e] at l1 l2
  have hmet : metOf R most a b = if (endR (Tm.inn R) most 0 a).2.2 ≠ 0 then (false, (endR (Tm.inn R) most 0 a).2.2) else if (endR (Tm.inn R) most 0 b).2.2 ≠ 0 then (false, (endR (Tm.inn R) most 0 b).2.2) else ((endR (Tm.inn R) most 0 a).1.beq (endR (Tm.inn R) most 0 b).1, 0) := rfl
  rw [hmet]
  unfold endV at l1 l2
  generalize endR (Tm.inn R) most 0 a = x at *
  generalize endR (Tm.inn R) most 0 b = y at *
  clear hmet
  refine ac_R_MeetOf (Nat.le_of_ble_eq_true rfl) fun C hC => ?_
  unfold ir_R_MeetOf
  by_cases h1 : x.2.2 = 0
  case neg =>
    rw [if_pos h1]
    repeat' (first | (with_reducible first | refine Wa ?_ | refine Wb ?_ | refine Wc ?_ | refine Wd ?_ | refine We ?_ | refine Wf ?_ | refine Wg ?_ | refine Wh ?_ | refine Wi ?_ | refine Wj ?_ | refine Wk (by decide) ?_ | refine Wl ?_ | refine Wm ?_ | refine Wn ?_) | refine CallG.mk _ (l1) ?_ | ((with_reducible first | refine Wo (fun K hK => ?_) | refine Wp ?_ | refine Wq ?_ | refine Wr ?_); (try simp only [go_sem, List.forall_mem_nil, ↓guard_ite, ↓pick_ite, seval, encT_eq, inR_i64, h1, decide_eq_true_eq, decide_eq_false_iff_not, Int.ofNat_lt]); (repeat with_reducible refine And.intro (by first | omega | (with_reducible first | exact lens_encT | exact lens_encL | exact lens_encB | exact lens_encP) | (simp; done) | (simp only [List.length_take, List.length_map, List.length_append, maxLen_eq]; omega)) ?_); (try (with_reducible refine hK _ ?_; clear hK K)); (try with_reducible refine ite_conj ?_)))
    simp only [go_sem, List.forall_mem_nil, ↓guard_ite, ↓pick_ite, seval, FinQ, AS.result, resAll, resOne, tupV]
  case pos =>
  rw [if_neg (fun h => h h1)]
  by_cases h2 : y.2.2 = 0
  case neg =>
    rw [if_pos h2]
    repeat' (first | (with_reducible first | refine Wa ?_ | refine Wb ?_ | refine Wc ?_ | refine Wd ?_ | refine We ?_ | refine Wf ?_ | refine Wg ?_ | refine Wh ?_ | refine Wi ?_ | refine Wj ?_ | refine Wk (by decide) ?_ | refine Wl ?_ | refine Wm ?_ | refine Wn ?_) | refine CallG.mk _ (l1) ?_ | refine CallG.mk _ (l2) ?_ | ((with_reducible first | refine Wo (fun K hK => ?_) | refine Wp ?_ | refine Wq ?_ | refine Wr ?_); (try simp only [go_sem, List.forall_mem_nil, ↓guard_ite, ↓pick_ite, seval, encT_eq, inR_i64, h1, h2, decide_eq_true_eq, decide_eq_false_iff_not, Int.ofNat_lt]); (repeat with_reducible refine And.intro (by first | omega | (with_reducible first | exact lens_encT | exact lens_encL | exact lens_encB | exact lens_encP) | (simp; done) | (simp only [List.length_take, List.length_map, List.length_append, maxLen_eq]; omega)) ?_); (try (with_reducible refine hK _ ?_; clear hK K)); (try with_reducible refine ite_conj ?_)))
    simp only [go_sem, List.forall_mem_nil, ↓guard_ite, ↓pick_ite, seval, FinQ, AS.result, resAll, resOne, tupV]
  case pos =>
  rw [if_neg (fun h => h h2)]
  repeat' (first | (with_reducible first | refine Wa ?_ | refine Wb ?_ | refine Wc ?_ | refine Wd ?_ | refine We ?_ | refine Wf ?_ | refine Wg ?_ | refine Wh ?_ | refine Wi ?_ | refine Wj ?_ | refine Wk (by decide) ?_ | refine Wl ?_ | refine Wm ?_ | refine Wn ?_) | refine CallG.mk _ (l1) ?_ | refine CallG.mk _ (l2) ?_ | refine CallG.mk _ (sameR_a x.1 y.1) ?_ | ((with_reducible first | refine Wo (fun K hK => ?_) | refine Wp ?_ | refine Wq ?_ | refine Wr ?_); (try simp only [go_sem, List.forall_mem_nil, ↓guard_ite, ↓pick_ite, seval, encT_eq, inR_i64, h1, h2, decide_eq_true_eq, decide_eq_false_iff_not, Int.ofNat_lt]); (repeat with_reducible refine And.intro (by first | omega | (with_reducible first | exact lens_encT | exact lens_encL | exact lens_encB | exact lens_encP) | (simp; done) | (simp only [List.length_take, List.length_map, List.length_append, maxLen_eq]; omega)) ?_); (try (with_reducible refine hK _ ?_; clear hK K)); (try with_reducible refine ite_conj ?_)))
  simp only [go_sem, List.forall_mem_nil, ↓guard_ite, ↓pick_ite, seval, FinQ, AS.result, resAll, resOne, tupV]
end Go.Proofs.Ytkekmeiiikkabaa

namespace Go.Proofs.Ytkekmeiiikkabaa
open Go Go.RowKit
set_option maxRecDepth 100000

def ir_L_hugePairs : IR :=
  (.seq
  (.ops
  [.mk (some 2) none (.mov (.c (.one (.st (.bool false)))))
  .no])
  (.seq
  (.seq
  (.ops
  [.mk (some 3) none (.mov (.c (.one (.st (.int .i64 0)))))
  .no])
  (.block 0
  (.loop
  (.seq
  (.seq
  (.ops
  [.mk (some 4) none (.mov (.t 3)) .no, .mk (some 5) none (.mov (.t 0)) .no, .mk (some 6) none (.len false (.t 5)) .no, .mk (some 7) none (.bin .lss (.t 4) (.t 6))
  .no])
  (.cond (.t 7) .skip (.exit 0)))
  (.seq
  (.block 1
  (.seq
  (.ops
  [.mk (some 10) none (.mov (.t 0)) .no, .mk (some 11) none (.mov (.t 3)) .no, .mk (some 12) none (.indexAddr 4 (.t 10) (.t 11))
  .no, .mk (some 13) none (.fieldAddr 0 (.t 12)) .no, .mk (some 14) none (.load true 2 (.t 13)) .no, .mk (some 15) none (.call 6 [.t 14]) .no, .mk (some 16) none (.mov (.t 15)) .no, .mk (some 17) (some (16, false)) (.mov (.t 0)) .no, .mk (some 18) (some (16, false)) (.mov (.t 3)) .no, .mk (some 19) (some (16, false)) (.indexAddr 4 (.t 17) (.t 18))
  .no, .mk (some 20) (some (16, false)) (.fieldAddr 2 (.t 19)) .no, .mk (some 21) (some (16, false)) (.load true 2 (.t 20)) .no, .mk (some 22) (some (16, false)) (.call 6 [.t 21]) .no, .mk (some 23) none
  (.pick (.t 16) (.c (.one (.st (.bool true)))) (.t 22))
  .no])
  (.cond (.t 23)
  (.seq
  (.ops
  [.mk (some 2) none (.mov (.c (.one (.st (.bool true)))))
  .no])
  .ret)
  .skip)))
  (.ops
  [.mk (some 8) none (.mov (.t 3)) .no, .mk (some 9) none (.bin .add (.t 8) (.c (.one (.st (.int .i64 1)))))
  .no, .mk (some 3) none (.mov (.t 9)) .no]))))))
  (.seq
  (.ops
  [.mk (some 24) none (.mov (.t 0)) .no, .mk (some 25) none (.len false (.t 24)) .no, .mk (some 26) none (.bin .gtr (.t 25) (.c (.one (.st (.int .i64 100)))))
  .no, .mk (some 2) none (.mov (.t 26)) .no])
  .ret)))
theorem tr_L_hugePairs : trCode Try.prog 27 [] (Try.f5.body.getD .skip) = some ir_L_hugePairs := by kernel_rfl
theorem ac_L_hugePairs {xs : List AV} {r : AV} (hn : xs.length ≤ 27) (h : ∀ C : Ctx, C.n = 27 → IWP Try.prog C [] ir_L_hugePairs (FinQ [.t 2] r) (AS.start xs)) : ACalls Try.prog 5 xs r :=
  acalls_of Try.func5 rfl tr_L_hugePairs rfl hn h
end Go.Proofs.Ytkekmeiiikkabaa

namespace Go.Proofs.Ytkekmeiiikkabaa
open Go Go.RowKit
set_option linter.unusedVariables false
set_option linter.unusedSimpArgs false
set_option maxHeartbeats 800000

def hugePs (l : List Pr) : Bool := l.any (fun p => decide (3000 < p.1.size) || decide (3000 < p.2.size)) || decide (100 < l.length)
theorem hugePairs_a (l : List Pr) : ACalls Try.prog 5 [aPrs l] (aBool (hugePs l)) := by
  refine ac_L_hugePairs (Nat.le_of_ble_eq_true rfl) fun C hC => ?_
  unfold ir_L_hugePairs
  refine IWP.learn 0 (by omega) fun hkn => ?_
  have hkn := known_len hkn
  rw [List.length_map] at hkn
  repeat' (first | (with_reducible first | refine Wa ?_ | refine Wb ?_ | refine Wc ?_ | refine Wd ?_ | refine We ?_ | refine Wf ?_ | refine Wg ?_ | refine Wh ?_ | refine Wi ?_ | refine Wj ?_ | refine Wk (by decide) ?_ | refine Wl ?_ | refine Wm ?_ | refine Wn ?_) | ((with_reducible first | refine Wo (fun K hK => ?_) | refine Wp ?_ | refine Wq ?_ | refine Wr ?_); (try simp only [go_sem, List.forall_mem_nil, ↓guard_ite, ↓pick_ite, seval, encT_eq, inR_i64, decide_eq_true_eq, decide_eq_false_iff_not, Int.ofNat_lt]); (repeat with_reducible refine And.intro (by first | omega | (with_reducible first | exact lens_encT | exact lens_encL | exact lens_encB | exact lens_encP) | (simp; done) | (simp only [List.length_take, List.length_map, List.length_append, maxLen_eq]; omega)) ?_); (try (with_reducible refine hK _ ?_; clear hK K)); (try with_reducible refine ite_conj ?_)))
  refine IWP.loop (fun m s => ∃ k, k ≤ l.length ∧ m = l.length - k ∧ (l.take k).any (fun p => decide (3000 < p.1.size) || decide (3000 < p.2.size)) = false ∧ s.env 0 = aPrs l ∧ s.env 3 = aInt k) l.length ⟨0, Nat.zero_le _, rfl, rfl, rfl, rfl⟩ ?_
  rintro m ⟨env, S⟩ ⟨k, hk, rfl, h0, e0, e3⟩
  simp only at e0 e3
  by_cases hlt : (k : Int) < l.length
  · obtain ⟨p, hp⟩ := get_lt (show k < l.length by omega)
    repeat' (first | (with_reducible first | refine Wa ?_ | refine Wb ?_ | refine Wc ?_ | refine Wd ?_ | refine We ?_ | refine Wf ?_ | refine Wg ?_ | refine Wh ?_ | refine Wi ?_ | refine Wj ?_ | refine Wk (by decide) ?_ | refine Wl ?_ | refine Wm ?_ | refine Wn ?_) | ((with_reducible first | refine Wo (fun K hK => ?_) | refine Wp ?_ | refine Wq ?_ | refine Wr ?_); (try simp only [go_sem, List.forall_mem_nil, ↓guard_ite, ↓pick_ite, seval, encT_eq, inR_i64, e0, e3, hlt, hp, encP, decide_eq_true_eq, decide_eq_false_iff_not, Int.ofNat_lt]); (repeat with_reducible refine And.intro (by first | omega | (with_reducible first | exact lens_encT | exact lens_encL | exact lens_encB | exact lens_encP) | (simp; done) | (simp only [List.length_take, List.length_map, List.length_append, maxLen_eq]; omega)) ?_); (try (with_reducible refine hK _ ?_; clear hK K)); (try with_reducible refine ite_conj ?_)))
    refine ⟨_, huge_a p.1, ?_⟩
    by_cases hz : 3000 < p.1.size
    · repeat' (first | (with_reducible first | refine Wa ?_ | refine Wb ?_ | refine Wc ?_ | refine Wd ?_ | refine We ?_ | refine Wf ?_ | refine Wg ?_ | refine Wh ?_ | refine Wi ?_ | refine Wj ?_ | refine Wk (by decide) ?_ | refine Wl ?_ | refine Wm ?_ | refine Wn ?_) | ((with_reducible first | refine Wo (fun K hK => ?_) | refine Wp ?_ | refine Wq ?_ | refine Wr ?_); (try simp only [go_sem, List.forall_mem_nil, ↓guard_ite, ↓pick_ite, seval, encT_eq, inR_i64, hz, decide_eq_true_eq, decide_eq_false_iff_not, Int.ofNat_lt]); (repeat with_reducible refine And.intro (by first | omega | (with_reducible first | exact lens_encT | exact lens_encL | exact lens_encB | exact lens_encP) | (simp; done) | (simp only [List.length_take, List.length_map, List.length_append, maxLen_eq]; omega)) ?_); (try (with_reducible refine hK _ ?_; clear hK K)); (try with_reducible refine ite_conj ?_)))
      simp only [go_sem, List.forall_mem_nil, ↓guard_ite, ↓pick_ite, seval, FinQ, AS.result, resAll, resOne, tupV]
      have : l.any (fun p => decide (3000 < p.1.size) || decide (3000 < p.2.size)) = true := List.any_eq_true.2 ⟨p, mem_of_get hp, by simp [hz]⟩
      unfold hugePs
      rw [this]
      rfl
    · repeat' (first | (with_reducible first | refine Wa ?_ | refine Wb ?_ | refine Wc ?_ | refine Wd ?_ | refine We ?_ | refine Wf ?_ | refine Wg ?_ | refine Wh ?_ | refine Wi ?_ | refine Wj ?_ | refine Wk (by decide) ?_ | refine Wl ?_ | refine Wm ?_ | refine Wn ?_) | ((with_reducible first | refine Wo (fun K hK => ?_) | refine Wp ?_ | refine Wq ?_ | refine Wr ?_); (try simp only [go_sem, List.forall_mem_nil, ↓guard_ite, ↓pick_ite, seval, encT_eq, inR_i64, hz, e0, e3, hp, encP, decide_eq_true_eq, decide_eq_false_iff_not, Int.ofNat_lt]); (repeat with_reducible refine And.intro (by first | omega | (with_reducible first | exact lens_encT | exact lens_encL | exact lens_encB | exact lens_encP) | (simp; done) | (simp only [List.length_take, List.length_map, List.length_append, maxLen_eq]; omega)) ?_); (try (with_reducible refine hK _ ?_; clear hK K)); (try with_reducible refine ite_conj ?_)))
      refine ⟨_, huge_a p.2, ?_⟩
      by_cases hy : 3000 < p.2.size
      · repeat' (first | (with_reducible first | refine Wa ?_ | refine Wb ?_ | refine Wc ?_ | refine Wd ?_ | refine We ?_ | refine Wf ?_ | refine Wg ?_ | refine Wh ?_ | refine Wi ?_ | refine Wj ?_ | refine Wk (by decide) ?_ | refine Wl ?_ | refine Wm ?_ | refine Wn ?_) | ((with_reducible first | refine Wo (fun K hK => ?_) | refine Wp ?_ | refine Wq ?_ | refine Wr ?_); (try simp only [go_sem, List.forall_mem_nil, ↓guard_ite, ↓pick_ite, seval, encT_eq, inR_i64, hy, decide_eq_true_eq, decide_eq_false_iff_not, Int.ofNat_lt]); (repeat with_reducible refine And.intro (by first | omega | (with_reducible first | exact lens_encT | exact lens_encL | exact lens_encB | exact lens_encP) | (simp; done) | (simp only [List.length_take, List.length_map, List.length_append, maxLen_eq]; omega)) ?_); (try (with_reducible refine hK _ ?_; clear hK K)); (try with_reducible refine ite_conj ?_)))
        simp only [go_sem, List.forall_mem_nil, ↓guard_ite, ↓pick_ite, seval, FinQ, AS.result, resAll, resOne, tupV]
        have : l.any (fun p => decide (3000 < p.1.size) || decide (3000 < p.2.size)) = true := List.any_eq_true.2 ⟨p, mem_of_get hp, by simp [hy]⟩
        unfold hugePs
        rw [this]
        rfl
      · repeat' (first | (with_reducible first | refine Wa ?_ | refine Wb ?_ | refine Wc ?_ | refine Wd ?_ | refine We ?_ | refine Wf ?_ | refine Wg ?_ | refine Wh ?_ | refine Wi ?_ | refine Wj ?_ | refine Wk (by decide) ?_ | refine Wl ?_ | refine Wm ?_ | refine Wn ?_) | ((with_reducible first | refine Wo (fun K hK => ?_) | refine Wp ?_ | refine Wq ?_ | refine Wr ?_); (try simp only [go_sem, List.forall_mem_nil, ↓guard_ite, ↓pick_ite, seval, encT_eq, inR_i64, hy, e0, e3, decide_eq_true_eq, decide_eq_false_iff_not, Int.ofNat_lt]); (repeat with_reducible refine And.intro (by first | omega | (with_reducible first | exact lens_encT | exact lens_encL | exact lens_encB | exact lens_encP) | (simp; done) | (simp only [List.length_take, List.length_map, List.length_append, maxLen_eq]; omega)) ?_); (try (with_reducible refine hK _ ?_; clear hK K)); (try with_reducible refine ite_conj ?_)))
        refine then_normal ⟨l.length - (k + 1), by omega, k + 1, by omega, rfl, ?_, ?_⟩
        · rw [take_snoc hp, List.any_append, h0]
          simp [hz, hy]
        · simp only [go_sem, List.forall_mem_nil, ↓guard_ite, ↓pick_ite, seval, encT_eq, inR_i64, e0, e3]
          congr 3
  · repeat' (first | (with_reducible first | refine Wa ?_ | refine Wb ?_ | refine Wc ?_ | refine Wd ?_ | refine We ?_ | refine Wf ?_ | refine Wg ?_ | refine Wh ?_ | refine Wi ?_ | refine Wj ?_ | refine Wk (by decide) ?_ | refine Wl ?_ | refine Wm ?_ | refine Wn ?_) | ((with_reducible first | refine Wo (fun K hK => ?_) | refine Wp ?_ | refine Wq ?_ | refine Wr ?_); (try simp only [go_sem, List.forall_mem_nil, ↓guard_ite, ↓pick_ite, seval, encT_eq, inR_i64, e0, e3, hlt, decide_eq_true_eq, decide_eq_false_iff_not, Int.ofNat_lt]); (repeat with_reducible refine And.intro (by first | omega | (with_reducible first | exact lens_encT | exact lens_encL | exact lens_encB | exact lens_encP) | (simp; done) | (simp only [List.length_take, List.length_map, List.length_append, maxLen_eq]; omega)) ?_); (try (with_reducible refine hK _ ?_; clear hK K)); (try with_reducible refine ite_conj ?_)))
    simp only [go_sem, List.forall_mem_nil, ↓guard_ite, ↓pick_ite, seval, FinQ, AS.result, resAll, resOne, tupV]
    rw [List.take_of_length_le (by omega)] at h0
    unfold hugePs
    rw [h0, Bool.false_or]
    congr 4
    simp
    omega

end Go.Proofs.Ytkekmeiiikkabaa
