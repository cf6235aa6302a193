/-
  Part 9 of the texts. Conditions: none.
-/
import Derived.Test.YtgepacmabaaohaaGreatDoorCrM8
import Derived.Lib.AppendIntMem
import Derived.Lib.ItoaLen
import Derived.Lib.ItoaMem
namespace Go.Proofs.YtgepacmabaaohaaGreatDoor
open Go Go.RowKit
set_option linter.unusedVariables false
set_option linter.unusedSimpArgs false
set_option maxHeartbeats 2000000
def Stk (xs : List (List SV)) (l : List Pr) : Prop := xs.take l.length = l.reverse.map At ∧ l.length ≤ xs.length
theorem Stk.push {xs : List (List SV)} {l : List Pr} (h : Stk xs l) (p : Pr) : Stk (xs.take l.length ++ [At p] ++ xs.drop (l.length + 1)) (p :: l) := by
 obtain ⟨h1, h2⟩ := h
 have hl : (xs.take l.length).length = l.length := by rw [List.length_take]; omega
 refine ⟨?_, by simp only [List.length_append, List.length_take, List.length_cons, List.length_nil]; omega⟩
 rw [List.length_cons, List.take_append_of_le_length (by rw [List.length_append, hl]; simp), List.take_of_length_le (by rw [List.length_append, hl]; simp), h1, List.reverse_cons, List.map_append]
 rfl
theorem Stk.pushLen {xs : List (List SV)} {l : List Pr} (h : Stk xs l) (p : Pr) : (xs.take l.length ++ [At p] ++ xs.drop (l.length + 1)).length = if xs.length ≤ l.length + 1 then l.length + 1 else xs.length := by
 have := h.2
 simp only [List.length_append, List.length_take, List.length_drop, List.length_cons, List.length_nil]
 split <;> omega
theorem Stk.top {xs : List (List SV)} {p : Pr} {l : List Pr} (h : Stk xs (p :: l)) : xs[l.length]? = some (At p) := by
 obtain ⟨h1, h2⟩ := h
 have e : (xs.take (p :: l).length)[l.length]? = xs[l.length]? := by rw [List.getElem?_take, if_pos (by simp)]
 rw [← e, h1, List.reverse_cons, List.map_append, List.getElem?_append_right (by simp)]
 simp
theorem Stk.pop {xs : List (List SV)} {p : Pr} {l : List Pr} (h : Stk xs (p :: l)) : Stk xs l := by
 obtain ⟨h1, h2⟩ := h
 rw [List.length_cons] at h2
 refine ⟨?_, by omega⟩
 have e : xs.take l.length = (xs.take (p :: l).length).take l.length := by rw [List.take_take, List.length_cons, Nat.min_eq_left (by omega)]
 rw [e, h1, List.reverse_cons, List.map_append, List.take_append_of_le_length (by simp), List.take_of_length_le (by simp)]
def D4 (s : List Bd) (x : ByteArray) (t : Tm) (i : Nat) : List Bd := (s.take i).map (fun b => (b.1, b.2.on [(x, t)])) ++ s.drop i
theorem PZ (s : List Bd) (x : ByteArray) (t : Tm) (i : Nat) : (D4 s x t i).length = s.length := by
 have := congrArg List.length (List.take_append_drop i s)
 unfold D4
 rw [List.length_append] at this ⊢
 rw [List.length_map]
 exact this
theorem Pt {s : List Bd} {x : ByteArray} {t : Tm} {i : Nat} {b : Bd} (h : s[i]? = some b) : (D4 s x t i)[i]? = some b := by
 have := Bh h
 unfold D4
 rw [List.getElem?_append_right (by rw [List.length_map, List.length_take]; omega), List.length_map, List.length_take, Nat.min_eq_left (by omega), Nat.sub_self, BS h]
 rfl
theorem P_ {s : List Bd} {x : ByteArray} {t : Tm} {i : Nat} {b : Bd} (h : s[i]? = some b) : (D4 s x t i).set i (b.1, b.2.on [(x, t)]) = D4 s x t (i + 1) := by
 have := Bh h
 unfold D4
 rw [List.set_append_right _ _ (by rw [List.length_map, List.length_take]; omega), List.length_map, List.length_take, Nat.min_eq_left (by omega), Nat.sub_self, BS h, AY h, List.map_append, List.append_assoc]
 rfl
theorem P0 (s : List Bd) (x : ByteArray) (t : Tm) : D4 s x t s.length = s.map fun b => (b.1, b.2.on [(x, t)]) := by
 unfold D4
 rw [List.take_length, List.drop_length, List.append_nil]
theorem Vb (U : List ByteArray) (hU : U.length ≤ 20000) (C0 : Nat) (hC0 : C0 ≤ 100000000000) (n : Nat) (l : List Pr) (r : List Bd × Int) (hr : Ck n [] l r) (hg : B6 U C0 [] l) : AQ Tryz.prog 48 [BF l] (.tup [Dc r.1, AK r.2]) := by
 have hll : l.length ≤ 100000000001 := by have := hg.stack; omega
 refine Kt.ac fun C hC => ?_
 unfold Fz
 repeat' with_reducible first | refine W ?_ | refine Z0 ?_ | ((first | refine Wo fun K hK => ?_ | refine Wp ?_ | refine Wq ?_ | refine Wr ?_); (try simp only [go_sem, fN, seval, eT, iR, dT, dF, nL]); (repeat refine Ai ?_); (try (refine hK _ ?_; clear hK K)); try refine iC ?_)
 refine IWP.ghost (Af.ownM 4 500 81 3 rfl rfl (by rw [hC]; decide)) ?_
 refine IWP.ghost (Af.ownM 5 501 31 4 rfl rfl (by rw [hC]; decide)) ?_
 refine IWP.ghost (Af.toPart 5 501 0 rfl (by rw [hC]; decide)) ?_
 refine IWP.loop (fun m x => ∃ (k : Nat) (xs : List (List SV)), k ≤ l.length ∧ m = k ∧ Stk xs (l.drop k) ∧ x.env 0 = BF l ∧ x.env 4 = .one (.row 500 0) ∧ x.env 5 = .one (.part 501 (l.drop k).length xs.length) ∧ x.env 6 = .one (.st (.int .i64 ((k : Int) - 1))) ∧ x.S 500 = some (BN []) ∧ x.S 501 = some (.mrow 31 4 xs) ∧ x.S 7 = none ∧ x.S 8 = none ∧ x.S 10 = none) l.length ⟨l.length, [], Nat.le_refl _, rfl, ?_⟩ ?_
 ·rw [List.drop_length]
  exact ⟨⟨rfl, Nat.le_refl _⟩, rfl, rfl, rfl, rfl, rfl, rfl, rfl, rfl, rfl⟩
 ·rintro k ⟨env, S⟩ ⟨_, xs, hk, rfl, hstk, e0, e4, e5, e6, s500, s501, s7, s8, s10⟩
  simp only at e0 e4 e5 e6 s500 s501 s7 s8 s10
  by_cases hk0 : 0 ≤ (k : Int) - 1
  ·obtain ⟨k, rfl⟩ : ∃ q, k = q + 1 := ⟨k - 1, by omega⟩
   obtain ⟨p, hp⟩ := AT (show k < l.length by omega)
   have hz : (((k + 1 : Nat) : Int) - 1).toNat = k := by omega
   have hp' : l[(((k + 1 : Nat) : Int) - 1).toNat]? = some p := by rw [hz]; exact hp
   have hdl : (List.drop (k + 1) l).length ≤ 100000000001 := by rw [List.length_drop]; omega
   repeat' with_reducible first | refine W ?_ | refine Z0 ?_ | ((first | refine Wo fun K hK => ?_ | refine Wp ?_ | refine Wq ?_ | refine Wr ?_); (try simp only [go_sem, fN, seval, eT, iR, e0, e4, e5, e6, s500, s501, s7, s8, s10, hk0, hz, hp, At, dT, dF, nL]); (repeat refine Ai ?_); (try (refine hK _ ?_; clear hK K)); try refine iC ?_)
   refine AE ⟨k, by omega, k, _, by omega, rfl, by rw [BS hp]; exact hstk.push p, ?_⟩
   simp only [go_sem, fN, seval, eT, iR, e0, e4, e5, e6, s500, s7, s8, s10]
   have hpl : (List.take (List.drop (k + 1) l).length xs).length + 1 + (List.drop ((List.drop (k + 1) l).length + 1) xs).length = if xs.length ≤ (List.drop (k + 1) l).length + 1 then (List.drop (k + 1) l).length + 1 else xs.length := by
    have := hstk.pushLen p
    simpa only [List.length_append, List.length_cons, List.length_nil, Nat.zero_add] using this
   rw [hpl, BS hp]
   refine ⟨rfl, ?_, rfl⟩
   congr 3
   omega
  ·obtain rfl : k = 0 := by omega
   rw [List.drop_zero] at hstk e5
   repeat' with_reducible first | refine W ?_ | refine Z0 ?_ | ((first | refine Wo fun K hK => ?_ | refine Wp ?_ | refine Wq ?_ | refine Wr ?_); (try simp only [go_sem, fN, seval, eT, iR, e6, hk0, dT, dF, nL]); (repeat refine Ai ?_); (try (refine hK _ ?_; clear hK K)); try refine iC ?_)
   refine IWP.loopD [7, 8, 10] (fun m x => ∃ s l xs, Ck m s l r ∧ B6 U C0 s l ∧ Stk xs l ∧ x.env 4 = .one (.row 500 s.length) ∧ x.env 5 = .one (.part 501 l.length xs.length) ∧ x.S 500 = some (BN s) ∧ x.S 501 = some (.mrow 31 4 xs) ∧ x.S 7 = none ∧ x.S 8 = none ∧ x.S 10 = none) n ⟨[], l, xs, hr, hg, hstk, ?_⟩ ?_
   ·simp only [go_sem, fN, seval, eT, iR, e4, e5, s500, s501, s7, s8, s10]
   clear hr hg hstk e0 e4 e5 e6 s500 s501 s7 s8 s10 hll hk hk0 env S xs
   rintro m ⟨env, S⟩ ⟨s, l, xs, hr, hg, hstk, e4, e5, s500, s501, s7, s8, s10⟩
   simp only at e4 e5 s500 s501 s7 s8 s10
   have hsl : s.length ≤ 20000 := Nat.le_trans hg.len hU
   cases l with
   | nil =>
    cases hr
    refine IWP.ghost (Af.share (id := 500) s500) ?_
    repeat' with_reducible first | refine W ?_ | refine Z0 ?_ | ((first | refine Wo fun K hK => ?_ | refine Wp ?_ | refine Wq ?_ | refine Wr ?_); (try simp only [go_sem, fN, seval, eT, iR, e4, e5, s501, dT, dF, nL]); (repeat refine Ai ?_); (try (refine hK _ ?_; clear hK K)); try refine iC ?_)
    simp only [go_sem, fN, seval, AJ, AS.result, AA, AB, AH]
   | cons p l =>
    have hinv := MG hr
    obtain ⟨hc1, hc2⟩ := hg.lchk p (by simp)
    have hUp := hg.lU p (by simp)
    obtain ⟨hz1, hz2⟩ := hg.lsiz p (by simp)
    obtain ⟨a1, a2, a3⟩ := onU hg hc1 fun y => (hUp y).1
    obtain ⟨b1, b2, b3⟩ := onU hg hc2 fun y => (hUp y).2
    have hl0 : (0 : Int) < ((l.length + 1 : Nat) : Int) := by omega
    have hl1 : (((l.length + 1 : Nat) : Int) - 1) = (l.length : Int) := by omega
    have hl2 : (l.length : Int) < ((l.length + 1 : Nat) : Int) := by omega
    have hl3 : (l.length : Int) ≤ ((l.length + 1 : Nat) : Int) := by omega
    have hlb : l.length ≤ 100000000000 := by have := hg.stack; rw [List.length_cons] at this; omega
    have htop := hstk.top
    have hstk' := hstk.pop
    rw [List.length_cons] at e5
    have onc : ∀ t : Tm, t.chk = 0 → ∀ T : AD, (∀ q ∈ [(500, BN s)], T q.1 = some q.2) → An Tryz.prog 49 [.one (.row (up1 500) s.length), aTm t] (upS T) (.tup [aTm (Aq s t).1, Ab (Aq s t).2]) (upS T) :=
     fun t ht T hT => W5 s (by omega) hg.ord t hg.var ht (up1 500) (Aw 500) (upS T) (by rw [A7, hT _ (List.mem_singleton.2 rfl)]; rfl)
    by_cases ha : (p.1.on s).size ≤ 2000
    case neg =>
     have he : Aq s p.1 = (Tm.nil, false) := by unfold Aq; rw [if_neg ha]
     have hst : BZ s p = .err 8 := by unfold BZ; rw [if_pos (by omega)]
     repeat' with_reducible first | refine W ?_ | refine Z0 ?_ | ((first | refine Wo fun K hK => ?_ | refine Wp ?_ | refine Wq ?_ | refine Wr ?_); (try simp only [go_sem, fN, seval, eT, iR, e4, e5, s500, s501, s7, s8, s10, hl0, hl1, hl2, hl3, htop, At, dT, dF, nL]); (repeat refine Ai ?_); (try (refine hK _ ?_; clear hK K)); try refine iC ?_)
     refine ⟨_, [(500, BN s)], DG (by (simp only [go_sem, fN, seval, eT, iR, s500])), onc p.1 hc1, ?_⟩
     repeat' with_reducible first | refine W ?_ | refine Z0 ?_ | ((first | refine Wo fun K hK => ?_ | refine Wp ?_ | refine Wq ?_ | refine Wr ?_); (try simp only [go_sem, fN, seval, eT, iR, he, e4, e5, s8, s10, dT, dF, nL]); (repeat refine Ai ?_); (try (refine hK _ ?_; clear hK K)); try refine iC ?_)
     refine ⟨_, [(500, BN s)], DG (by (simp only [go_sem, fN, seval, eT, iR, s500])), onc p.2 hc2, ?_⟩
     repeat' with_reducible first | refine W ?_ | refine Z0 ?_ | ((first | refine Wo fun K hK => ?_ | refine Wp ?_ | refine Wq ?_ | refine Wr ?_); (try simp only [go_sem, fN, seval, eT, iR, he, e4, e5, s8, s10, dT, dF, nL]); (repeat refine Ai ?_); (try (refine hK _ ?_; clear hK K)); try refine iC ?_)
     simp only [go_sem, fN, seval, AJ, AS.result, AA, AB, AH]
     rcases hinv with ⟨e, h1, rfl⟩ | ⟨s', ps, q, h1, _⟩
     ·rw [hst] at h1
      cases h1
      rfl
     ·rw [hst] at h1
      cases h1
    by_cases hb : (p.2.on s).size ≤ 2000
    case neg =>
     have he : Aq s p.1 = (p.1.on s, true) := by unfold Aq; rw [if_pos ha]
     have he2 : Aq s p.2 = (Tm.nil, false) := by unfold Aq; rw [if_neg hb]
     have hst : BZ s p = .err 8 := by unfold BZ; rw [if_pos (by omega)]
     repeat' with_reducible first | refine W ?_ | refine Z0 ?_ | ((first | refine Wo fun K hK => ?_ | refine Wp ?_ | refine Wq ?_ | refine Wr ?_); (try simp only [go_sem, fN, seval, eT, iR, e4, e5, s500, s501, s7, s8, s10, hl0, hl1, hl2, hl3, htop, At, dT, dF, nL]); (repeat refine Ai ?_); (try (refine hK _ ?_; clear hK K)); try refine iC ?_)
     refine ⟨_, [(500, BN s)], DG (by (simp only [go_sem, fN, seval, eT, iR, s500])), onc p.1 hc1, ?_⟩
     repeat' with_reducible first | refine W ?_ | refine Z0 ?_ | ((first | refine Wo fun K hK => ?_ | refine Wp ?_ | refine Wq ?_ | refine Wr ?_); (try simp only [go_sem, fN, seval, eT, iR, he, e4, e5, s8, s10, dT, dF, nL]); (repeat refine Ai ?_); (try (refine hK _ ?_; clear hK K)); try refine iC ?_)
     refine ⟨_, [(500, BN s)], DG (by (simp only [go_sem, fN, seval, eT, iR, s500])), onc p.2 hc2, ?_⟩
     repeat' with_reducible first | refine W ?_ | refine Z0 ?_ | ((first | refine Wo fun K hK => ?_ | refine Wp ?_ | refine Wq ?_ | refine Wr ?_); (try simp only [go_sem, fN, seval, eT, iR, he, he2, e4, e5, s8, s10, dT, dF, nL]); (repeat refine Ai ?_); (try (refine hK _ ?_; clear hK K)); try refine iC ?_)
     simp only [go_sem, fN, seval, AJ, AS.result, AA, AB, AH]
     rcases hinv with ⟨e, h1, rfl⟩ | ⟨s', ps, q, h1, _⟩
     ·rw [hst] at h1
      cases h1
      rfl
     ·rw [hst] at h1
      cases h1
    have he : Aq s p.1 = (p.1.on s, true) := by unfold Aq; rw [if_pos ha]
    have he2 : Aq s p.2 = (p.2.on s, true) := by unfold Aq; rw [if_pos hb]
    have hta : LB U s (p.1.on s) := ⟨a1, ha, a2, a3⟩
    have htb : LB U s (p.2.on s) := ⟨b1, hb, b2, b3⟩
    repeat' with_reducible first | refine W ?_ | refine Z0 ?_ | ((first | refine Wo fun K hK => ?_ | refine Wp ?_ | refine Wq ?_ | refine Wr ?_); (try simp only [go_sem, fN, seval, eT, iR, e4, e5, s500, s501, s7, s8, s10, hl0, hl1, hl2, hl3, htop, At, dT, dF, nL]); (repeat refine Ai ?_); (try (refine hK _ ?_; clear hK K)); try refine iC ?_)
    refine ⟨_, [(500, BN s)], DG (by (simp only [go_sem, fN, seval, eT, iR, s500])), onc p.1 hc1, ?_⟩
    repeat' with_reducible first | refine W ?_ | refine Z0 ?_ | ((first | refine Wo fun K hK => ?_ | refine Wp ?_ | refine Wq ?_ | refine Wr ?_); (try simp only [go_sem, fN, seval, eT, iR, he, e4, e5, s8, s10, dT, dF, nL]); (repeat refine Ai ?_); (try (refine hK _ ?_; clear hK K)); try refine iC ?_)
    refine ⟨_, [(500, BN s)], DG (by (simp only [go_sem, fN, seval, eT, iR, s500])), onc p.2 hc2, ?_⟩
    repeat' with_reducible first | refine W ?_ | refine Z0 ?_ | ((first | refine Wo fun K hK => ?_ | refine Wp ?_ | refine Wq ?_ | refine Wr ?_); (try simp only [go_sem, fN, seval, eT, iR, he, he2, e4, e5, s8, s10, dT, dF, nL]); (repeat refine Ai ?_); (try (refine hK _ ?_; clear hK K)); try refine iC ?_)
    refine ⟨_, As _, ?_⟩
    by_cases hsame : AL (p.1.on s).name = true ∧ (p.1.on s).name = (p.2.on s).name
    ·have hst : BZ s p = .go s [] := by unfold BZ; rw [if_neg (by omega), if_pos hsame]
     have hsv : AL (p.2.on s).name = true := by rw [← hsame.2]; exact hsame.1
     repeat' with_reducible first | refine W ?_ | refine Z0 ?_ | ((first | refine Wo fun K hK => ?_ | refine Wp ?_ | refine Wq ?_ | refine Wr ?_); (try simp only [go_sem, fN, seval, eT, iR, hsame.1, hsv, hsame.2, e4, e5, dT, dF, nL]); (repeat refine Ai ?_); (try (refine hK _ ?_; clear hK K)); try refine iC ?_)
     rcases hinv with ⟨e, h1, _⟩ | ⟨s', ps, q, h1, h2, h3⟩
     ·rw [hst] at h1
      cases h1
     rw [hst] at h1
     cases h1
     refine AE ⟨q, h2, s, l, xs, h3, hg.tail, hstk', ?_⟩
     simp only [go_sem, fN, seval, AS.drop, Ak, AC.clears, AC.clear, AC.highs, AC.high, Bool.not_false, Bool.true_and, Bool.and_self, AV.purge, AV.purges, AC.purge, AN.purge, List.contains_cons, List.contains_nil, Nat.reduceBEq, Bool.or_self, Bool.or_false, Bool.false_or, Bool.or_true, eT, iR, e4, s500, s501]
    by_cases hvv : AL (p.1.on s).name = true ∨ AL (p.2.on s).name = true
    ·apply Wv
     ·intro rest
      cases hv : AL (p.1.on s).name with
      | true =>
       have hne : ¬ (p.1.on s).name = (p.2.on s).name := fun h => hsame ⟨hv, h⟩
       repeat' with_reducible first | refine W ?_ | refine Z0 ?_ | ((first | refine Wo fun K hK => ?_ | refine Wp ?_ | refine Wq ?_ | refine Wr ?_); (try simp only [go_sem, fN, seval, eT, iR, hv, hne, dT, dF, nL]); (repeat refine Ai ?_); (try (refine hK _ ?_; skip)); try refine iC ?_)
       refine ⟨_, As _, ?_⟩
       repeat' with_reducible first | refine W ?_ | refine Z0 ?_ | ((first | refine Wo fun K hK => ?_ | refine Wq ?_ | refine Wr ?_); (try simp only [go_sem, fN, seval, eT, iR, hv]); (repeat refine Ai ?_); (try (refine hK _ ?_; skip)))
       with_reducible refine Wp ?_
       simp only [go_sem, fN, seval, true_implies, false_implies, implies_true, dT, dF, nL]
       (try with_reducible refine iC ?_)
       refine IWP.mid (fun x => ∃ u t, Hw U s p u t ∧ AL u.name = true ∧ x.env 4 = .one (.row 500 s.length) ∧ x.env 5 = .one (.part 501 l.length xs.length) ∧ x.env 8 = .one (.ptr 8 1 0 0) ∧ x.env 10 = .one (.ptr 10 1 0 0) ∧ x.S 500 = some (BN s) ∧ x.S 501 = some (.mrow 31 4 xs) ∧ x.S 8 = some (LE u) ∧ x.S 10 = some (LE t)) ?_ rest
       repeat' with_reducible first | refine W ?_ | refine Z0 ?_ | ((first | refine Wo fun K hK => ?_ | refine Wp ?_ | refine Wq ?_ | refine Wr ?_); (try simp only [go_sem, fN, seval, eT, iR, dT, dF, nL]); (repeat refine Ai ?_); (try (refine hK _ ?_; skip)); try refine iC ?_)
       refine ⟨_, As _, ?_⟩
       repeat' with_reducible first | refine W ?_ | refine Z0 ?_ | ((first | refine Wo fun K hK => ?_ | refine Wp ?_ | refine Wq ?_ | refine Wr ?_); (try simp only [go_sem, fN, seval, eT, iR, hv, dT, dF, nL]); (repeat refine Ai ?_); (try (refine hK _ ?_; skip)); try refine iC ?_)
       refine ⟨rfl, _, _, Kg hta htb hsame (.inl hv), hv, ?_⟩
       simp only [go_sem, fN, seval, eT, iR, e4, s500, s501]
      | false =>
       have hw : AL (p.2.on s).name = true := hvv.resolve_left (by rw [hv]; simp)
       repeat' with_reducible first | refine W ?_ | refine Z0 ?_ | ((first | refine Wo fun K hK => ?_ | refine Wp ?_ | refine Wq ?_ | refine Wr ?_); (try simp only [go_sem, fN, seval, eT, iR, hv, dT, dF, nL]); (repeat refine Ai ?_); (try (refine hK _ ?_; skip)); try refine iC ?_)
       refine ⟨_, As _, ?_⟩
       repeat' with_reducible first | refine W ?_ | refine Z0 ?_ | ((first | refine Wo fun K hK => ?_ | refine Wp ?_ | refine Wq ?_ | refine Wr ?_); (try simp only [go_sem, fN, seval, eT, iR, hv, dT, dF, nL]); (repeat refine Ai ?_); (try (refine hK _ ?_; skip)); try refine iC ?_)
       refine ⟨_, As _, ?_⟩
       repeat' with_reducible first | refine W ?_ | refine Z0 ?_ | ((first | refine Wo fun K hK => ?_ | refine Wq ?_ | refine Wr ?_); (try simp only [go_sem, fN, seval, eT, iR, hv, hw]); (repeat refine Ai ?_); (try (refine hK _ ?_; skip)))
       with_reducible refine Wp ?_
       simp only [go_sem, fN, seval, true_implies, false_implies, implies_true, dT, dF, nL]
       (try with_reducible refine iC ?_)
       refine IWP.mid (fun x => ∃ u t, Hw U s p u t ∧ AL u.name = true ∧ x.env 4 = .one (.row 500 s.length) ∧ x.env 5 = .one (.part 501 l.length xs.length) ∧ x.env 8 = .one (.ptr 8 1 0 0) ∧ x.env 10 = .one (.ptr 10 1 0 0) ∧ x.S 500 = some (BN s) ∧ x.S 501 = some (.mrow 31 4 xs) ∧ x.S 8 = some (LE u) ∧ x.S 10 = some (LE t)) ?_ rest
       repeat' with_reducible first | refine W ?_ | refine Z0 ?_ | ((first | refine Wo fun K hK => ?_ | refine Wp ?_ | refine Wq ?_ | refine Wr ?_); (try simp only [go_sem, fN, seval, eT, iR, dT, dF, nL]); (repeat refine Ai ?_); (try (refine hK _ ?_; skip)); try refine iC ?_)
       refine ⟨_, As _, ?_⟩
       repeat' with_reducible first | refine W ?_ | refine Z0 ?_ | ((first | refine Wo fun K hK => ?_ | refine Wp ?_ | refine Wq ?_ | refine Wr ?_); (try simp only [go_sem, fN, seval, eT, iR, hv, dT, dF, nL]); (repeat refine Ai ?_); (try (refine hK _ ?_; skip)); try refine iC ?_)
       refine ⟨rfl, _, _, O9 hta htb hv hw, hw, ?_⟩
       simp only [go_sem, fN, seval, eT, iR, e4, s500, s501]
     clear e4 e5 s500 s501 s7 s8 s10
     rintro ⟨env, S⟩ ⟨u, t, ⟨hu, ht, hst⟩, hv, e4, e5, e8, e10, s500, s501, s8, s10⟩
     simp only at e4 e5 e8 e10 s500 s501 s8 s10
     have hst : BZ s p = B5 s u.name t := by
      rcases hst with ⟨_, h⟩ | ⟨h, _⟩
      ·exact h
      ·rw [hv] at h; cases h
     rw [hst] at hinv
     repeat' with_reducible first | refine W ?_ | refine Z0 ?_ | ((first | refine Wo fun K hK => ?_ | refine Wp ?_ | refine Wq ?_ | refine Wr ?_); (try simp only [go_sem, fN, seval, eT, iR, e4, e5, e8, e10, s500, s501, s8, s10, dT, dF, nL]); (repeat refine Ai ?_); (try (refine hK _ ?_; clear hK K)); try refine iC ?_)
     refine ⟨_, Uv u.name t, ?_⟩
     cases ho : occ u.name t with
     | true =>
      have hbv : B5 s u.name t = .err 6 := by unfold B5; rw [if_pos ho]
      repeat' with_reducible first | refine W ?_ | refine Z0 ?_ | ((first | refine Wo fun K hK => ?_ | refine Wp ?_ | refine Wq ?_ | refine Wr ?_); (try simp only [go_sem, fN, seval, eT, iR, ho, dT, dF, nL]); (repeat refine Ai ?_); (try (refine hK _ ?_; clear hK K)); try refine iC ?_)
      simp only [go_sem, fN, seval, AJ, AS.result, AA, AB, AH]
      rcases hinv with ⟨e, h1, rfl⟩ | ⟨s', ps, q, h1, _⟩
      ·rw [hbv] at h1
       cases h1
       rfl
      ·rw [hbv] at h1
       cases h1
     | false =>
      repeat' with_reducible first | refine W ?_ | refine Z0 ?_ | ((first | refine Wo fun K hK => ?_ | refine Wp ?_ | refine Wq ?_ | refine Wr ?_); (try simp only [go_sem, fN, seval, eT, iR, ho, e4, e5, e8, e10, s500, s501, s8, s10, dT, dF, nL]); (repeat refine Ai ?_); (try (refine hK _ ?_; clear hK K)); try refine iC ?_)
      refine IWP.loop (fun m x => ∃ i, i ≤ s.length ∧ m = s.length - i ∧ (∀ c ∈ s.take i, (c.2.on [(u.name, t)]).size ≤ 2000) ∧ x.env 4 = .one (.row 500 s.length) ∧ x.env 5 = .one (.part 501 l.length xs.length) ∧ x.env 12 = .one (.full [BG (u.name, t)]) ∧ x.env 121 = AK s.length ∧ x.env 122 = AK i ∧ x.S 500 = some (BN (D4 s u.name t i)) ∧ x.S 501 = some (.mrow 31 4 xs)) s.length ⟨0, Nat.zero_le _, rfl, by simp, ?_⟩ ?_
      ·simp only [go_sem, fN, seval, eT, iR, e4, e5, s500, s501, BG]
       rfl
      rintro mm ⟨env, S⟩ ⟨i, hi, rfl, h20, e4, e5, e12, e121, e122, s500, s501⟩
      simp only at e4 e5 e12 e121 e122 s500 s501
      have hhl := PZ s u.name t i
      by_cases hlt : (i : Int) < s.length
      ·have hlt' : i < s.length := by omega
       obtain ⟨b, hb⟩ := AT hlt'
       have hbz := hg.siz b (AI hb)
       have hbh := Pt (x := u.name) (t := t) hb
       have hone : ∀ c ∈ ([(u.name, t)] : List Bd), AL c.1 = true := by simp [hv]
       repeat' with_reducible first | refine W ?_ | refine Z0 ?_ | ((first | refine Wo fun K hK => ?_ | refine Wp ?_ | refine Wq ?_ | refine Wr ?_); (try simp only [go_sem, fN, seval, eT, iR, e4, e5, e12, e121, e122, s500, s501, hlt, hlt', hhl, hbh, BG, dT, dF, nL]); (repeat refine Ai ?_); (try (refine hK _ ?_; clear hK K)); try refine iC ?_)
       refine ⟨_, Lq [(u.name, t)] (by simp) (List.pairwise_singleton _ _) b.2 hone (hg.chk b (AI hb)), ?_⟩
       by_cases hz : (b.2.on [(u.name, t)]).size ≤ 2000
       ·have hon : Aq [(u.name, t)] b.2 = (b.2.on [(u.name, t)], true) := by unfold Aq; rw [if_pos hz]
        repeat' with_reducible first | refine W ?_ | refine Z0 ?_ | ((first | refine Wo fun K hK => ?_ | refine Wp ?_ | refine Wq ?_ | refine Wr ?_); (try simp only [go_sem, fN, seval, eT, iR, hon, e4, e5, e12, e121, e122, s500, s501, hlt, hlt', hhl, hbh, BG, dT, dF, nL]); (repeat refine Ai ?_); (try (refine hK _ ?_; clear hK K)); try refine iC ?_)
        refine AE ⟨s.length - (i + 1), by omega, i + 1, by omega, rfl, fun c hc => ?_, ?_⟩
        ·rw [AY hb] at hc
         rcases List.mem_append.1 hc with hc | hc
         ·exact h20 c hc
         ·rw [List.mem_singleton.1 hc]; exact hz
        ·simp only [go_sem, fN, seval, eT, iR, e4, e5, e12, e121, e122, s500, s501]
         refine ⟨rfl, by congr 3, ?_⟩
         show AN.mrow _ _ (((D4 s u.name t i).map BG).set i (BG (b.1, b.2.on [(u.name, t)]))) = _
         rw [← List.map_set, P_ hb]
       ·have hon : Aq [(u.name, t)] b.2 = (Tm.nil, false) := by unfold Aq; rw [if_neg hz]
        have hbv : B5 s u.name t = .err 8 := by
         unfold B5
         rw [if_neg (by rw [ho]; simp), if_neg]
         intro hall
         have := List.all_eq_true.1 hall b (AI hb)
         exact hz (by simpa using this)
        repeat' with_reducible first | refine W ?_ | refine Z0 ?_ | ((first | refine Wo fun K hK => ?_ | refine Wp ?_ | refine Wq ?_ | refine Wr ?_); (try simp only [go_sem, fN, seval, eT, iR, hon, e4, e5, e12, e121, e122, s500, s501, hlt, hlt', hhl, hbh, BG, dT, dF, nL]); (repeat refine Ai ?_); (try (refine hK _ ?_; clear hK K)); try refine iC ?_)
        simp only [go_sem, fN, seval, AJ, AS.result, AA, AB, AH]
        rcases hinv with ⟨e, h1, rfl⟩ | ⟨s', ps, q, h1, _⟩
        ·rw [hbv] at h1
         cases h1
         rfl
        ·rw [hbv] at h1
         cases h1
      ·obtain rfl : i = s.length := by omega
       rw [List.take_of_length_le (Nat.le_refl _)] at h20
       rw [P0] at s500
       have hbv : B5 s u.name t = .go (Ay (s.map (fun b => (b.1, b.2.on [(u.name, t)])) ++ [(u.name, t)])) [] := by
        unfold B5
        rw [if_neg (by rw [ho]; simp), if_pos]
        exact List.all_eq_true.2 fun b hb => by simpa using h20 b hb
       obtain ⟨hg', _⟩ := DJ hg (hst.trans hbv)
       rcases hinv with ⟨e, h1, _⟩ | ⟨s', ps, q, h1, h2, h3⟩
       ·rw [hbv] at h1
        cases h1
       rw [hbv] at h1
       cases h1
       have hnamed := Ca (BW _) (CO hg'.ord)
       have hL : (s.map (fun b => (b.1, b.2.on [(u.name, t)]))).map BG ++ [[SV.str u.name, SV.str t.name, SV.list (t.args.map Ap)]] = (s.map (fun b => (b.1, b.2.on [(u.name, t)])) ++ [(u.name, t)]).map BG := by
        rw [List.map_append]
        rfl
       have hLl : (s.map (fun b => (b.1, b.2.on [(u.name, t)])) ++ [(u.name, t)]).length = s.length + 1 := by simp
       have hsort := fun S h => Py _ hnamed (by omega) (up1 500) (Aw 500) S h
       have hsl2 := BM (s.map (fun b => (b.1, b.2.on [(u.name, t)])) ++ [(u.name, t)])
       rw [hLl] at hsort hsl2
       repeat' with_reducible first | refine W ?_ | refine Z0 ?_ | ((first | refine Wo fun K hK => ?_ | refine Wp ?_ | refine Wq ?_ | refine Wr ?_); (try simp only [go_sem, fN, seval, eT, iR, e4, e5, e12, e121, e122, s500, s501, hlt, BG, dT, dF, nL]); (repeat refine Ai ?_); (try (refine hK _ ?_; clear hK K)); try refine iC ?_)
       rw [hL]
       refine ⟨_, _, hsort _ (by rw [A7, AG]; rfl), ?_⟩
       repeat' with_reducible first | refine W ?_ | refine Z0 ?_ | ((first | refine Wo fun K hK => ?_ | refine Wp ?_ | refine Wq ?_ | refine Wr ?_); (try simp only [go_sem, fN, seval, eT, iR, e5, s501, dT, dF, nL]); (repeat refine Ai ?_); (try (refine hK _ ?_; clear hK K)); try refine iC ?_)
       refine AE ⟨q, h2, _, l, xs, h3, hg', hstk', ?_⟩
       simp only [go_sem, fN, seval, AS.drop, Ak, AC.clears, AC.clear, AC.highs, AC.high, Bool.not_false, Bool.true_and, Bool.and_self, AV.purge, AV.purges, AC.purge, AN.purge, List.contains_cons, List.contains_nil, Nat.reduceBEq, Bool.or_self, Bool.or_false, Bool.false_or, Bool.or_true, eT, iR, e5, s501, hsl2]
    ·-- two knots
     have hv : AL (p.1.on s).name = false := by
      cases h : AL (p.1.on s).name with
      | false => rfl
      | true => exact absurd (.inl h) hvv
     have hw : AL (p.2.on s).name = false := by
      cases h : AL (p.2.on s).name with
      | false => rfl
      | true => exact absurd (.inr h) hvv
     have hst : BZ s p = if (p.1.on s).name = (p.2.on s).name ∧ (p.1.on s).args.length = (p.2.on s).args.length then .go s ((p.1.on s).args.zip (p.2.on s).args) else .err 5 := by
      unfold BZ
      rw [if_neg (by omega), if_neg hsame, if_neg (by rw [hv]; simp), if_neg (by rw [hw]; simp)]
     rw [hst] at hinv
     have huk := Tm.length_le (p.1.on s).args
     have hus := Tm.size_eq (p.1.on s)
     have htk := Tm.length_le (p.2.on s).args
     have hts := Tm.size_eq (p.2.on s)
     by_cases hsame2 : (p.1.on s).name = (p.2.on s).name ∧ (p.1.on s).args.length = (p.2.on s).args.length
     ·rw [if_pos hsame2] at hst hinv
      obtain ⟨hg', _⟩ := DJ hg hst
      rcases hinv with ⟨e, h1, _⟩ | ⟨s', ps, q, h1, h2, h3⟩
      ·cases h1
      cases h1
      repeat' (first | (with_reducible first | refine W ?_ | refine Z0 ?_ | ((first | refine Wo fun K hK => ?_ | refine Wp ?_ | refine Wq ?_ | refine Wr ?_); (try simp only [go_sem, fN, seval, eT, iR, hv, hw, e4, e5, s500, s501, hsame2.1, hsame2.2, dT, dF, nL]); (repeat refine Ai ?_); (try (refine hK _ ?_; clear hK K)); try refine iC ?_)) | refine Cg _ (As _) ?_)
      have hzl : ((p.1.on s).args.zip (p.2.on s).args).length = (p.2.on s).args.length := by rw [List.length_zip, hsame2.2, Nat.min_self]
      refine IWP.loop (fun m x => ∃ (k : Nat) (xs : List (List SV)) (n1 n2 : ByteArray), k ≤ (p.2.on s).args.length ∧ m = k ∧ Stk xs (((p.1.on s).args.zip (p.2.on s).args).drop k ++ l) ∧ x.env 4 = .one (.row 500 s.length) ∧ x.env 5 = .one (.part 501 (((p.1.on s).args.zip (p.2.on s).args).drop k ++ l).length xs.length) ∧ x.env 8 = .one (.ptr 8 1 0 0) ∧ x.env 10 = .one (.ptr 10 1 0 0) ∧ x.env 14 = .one (.st (.int .i64 ((k : Int) - 1))) ∧ x.S 500 = some (BN s) ∧ x.S 501 = some (.mrow 31 4 xs) ∧
        x.S 8 = some (.box 29 [.st (.str n1), .st (.list ((p.1.on s).args.map Ap))]) ∧ x.S 10 = some (.box 29 [.st (.str n2), .st (.list ((p.2.on s).args.map Ap))])) (p.2.on s).args.length ⟨(p.2.on s).args.length, xs, (p.2.on s).name, (p.2.on s).name, Nat.le_refl _, rfl, ?_⟩ ?_
      ·rw [← hzl, List.drop_length, hzl]
       refine ⟨hstk', ?_⟩
       simp only [go_sem, fN, seval, eT, iR, e4, s500, s501, hsame2.1]
      rintro k ⟨env, S⟩ ⟨_, xs, n1, n2, hk, rfl, hstk, e4, e5, e8, e10, e14, s500, s501, s8, s10⟩
      simp only at e4 e5 e8 e10 e14 s500 s501 s8 s10
      by_cases hk0 : 0 ≤ (k : Int) - 1
      ·obtain ⟨k, rfl⟩ : ∃ q, k = q + 1 := ⟨k - 1, by omega⟩
       obtain ⟨x, hx⟩ := AT (show k < (p.1.on s).args.length by omega)
       obtain ⟨y, hy⟩ := AT (show k < (p.2.on s).args.length by omega)
       have hxy : ((p.1.on s).args.zip (p.2.on s).args)[k]? = some (x, y) := List.getElem?_zip_eq_some.2 ⟨hx, hy⟩
       have hz : (((k + 1 : Nat) : Int) - 1).toNat = k := by omega
       have hdl : (((p.1.on s).args.zip (p.2.on s).args).drop (k + 1) ++ l).length ≤ 100000002000 := by rw [List.length_append, List.length_drop, hzl]; omega
       generalize hD : ((p.1.on s).args.zip (p.2.on s).args).drop (k + 1) ++ l = D at *
       repeat' with_reducible first | refine W ?_ | refine Z0 ?_ | ((first | refine Wo fun K hK => ?_ | refine Wp ?_ | refine Wq ?_ | refine Wr ?_); (try simp only [go_sem, fN, seval, eT, iR, e4, e5, e8, e10, e14, s500, s501, s8, s10, hk0, hz, hx, hy, dT, dF, nL]); (repeat refine Ai ?_); (try (refine hK _ ?_; clear hK K)); try refine iC ?_)
       have hcons : ((p.1.on s).args.zip (p.2.on s).args).drop k ++ l = (x, y) :: D := by rw [BS hxy, List.cons_append, hD]
       have hDl : (((p.1.on s).args.zip (p.2.on s).args).drop k).length + l.length = D.length + 1 := by rw [← List.length_append, hcons, List.length_cons]
       refine AE ⟨k, by omega, k, _, n1, n2, by omega, rfl, by rw [hcons]; exact hstk.push (x, y), ?_⟩
       have hpl : (List.take D.length xs).length + 1 + (List.drop (D.length + 1) xs).length = if xs.length ≤ D.length + 1 then D.length + 1 else xs.length := by
        have := hstk.pushLen (x, y)
        simpa only [List.length_append, List.length_cons, List.length_nil, Nat.zero_add] using this
       simp only [go_sem, fN, seval, eT, iR, e4, e5, e8, e10, e14, s500, s501, s8, s10, hDl, hpl]
       refine ⟨?_, rfl⟩
       congr 3
       omega
      ·obtain rfl : k = 0 := by omega
       rw [List.drop_zero] at hstk e5
       repeat' with_reducible first | refine W ?_ | refine Z0 ?_ | ((first | refine Wo fun K hK => ?_ | refine Wp ?_ | refine Wq ?_ | refine Wr ?_); (try simp only [go_sem, fN, seval, eT, iR, e4, e5, e14, hk0, dT, dF, nL]); (repeat refine Ai ?_); (try (refine hK _ ?_; clear hK K)); try refine iC ?_)
       refine AE ⟨q, h2, s, _, xs, h3, hg', hstk, ?_⟩
       simp only [go_sem, fN, seval, AS.drop, Ak, AC.clears, AC.clear, AC.highs, AC.high, Bool.not_false, Bool.true_and, Bool.and_self, AV.purge, AV.purges, AC.purge, AN.purge, List.contains_cons, List.contains_nil, Nat.reduceBEq, Bool.or_self, Bool.or_false, Bool.false_or, Bool.or_true, eT, iR, e4, e5, s500, s501]
     ·rw [if_neg hsame2] at hst hinv
      by_cases hn : (p.1.on s).name = (p.2.on s).name
      ·have hl : ¬ ((p.1.on s).args.length : Int) = (p.2.on s).args.length := fun h => hsame2 ⟨hn, by omega⟩
       repeat' (first | (with_reducible first | refine W ?_ | refine Z0 ?_ | ((first | refine Wo fun K hK => ?_ | refine Wp ?_ | refine Wq ?_ | refine Wr ?_); (try simp only [go_sem, fN, seval, eT, iR, hv, hw, e4, e5, hn, hl, dT, dF, nL]); (repeat refine Ai ?_); (try (refine hK _ ?_; clear hK K)); try refine iC ?_)) | refine Cg _ (As _) ?_)
       simp only [go_sem, fN, seval, AJ, AS.result, AA, AB, AH]
       rcases hinv with ⟨e, h1, rfl⟩ | ⟨s', ps, q, h1, _⟩
       ·cases h1
        rfl
       ·cases h1
      ·repeat' (first | (with_reducible first | refine W ?_ | refine Z0 ?_ | ((first | refine Wo fun K hK => ?_ | refine Wp ?_ | refine Wq ?_ | refine Wr ?_); (try simp only [go_sem, fN, seval, eT, iR, hv, hw, e4, e5, hn, dT, dF, nL]); (repeat refine Ai ?_); (try (refine hK _ ?_; clear hK K)); try refine iC ?_)) | refine Cg _ (As _) ?_)
       simp only [go_sem, fN, seval, AJ, AS.result, AA, AB, AH]
       rcases hinv with ⟨e, h1, rfl⟩ | ⟨s', ps, q, h1, _⟩
       ·cases h1
        rfl
       ·cases h1

def GK (l : List Pr) : List ByteArray := l.flatMap fun p => (p.1.knots ++ p.2.knots).map (·.name)
theorem OO {l : List Pr} (h : ∀ p ∈ l, p.1.size ≤ 200 ∧ p.2.size ≤ 200) : (GK l).length ≤ 400 * l.length := by
 unfold GK
 induction l with
 | nil => simp
 | cons p l ih =>
  have := ih fun q hq => h q (by simp [hq])
  have h1 := h p (by simp)
  rw [List.flatMap_cons, List.length_append, List.length_map, List.length_append, Tm.knots_length, Tm.knots_length, List.length_cons]
  omega
theorem Kj (v : Nat) (hv : v ≤ 16000) (s : List Bd) : ∀ (l : List Pr), l.length ≤ 40 → IF 100000000000 v s l
 | [], _ => trivial
 | p :: l, h => by
  rw [List.length_cons] at h
  have := Nat.min_le_right (p.1.on s).size 2000
  exact ⟨by omega, Kj v hv s l (by omega)⟩
theorem CK {l : List Pr} (h : C_ l = 0) : (GK l).length ≤ 20000 ∧ B6 (GK l) 100000000000 [] l := by
 obtain ⟨h1, h2⟩ := LG h
 have hc : ∀ p ∈ l, (p.1.chk = 0 ∧ p.1.size ≤ 200) ∧ (p.2.chk = 0 ∧ p.2.size ≤ 200) := fun p hp => ⟨Tm.may_chk (h2 p hp).1, Tm.may_chk (h2 p hp).2⟩
 have hlen := OO fun p hp => ⟨(hc p hp).1.2, (hc p hp).2.2⟩
 refine ⟨by omega, ⟨List.Pairwise.nil, by simp, by simp, by simp, by simp, by simp, by simp, fun p hp => ⟨(hc p hp).1.1, (hc p hp).2.1⟩, fun p hp y => ⟨fun hy => ?_, fun hy => ?_⟩, fun p hp => ?_, Kj _ (by simp; omega) [] l h1⟩⟩
 ·unfold occ at hy
  obtain ⟨k, hk, e⟩ := List.any_eq_true.1 hy
  exact List.mem_flatMap.2 ⟨p, hp, List.mem_map.2 ⟨k, by simp [hk], by simpa using e⟩⟩
 ·unfold occ at hy
  obtain ⟨k, hk, e⟩ := List.any_eq_true.1 hy
  exact List.mem_flatMap.2 ⟨p, hp, List.mem_map.2 ⟨k, by simp [hk], by simpa using e⟩⟩
 ·have := hc p hp
  omega
theorem N4 {l : List Pr} (h : C_ l = 0) : ∃ n r, Ck n [] l r := IE _ _ [] l (CK h).2 rfl rfl

abbrev vT (x : ByteArray) : Tm := .mk x []
def Sol (s θ : List Bd) : Prop := ∀ b ∈ s, b.2.on θ = (vT b.1).on θ
theorem RA {θ : List Bd} {t : Tm} (h : t.args ≠ []) : t.on θ = .mk t.name (t.args.map (Tm.on θ)) := Tm.on_knot (.inr h)
theorem JR {t : Tm} (h : t.args = []) : t = vT t.name := by
 cases t with
 | mk n xs =>
  change xs = [] at h
  subst h
  rfl
theorem M7 {s θ : List Bd} (hv : ∀ b ∈ s, AL b.1 = true) (hs : Sol s θ) {t : Tm} (hc : t.chk = 0) : (t.on s).on θ = t.on θ := by
 induction hN : SizeOf.sizeOf t using Nat.strongRecOn generalizing t with
 | _ N ih =>
 subst hN
 obtain ⟨c1, c2⟩ := Tm.chk_args hc
 cases hl : lookup s t.name with
 | some x =>
  obtain ⟨b, hb, hbn, hbx⟩ := Cw hl
  have h0 := c1 (by rw [← hbn]; exact hv b hb)
  rw [Tm.on_leaf hl h0, ← hbx, hs b hb, hbn, ← JR h0]
 | none =>
  rw [Tm.on_knot (.inl hl)]
  by_cases h0 : t.args = []
  ·have : (Tm.mk t.name (t.args.map (Tm.on s))) = t := by
    cases t with
    | mk n xs =>
     change xs = [] at h0
     subst h0
     rfl
   rw [this]
  ·rw [RA (t := Tm.mk t.name (t.args.map (Tm.on s))) (by rw [Tm.args_mk]; simpa using h0), RA h0]
   congr 1
   rw [Tm.args_mk, List.map_map]
   exact List.map_congr_left fun a ha => ih _ (Tm.lt_of_arg ha) (c2 a ha) rfl
theorem JV {θ : List Bd} (hv : ∀ b ∈ θ, AL b.1 = true) {t : Tm} (hn : ¬ AL t.name = true) : t.on θ = .mk t.name (t.args.map (Tm.on θ)) := by
 refine Tm.on_knot (.inl (C3 fun b hb e => hn ?_))
 rw [← e]
 exact hv b hb
theorem OK {s θ : List Bd} {x : ByteArray} {t : Tm} (hv : ∀ b ∈ s, AL b.1 = true) (hx : AL x = true) (hc : ∀ b ∈ s, b.2.chk = 0) (h1 : t.on θ = (vT x).on θ) : Sol s θ ↔ Sol (s.map fun b => (b.1, b.2.on [(x, t)])) θ := by
 have hone : Sol [(x, t)] θ := fun b hb => by
  rw [List.mem_singleton] at hb
  subst hb
  exact h1
 have hvo : ∀ b ∈ ([(x, t)] : List Bd), AL b.1 = true := by simp [hx]
 constructor
 ·intro hs b hb
  obtain ⟨c, hc', rfl⟩ := List.mem_map.1 hb
  show (c.2.on [(x, t)]).on θ = _
  rw [M7 hvo hone (hc c hc')]
  exact hs c hc'
 ·intro hs b hb
  have := hs (b.1, b.2.on [(x, t)]) (List.mem_map.2 ⟨b, hb, rfl⟩)
  change (b.2.on [(x, t)]).on θ = (vT b.1).on θ at this
  rwa [M7 hvo hone (hc b hb)] at this
theorem Ta {s θ : List Bd} {b : Bd} : Sol (Ay (s ++ [b])) θ ↔ Sol s θ ∧ b.2.on θ = (vT b.1).on θ := by
 constructor
 ·intro h
  exact ⟨fun c hc => h c (Bq.2 (by simp [hc])), h b (Bq.2 (by simp))⟩
 ·rintro ⟨h1, h2⟩ c hc
  rcases List.mem_append.1 (Bq.1 hc) with h | h
  ·exact h1 c h
  ·rw [List.mem_singleton] at h
   subst h
   exact h2
theorem zip_map {f : Tm → Tm} : ∀ {xs ys : List Tm}, xs.length = ys.length → ((∀ p ∈ xs.zip ys, f p.1 = f p.2) ↔ xs.map f = ys.map f)
 | [], [], _ => by simp
 | x :: xs, y :: ys, h => by
  have := zip_map (f := f) (xs := xs) (ys := ys) (by simpa using h)
  simp only [List.zip_cons_cons, List.mem_cons, forall_eq_or_imp, List.map_cons, List.cons.injEq]
  rw [this]
theorem UG {U : List ByteArray} {C : Nat} {s : List Bd} {p : Pr} {l : List Pr} (h : B6 U C s (p :: l)) {θ : List Bd} (hθ : ∀ b ∈ θ, AL b.1 = true) {s' : List Bd} {ps : List Pr} (hs : BZ s p = .go s' ps) : (Sol s θ ∧ p.1.on θ = p.2.on θ) ↔ (Sol s' θ ∧ ∀ q ∈ ps, q.1.on θ = q.2.on θ) := by
 obtain ⟨hc1, hc2⟩ := h.lchk p (by simp)
 have hU := h.lU p (by simp)
 obtain ⟨a1, a2, a3⟩ := onU h hc1 fun y => (hU y).1
 obtain ⟨b1, b2, b3⟩ := onU h hc2 fun y => (hU y).2
 have e1 := fun hsol => M7 h.var (θ := θ) hsol hc1
 have e2 := fun hsol => M7 h.var (θ := θ) hsol hc2
 have bind : ∀ {x t u : Tm}, AL x.name = true → x.chk = 0 → B5 s x.name t = .go s' ps → (Sol s θ ∧ x.on θ = t.on θ ↔ Sol s' θ ∧ ∀ q ∈ ps, q.1.on θ = q.2.on θ) := by
  intro x t u hx hxc hb
  have hxl := JR ((Tm.chk_args hxc).1 hx)
  unfold B5 at hb
  split at hb
  ·cases hb
  split at hb
  ·cases hb
   rw [Ta]
   constructor
   ·rintro ⟨k1, k2⟩
    have k3 : t.on θ = (vT x.name).on θ := by rw [← hxl]; exact k2.symm
    exact ⟨⟨(OK h.var hx h.chk k3).1 k1, k3⟩, fun q hq => by cases hq⟩
   ·rintro ⟨⟨k1, k3⟩, _⟩
    exact ⟨(OK h.var hx h.chk k3).2 k1, by rw [hxl]; exact k3.symm⟩
  ·cases hb
 unfold BZ at hs
 split at hs
 ·cases hs
 split at hs
 ·rename_i hv
  cases hs
  have l1 := JR ((Tm.chk_args a1).1 hv.1)
  have l2 := JR ((Tm.chk_args b1).1 (by rw [← hv.2]; exact hv.1))
  constructor
  ·rintro ⟨k1, _⟩
   exact ⟨k1, fun q hq => by cases hq⟩
  ·rintro ⟨k1, _⟩
   refine ⟨k1, ?_⟩
   rw [← e1 k1, ← e2 k1, l1, l2, hv.2]
 split at hs
 ·rename_i hv
  rw [← bind (u := p.2.on s) hv a1 hs]
  constructor
  ·rintro ⟨k1, k2⟩
   exact ⟨k1, by rw [e1 k1, e2 k1]; exact k2⟩
  ·rintro ⟨k1, k2⟩
   exact ⟨k1, by rw [e1 k1, e2 k1] at k2; exact k2⟩
 split at hs
 ·rename_i hv
  rw [← bind (u := p.1.on s) hv b1 hs]
  constructor
  ·rintro ⟨k1, k2⟩
   exact ⟨k1, by rw [e1 k1, e2 k1]; exact k2.symm⟩
  ·rintro ⟨k1, k2⟩
   exact ⟨k1, by rw [e1 k1, e2 k1] at k2; exact k2.symm⟩
 rename_i hv1 hv2
 split at hs
 ·rename_i heq
  cases hs
  rw [zip_map heq.2]
  constructor
  ·rintro ⟨k1, k2⟩
   refine ⟨k1, ?_⟩
   rw [← e1 k1, ← e2 k1, JV hθ hv1, JV hθ hv2] at k2
   injection k2
  ·rintro ⟨k1, k2⟩
   refine ⟨k1, ?_⟩
   rw [← e1 k1, ← e2 k1, JV hθ hv1, JV hθ hv2, k2, heq.1]
 ·cases hs
theorem Vs {s : List Bd} {p : Pr} {e : Int} (h : BZ s p = .err e) : e ≠ 0 := by
 have hb : ∀ {x : ByteArray} {t : Tm}, B5 s x t = .err e → e ≠ 0 := by
  intro x t hb
  unfold B5 at hb
  split at hb
  ·cases hb; decide
  split at hb
  ·cases hb
  ·cases hb; decide
 unfold BZ at h
 split at h
 ·cases h; decide
 split at h
 ·cases h
 split at h
 ·exact hb h
 split at h
 ·exact hb h
 split at h
 ·cases h
 ·cases h; decide
theorem Um {s : List Bd} (hn : BK s) (hi : ∀ b ∈ s, I8 s b.2) : Sol s s := fun b hb => by
 rw [V4 (hi b hb), Tm.on_leaf (t := vT b.1) ((PS hn).2 (by exact hb)) rfl]
theorem K3 {U : List ByteArray} {C : Nat} {n : Nat} {s : List Bd} {l : List Pr} {r : List Bd × Int} (hr : Ck n s l r) : B6 U C s l → r.2 = 0 → B6 U C r.1 [] ∧ Sol s r.1 ∧ ∀ p ∈ l, p.1.on r.1 = p.2.on r.1 := by
 induction hr with
 | nil => exact fun h _ => ⟨h, Um (CO h.ord) h.idem, fun p hp => by cases hp⟩
 | err he => exact fun _ h0 => absurd h0 (Vs he)
 | @go s p l s' ps n r hst hr ih =>
  intro h h0
  obtain ⟨h', _⟩ := DJ h hst
  obtain ⟨q0, q1, q2⟩ := ih h' h0
  obtain ⟨k1, k2⟩ := (UG h q0.var hst).2 ⟨q1, fun q hq => q2 q (by simp [hq])⟩
  refine ⟨q0, k1, fun q hq => ?_⟩
  rcases List.mem_cons.1 hq with rfl | hq
  ·exact k2
  ·exact q2 q (by simp [hq])

def Ie (T : List (ByteArray × ByteArray)) (n : ByteArray) : ByteArray := match T.find? fun p => decide (p.1 = n) with
 | some p => p.2
 | none => match T.find? fun p => decide (p.2 = n) with
  | some p => p.1
  | none => n
section
variable {T : List (ByteArray × ByteArray)}
theorem UD {p : ByteArray × ByteArray} (hn : (T.map (·.1)).Nodup) (hp : p ∈ T) : T.find? (fun q => decide (q.1 = p.1)) = some p := by
 induction T with
 | nil => cases hp
 | cons q T ih =>
  rw [List.map_cons, List.nodup_cons] at hn
  rw [List.find?_cons]
  rcases List.mem_cons.1 hp with rfl | hp
  ·simp
  ·have : q.1 ≠ p.1 := fun e => hn.1 (by rw [e]; exact List.mem_map_of_mem hp)
   rw [decide_eq_false this]
   exact ih hn.2 hp
theorem Un {p : ByteArray × ByteArray} (hn : (T.map (·.2)).Nodup) (hp : p ∈ T) : T.find? (fun q => decide (q.2 = p.2)) = some p := by
 induction T with
 | nil => cases hp
 | cons q T ih =>
  rw [List.map_cons, List.nodup_cons] at hn
  rw [List.find?_cons]
  rcases List.mem_cons.1 hp with rfl | hp
  ·simp
  ·have : q.2 ≠ p.2 := fun e => hn.1 (by rw [e]; exact List.mem_map_of_mem hp)
   rw [decide_eq_false this]
   exact ih hn.2 hp
theorem Ea (h : ((T.map (·.1)) ++ (T.map (·.2))).Nodup) {p : ByteArray × ByteArray} (hp : p ∈ T) : Ie T p.1 = p.2 := by
 rw [List.nodup_append] at h
 unfold Ie
 rw [UD h.1 hp]
theorem IV (h : ((T.map (·.1)) ++ (T.map (·.2))).Nodup) {p : ByteArray × ByteArray} (hp : p ∈ T) : Ie T p.2 = p.1 := by
 rw [List.nodup_append] at h
 unfold Ie
 have h1 : T.find? (fun q => decide (q.1 = p.2)) = none := by
  rw [List.find?_eq_none]
  intro q hq e
  exact h.2.2 q.1 (List.mem_map_of_mem hq) p.2 (List.mem_map_of_mem hp) (by simpa using e)
 rw [h1, Un h.2.1 hp]
theorem HM {n : ByteArray} (h1 : ∀ p ∈ T, p.1 ≠ n) (h2 : ∀ p ∈ T, p.2 ≠ n) : Ie T n = n := by
 unfold Ie
 rw [List.find?_eq_none.2 fun p hp => by simpa using h1 p hp, List.find?_eq_none.2 fun p hp => by simpa using h2 p hp]
theorem Rn (h : ((T.map (·.1)) ++ (T.map (·.2))).Nodup) (hv : ∀ p ∈ T, AL p.1 = true ∧ AL p.2 = true) : Ren (Ie T) := by
 have key : ∀ n, (∃ p ∈ T, p.1 = n) ∨ (∃ p ∈ T, p.2 = n) ∨ ((∀ p ∈ T, p.1 ≠ n) ∧ ∀ p ∈ T, p.2 ≠ n) := fun n => by
  by_cases h1 : ∃ p ∈ T, p.1 = n
  ·exact .inl h1
  by_cases h2 : ∃ p ∈ T, p.2 = n
  ·exact .inr (.inl h2)
  exact .inr (.inr ⟨fun p hp e => h1 ⟨p, hp, e⟩, fun p hp e => h2 ⟨p, hp, e⟩⟩)
 refine ⟨fun n => ?_, fun n => ?_, fun n hn => ?_⟩
 ·rcases key n with ⟨p, hp, rfl⟩ | ⟨p, hp, rfl⟩ | ⟨h1, h2⟩
  ·rw [Ea h hp, IV h hp]
  ·rw [IV h hp, Ea h hp]
  ·rw [HM h1 h2, HM h1 h2]
 ·rcases key n with ⟨p, hp, rfl⟩ | ⟨p, hp, rfl⟩ | ⟨h1, h2⟩
  ·rw [Ea h hp, (hv p hp).1, (hv p hp).2]
  ·rw [IV h hp, (hv p hp).1, (hv p hp).2]
  ·rw [HM h1 h2]
 ·rcases key n with ⟨p, hp, rfl⟩ | ⟨p, hp, rfl⟩ | ⟨h1, h2⟩
  ·rw [(hv p hp).1] at hn
   cases hn
  ·rw [(hv p hp).2] at hn
   cases hn
  ·exact HM h1 h2
end
def BL (c : UInt8) (k : Nat) : ByteArray := ⟨#[c]⟩ ++ GQ k
theorem E1 (c : UInt8) (k : Nat) : (BL c k).data.toList = c :: Lib.decDigits k := by
 unfold BL GQ
 simp
theorem MW {c d : UInt8} {m n : Nat} (h : BL c m = BL d n) : c = d ∧ m = n := by
 have h1 := congrArg (fun b : ByteArray => b.data.toList) h
 simp only [E1] at h1
 have h2 := congrArg U2 (List.cons.inj h1).2
 rw [PN, PN] at h2
 exact ⟨(List.cons.inj h1).1, h2⟩
theorem Oz (c : UInt8) (k : Nat) : Ah (BL c k) 0 = (c.toNat : Int) := by
 unfold Ah
 rw [E1]
 rfl
theorem KF (c : UInt8) (k : Nat) : (BL c k).size = 1 + Lib.nDigits k := by
 have : (BL c k).size = (BL c k).data.toList.length := by
  show (BL c k).data.size = _
  rw [Array.length_toList]
 rw [this, E1, List.length_cons, Lib.decDigits_length]
 omega
theorem LP {c : UInt8} (h1 : 65 ≤ c.toNat) (h2 : c.toNat ≤ 90) (k : Nat) : AL (BL c k) = true := by
 unfold AL
 rw [Oz, KF, decide_eq_true (by omega), decide_eq_true (show (65 : Int) ≤ (c.toNat : Int) by omega), decide_eq_true (show (c.toNat : Int) ≤ 90 by omega)]
 rfl
theorem TW {c : UInt8} (h1 : 65 ≤ c.toNat) (h2 : c.toNat ≤ 90) {k : Nat} (h : k < 1000000) : Ax (BL c k) = true := by
 have h6 := NW (u := k) (k := 6) (by omega) (by omega)
 unfold Ax
 rw [Oz, KF, decide_eq_true (show 1 ≤ 1 + Lib.nDigits k by omega), decide_eq_true (show 1 + Lib.nDigits k ≤ 8 by omega), decide_eq_false (show ¬ ((c.toNat : Int) ≤ 57) by omega)]
 have : Bo (BL c k) (1 + Lib.nDigits k) = true := by
  unfold Bo
  rw [E1]
  refine List.all_eq_true.2 fun d hd => ?_
  have hd := List.mem_of_mem_take hd
  rcases List.mem_cons.1 hd with rfl | hd
  ·unfold A_
   rw [decide_eq_true (show 65 ≤ (d.toNat : Int) ∧ (d.toNat : Int) ≤ 90 by omega)]
   simp
  ·have := FU _ d hd
   unfold A_
   rw [decide_eq_true (show 48 ≤ (d.toNat : Int) ∧ (d.toNat : Int) ≤ 57 by omega), Bool.or_true]
 rw [this]
 simp
def nmB (c : UInt8) : Nat → List ByteArray → List Bd
 | _, [] => []
 | k, n :: l => (n, .mk (BL c k) []) :: nmB c (k + 1) l
theorem D2 (c : UInt8) : ∀ (l : List ByteArray) (k : Nat) (n : ByteArray), lookup (nmB c k l) n = if BI l n < l.length then some (.mk (BL c (k + BI l n)) []) else none
 | [], k, n => by simp [nmB, HC, BI]
 | x :: l, k, n => by
  rw [nmB, Fc, BI]
  by_cases e : x = n
  ·rw [if_pos e, if_pos e]
   simp
  ·rw [if_neg e, if_neg e, D2 c l (k + 1) n, List.length_cons]
   by_cases h : BI l n < l.length
   ·rw [if_pos h, if_pos (by omega)]
    congr 3
    omega
   ·rw [if_neg h, if_neg (by omega)]
theorem OM (c : UInt8) : ∀ (l : List ByteArray) (k : Nat) (n : ByteArray), nmB c k (l ++ [n]) = nmB c k l ++ [(n, .mk (BL c (k + l.length)) [])]
 | [], k, n => by simp [nmB]
 | x :: l, k, n => by
  rw [List.cons_append, nmB, OM c l (k + 1) n, nmB, List.cons_append, List.length_cons, show k + 1 + l.length = k + (l.length + 1) by omega]
theorem JW (c : UInt8) : ∀ (l : List ByteArray) (k : Nat), (nmB c k l).length = l.length
 | [], _ => rfl
 | n :: l, k => by rw [nmB, List.length_cons, List.length_cons, JW c l]
theorem H4 (c : UInt8) : ∀ (l : List ByteArray) (k : Nat), (nmB c k l).map (·.1) = l
 | [], _ => rfl
 | n :: l, k => by rw [nmB, List.map_cons, H4 c l]
theorem RE {f : ByteArray → ByteArray} (hf : Ren f) {c d : UInt8} {k j : Nat} {l : List ByteArray} (hl : ∀ n ∈ l, AL n = true) (h : ∀ i, i < l.length → f (BL c (k + i)) = BL d (j + i)) (t : Tm) (hc : t.chk = 0) (hv : ∀ n, AL n = true → occ n t = true → n ∈ l) : (t.on (nmB c k l)).ren f = t.on (nmB d j l) := by
 induction hN : SizeOf.sizeOf t using Nat.strongRecOn generalizing t with
 | _ N ih =>
 subst hN
 have ha := Tm.chk_args hc
 have hmap : (t.args.map (Tm.on (nmB c k l))).map (Tm.ren f) = t.args.map (Tm.on (nmB d j l)) := by
  rw [List.map_map]
  exact List.map_congr_left fun a h => ih _ (Tm.lt_of_arg h) a (ha.2 a h) (fun n hn ho => hv n hn (JN h ho)) rfl
 by_cases hvr : AL t.name = true
 ·have h0 := ha.1 hvr
  have hm := hv t.name hvr (GJ.2 (.inl rfl))
  have hp := DY.2 hm
  have e1 := D2 c l k t.name
  have e2 := D2 d l j t.name
  rw [if_pos hp] at e1 e2
  rw [Tm.on_leaf e1 h0, Tm.on_leaf e2 h0, Tm.ren_eq]
  show Tm.mk (f (BL c (k + BI l t.name))) [] = _
  rw [h _ hp]
 ·have hno : t.name ∉ l := fun hm => hvr (hl _ hm)
  have hp : ¬ BI l t.name < l.length := fun h => hno (DY.1 h)
  have e1 := D2 c l k t.name
  have e2 := D2 d l j t.name
  rw [if_neg hp] at e1 e2
  rw [Tm.on_knot (.inl e1), Tm.on_knot (.inl e2), Tm.ren_eq]
  show Tm.mk (f t.name) ((t.args.map (Tm.on (nmB c k l))).map (Tm.ren f)) = _
  rw [hmap, hf.con _ (by simpa using hvr)]
def ED (c : UInt8) (k : Nat) (r : Pr) : Pr := (r.1.on (nmB c k r.1.varsOf), r.2.on (nmB c k r.1.varsOf))
def Kv (c : UInt8) (k : Nat) (d : UInt8) (j : Nat) (N : Nat) : List (ByteArray × ByteArray) := (List.range N).map fun i => (BL c (k + i), BL d (j + i))
def Ig : List (ByteArray × ByteArray) := Kv 88 1 80 0 1000 ++ Kv 89 1 81 0 1000
theorem IY : ((Ig.map (·.1)) ++ (Ig.map (·.2))).Nodup := by
 have one : ∀ (c : UInt8) (k N : Nat), ((List.range N).map fun i => BL c (k + i)).Nodup := fun c k N => by
  rw [List.nodup_iff_pairwise_ne, List.pairwise_map]
  refine List.Pairwise.imp (fun {a b} hne h => hne ?_) List.nodup_range
  have := (MW h).2
  omega
 have e1 : Ig.map (·.1) = ((List.range 1000).map fun i => BL 88 (1 + i)) ++ ((List.range 1000).map fun i => BL 89 (1 + i)) := by
  unfold Ig Kv
  rw [List.map_append, List.map_map, List.map_map]
  rfl
 have e2 : Ig.map (·.2) = ((List.range 1000).map fun i => BL 80 (0 + i)) ++ ((List.range 1000).map fun i => BL 81 (0 + i)) := by
  unfold Ig Kv
  rw [List.map_append, List.map_map, List.map_map]
  rfl
 have apart : ∀ {c d : UInt8} {k j : Nat} {n : ByteArray}, c ≠ d → n ∈ ((List.range 1000).map fun i => BL c (k + i)) → n ∈ ((List.range 1000).map fun i => BL d (j + i)) → False := fun hne h1 h2 => by
  obtain ⟨a, _, rfl⟩ := List.mem_map.1 h1
  obtain ⟨b, _, h⟩ := List.mem_map.1 h2
  exact hne (MW h).1.symm
 rw [e1, e2]
 refine List.nodup_append.2 ⟨List.nodup_append.2 ⟨one _ _ _, one _ _ _, fun a ha b hb e => ?_⟩, List.nodup_append.2 ⟨one _ _ _, one _ _ _, fun a ha b hb e => ?_⟩, fun a ha b hb e => ?_⟩
 ·subst e
  exact apart (by decide) ha hb
 ·subst e
  exact apart (by decide) ha hb
 ·subst e
  rcases List.mem_append.1 ha with ha | ha <;> rcases List.mem_append.1 hb with hb | hb <;> exact apart (by decide) ha hb
def T4 : ByteArray → ByteArray := Ie Ig
theorem KZ : Ren T4 := Rn IY fun p hp => by
 unfold Ig Kv at hp
 rcases List.mem_append.1 hp with hp | hp <;> obtain ⟨i, _, rfl⟩ := List.mem_map.1 hp <;> exact ⟨LP (by decide) (by decide) _, LP (by decide) (by decide) _⟩
theorem WP {i : Nat} (h : i < 1000) : T4 (BL 88 (1 + i)) = BL 80 (0 + i) := Ea IY (p := (BL 88 (1 + i), BL 80 (0 + i))) (List.mem_append_left _ (List.mem_map.2 ⟨i, List.mem_range.2 h, rfl⟩))
theorem V_ {i : Nat} (h : i < 1000) : T4 (BL 89 (1 + i)) = BL 81 (0 + i) := Ea IY (p := (BL 89 (1 + i), BL 81 (0 + i))) (List.mem_append_right _ (List.mem_map.2 ⟨i, List.mem_range.2 h, rfl⟩))
theorem Od {c d : UInt8} (h : ∀ i, i < 1000 → T4 (BL c (1 + i)) = BL d (0 + i)) {r : Pr} (h1 : r.1.chk = 0) (h2 : r.2.chk = 0) (hl : r.1.varsOf.length ≤ 1000) (hv : ∀ v ∈ r.2.varsOf, v ∈ r.1.varsOf) : EE T4 (ED c 1 r) = ED d 0 r := by
 have occv : ∀ {t : Tm} {n : ByteArray}, AL n = true → occ n t = true → n ∈ t.varsOf := fun {t n} hn ho => by
  rw [← Iw hn] at ho
  exact Cc.1 ho
 unfold ED EE
 rw [RE KZ (FV r.1) (fun i hi => h i (by omega)) r.1 h1 fun n hn ho => occv hn ho, RE KZ (FV r.1) (fun i hi => h i (by omega)) r.2 h2 fun n hn ho => hv n (occv hn ho)]

theorem Sx : ∀ {n m : Nat} {s : List Bd} {l : List Pr} {r r' : List Bd × Int}, Ck n s l r → Ck m s l r' → r = r' := by
 intro n m s l r r' h
 induction h generalizing m with
 | nil =>
  intro k
  cases k
  rfl
 | err he =>
  intro k
  cases k with
  | err h2 =>
   rw [he] at h2
   cases h2
   rfl
  | go h2 _ =>
   rw [he] at h2
   cases h2
 | go hg hr ih =>
  intro k
  cases k with
  | err h2 =>
   rw [hg] at h2
   cases h2
  | go h2 h3 =>
   rw [hg] at h2
   cases h2
   exact ih h3
noncomputable def GP (l : List Pr) : List Bd × Int := open Classical in if h : ∃ r n, Ck n [] l r then h.choose else ([], 0)
theorem JS {n : Nat} {l : List Pr} {r : List Bd × Int} (h : Ck n [] l r) : GP l = r := by
 unfold GP
 have hx : ∃ r n, Ck n [] l r := ⟨r, n, h⟩
 rw [dif_pos hx]
 obtain ⟨m, hm⟩ := hx.choose_spec
 exact Sx hm h
theorem TK {f : ByteArray → ByteArray} (hf : Ren f) {l : List Pr} (hl : C_ l = 0) : (GP (l.map (EE f))).2 = (GP l).2 ∧ HJ f (GP l).1 (GP (l.map (EE f))).1 := by
 obtain ⟨_, hg⟩ := CK hl
 obtain ⟨n, r, hr⟩ := IE _ _ _ _ hg rfl rfl
 obtain ⟨r', h1, h2, h3⟩ := Si hf hr hg (.nil f)
 rw [JS hr, JS h1]
 exact ⟨h2, h3⟩
section
variable {f : ByteArray → ByteArray}
mutual
theorem Jy : ∀ t : Tm, (t.ren f).places = t.places
 | .mk n xs => by rw [Tm.ren, Tm.places, Tm.places, Iz 0 xs]
theorem Iz : ∀ (k : Nat) (xs : List Tm), Tm.placesFrom k (Tm.renL f xs) = Tm.placesFrom k xs
 | _, [] => rfl
 | k, x :: xs => by rw [Tm.renL, Tm.placesFrom, Tm.placesFrom, Jy x, Iz (k + 1) xs]
end
theorem Qm : ∀ (p : List Int) (t : Tm), (t.ren f).atP p = (t.atP p).map (Tm.ren f)
 | [], t => by rw [Tm.atP_nil, Tm.atP_nil]; rfl
 | i :: p, t => by
  rw [Tm.atP_cons, Tm.atP_cons, Tm.ren_args, List.getElem?_map]
  split
  ·rfl
  ·cases t.args[i.toNat]? with
   | none => rfl
   | some a => exact Qm p a
theorem OW : ∀ (p : List Int) (t x : Tm), (t.ren f).putP p (x.ren f) = (t.putP p x).ren f
 | [], t, x => by rw [Tm.putP_nil, Tm.putP_nil]
 | i :: p, t, x => by
  rw [Tm.putP_cons, Tm.putP_cons, Tm.ren_args, List.getElem?_map]
  cases h : t.args[i.toNat]? with
  | none => rfl
  | some a =>
   show Tm.mk (t.ren f).name ((t.args.map (Tm.ren f)).set i.toNat ((a.ren f).putP p (x.ren f))) = (Tm.mk t.name (t.args.set i.toNat (a.putP p x))).ren f
   rw [OW p a x, Tm.ren_name, Tm.ren_eq (.mk t.name _)]
   congr 1
   exact (List.map_set).symm
end
def Df (l r : Tm) : Pr := ((l.cn []).1, (r.cn (l.cn []).2).1)
theorem Pa {f : ByteArray → ByteArray} (hf : Ren f) (l r : Tm) : Df (l.ren f) (r.ren f) = Df l r := by
 have h1 := Pv hf l []
 rw [List.map_nil] at h1
 unfold Df
 rw [h1]
 have h2 := Pv hf r (l.cn []).2
 rw [h2]
noncomputable def Ch (a b : Pr) (same : Bool) (p : List Int) : Option (List Pr) := match a.1.atP p with
 | none => some []
 | some x => if AL x.name = true ∨ (same = true ∧ p = []) then some []
  else if (GP [(x, b.1)]).2 = 8 then none
  else if (GP [(x, b.1)]).2 ≠ 0 then some []
  else if (Aq (GP [(x, b.1)]).1 a.2).2 = true ∧ (Aq (GP [(x, b.1)]).1 (a.1.putP p b.2)).2 = true then some [Df (Aq (GP [(x, b.1)]).1 a.2).1 (Aq (GP [(x, b.1)]).1 (a.1.putP p b.2)).1]
  else none
theorem Ez {x y : Tm} (hx : x.may = 0) (hy : y.may = 0) : C_ [(x, y)] = 0 := by
 simp [C_, Fp, Bu, hx, hy]
theorem IJ {t : Tm} (hc : t.chk = 0) (hz : t.size ≤ 200) : t.may = 0 := by
 unfold Tm.may
 rw [if_neg (by omega), hc]
theorem PM {f : ByteArray → ByteArray} (hf : Ren f) {a b : Pr} (ha : a.1.chk = 0) (hz : a.1.size ≤ 200) (hb : b.1.chk = 0) (hbz : b.1.size ≤ 200) (same : Bool) (p : List Int) (hp : p ∈ a.1.places) : Ch (EE f a) (EE f b) same p = Ch a b same p := by
 obtain ⟨x, hx, hk⟩ := Ds a.1 p hp
 have hxc := Hi a.1 x ha hk
 have hxz := Cj a.1 x hk
 have hmay := Ez (IJ hxc (by omega)) (IJ hb hbz)
 obtain ⟨h1, h2⟩ := TK hf hmay
 have he : [(x, b.1)].map (EE f) = [(x.ren f, b.1.ren f)] := rfl
 rw [he] at h1 h2
 unfold Ch
 rw [show (EE f a).1 = a.1.ren f from rfl, show (EE f b).1 = b.1.ren f from rfl, show (EE f a).2 = a.2.ren f from rfl, show (EE f b).2 = b.2.ren f from rfl, Qm, hx]
 simp only [Option.map_some, Tm.ren_name, hf.var, h1, OW]
 split
 ·rfl
 split
 ·rfl
 split
 ·rfl
 rcases Oo hf h2 a.2 with e1 | ⟨e1, e1'⟩
 ·rcases Oo hf h2 (a.1.putP p b.2) with e2 | ⟨e2, e2'⟩
  ·rw [e1, e2]
   simp only [Pa hf]
  ·rw [if_neg (fun h => by rw [e2'] at h; exact absurd h.2 (by decide)), if_neg (fun h => by rw [e2] at h; exact absurd h.2 (by decide))]
 ·rw [if_neg (fun h => by rw [e1'] at h; exact absurd h.1 (by decide)), if_neg (fun h => by rw [e1] at h; exact absurd h.1 (by decide))]
noncomputable def C4 (a b : Pr) (same : Bool) : List (List Int) → Option (List Pr)
 | [] => some []
 | p :: ps => match Ch a b same p with
  | none => none
  | some x => (C4 a b same ps).map (x ++ ·)
noncomputable def Mm (a b : Pr) (same : Bool) : Option (List Pr) := C4 a b same a.1.places
theorem Tf {f : ByteArray → ByteArray} (hf : Ren f) {a b : Pr} (ha : a.1.chk = 0) (hz : a.1.size ≤ 200) (hb : b.1.chk = 0) (hbz : b.1.size ≤ 200) (same : Bool) : Mm (EE f a) (EE f b) same = Mm a b same := by
 unfold Mm
 rw [show (EE f a).1 = a.1.ren f from rfl, Jy]
 have key : ∀ ps : List (List Int), (∀ p ∈ ps, p ∈ a.1.places) → C4 (EE f a) (EE f b) same ps = C4 a b same ps := fun ps => by
  induction ps with
  | nil => exact fun _ => rfl
  | cons p ps ih =>
   intro h
   rw [C4, C4, PM hf ha hz hb hbz same p (h p (by simp)), ih fun q hq => h q (List.mem_cons_of_mem _ hq)]
 exact key _ fun p hp => hp
theorem QX {U : List ByteArray} {C : Nat} {n : Nat} {s : List Bd} {l : List Pr} {r : List Bd × Int} (hr : Ck n s l r) : B6 U C s l → r.2 = 0 → B6 U C r.1 [] := fun h h0 => (K3 hr h h0).1
theorem Mb {l : List Pr} (h : C_ l = 0) (h0 : (GP l).2 = 0) : B6 (GK l) 100000000000 (GP l).1 [] := by
 obtain ⟨_, hg⟩ := CK h
 obtain ⟨n, r, hr⟩ := IE _ _ _ _ hg rfl rfl
 rw [JS hr] at h0 ⊢
 exact QX hr hg h0
theorem HK : ∀ (p : List Int) (t x : Tm), t.chk = 0 → x.chk = 0 → (t.putP p x).chk = 0
 | [], t, x, _, hx => by rw [Tm.putP_nil]; exact hx
 | i :: p, t, x, ht, hx => by
  rw [Tm.putP_cons]
  split
  ·rename_i a ha
   have hl := (List.getElem?_eq_some_iff.1 ha).1
   refine NN (n := t.name) (xs := t.args) (by cases t; exact ht) hl ?_
   exact HK p a x ((Tm.chk_args ht).2 a (List.mem_of_getElem? ha)) hx
  ·exact ht
theorem HF {s : List Bd} (hs : ∀ b ∈ s, b.2.chk = 0) {t : Tm} (hc : t.chk = 0) (h : (Aq s t).2 = true) : (Aq s t).1.chk = 0 := by
 unfold Aq at h ⊢
 split
 ·exact Kf hs hc
 ·rename_i hn
  rw [if_neg hn] at h
  cases h
theorem Gx : ∀ (l : List ByteArray) (k : Nat) {b : Bd}, b ∈ Br k l → ∃ j, j < k + l.length ∧ b.2 = Ip j
 | [], k, b, h => by simp [Br] at h
 | n :: l, k, b, h => by
  rw [Br] at h
  rcases List.mem_cons.1 h with rfl | h
  ·exact ⟨k, by simp, rfl⟩
  ·obtain ⟨j, h1, h2⟩ := Gx l (k + 1) h
   exact ⟨j, by rw [List.length_cons]; omega, h2⟩
theorem NI (c : UInt8) : ∀ (l : List ByteArray) (k : Nat) {b : Bd}, b ∈ nmB c k l → ∃ j, j < k + l.length ∧ b.2 = .mk (BL c j) []
 | [], k, b, h => by simp [nmB] at h
 | n :: l, k, b, h => by
  rw [nmB] at h
  rcases List.mem_cons.1 h with rfl | h
  ·exact ⟨k, by simp, rfl⟩
  ·obtain ⟨j, h1, h2⟩ := NI c l (k + 1) h
   exact ⟨j, by rw [List.length_cons]; omega, h2⟩
theorem Qs {s : List Bd} (hs : ∀ b ∈ s, b.2.size = 1) (t : Tm) : (t.on s).size = t.size := by
 induction hN : SizeOf.sizeOf t using Nat.strongRecOn generalizing t with
 | _ N ih =>
 subst hN
 have key : (Tm.mk t.name (t.args.map (Tm.on s))).size = t.size := by
  rw [Tm.size_eq, Tm.size_eq t]
  show 1 + Tm.sizes (t.args.map (Tm.on s)) = _
  have : ∀ l : List Tm, (∀ a ∈ l, (a.on s).size = a.size) → Tm.sizes (l.map (Tm.on s)) = Tm.sizes l := fun l h => by
   induction l with
   | nil => rfl
   | cons a l ih2 =>
    rw [List.map_cons, Tm.sizes, Tm.sizes, h a (by simp), ih2 fun b hb => h b (List.mem_cons_of_mem _ hb)]
  rw [this _ fun a ha => ih _ (Tm.lt_of_arg ha) a rfl]
 by_cases h0 : t.args = []
 ·cases hl : lookup s t.name with
  | some x =>
   obtain ⟨b, hb, _, rfl⟩ := Cw hl
   rw [Tm.on_leaf hl h0, hs b hb, Tm.size_eq t, h0]
   rfl
  | none => rw [Tm.on_knot (.inl hl)]; exact key
 ·rw [Tm.on_knot (.inr h0)]
  exact key
theorem UT {t : Tm} (hc : t.chk = 0) {l : List ByteArray} (hl : ∀ n ∈ (t.cn l).2, AL n = true) (hk : (t.cn l).2.length < 900000) : (t.cn l).1.chk = 0 := by
 rw [Tp t hc l _ hl ⟨[], by simp⟩]
 refine Kf (fun b hb => ?_) hc
 obtain ⟨j, h1, h2⟩ := Gx _ _ hb
 rw [h2]
 exact SG (by omega)
def EC (cr : Nat → Nat → Option (List Pr)) : List (Nat × Nat) → List Pr → List Pr × Int
 | [], acc => (acc, 0)
 | q :: l, acc => match cr q.1 q.2 with
  | none => ([], 8)
  | some x => if 400 < (acc ++ x).length then ([], 3) else EC cr l (acc ++ x)
def FT (n i j : Nat) : List (Nat × Nat) := (List.range' j (n - j)).map (fun j => (i, j)) ++ (List.range' (i + 1) (n - (i + 1))).flatMap fun i => (List.range' 0 n).map fun j => (i, j)
theorem Q2 {n i j : Nat} (h : j < n) : FT n i j = (i, j) :: FT n i (j + 1) := by
 unfold FT
 rw [show n - j = (n - (j + 1)) + 1 by omega, List.range'_succ]
 rfl
theorem Tj {n i : Nat} (h : i + 1 < n) : FT n i n = FT n (i + 1) 0 := by
 unfold FT
 rw [Nat.sub_self, show n - (i + 1) = (n - (i + 1 + 1)) + 1 by omega, List.range'_succ, List.flatMap_cons, Nat.sub_zero]
 rfl
theorem UX {n i : Nat} (h : n ≤ i + 1) : FT n i n = [] := by
 unfold FT
 rw [Nat.sub_self, show n - (i + 1) = 0 by omega]
 rfl
noncomputable def crR (R : List Pr) (c d : UInt8) (k : Nat) (i j : Nat) : Option (List Pr) := match R[i]?, R[j]? with
 | some a, some b => Mm (ED c k a) (ED d k b) (decide (i = j))
 | _, _ => none
noncomputable def B0 (R : List Pr) (c d : UInt8) (k : Nat) : List Pr × Int := if R.length = 0 then ([], 0) else EC (crR R c d k) (FT R.length 0 0) []
theorem DL {c : UInt8} (h1 : 65 ≤ c.toNat) (h2 : c.toNat ≤ 90) {k : Nat} (hk : k ≤ 1) {t : Tm} {V : List ByteArray} (hV : V.length ≤ 1000) (ht : t.chk = 0) : (t.on (nmB c k V)).chk = 0 ∧ (t.on (nmB c k V)).size = t.size := by
 refine ⟨Kf (fun b hb => ?_) ht, Qs (fun b hb => ?_) t⟩
 ·obtain ⟨j, q1, q2⟩ := NI c V k hb
  rw [q2]
  exact N1 (TW h1 h2 (by omega))
 ·obtain ⟨j, q1, q2⟩ := NI c V k hb
  rw [q2]
  rfl

set_option maxRecDepth 100000
def Gf : IR :=
 (.seq (.ops [.i 2 (.box 29 (.t 0)), .i 3 (.box 29 (.t 1)), .i 4 (.mov (.n 0))]) (.seq (.seq (.ops [.L 6 2 2, .i 7 (.call 64 [.t 6]), .m 5 7]) (.seq (.ops [.m 8 5, .i 9 (.bin .neq (.t 8) (.n 0))]) (.cond (.t 9) (.seq (.ops [.m 10 5, .m 4 10]) .ret) .skip))) (.seq (.ops [.L 11 2 3, .i 12 (.call 64 [.t 11]), .m 4 12]) .ret)))
theorem K5 : OkF Tryz.prog 39 13 [] Gf [.t 4] := .of Tryz.func39 rfl rfl (by kernel_rfl) rfl

theorem Pd (a b : Tm) : AQ Tryz.prog 39 [aTm a, aTm b] (AK (Bu a b)) := by
 refine K5.ac fun C hC => ?_
 unfold Gf
 repeat' with_reducible first | refine W ?_ | refine Z0 ?_ | ((first | refine Wo fun K hK => ?_ | refine Wp ?_ | refine Wq ?_ | refine Wr ?_); (try simp only [go_sem, fN, seval, eT, iR, dT, dF, nL]); (repeat refine Ai ?_); (try (refine hK _ ?_; clear hK K)); try refine iC ?_)
 refine ⟨_, N2 a, ?_⟩
 by_cases h : a.may = 0
 ·repeat' (first | (with_reducible first | refine W ?_ | refine Z0 ?_ | ((first | refine Wo fun K hK => ?_ | refine Wp ?_ | refine Wq ?_ | refine Wr ?_); (try simp only [go_sem, fN, seval, eT, iR, h, dT, dF, nL]); (repeat refine Ai ?_); (try (refine hK _ ?_; clear hK K)); try refine iC ?_)) | refine Cg _ (N2 b) ?_)
  simp only [go_sem, fN, seval, AJ, AS.result, AA, AB, AH]
  unfold Bu
  rw [if_pos h]
 ·repeat' with_reducible first | refine W ?_ | refine Z0 ?_ | ((first | refine Wo fun K hK => ?_ | refine Wp ?_ | refine Wq ?_ | refine Wr ?_); (try simp only [go_sem, fN, seval, eT, iR, h, dT, dF, nL]); (repeat refine Ai ?_); (try (refine hK _ ?_; clear hK K)); try refine iC ?_)
  simp only [go_sem, fN, seval, AJ, AS.result, AA, AB, AH]
  unfold Bu
  rw [if_neg h]

def FK : IR :=
 (.seq (.ops [.i 2 (.mov (.c (.one (.st (.str (ByteArray.mk (#[])))))))]) (.seq (.ops [.m 3 0, .i 4 (.bin .add (.t 3) (.n 1)), .i 5 (.call 68 [.t 4]), .i 6 (.bin .add (.c (.one (.st (.str (ByteArray.mk (#[90])))))) (.t 5)), .m 2 6]) .ret))
theorem JC : OkF Tryz.prog 74 7 [] FK [.t 2] := .of Tryz.func74 rfl rfl (by kernel_rfl) rfl
def Nd : IR :=
 (.seq (.ops [.i 2 (.mov (.c (.one (.st (.str (ByteArray.mk (#[])))))))]) (.seq (.seq (.ops [.m 3 0, .i 4 (.bin .lss (.t 3) (.n 10))]) (.cond (.t 4) (.seq (.ops [.m 5 0, .i 6 (.bin .add (.n 48) (.t 5)), .i 7 (.conv .u8 (.t 6)), .i 8 (.buildFlat [.t 7]), .i 9 (.strOf (.t 8)), .m 2 9]) .ret) .skip)) (.seq (.ops [.m 10 0, .i 11 (.bin .quo (.t 10) (.n 10)), .i 12 (.call 58 [.t 11]), .m 13 0, .i 14 (.bin .rem (.t 13) (.n 10)), .i 15 (.call 58 [.t 14]), .i 16 (.bin .add (.t 12) (.t 15)), .m 2 16]) .ret)))
theorem Tt : OkF Tryz.prog 58 17 [] Nd [.t 2] := .of Tryz.func58 rfl rfl (by kernel_rfl) rfl

theorem VC {σ : Sto} {vs : List Value} {x : AV} (h : Ag (AW σ noS noH) vs [x]) : ∃ v, vs = [v] ∧ AW σ noS noH v x := by
 cases h with
 | cons h1 h2 =>
  cases h2
  exact ⟨_, rfl, h1⟩
theorem S7 (n : Nat) (hn : n < 1000000) : AQ Tryz.prog 68 [AK n] (Bi (GQ n)) := by
 intro σ w vs hG hF hv
 obtain ⟨v, rfl, h1⟩ := VC hv
 obtain ⟨rfl, hin⟩ := BH h1
 have ht : Lib.TabIs Tryz.prog w "internal/strconv.uint64pow10" .u64 Lib.pow10Tab := hG.ints hF (g := 0) (by kernel_rfl) (by kernel_rfl)
 refine (Any.strconv_Itoa Tryz.laysM171 n (by omega) (by omega) w ht).mono fun e w' ⟨he, k, os, hw⟩ => ?_
 have hb : Below w.heap.size w w' := by
  rw [hw]
  exact Lib.below_grow _ _ (Nat.le_refl _) _ _
 have hd : (⟨(Lib.itoa (n : Int)).toArray⟩ : ByteArray) = GQ n := by rw [Lib.itoa_nonneg]; rfl
 rw [hd] at he
 refine ⟨_, σ, he, .one (.st (.str ?_)), hF.below hb, Ext.refl _ _, hb⟩
 have := CG hn
 rw [Ep]
 omega
theorem TS (n : Nat) (hn : n < 1000000) : AQ Tryz.prog 58 [AK n] (Bi (GQ n)) := by
 induction n using Nat.strongRecOn with
 | _ n ih =>
 refine Tt.ac fun C hC => ?_
 unfold Nd
 by_cases h : (n : Int) < 10
 ·have hb : Ho [[SV.int .u8 (48 + (n : Int))]] = some [48 + (n : Int)] := rfl
  have hr : inR .u8 (48 + (n : Int)) := by simp [inR, IntKind.min, IntKind.max, IntKind.signed, IntKind.bits]; omega
  have hs : strOfNums [48 + (n : Int)] = GQ n := by
   rw [Jk (by omega)]
   unfold strOfNums
   have e : (48 + (n : Int)).toNat = 48 + n := by omega
   simp only [List.map_cons, List.map_nil, e]
  repeat' with_reducible first | refine W ?_ | refine Z0 ?_ | ((first | refine Wo fun K hK => ?_ | refine Wp ?_ | refine Wq ?_ | refine Wr ?_); (try simp only [go_sem, fN, seval, eT, iR, h, hb, hr, hs, dT, dF, nL]); (repeat refine Ai ?_); (try (refine hK _ ?_; clear hK K)); try refine iC ?_)
  simp only [go_sem, fN, seval, AJ, AS.result, AA, AB, AH]
 ·have q1 : (n : Int).tdiv 10 = ((n / 10 : Nat) : Int) := by rw [Int.tdiv_eq_ediv_of_nonneg (by omega)]; omega
  have q2 : (n : Int).tmod 10 = ((n % 10 : Nat) : Int) := by rw [Int.tmod_eq_emod_of_nonneg (by omega)]; omega
  have h1 := ih (n / 10) (by omega) (by omega)
  have h2 := ih (n % 10) (by omega) (by omega)
  have z1 := CG (n := n / 10) (by omega)
  have z2 := CG (n := n % 10) (by omega)
  repeat' (first | (with_reducible first | refine W ?_ | refine Z0 ?_ | ((first | refine Wo fun K hK => ?_ | refine Wp ?_ | refine Wq ?_ | refine Wr ?_); (try simp only [go_sem, fN, seval, eT, iR, h, q1, q2, dT, dF, nL]); (repeat refine Ai ?_); (try (refine hK _ ?_; clear hK K)); try refine iC ?_)) | refine Cg _ (h1) ?_ | refine Cg _ (h2) ?_)
  simp only [go_sem, fN, seval, AJ, AS.result, AA, AB, AH]
  rw [Uq (n := n) (by omega)]
theorem R0 (k : Nat) (hk : k + 1 < 1000000) : AQ Tryz.prog 74 [AK k] (Bi (Cz k)) := by
 have h := S7 (k + 1) hk
 rw [show (((k + 1 : Nat) : Int)) = (k : Int) + 1 by omega] at h
 have z := CG hk
 have z1 : (⟨#[90]⟩ : ByteArray).size = 1 := rfl
 refine JC.ac fun C hC => ?_
 unfold FK
 repeat' (first | (with_reducible first | refine W ?_ | refine Z0 ?_ | ((first | refine Wo fun K hK => ?_ | refine Wp ?_ | refine Wq ?_ | refine Wr ?_); (try simp only [go_sem, fN, seval, eT, iR, z1, dT, dF, nL]); (repeat refine Ai ?_); (try (refine hK _ ?_; clear hK K)); try refine iC ?_)) | refine Cg _ (h) ?_)
 simp only [go_sem, fN, seval, AJ, AS.result, AA, AB, AH]
 rfl

def Ac : IR :=
 (.seq (.ops [.i 6 (.mov (.c (.one (.st (.bool false)))))]) (.seq (.seq (.ops [.m 10 0, .i 11 (.len false (.t 10)), .m 12 1, .i 13 (.len false (.t 12)), .i 14 (.bin .neq (.t 11) (.t 13))]) (.cond (.t 14) (.seq (.ops [.i 6 (.mov (.c (.one (.st (.bool false)))))]) .ret) .skip)) (.seq (.seq (.ops [.m 15 0, .i 16 (.len false (.t 15)), .i 17 (.mov (.n 0))]) (.block 0 (.loop (.seq (.ops [.i 18 (.bin .lss (.t 17) (.t 16))]) (.seq (.cond (.t 18) .skip (.exit 0)) (.seq (.block 1 (.seq (.ops [.m 19 17, .i 20 (.indexAddr 2 (.t 15) (.t 17)), .L 21 2 20, .i 8 (.alloc 29 [.st (.str (ByteArray.mk (#[]))), .full []]), .m 7 19, .s 2 8 21]) (.seq (.ops [.m 22 1, .m 23 7, .i 24 (.indexAddr 2 (.t 22) (.t 23)), .L 25 2 24, .i 9 (.alloc 29 [.st (.str (ByteArray.mk (#[]))), .full []]), .s 2 9 25]) (.seq (.ops [.m 26 2, .L 27 2 8, .L 28 2 9, .i 29 (.callV (.t 26) [.t 27, .t 28]), .i 30 (.un .not (.t 29))]) (.cond (.t 30) (.seq (.ops [.i 6 (.mov (.c (.one (.st (.bool false)))))]) .ret) .skip))))) (.ops [.i 31 (.bin .add (.t 17) (.n 1)), .m 17 31]))))))) (.seq (.ops [.i 6 (.mov (.c (.one (.st (.bool true)))))]) .ret))))
theorem Ar : OkF Tryz.prog 77 32 [] Ac [.t 6] := .of Tryz.func77 rfl rfl (by kernel_rfl) rfl
def Ht : IR :=
 (.seq (.ops [.i 2 (.box 29 (.t 0)), .i 3 (.box 29 (.t 1)), .i 4 (.mov (.c (.one (.st (.bool false)))))]) (.seq (.ops [.f 5 0 2, .l 6 5, .f 7 0 3, .l 8 7, .i 9 (.bin .eql (.t 6) (.t 8)), .m 10 9, .mk (some 11) (some (10, true)) (.fieldAddr 1 (.t 2)) .no, .mk (some 12) (some (10, true)) (.load false 1 (.t 11)) .no, .mk (some 13) (some (10, true)) (.fieldAddr 1 (.t 3)) .no, .mk (some 14) (some (10, true)) (.load false 1 (.t 13)) .no, .mk (some 15) (some (10, true)) (.call 77 [.t 12, .t 14, .c (.one (.fn 53 []))]) .no, .i 16 (.pick (.t 10) (.t 15) (.c (.one (.st (.bool false))))), .m 4 16]) .ret))
theorem M8 : OkF Tryz.prog 53 17 [] Ht [.t 4] := .of Tryz.func53 rfl rfl (by kernel_rfl) rfl

theorem Tm.beqL_no {xs ys : List Tm} (h : xs ≠ ys) : Tm.beqL xs ys = false := by
 rw [← Bool.not_eq_true, Tm.beqL_iff]
 exact h
theorem Nq (xs ys : List Tm) (ih : ∀ x ∈ xs, ∀ y, AQ Tryz.prog 53 [aTm x, aTm y] (Ab (x.beq y))) :
  AQ Tryz.prog 77 [Dn xs, Dn ys, .one (.fn 53 [])] (Ab (Tm.beqL xs ys)) := by
 have hplain : CT Tryz.prog 53 = true := by kernel_rfl
 refine Ar.ac fun C hC => ?_
 unfold Ac
 refine IWP.learn 0 (by omega) fun hkn => ?_
 have hkx := Dt hkn
 rw [List.length_map] at hkx
 by_cases hl : xs.length = ys.length
 ·have hl' : (xs.length : Int) = ys.length := by omega
  repeat' with_reducible first | refine W ?_ | refine Z0 ?_ | ((first | refine Wo fun K hK => ?_ | refine Wp ?_ | refine Wq ?_ | refine Wr ?_); (try simp only [go_sem, fN, seval, eT, iR, hl', dT, dF, nL]); (repeat refine Ai ?_); (try (refine hK _ ?_; clear hK K)); try refine iC ?_)
  refine IWP.loopD [8, 9] (fun n s => ∃ k, k ≤ xs.length ∧ n = xs.length - k ∧ xs.take k = ys.take k ∧ s.env 1 = Dn ys ∧ s.env 2 = .one (.fn 53 []) ∧ s.env 15 = Dn xs ∧ s.env 16 = AK xs.length ∧ s.env 17 = AK k ∧ s.S 8 = none ∧ s.S 9 = none) xs.length ⟨0, Nat.zero_le _, rfl, rfl, rfl, rfl, rfl, by simp only [go_sem, fN, seval, eT, iR, hl'], rfl, rfl, rfl⟩ ?_
  rintro n ⟨env, S⟩ ⟨k, hk, rfl, h0, e1, e2, e15, e16, e17, s8, s9⟩
  simp only at e1 e2 e15 e16 e17 s8 s9
  by_cases hlt : (k : Int) < xs.length
  ·obtain ⟨x, hx⟩ := AT (show k < xs.length by omega)
   obtain ⟨y, hy⟩ := AT (show k < ys.length by omega)
   repeat' with_reducible first | refine W ?_ | refine Z0 ?_ | ((first | refine Wo fun K hK => ?_ | refine Wp ?_ | refine Wq ?_ | refine Wr ?_); (try simp only [go_sem, fN, seval, eT, iR, e1, e2, e15, e16, e17, s8, s9, hlt, hx, hy, hplain, dT, dF, nL]); (repeat refine Ai ?_); (try (refine hK _ ?_; clear hK K)); try refine iC ?_)
   refine ⟨_, _, (ih x (AI hx) y).toS rfl, ?_⟩
   cases hxy : x.beq y with
   | false =>
    repeat' with_reducible first | refine W ?_ | refine Z0 ?_ | ((first | refine Wo fun K hK => ?_ | refine Wp ?_ | refine Wq ?_ | refine Wr ?_); (try simp only [go_sem, fN, seval, eT, iR, hxy, dT, dF, nL]); (repeat refine Ai ?_); (try (refine hK _ ?_; clear hK K)); try refine iC ?_)
    simp only [go_sem, fN, seval, AJ, AS.result, AA, AB, AH]
    rw [Tm.beqL_no fun e => by
     subst e
     rw [hx] at hy
     cases hy
     rw [Tm.beq_refl] at hxy
     cases hxy]
   | true =>
    have hxy' := (Tm.beq_iff x y).1 hxy
    repeat' with_reducible first | refine W ?_ | refine Z0 ?_ | ((first | refine Wo fun K hK => ?_ | refine Wp ?_ | refine Wq ?_ | refine Wr ?_); (try simp only [go_sem, fN, seval, eT, iR, hxy, e1, e2, e15, e16, e17, s8, s9, dT, dF, nL]); (repeat refine Ai ?_); (try (refine hK _ ?_; clear hK K)); try refine iC ?_)
    refine AE ⟨xs.length - (k + 1), by omega, k + 1, by omega, rfl, ?_, ?_⟩
    ·rw [AY hx, AY hy, h0, hxy']
    ·simp only [go_sem, fN, seval, AS.drop, Ak, AC.clears, AC.clear, AC.highs, AC.high, Bool.not_false, Bool.true_and, Bool.and_self, AV.purge, AV.purges, AC.purge, AN.purge, List.contains_cons, List.contains_nil, Nat.reduceBEq, Bool.or_self, Bool.or_false, Bool.false_or, Bool.or_true, eT, iR, e1, e2, e15, e16, e17, s8, s9]
     congr 3
  ·repeat' with_reducible first | refine W ?_ | refine Z0 ?_ | ((first | refine Wo fun K hK => ?_ | refine Wp ?_ | refine Wq ?_ | refine Wr ?_); (try simp only [go_sem, fN, seval, eT, iR, e1, e2, e15, e16, e17, hlt, dT, dF, nL]); (repeat refine Ai ?_); (try (refine hK _ ?_; clear hK K)); try refine iC ?_)
   simp only [go_sem, fN, seval, AJ, AS.result, AA, AB, AH]
   rw [List.take_of_length_le (by omega), List.take_of_length_le (by omega)] at h0
   rw [(Tm.beqL_iff xs ys).2 h0]
 ·have hl' : ¬ (xs.length : Int) = ys.length := by omega
  repeat' with_reducible first | refine W ?_ | refine Z0 ?_ | ((first | refine Wo fun K hK => ?_ | refine Wp ?_ | refine Wq ?_ | refine Wr ?_); (try simp only [go_sem, fN, seval, eT, iR, hl', dT, dF, nL]); (repeat refine Ai ?_); (try (refine hK _ ?_; clear hK K)); try refine iC ?_)
  simp only [go_sem, fN, seval, AJ, AS.result, AA, AB, AH]
  rw [Tm.beqL_no fun e => hl (by rw [e])]
theorem Uf (a b : Tm) : AQ Tryz.prog 53 [aTm a, aTm b] (Ab (a.beq b)) := by
 induction h : SizeOf.sizeOf a using Nat.strongRecOn generalizing a b with
 | _ N ih =>
 subst h
 have hE := Nq a.args b.args fun x hx y => ih _ (Tm.lt_of_arg hx) x y rfl
 have he : a.beq b = (decide (a.name = b.name) && Tm.beqL a.args b.args) := by cases a; cases b; rfl
 refine M8.ac fun C hC => ?_
 unfold Ht
 by_cases hn : a.name = b.name
 ·repeat' (first | (with_reducible first | refine W ?_ | refine Z0 ?_ | ((first | refine Wo fun K hK => ?_ | refine Wp ?_ | refine Wq ?_ | refine Wr ?_); (try simp only [go_sem, fN, seval, eT, iR, hn, dT, dF, nL]); (repeat refine Ai ?_); (try (refine hK _ ?_; clear hK K)); try refine iC ?_)) | refine Cg _ (hE) ?_)
  simp only [go_sem, fN, seval, AJ, AS.result, AA, AB, AH]
  rw [he, decide_eq_true hn]
  rfl
 ·repeat' with_reducible first | refine W ?_ | refine Z0 ?_ | ((first | refine Wo fun K hK => ?_ | refine Wp ?_ | refine Wq ?_ | refine Wr ?_); (try simp only [go_sem, fN, seval, eT, iR, hn, dT, dF, nL]); (repeat refine Ai ?_); (try (refine hK _ ?_; clear hK K)); try refine iC ?_)
  simp only [go_sem, fN, seval, AJ, AS.result, AA, AB, AH]
  rw [he, decide_eq_false hn]
  rfl




def D7 : IR :=
 (.seq (.ops [.i 3 (.box 29 (.t 0)), .i 4 (.alloc 29 [.st (.str (ByteArray.mk (#[]))), .full []])]) (.seq (.seq (.ops [.f 8 0 3, .l 9 8, .i 10 (.call 40 [.t 9])]) (.cond (.t 10) (.seq (.seq (.ops [.l 11 1, .f 12 0 3, .l 13 12, .i 14 (.lookup none false (.one (.st (.str (ByteArray.mk (#[]))))) (.t 11) (.t 13)), .i 15 (.bin .eql (.t 14) (.c (.one (.st (.str (ByteArray.mk (#[])))))))]) (.cond (.t 15) (.ops [.l 16 1, .f 17 0 3, .l 18 17, .l 19 1, .i 20 (.lenM (.t 19)), .i 21 (.call 74 [.t 20]), .mk none none (.mapSet none (.t 16) (.t 18) (.t 21)) .no]) .skip)) (.seq (.ops [.l 22 1, .f 23 0 3, .l 24 23, .i 25 (.lookup none false (.one (.st (.str (ByteArray.mk (#[]))))) (.t 22) (.t 24)), .i 26 (.build [.st (.str (ByteArray.mk (#[]))), .full []] [(0, 1, .t 25)]), .s 2 4 26]) .ret)) .skip)) (.seq (.ops [.f 27 0 3, .l 28 27, .i 29 (.build [.st (.str (ByteArray.mk (#[]))), .full []] [(0, 1, .t 28)]), .i 5 (.alloc 29 [.st (.str (ByteArray.mk (#[]))), .full []]), .s 2 5 29]) (.seq (.seq (.ops [.f 30 1 3, .l 31 30, .i 32 (.len false (.t 31)), .i 33 (.mov (.n 0))]) (.block 0 (.loop (.seq (.ops [.i 34 (.bin .lss (.t 33) (.t 32))]) (.seq (.cond (.t 34) .skip (.exit 0)) (.seq (.block 1 (.seq (.ops [.i 35 (.indexAddr 2 (.t 31) (.t 33)), .L 36 2 35, .i 7 (.alloc 29 [.st (.str (ByteArray.mk (#[]))), .full []]), .s 2 7 36]) (.ops [.mk (some 37) none (.fieldAddr 1 (.t 5)) (.onb 5), .mk (some 38) none (.load false 1 (.t 37)) (.onb 5), .l 39 2, .L 40 2 7, .mk (some 41) none (.callV (.t 39) [.t 40]) (.keeps [5, 5]), .i 42 (.buildSlice false 29 2 [.t 41]), .i 43 (.append false 29 2 40 (.t 38) (.t 42)), .f 44 1 5, .s 1 44 43]))) (.ops [.i 45 (.bin .add (.t 33) (.n 1)), .m 33 45]))))))) (.seq (.ops [.L 46 2 5, .s 2 4 46]) .ret)))))
theorem Gw : OkF Tryz.prog 73 47 [41] D7 [.cell 4 true 2] := .of Tryz.func73 rfl rfl (by kernel_rfl) rfl
def EY : IR :=
 (.seq (.ops [.i 2 (.mov (.c (.one (.full []))))]) (.seq (.ops [.i 8 (.makeMap none), .i 3 (.alloc 98 [.st (.lit (.map none))]), .s 1 3 8]) (.seq (.ops [.i 4 (.alloc 97 [.st (.lit .nilFunc)])]) (.seq (.ops [.i 9 (.makeFunc 73 [.t 3, .t 4]), .s 1 4 9]) (.seq (.ops [.i 5 (.mov (.c (.one (.full []))))]) (.seq (.seq (.ops [.m 10 0, .i 11 (.len false (.t 10)), .i 12 (.mov (.n 0))]) (.block 0 (.loop (.seq (.ops [.i 13 (.bin .lss (.t 12) (.t 11))]) (.seq (.cond (.t 13) .skip (.exit 0)) (.seq (.block 1 (.seq (.ops [.i 14 (.indexAddr 2 (.t 10) (.t 12)), .L 15 2 14, .i 7 (.alloc 29 [.st (.str (ByteArray.mk (#[]))), .full []]), .s 2 7 15]) (.ops [.m 16 5, .l 17 4, .L 18 2 7, .i 19 (.callV (.t 17) [.t 18]), .i 20 (.buildSlice false 29 2 [.t 19]), .i 21 (.append false 29 2 40 (.t 16) (.t 20)), .m 5 21]))) (.ops [.i 22 (.bin .add (.t 12) (.n 1)), .m 12 22]))))))) (.seq (.ops [.m 23 5, .m 2 23]) .ret)))))))
theorem IG : OkF Tryz.prog 51 24 [19] EY [.t 2] := .of Tryz.func51 rfl rfl (by kernel_rfl) rfl
def Kl : IR :=
 (.seq (.ops [.i 2 (.mov (.c (.one (.full []))))]) (.seq (.ops [.i 3 (.mov (.c (.one (.full []))))]) (.seq (.seq (.ops [.i 4 (.mov (.n 0))]) (.block 0 (.loop (.seq (.seq (.ops [.m 11 4, .m 12 0, .i 13 (.len false (.t 12)), .i 14 (.bin .lss (.t 11) (.t 13))]) (.cond (.t 14) .skip (.exit 0))) (.seq (.block 1 (.seq (.ops [.m 17 0, .m 18 4, .i 19 (.indexAddr 2 (.t 17) (.t 18)), .L 20 2 19, .i 21 (.call 19 [.t 20]), .m 5 21]) (.seq (.ops [.i 6 (.mov (.n 0))]) (.block 2 (.loop (.seq (.seq (.ops [.m 22 6, .m 23 5, .i 24 (.len false (.t 23)), .i 25 (.bin .lss (.t 22) (.t 24))]) (.cond (.t 25) .skip (.exit 2))) (.seq (.block 3 (.seq (.ops [.m 28 5, .m 29 6, .i 30 (.indexAddr 1 (.t 28) (.t 29)), .l 31 30, .m 32 3, .i 33 (.call 20 [.t 31, .t 32]), .i 34 (.un .not (.t 33))]) (.cond (.t 34) (.ops [.m 35 3, .m 36 5, .m 37 6, .i 38 (.indexAddr 1 (.t 36) (.t 37)), .l 39 38, .i 40 (.buildFlat [.t 39]), .i 41 (.append false 9 1 16 (.t 35) (.t 40)), .m 3 41]) .skip))) (.ops [.m 26 6, .i 27 (.bin .add (.t 26) (.n 1)), .m 6 27])))))))) (.ops [.m 15 4, .i 16 (.bin .add (.t 15) (.n 1)), .m 4 16])))))) (.seq (.ops [.i 7 (.mov (.c (.one (.full []))))]) (.seq (.seq (.ops [.i 8 (.mov (.n 0))]) (.block 4 (.loop (.seq (.seq (.ops [.m 42 8, .m 43 3, .i 44 (.len false (.t 43)), .i 45 (.bin .lss (.t 42) (.t 44))]) (.cond (.t 45) .skip (.exit 4))) (.seq (.block 5 (.ops [.m 48 7, .m 49 3, .m 50 8, .i 51 (.indexAddr 1 (.t 49) (.t 50)), .l 52 51, .m 53 8, .i 54 (.bin .add (.t 53) (.n 1)), .i 55 (.call 58 [.t 54]), .i 56 (.bin .add (.c (.one (.st (.str (ByteArray.mk (#[90])))))) (.t 55)), .i 57 (.build [.st (.str (ByteArray.mk (#[]))), .full []] [(0, 1, .t 56)]), .i 58 (.build [.st (.str (ByteArray.mk (#[]))), .st (.str (ByteArray.mk (#[]))), .full []] [(0, 1, .t 52), (1, 2, .t 57)]), .i 59 (.buildSlice false 81 3 [.t 58]), .i 60 (.append false 81 3 56 (.t 48) (.t 59)), .m 7 60])) (.ops [.m 46 8, .i 47 (.bin .add (.t 46) (.n 1)), .m 8 47])))))) (.seq (.ops [.i 9 (.mov (.c (.one (.full []))))]) (.seq (.seq (.ops [.i 10 (.mov (.n 0))]) (.block 6 (.loop (.seq (.seq (.ops [.m 61 10, .m 62 0, .i 63 (.len false (.t 62)), .i 64 (.bin .lss (.t 61) (.t 63))]) (.cond (.t 64) .skip (.exit 6))) (.seq (.block 7 (.ops [.m 67 9, .m 68 7, .m 69 0, .m 70 10, .i 71 (.indexAddr 2 (.t 69) (.t 70)), .L 72 2 71, .i 73 (.call 59 [.t 68, .t 72]), .i 74 (.buildSlice false 29 2 [.t 73]), .i 75 (.append false 29 2 40 (.t 67) (.t 74)), .m 9 75])) (.ops [.m 65 10, .i 66 (.bin .add (.t 65) (.n 1)), .m 10 66])))))) (.seq (.ops [.m 76 9, .m 2 76]) .ret))))))))
theorem P2 : OkF Tryz.prog 37 77 [] Kl [.t 2] := .of Tryz.func37 rfl rfl (by kernel_rfl) rfl

def Ew (k : Nat) : List ByteArray → List (KV × AV)
 | [] => []
 | n :: l => (.s n, Bi (Cz k)) :: Ew (k + 1) l
abbrev VB (l : List ByteArray) : AN := .map none (Ew 0 l)
theorem Oy : ∀ (l : List ByteArray) (k : Nat), (Ew k l).length = l.length
 | [], _ => rfl
 | n :: l, k => by rw [Ew, List.length_cons, List.length_cons, Oy l]
theorem IC : ∀ (l : List ByteArray) (k : Nat) (n : ByteArray), Dh (Ew k l) (.s n) = if BI l n < l.length then some (Bi (Cz (k + BI l n))) else none
 | [], k, n => by simp [Ew, Dh, BI]
 | x :: l, k, n => by
  rw [Ew, Dh, BI]
  by_cases e : x = n
  ·rw [if_pos (congrArg KV.s e), if_pos e]
   simp
  ·rw [if_neg (fun h => e (KV.s.inj h)), if_neg e, IC l (k + 1) n, List.length_cons]
   by_cases h : BI l n < l.length
   ·rw [if_pos h, if_pos (by omega), show k + 1 + BI l n = k + (BI l n + 1) by omega]
   ·rw [if_neg h, if_neg (by omega)]
theorem Lb : ∀ {l : List ByteArray} {k : Nat} {n : ByteArray}, ¬ BI l n < l.length → ∀ v, JL (Ew k l) (.s n) v = Ew k l ++ [(.s n, v)]
 | [], k, n, h, v => rfl
 | x :: l, k, n, h, v => by
  rw [BI] at h
  by_cases e : x = n
  ·rw [if_pos e] at h; simp at h
  ·rw [if_neg e] at h
   rw [Ew, JL, if_neg (fun h => e (KV.s.inj h)), Lb (by simpa using h), List.cons_append]
theorem L9 : ∀ (l : List ByteArray) (k : Nat) (n : ByteArray), Ew k (l ++ [n]) = Ew k l ++ [(.s n, Bi (Cz (k + l.length)))]
 | [], k, n => by simp [Ew]
 | x :: l, k, n => by
  rw [List.cons_append, Ew, L9 l (k + 1) n, Ew, List.cons_append, List.length_cons, show k + 1 + l.length = k + (l.length + 1) by omega]
theorem T2 (k : Nat) : ¬ Cz k = ⟨#[]⟩ := fun h => by
 have h1 := KS k
 rw [h] at h1
 have : (⟨#[]⟩ : ByteArray).size = 0 := rfl
 omega
theorem Ql {l : List ByteArray} {n : ByteArray} (h : BI l n < l.length) : Ix false (Bi ⟨#[]⟩) (Dh (Ew 0 l) (.s n)) = Bi (Cz (BI l n)) := by
 rw [IC, if_pos h, Nat.zero_add]
 rfl
theorem TM {l : List ByteArray} {n : ByteArray} (h : ¬ BI l n < l.length) : Ix false (Bi ⟨#[]⟩) (Dh (Ew 0 l) (.s n)) = Bi ⟨#[]⟩ := by
 rw [IC, if_neg h]
 rfl
theorem V1 {l : List ByteArray} {n : ByteArray} (h : ¬ BI l n < l.length) : JL (Ew 0 l) (.s n) (Bi (Cz l.length)) = Ew 0 (Bn l n) := by
 rw [Lb h, show Bn l n = l ++ [n] by unfold Bn; rw [if_neg h], L9, Nat.zero_add]
abbrev QL (n0 f0 : Nat) : AC := .fn 73 [.ptr n0 1 0 0, .ptr f0 1 0 0]
theorem WY (t : Tm) (hz : t.size ≤ 1000000) : ∀ (n0 f0 m0 : Nat) (e1 e2 : TypeId) (l : List ByteArray) (S : AD), 1000 ≤ n0 → 1000 ≤ f0 → 1000 ≤ m0 → ¬ n0 = m0 → ¬ f0 = m0 → l.length + t.size ≤ 900000 →
  S n0 = some (.box e1 [.mptr m0]) → S f0 = some (.box e2 [QL n0 f0]) → S m0 = some (VB l) →
  An Tryz.prog 73 [aTm t, .one (.ptr n0 1 0 0), .one (.ptr f0 1 0 0)] S (aTm (t.cn l).1) (AM S m0 (some (VB (t.cn l).2))) := by
 induction h : SizeOf.sizeOf t using Nat.strongRecOn generalizing t with
 | _ N ih =>
 subst h
 intro n0 f0 m0 e1 e2 l S hn0 hf0 hm0 hnm hfm hl hSn hSf hSm
 have hs := Tm.size_eq t
 have hln := Tm.length_le t.args
 refine Gw.acS fun hS C hC => ?_
 have k3 : S 3 = none := AR hS (by omega)
 have k4 : S 4 = none := AR hS (by omega)
 have k5 : S 5 = none := AR hS (by omega)
 have k7 : S 7 = none := AR hS (by omega)
 have k900 : S 900 = none := AR hS (by omega)
 have a3 : ¬ n0 = 3 := by omega
 have a4 : ¬ n0 = 4 := by omega
 have a5 : ¬ n0 = 5 := by omega
 have a7 : ¬ n0 = 7 := by omega
 have a900 : ¬ n0 = 900 := by omega
 have b3 : ¬ f0 = 3 := by omega
 have b4 : ¬ f0 = 4 := by omega
 have b5 : ¬ f0 = 5 := by omega
 have b7 : ¬ f0 = 7 := by omega
 have b900 : ¬ f0 = 900 := by omega
 have c3 : ¬ m0 = 3 := by omega
 have c4 : ¬ m0 = 4 := by omega
 have c5 : ¬ m0 = 5 := by omega
 have c7 : ¬ m0 = 7 := by omega
 have c900 : ¬ m0 = 900 := by omega
 have d3 : ¬ 3 = m0 := by omega
 have d4 : ¬ 4 = m0 := by omega
 have d5 : ¬ 5 = m0 := by omega
 have d7 : ¬ 7 = m0 := by omega
 have d900 : ¬ 900 = m0 := by omega
 have hplain : CT Tryz.prog 73 = true := by kernel_rfl
 unfold D7
 repeat' with_reducible first | refine W ?_ | refine Z0 ?_ | ((first | refine Wo fun K hK => ?_ | refine Wp ?_ | refine Wq ?_ | refine Wr ?_); (try simp only [go_sem, fN, seval, eT, iR, k3, k4, dT, dF, nL]); (repeat refine Ai ?_); (try (refine hK _ ?_; clear hK K)); try refine iC ?_)
 refine ⟨_, As _, ?_⟩
 cases hv : AL t.name with
 | true =>
  have hcn := WI (l := l) hv
  by_cases hp : BI l t.name < l.length
  ·have hadd : Bn l t.name = l := by unfold Bn; rw [if_pos hp]
   have hne := T2 (BI l t.name)
   repeat' with_reducible first | refine W ?_ | refine Z0 ?_ | ((first | refine Wo fun K hK => ?_ | refine Wp ?_ | refine Wq ?_ | refine Wr ?_); (try simp only [go_sem, fN, seval, eT, iR, hv, hSn, hSf, hSm, k3, k4, a3, a4, c3, c4, d3, d4, DC, Hc, KV.of, Ql, hp, hne, dT, dF, nL]); (repeat refine Ai ?_); (try (refine hK _ ?_; clear hK K)); try refine iC ?_)
   rw [hcn, hadd]
   refine Bj (.agg [.st (.str (Cz (BI l t.name))), .full []]) hS hm0 rfl trivial ?_ ?_ ?_ fun i hi hne => ?_
   ·simp only [go_sem, fN, seval, eT, iR, AA, AB, AH]
   ·simp only [go_sem, fN, seval, eT, iR]
    rfl
   ·simp only [go_sem, fN, seval, eT, iR, c3, c4, hSm]
   ·have i3 : ¬ i = 3 := by omega
    have i4 : ¬ i = 4 := by omega
    simp only [go_sem, fN, seval, eT, iR, i3, i4]
  ·have hpn : BI l t.name = l.length := by have := RW l t.name; omega
   have hel := Oy l 0
   have hp2 : BI (Bn l t.name) t.name < (Bn l t.name).length := by
    unfold Bn
    rw [if_neg hp, GE hp, List.length_append, List.length_singleton]
    omega
   have hp3 : BI (Bn l t.name) t.name = l.length := by
    unfold Bn
    rw [if_neg hp, GE hp]
   have hlk2 : Ix false (Bi ⟨#[]⟩) (Dh (Ew 0 (Bn l t.name)) (.s t.name)) = Bi (Cz l.length) := by rw [Ql hp2, hp3]
   repeat' (first | (with_reducible first | refine W ?_ | refine Z0 ?_ | ((first | refine Wo fun K hK => ?_ | refine Wp ?_ | refine Wq ?_ | refine Wr ?_); (try simp only [go_sem, fN, seval, eT, iR, hv, hSn, hSf, hSm, k3, k4, a3, a4, c3, c4, d3, d4, hnm, DC, Hc, KV.of, TM, hp, hel, V1, hlk2, dT, dF, nL]); (repeat refine Ai ?_); (try (refine hK _ ?_; clear hK K)); try refine iC ?_)) | refine Cg _ (R0 l.length (by omega)) ?_)
   rw [hcn, hpn]
   refine Bj (.agg [.st (.str (Cz l.length)), .full []]) hS hm0 rfl trivial ?_ ?_ ?_ fun i hi hne => ?_
   ·simp only [go_sem, fN, seval, eT, iR, AA, AB, AH, d4]
   ·simp only [go_sem, fN, seval, eT, iR]
    rfl
   ·simp only [go_sem, fN, seval, eT, iR, c3, c4, hSm]
   ·have i3 : ¬ i = 3 := by omega
    have i4 : ¬ i = 4 := by omega
    simp only [go_sem, fN, seval, eT, iR, i3, i4, hne]
 | false =>
  have hcn := VU (l := l) hv
  repeat' with_reducible first | refine W ?_ | refine Z0 ?_ | ((first | refine Wo fun K hK => ?_ | refine Wp ?_ | refine Wq ?_ | refine Wr ?_); (try simp only [go_sem, fN, seval, eT, iR, hv, k3, k4, k5, dT, dF, nL]); (repeat refine Ai ?_); (try (refine hK _ ?_; clear hK K)); try refine iC ?_)
  refine IWP.ghost (Af.ownC 5 1 900 29 2 (xs := ([] : List Tm).map Ap) (by rfl) (by rfl) (by simp only [go_sem, fN, seval, eT, iR, k900]) CS) ?_
  refine IWP.loopD [7] (fun m x => ∃ k, k ≤ t.args.length ∧ m = t.args.length - k ∧ x.env 1 = .one (.ptr n0 1 0 0) ∧ x.env 2 = .one (.ptr f0 1 0 0) ∧ x.env 4 = .one (.ptr 4 1 0 0) ∧ x.env 5 = .one (.ptr 5 1 0 0) ∧ x.env 31 = Dn t.args ∧ x.env 32 = AK t.args.length ∧ x.env 33 = AK k ∧
    x.S 4 = some (.box 29 [.st (.str ⟨#[]⟩), .full []]) ∧ x.S 5 = some (.box 29 [.st (.str t.name), .row 900 k]) ∧ x.S 900 = some (.arow 29 2 ((Tm.cnL (t.args.take k) l).1.map Ap)) ∧ x.S 7 = none ∧ x.S n0 = some (.box e1 [.mptr m0]) ∧ x.S f0 = some (.box e2 [QL n0 f0]) ∧ x.S m0 = some (VB (Tm.cnL (t.args.take k) l).2) ∧ ∀ i, 1000 ≤ i → i ≠ m0 → x.S i = S i)
   t.args.length ⟨0, Nat.zero_le _, rfl, rfl, rfl, rfl, rfl, rfl, rfl, rfl, by simp only [go_sem, fN, seval, eT, iR], by (simp only [go_sem, fN, seval, eT, iR]; rfl), rfl, by simp only [go_sem, fN, seval, eT, iR, k7], by simp only [go_sem, fN, seval, eT, iR, a3, a4, a5, a900, hSn], by simp only [go_sem, fN, seval, eT, iR, b3, b4, b5, b900, hSf], by (simp only [go_sem, fN, seval, eT, iR, c3, c4, c5, c900, hSm]; rfl), fun i hi hne => ?_⟩ ?_
  ·have i3 : ¬ i = 3 := by omega
   have i4 : ¬ i = 4 := by omega
   have i5 : ¬ i = 5 := by omega
   have i900 : ¬ i = 900 := by omega
   simp only [go_sem, fN, seval, eT, iR, i3, i4, i5, i900]
  rintro m ⟨env, S1⟩ ⟨k, hk, rfl, v1, v2, v4, v5, v31, v32, v33, s4, s5, s900, s7, sn, sf, sm, hrest⟩
  simp only at v1 v2 v4 v5 v31 v32 v33 s4 s5 s900 s7 sn sf sm hrest
  have hlk : (Tm.cnL (t.args.take k) l).1.length = k := by rw [M0, List.length_take]; omega
  have hnl := CQ (t.args.take k) l
  by_cases hlt : (k : Int) < t.args.length
  ·obtain ⟨x, hx⟩ := AT (show k < t.args.length by omega)
   have z1 := Tm.sizes_take hx
   have z2 := Tm.sizes_take_le t.args (k + 1)
   have hstep := KQ (l := l) hx
   repeat' with_reducible first | refine W ?_ | refine Z0 ?_ | ((first | refine Wo fun K hK => ?_ | refine Wp ?_ | refine Wq ?_ | refine Wr ?_); (try simp only [go_sem, fN, seval, eT, iR, v1, v2, v4, v5, v31, v32, v33, s4, s5, s900, s7, sn, sf, sm, hlt, hx, hplain, a7, b7, c7, d7, d5, dT, dF, nL]); (repeat refine Ai ?_); (try (refine hK _ ?_; clear hK K)); try refine iC ?_)
   refine ⟨_, _, ih _ (Tm.lt_of_arg (AI hx)) x (by omega) rfl (up1 n0) (up1 f0) (up1 m0) e1 e2 (Tm.cnL (t.args.take k) l).2 _ (Aw n0) (Aw f0) (Aw m0) (fun e => hnm (Nat.add_right_cancel e)) (fun e => hfm (Nat.add_right_cancel e)) (by omega) (by rw [A7]; (simp only [go_sem, fN, seval, eT, iR, a7, sn])) (by rw [A7]; (simp only [go_sem, fN, seval, eT, iR, b7, sf])) (by rw [A7]; (simp only [go_sem, fN, seval, eT, iR, c7, sm])), ?_⟩
   repeat' with_reducible first | refine W ?_ | refine Z0 ?_ | ((first | refine Wo fun K hK => ?_ | refine Wp ?_ | refine Wq ?_ | refine Wr ?_); (try simp only [go_sem, fN, seval, eT, iR, v1, v2, v4, v5, v31, v32, v33, s4, s5, s900, s7, sn, sf, sm, a7, b7, c7, d7, d5, d900, c5, c900, a5, a900, b5, b900, hlk, hnm, hfm, dT, dF, nL]); (repeat refine Ai ?_); (try (refine hK _ ?_; clear hK K)); try refine iC ?_)
   refine AE ⟨t.args.length - (k + 1), by omega, k + 1, by omega, rfl, ?_⟩
   rw [hstep]
   have hnb : (n0 == 7) = false := by simp; omega
   have hfb : (f0 == 7) = false := by simp; omega
   have hmb : (m0 == 7) = false := by simp; omega
   simp only [go_sem, fN, seval, AS.drop, Ak, AC.clears, AC.clear, AC.highs, AC.high, Bool.not_false, Bool.true_and, Bool.and_self, AV.purge, AV.purges, AC.purge, AN.purge, List.contains_cons, List.contains_nil, Nat.reduceBEq, Bool.or_self, Bool.or_false, Bool.false_or, Bool.or_true, eT, iR, v1, v2, v4, v5, v31, v32, v33, s4, s5, s900, s7, sn, sf, sm, a7, b7, c7, d7, d5, d900, c5, c900, a5, a900, b5, b900, hnb, hfb, hmb, hnm, hfm, d4]
   refine ⟨by congr 3, ?_, fun i hi hne => ?_⟩
   ·rw [List.map_append, List.map_cons, List.map_nil, BC]
   ·have i5 : ¬ i = 5 := by omega
    have i7 : ¬ i = 7 := by omega
    have i7b : (i == 7) = false := by simp; omega
    have i900 : ¬ i = 900 := by omega
    simp only [go_sem, fN, seval, AS.drop, Ak, AC.clears, AC.clear, AC.highs, AC.high, Bool.not_false, Bool.true_and, Bool.and_self, AV.purge, AV.purges, AC.purge, AN.purge, List.contains_cons, List.contains_nil, Nat.reduceBEq, Bool.or_self, Bool.or_false, Bool.false_or, Bool.or_true, eT, iR, i5, i7, i7b, i900, hne]
    rw [hrest i hi hne]
    exact QK (by decide) fun b hb => (hS i b hb).2
  ·rw [List.take_of_length_le (by omega)] at sm s900 hlk
   repeat' with_reducible first | refine W ?_ | refine Z0 ?_ | ((first | refine Wo fun K hK => ?_ | refine Wp ?_ | refine Wq ?_ | refine Wr ?_); (try simp only [go_sem, fN, seval, eT, iR, v4, v5, v31, v32, v33, s4, s5, hlt, dT, dF, nL]); (repeat refine Ai ?_); (try (refine hK _ ?_; clear hK K)); try refine iC ?_)
   rw [hcn]
   refine Bj (.agg [.st (.str t.name), .row 900 k]) hS hm0 rfl trivial ?_ ?_ ?_ fun i hi hne => ?_
   ·simp only [go_sem, fN, seval, eT, iR, AA, AB, AH, v4]
   ·simp only [go_sem, fN, seval, eT, iR, s900, hlk]
    rfl
   ·simp only [go_sem, fN, seval, eT, iR, c4, sm]
   ·have i4 : ¬ i = 4 := by omega
    simp only [go_sem, fN, seval, eT, iR, i4]
    exact hrest i hi hne

theorem C1 (t : Tm) : t.varsOf.length ≤ t.size := by
 have := CZ t.knots []
 rw [Tm.knots_length] at this
 simpa [Tm.varsOf] using this

theorem UJ (L : List Tm) (hz : Tm.sizes L ≤ 800000) : AQ Tryz.prog 51 [Dn L] (Dn (Tm.cnL L []).1) := by
 have hplain : CT Tryz.prog 73 = true := by kernel_rfl
 have hln := Tm.length_le L
 refine IG.ac fun C hC => ?_
 unfold EY
 repeat' with_reducible first | refine W ?_ | refine Z0 ?_ | ((first | refine Wo fun K hK => ?_ | refine Wp ?_ | refine Wq ?_ | refine Wr ?_); (try simp only [go_sem, fN, seval, eT, iR, AS.caps, dT, dF, nL]); (repeat refine Ai ?_); (try (refine hK _ ?_; clear hK K)); try refine iC ?_)
 refine IWP.ghost (Af.own 5 900 29 2 (xs := ([] : List Tm).map Ap) (by rfl) (by rfl) CS (by rw [hC]; decide)) ?_
 refine IWP.loopD [7] (fun m x => ∃ k, k ≤ L.length ∧ m = L.length - k ∧ x.env 4 = .one (.ptr 4 1 0 0) ∧ x.env 5 = .one (.row 900 k) ∧ x.env 10 = Dn L ∧ x.env 11 = AK L.length ∧ x.env 12 = AK k ∧ x.S 900 = some (.arow 29 2 ((Tm.cnL (L.take k) []).1.map Ap)) ∧ x.S 7 = none ∧ (∃ e1, x.S 3 = some (.box e1 [.mptr 8])) ∧ (∃ e2, x.S 4 = some (.box e2 [QL 3 4])) ∧ x.S 8 = some (VB (Tm.cnL (L.take k) []).2)) L.length ⟨0, Nat.zero_le _, rfl, rfl, rfl, rfl, rfl, rfl, rfl, rfl, ⟨_, rfl⟩, ⟨_, rfl⟩, rfl⟩ ?_
 rintro m ⟨env, S⟩ ⟨k, hk, rfl, v4, v5, v10, v11, v12, s900, s7, ⟨e1, s3⟩, ⟨e2, s4⟩, s8⟩
 simp only at v4 v5 v10 v11 v12 s900 s7 s3 s4 s8
 have hlk : (Tm.cnL (L.take k) []).1.length = k := by rw [M0, List.length_take]; omega
 have hnl := CQ (L.take k) []
 rw [List.length_nil] at hnl
 by_cases hlt : (k : Int) < L.length
 ·obtain ⟨x, hx⟩ := AT (show k < L.length by omega)
  have z1 := Tm.sizes_take hx
  have z2 := Tm.sizes_take_le L (k + 1)
  have hstep := KQ (l := []) hx
  repeat' with_reducible first | refine W ?_ | refine Z0 ?_ | ((first | refine Wo fun K hK => ?_ | refine Wp ?_ | refine Wq ?_ | refine Wr ?_); (try simp only [go_sem, fN, seval, eT, iR, v4, v5, v10, v11, v12, s900, s7, s3, s4, s8, hplain, hlt, hx, dT, dF, nL]); (repeat refine Ai ?_); (try (refine hK _ ?_; clear hK K)); try refine iC ?_)
  refine ⟨_, _, WY x (by omega) (up1 3) (up1 4) (up1 8) e1 e2 (Tm.cnL (L.take k) []).2 _ (Aw 3) (Aw 4) (Aw 8) (by decide) (by decide) (by omega) (by rw [A7]; (simp only [go_sem, fN, seval, eT, iR, s3])) (by rw [A7]; (simp only [go_sem, fN, seval, eT, iR, s4])) (by rw [A7]; (simp only [go_sem, fN, seval, eT, iR, s8])), ?_⟩
  repeat' with_reducible first | refine W ?_ | refine Z0 ?_ | ((first | refine Wo fun K hK => ?_ | refine Wp ?_ | refine Wq ?_ | refine Wr ?_); (try simp only [go_sem, fN, seval, eT, iR, v4, v5, v10, v11, v12, s900, s7, s3, s4, s8, hlk, dT, dF, nL]); (repeat refine Ai ?_); (try (refine hK _ ?_; clear hK K)); try refine iC ?_)
  refine AE ⟨L.length - (k + 1), by omega, k + 1, by omega, rfl, ?_⟩
  rw [hstep]
  simp only [go_sem, fN, seval, AS.drop, Ak, AC.clears, AC.clear, AC.highs, AC.high, Bool.not_false, Bool.true_and, Bool.and_self, AV.purge, AV.purges, AC.purge, AN.purge, List.contains_cons, List.contains_nil, Nat.reduceBEq, Bool.or_self, Bool.or_false, Bool.false_or, Bool.or_true, eT, iR, v4, v5, v10, v11, v12, s900, s7, s3, s4, s8]
  exact ⟨by congr 3, by rw [List.map_append, List.map_cons, List.map_nil, BC], ⟨_, rfl⟩, ⟨_, rfl⟩⟩
 ·rw [List.take_of_length_le (by omega)] at s900 hlk
  repeat' with_reducible first | refine W ?_ | refine Z0 ?_ | ((first | refine Wo fun K hK => ?_ | refine Wp ?_ | refine Wq ?_ | refine Wr ?_); (try simp only [go_sem, fN, seval, eT, iR, v5, v10, v11, v12, s900, hlt, dT, dF, nL]); (repeat refine Ai ?_); (try (refine hK _ ?_; clear hK K)); try refine iC ?_)
  simp only [go_sem, fN, seval, AJ, AS.result, AA, AB, AH, s900, hlk]
  try rfl
theorem OH {l : List ByteArray} {n m : ByteArray} : m ∈ l ∨ m = n → m ∈ Bn l n := fun h => by
 unfold Bn
 by_cases hp : BI l n < l.length
 ·rw [if_pos hp]
  rcases h with h | rfl
  ·exact h
  ·exact DY.1 hp
 ·rw [if_neg hp]
  rcases h with h | rfl
  ·exact List.mem_append_left _ h
  ·simp
theorem Ld : ∀ (vs : List ByteArray) (l : List ByteArray) (m : ByteArray), m ∈ l ∨ m ∈ vs → m ∈ vs.foldl Bn l
 | [], l, m, h => by
  rcases h with h | h
  ·exact h
  ·cases h
 | v :: vs, l, m, h => by
  rw [List.foldl_cons]
  refine Ld vs _ m ?_
  rcases h with h | h
  ·exact .inl (OH (.inl h))
  ·rcases List.mem_cons.1 h with rfl | h
   ·exact .inl (OH (.inr rfl))
   ·exact .inr h
theorem OR (l A : List ByteArray) (n : ByteArray) : A5 (A.foldl Bn l) n = (A5 A n).foldl Bn l := by
 by_cases hv : AL n = true
 ·by_cases hm : B_ n A = true
  ·rw [EZ hm]
   exact EZ (Cc.2 (Ld _ _ _ (.inr (Cc.1 hm))))
  ·have hm : B_ n A = false := by simpa using hm
   rw [FD hv hm, List.foldl_append, ← O2 hv]
   rfl
 ·have e : ∀ l : List ByteArray, A5 l n = l := fun l => by
   unfold A5
   rw [if_neg (by simp [hv])]
  rw [e, e]
theorem Gk (l : List ByteArray) : ∀ (ks : List Tm) (A : List ByteArray), Aa (A.foldl Bn l) ks = (Aa A ks).foldl Bn l
 | [], A => rfl
 | k :: ks, A => by
  have e : ∀ B, Aa B (k :: ks) = Aa (A5 B k.name) ks := fun _ => rfl
  rw [e, e, OR, Gk l ks]
theorem Mu (l : List ByteArray) (ks : List Tm) : Aa l ks = (Aa [] ks).foldl Bn l := Gk l ks []
theorem VP {t : Tm} (hc : t.chk = 0) (l : List ByteArray) : (t.cn l).2 = t.varsOf.foldl Bn l := by
 rw [KI t hc, Mu]
 rfl
theorem U4 (vs : List ByteArray) : ∀ l : List ByteArray, (vs.foldl Bn l).length ≤ l.length + vs.length := by
 induction vs with
 | nil => simp
 | cons v vs ih =>
  intro l
  rw [List.foldl_cons, List.length_cons]
  have h1 := ih (Bn l v)
  have h2 := OQ l v
  omega
theorem UV {L : List Tm} (hc : ∀ t ∈ L, t.chk = 0) : ∀ n ∈ (Tm.cnL L []).2, AL n = true := by
 rw [H8 L hc]
 exact FA _ [] (by simp)
theorem Sm (L : List Tm) (hc : ∀ t ∈ L, t.chk = 0) (hz : Tm.sizes L ≤ 100000) : AQ Tryz.prog 37 [Dn L] (Dn (Tm.cnL L []).1) := by
 have hz1 : (⟨#[90]⟩ : ByteArray).size = 1 := rfl
 have hln := Tm.length_le L
 have hon := QZ L hc [] (Tm.cnL L []).2 (UV hc) ⟨[], by simp⟩
 have hVn := CQ L []
 rw [List.length_nil] at hVn
 refine P2.ac fun C hC => ?_
 unfold Kl
 repeat' with_reducible first | refine W ?_ | refine Z0 ?_ | ((first | refine Wo fun K hK => ?_ | refine Wp ?_ | refine Wq ?_ | refine Wr ?_); (try simp only [go_sem, fN, seval, eT, iR, dT, dF, nL]); (repeat refine Ai ?_); (try (refine hK _ ?_; clear hK K)); try refine iC ?_)
 refine IWP.ghost (Af.own 3 900 9 1 (xs := ([] : List ByteArray).map DU) (by rfl) (by rfl) ID (by rw [hC]; decide)) ?_
 refine IWP.loop (fun m x => ∃ i, i ≤ L.length ∧ m = L.length - i ∧ x.env 0 = Dn L ∧ x.env 3 = .one (.row 900 (Tm.cnL (L.take i) []).2.length) ∧ x.env 4 = AK i ∧ x.S 900 = some (.arow 9 1 ((Tm.cnL (L.take i) []).2.map DU)) ∧ x.S 901 = none ∧ x.S 902 = none) L.length ⟨0, Nat.zero_le _, rfl, rfl, rfl, rfl, rfl, rfl, rfl⟩ ?_
 rintro m ⟨env, S⟩ ⟨i, hi, rfl, e0, e3, e4, s900, s901, s902⟩
 simp only at e0 e3 e4 s900 s901 s902
 by_cases hlt : (i : Int) < L.length
 ·obtain ⟨t, ht⟩ := AT (show i < L.length by omega)
  have hmem := AI ht
  have hct := hc t hmem
  have z1 := Tm.sizes_take ht
  have z2 := Tm.sizes_take_le L (i + 1)
  have hstep := KQ (l := []) ht
  have hfold := VP hct (Tm.cnL (L.take i) []).2
  have hnl := CQ (L.take i) []
  rw [List.length_nil] at hnl
  have hvl := C1 t
  have hvo := Fj t (by omega)
  generalize (Tm.cnL (L.take i) []).2 = V at *
  generalize t.varsOf = v at *
  repeat' (first | (with_reducible first | refine W ?_ | refine Z0 ?_ | ((first | refine Wo fun K hK => ?_ | refine Wp ?_ | refine Wq ?_ | refine Wr ?_); (try simp only [go_sem, fN, seval, eT, iR, e0, e3, e4, hlt, ht, dT, dF, nL]); (repeat refine Ai ?_); (try (refine hK _ ?_; clear hK K)); try refine iC ?_)) | refine Cg _ (hvo) ?_)
  refine IWP.loop (fun m x => ∃ j, j ≤ v.length ∧ m = v.length - j ∧ x.env 0 = Dn L ∧ x.env 3 = .one (.row 900 ((v.take j).foldl Bn V).length) ∧ x.env 4 = AK i ∧ x.env 5 = DV v ∧ x.env 6 = AK j ∧ x.S 900 = some (.arow 9 1 (((v.take j).foldl Bn V).map DU)) ∧ x.S 901 = none ∧ x.S 902 = none) v.length ⟨0, Nat.zero_le _, rfl, by simp only [go_sem, fN, seval, eT, iR, e0], by simp only [go_sem, fN, seval, eT, iR, e3]; rfl, by simp only [go_sem, fN, seval, eT, iR, e4], rfl, rfl, by simp only [go_sem, fN, seval, eT, iR, s900]; rfl, s901, s902⟩ ?_
  rintro m ⟨env, S⟩ ⟨j, hj, rfl, e0, e3, e4, e5, e6, s900, s901, s902⟩
  simp only at e0 e3 e4 e5 e6 s900 s901 s902
  by_cases hjl : (j : Int) < v.length
  ·obtain ⟨n, hn⟩ := AT (show j < v.length by omega)
   have hfl := U4 (v.take j) V
   have htl : (v.take j).length ≤ v.length := by rw [List.length_take]; omega
   have hnx : (v.take (j + 1)).foldl Bn V = Bn ((v.take j).foldl Bn V) n := by rw [AY hn, List.foldl_append]; rfl
   have hin := S6 n ((v.take j).foldl Bn V)
   generalize (v.take j).foldl Bn V = W' at *
   cases hb : B_ n W' with
   | true =>
    have ha : Bn W' n = W' := by unfold Bn; rw [if_pos (DY.2 (Cc.1 hb))]
    rw [hb] at hin
    repeat' (first | (with_reducible first | refine W ?_ | refine Z0 ?_ | ((first | refine Wo fun K hK => ?_ | refine Wp ?_ | refine Wq ?_ | refine Wr ?_); (try simp only [go_sem, fN, seval, eT, iR, e0, e3, e4, e5, e6, s900, hjl, hn, dT, dF, nL]); (repeat refine Ai ?_); (try (refine hK _ ?_; clear hK K)); try refine iC ?_)) | refine Cg _ (hin) ?_)
    refine AE ⟨v.length - (j + 1), by omega, j + 1, by omega, rfl, ?_⟩
    rw [hnx, ha]
    simp only [go_sem, fN, seval, eT, iR, e0, e3, e4, e5, s900, s901, s902]
    congr 3
   | false =>
    have ha : Bn W' n = W' ++ [n] := by unfold Bn; rw [if_neg (fun h => GC.1 hb (DY.1 h))]
    rw [hb] at hin
    have hwl : (W'.map DU).length = W'.length := by simp
    repeat' (first | (with_reducible first | refine W ?_ | refine Z0 ?_ | ((first | refine Wo fun K hK => ?_ | refine Wp ?_ | refine Wq ?_ | refine Wr ?_); (try simp only [go_sem, fN, seval, eT, iR, e0, e3, e4, e5, e6, s900, hjl, hn, hwl, dT, dF, nL]); (repeat refine Ai ?_); (try (refine hK _ ?_; clear hK K)); try refine iC ?_)) | refine Cg _ (hin) ?_)
    refine AE ⟨v.length - (j + 1), by omega, j + 1, by omega, rfl, ?_⟩
    rw [hnx, ha, List.map_append]
    simp only [go_sem, fN, seval, eT, iR, e0, e3, e4, e5, s900, s901, s902]
    first | (refine ⟨by congr 3, ?_⟩; rfl) | congr 3
  ·rw [List.take_of_length_le (by omega)] at s900 e3
   repeat' with_reducible first | refine W ?_ | refine Z0 ?_ | ((first | refine Wo fun K hK => ?_ | refine Wp ?_ | refine Wq ?_ | refine Wr ?_); (try simp only [go_sem, fN, seval, eT, iR, e0, e3, e4, e5, e6, s900, hjl, dT, dF, nL]); (repeat refine Ai ?_); (try (refine hK _ ?_; clear hK K)); try refine iC ?_)
   refine AE ⟨L.length - (i + 1), by omega, i + 1, by omega, rfl, ?_⟩
   rw [hstep, hfold]
   simp only [go_sem, fN, seval, eT, iR, e0, e3, e4, s900, s901, s902]
   congr 3
 ·rw [List.take_of_length_le (by omega)] at e3 s900
  rw [hon]
  clear hon
  generalize (Tm.cnL L []).2 = V at *
  repeat' with_reducible first | refine W ?_ | refine Z0 ?_ | ((first | refine Wo fun K hK => ?_ | refine Wp ?_ | refine Wq ?_ | refine Wr ?_); (try simp only [go_sem, fN, seval, eT, iR, e0, e3, e4, hlt, dT, dF, nL]); (repeat refine Ai ?_); (try (refine hK _ ?_; clear hK K)); try refine iC ?_)
  refine IWP.ghost (Af.own 7 901 81 3 (xs := ([] : List Bd).map BG) (by rfl) (by simp only [go_sem, fN, seval, eT, iR, s901]) GN (by rw [hC]; decide)) ?_
  refine IWP.loop (fun m x => ∃ j, j ≤ V.length ∧ m = V.length - j ∧ x.env 0 = Dn L ∧ x.env 3 = .one (.row 900 V.length) ∧ x.env 7 = .one (.row 901 j) ∧ x.env 8 = AK j ∧ x.S 900 = some (.arow 9 1 (V.map DU)) ∧ x.S 901 = some (.arow 81 3 ((Br 0 (V.take j)).map BG)) ∧ x.S 902 = none) V.length ⟨0, Nat.zero_le _, rfl, by simp only [go_sem, fN, seval, eT, iR, e0], by simp only [go_sem, fN, seval, eT, iR, e3], rfl, rfl, by simp only [go_sem, fN, seval, eT, iR, s900], rfl, by simp only [go_sem, fN, seval, eT, iR, s902]⟩ ?_
  rintro m ⟨env, S⟩ ⟨j, hj, rfl, e0, e3, e7, e8, s900, s901, s902⟩
  simp only at e0 e3 e7 e8 s900 s901 s902
  have htj : (V.take j).length = j := by rw [List.length_take]; omega
  have hzl := KA (V.take j) 0
  rw [htj] at hzl
  by_cases hjl : (j : Int) < V.length
  ·obtain ⟨v, hv⟩ := AT (show j < V.length by omega)
   have hdec := TS (j + 1) (by omega)
   have hsz := CG (n := j + 1) (by omega)
   rw [show (((j + 1 : Nat) : Int)) = (j : Int) + 1 by omega] at hdec
   repeat' (first | (with_reducible first | refine W ?_ | refine Z0 ?_ | ((first | refine Wo fun K hK => ?_ | refine Wp ?_ | refine Wq ?_ | refine Wr ?_); (try simp only [go_sem, fN, seval, eT, iR, e0, e3, e7, e8, s900, s901, hjl, hv, hzl, hz1, BG, dT, dF, nL]); (repeat refine Ai ?_); (try (refine hK _ ?_; clear hK K)); try refine iC ?_)) | refine Cg _ (hdec) ?_)
   refine AE ⟨V.length - (j + 1), by omega, j + 1, by omega, rfl, ?_⟩
   rw [AY hv, In, htj, Nat.zero_add, List.map_append]
   simp only [go_sem, fN, seval, eT, iR, e0, e3, s900, s902]
   refine ⟨by congr 3, ?_⟩
   rfl
  ·obtain rfl : j = V.length := by omega
   rw [List.take_of_length_le (by omega)] at s901 hzl
   repeat' with_reducible first | refine W ?_ | refine Z0 ?_ | ((first | refine Wo fun K hK => ?_ | refine Wp ?_ | refine Wq ?_ | refine Wr ?_); (try simp only [go_sem, fN, seval, eT, iR, e0, e3, e7, e8, s900, hjl, dT, dF, nL]); (repeat refine Ai ?_); (try (refine hK _ ?_; clear hK K)); try refine iC ?_)
   refine IWP.ghost (Af.own 9 902 29 2 (xs := ([] : List Tm).map Ap) (by rfl) (by simp only [go_sem, fN, seval, eT, iR, s902]) CS (by rw [hC]; decide)) ?_
   refine IWP.loop (fun m x => ∃ k, k ≤ L.length ∧ m = L.length - k ∧ x.env 0 = Dn L ∧ x.env 7 = .one (.row 901 V.length) ∧ x.env 9 = .one (.row 902 k) ∧ x.env 10 = AK k ∧ x.S 901 = some (.arow 81 3 ((Br 0 V).map BG)) ∧ x.S 902 = some (.arow 29 2 (((L.take k).map (Tm.on (Br 0 V))).map Ap))) L.length ⟨0, Nat.zero_le _, rfl, by simp only [go_sem, fN, seval, eT, iR, e0], by simp only [go_sem, fN, seval, eT, iR, e7], rfl, rfl, by simp only [go_sem, fN, seval, eT, iR, s901], rfl⟩ ?_
   rintro m ⟨env, S⟩ ⟨k, hk, rfl, e0, e7, e9, e10, s901, s902⟩
   simp only at e0 e7 e9 e10 s901 s902
   by_cases hkl : (k : Int) < L.length
   ·obtain ⟨t, ht⟩ := AT (show k < L.length by omega)
    have hmem := AI ht
    have htz : t.size ≤ 100000 := by
     have z1 := Tm.sizes_take ht
     have z2 := Tm.sizes_take_le L (k + 1)
     omega
    have hon := Q7 (Br 0 V) t (by omega)
    have htk : (((L.take k).map (Tm.on (Br 0 V))).map Ap).length = k := by simp; omega
    have htk2 : min k L.length = k := by omega
    repeat' (first | (with_reducible first | refine W ?_ | refine Z0 ?_ | ((first | refine Wo fun K hK => ?_ | refine Wp ?_ | refine Wq ?_ | refine Wr ?_); (try simp only [go_sem, fN, seval, eT, iR, e0, e7, e9, e10, s901, s902, hzl, hkl, ht, htk, htk2, dT, dF, nL]); (repeat refine Ai ?_); (try (refine hK _ ?_; clear hK K)); try refine iC ?_)) | refine Cg _ (hon) ?_)
    refine AE ⟨L.length - (k + 1), by omega, k + 1, by omega, rfl, ?_⟩
    rw [AY ht, List.map_append, List.map_append]
    simp only [go_sem, fN, seval, eT, iR, e0, e7, s901]
    first | (refine ⟨by congr 3, ?_⟩; rfl) | congr 3 | trace_state
   ·obtain rfl : k = L.length := by omega
    rw [List.take_of_length_le (by omega)] at s902
    have htk : ((L.map (Tm.on (Br 0 V))).map Ap).length = L.length := by simp
    repeat' with_reducible first | refine W ?_ | refine Z0 ?_ | ((first | refine Wo fun K hK => ?_ | refine Wp ?_ | refine Wq ?_ | refine Wr ?_); (try simp only [go_sem, fN, seval, eT, iR, e0, e9, e10, s902, hkl, dT, dF, nL]); (repeat refine Ai ?_); (try (refine hK _ ?_; clear hK K)); try refine iC ?_)
    simp only [go_sem, fN, seval, AJ, AS.result, AA, AB, AH, s902, htk]
    try rfl

theorem Vz {s s' : List Bd} (h : ∀ n, lookup s n = lookup s' n) (t : Tm) : t.on s = t.on s' := by
 induction hN : SizeOf.sizeOf t using Nat.strongRecOn generalizing t with
 | _ N ih =>
 subst hN
 have hmap : t.args.map (Tm.on s) = t.args.map (Tm.on s') := List.map_congr_left fun a ha => ih _ (Tm.lt_of_arg ha) a rfl
 by_cases h0 : t.args = []
 ·cases hl : lookup s t.name with
  | some x => rw [Tm.on_leaf hl h0, Tm.on_leaf (by rw [← h]; exact hl) h0]
  | none => rw [Tm.on_knot (.inl hl), Tm.on_knot (.inl (by rw [← h]; exact hl)), hmap]
 ·rw [Tm.on_knot (.inr h0), Tm.on_knot (.inr h0), hmap]
theorem Ls {c : UInt8} {k : Nat} {V : List ByteArray} (h : V.Nodup) : BK (nmB c k V) := by
 unfold BK
 rw [H4]
 exact h
theorem Mh {c : UInt8} {k : Nat} {V : List ByteArray} (h : V.Nodup) {t : Tm} (hz : t.size ≤ 200) (hs : (t.on (nmB c k V)).size = t.size) : Aq (Ay (nmB c k V)) t = (t.on (nmB c k V), true) := by
 have e : t.on (Ay (nmB c k V)) = t.on (nmB c k V) := Vz (fun n => Fs (BW _) (Ls h) n) t
 unfold Aq
 rw [e, if_pos (by omega)]
theorem ML {c : UInt8} {V : List ByteArray} {j : Nat} {v : ByteArray} (k : Nat) (hv : V[j]? = some v) : nmB c k (V.take (j + 1)) = nmB c k (V.take j) ++ [(v, .mk (BL c (k + j)) [])] := by
 have hl := (List.getElem?_eq_some_iff.1 hv).1
 rw [AY hv, OM, List.length_take, Nat.min_eq_left (by omega)]
theorem V2 (c : UInt8) (h65 : 65 ≤ c.toNat) (h90 : c.toNat ≤ 90) {r : Pr} (h1 : r.1.may = 0) (h2 : r.2.may = 0) : AQ Tryz.prog 31 [aPr r, Bi ⟨#[c]⟩] (aPr (ED c 0 r)) := by
 obtain ⟨c1, z1⟩ := Tm.may_chk h1
 obtain ⟨c2, z2⟩ := Tm.may_chk h2
 have hvl := C1 r.1
 have hz1 : (⟨#[c]⟩ : ByteArray).size = 1 := rfl
 have hvo := Fj r.1 (by omega)
 have f1 := DL (k := 0) h65 h90 (by omega) (show r.1.varsOf.length ≤ 1000 by omega) c1
 have f2 := DL (k := 0) h65 h90 (by omega) (show r.1.varsOf.length ≤ 1000 by omega) c2
 unfold ED
 have o1 := Q7 (nmB c 0 r.1.varsOf) r.1 (by omega)
 have o2 := Q7 (nmB c 0 r.1.varsOf) r.2 (by omega)
 generalize r.1.varsOf = V at *
 refine LF.ac fun C hC => ?_
 unfold GY
 repeat' (first | (with_reducible first | refine W ?_ | refine Z0 ?_ | ((first | refine Wo fun K hK => ?_ | refine Wp ?_ | refine Wq ?_ | refine Wr ?_); (try simp only [go_sem, fN, seval, eT, iR, dT, dF, nL]); (repeat refine Ai ?_); (try (refine hK _ ?_; clear hK K)); try refine iC ?_)) | refine Cg _ (hvo) ?_)
 refine IWP.ghost (Af.own 6 500 81 3 (xs := ([] : List Bd).map BG) (by rfl) (by rfl) GN (by rw [hC]; decide)) ?_
 refine IWP.loop (fun m x => ∃ j, j ≤ V.length ∧ m = V.length - j ∧ x.env 1 = Bi ⟨#[c]⟩ ∧ x.env 2 = .one (.ptr 2 1 0 0) ∧ x.env 4 = .one (.ptr 4 1 0 0) ∧ x.env 5 = DV V ∧ x.env 6 = .one (.row 500 j) ∧ x.env 7 = AK j ∧ x.S 500 = some (.arow 81 3 ((nmB c 0 (V.take j)).map BG)) ∧ x.S 2 = some (.box 31 [.st (.str r.1.name), .st (.list (r.1.args.map Ap)), .st (.str r.2.name), .st (.list (r.2.args.map Ap))]) ∧ x.S 4 = some (.box 31 [.st (.str ⟨#[]⟩), .full [], .st (.str ⟨#[]⟩), .full []])) V.length ⟨0, Nat.zero_le _, rfl, rfl, rfl, rfl, rfl, rfl, rfl, rfl, rfl, rfl⟩ ?_
 rintro m ⟨env, S⟩ ⟨j, hj, rfl, e1, e2, e4, e5, e6, e7, s500, s2, s4⟩
 simp only at e1 e2 e4 e5 e6 e7 s500 s2 s4
 have hzl := JW c (V.take j) 0
 rw [List.length_take, Nat.min_eq_left hj] at hzl
 by_cases hjl : (j : Int) < V.length
 ·obtain ⟨v, hv⟩ := AT (show j < V.length by omega)
  have hdec := TS j (by omega)
  have hsz := CG (n := j) (by omega)
  repeat' (first | (with_reducible first | refine W ?_ | refine Z0 ?_ | ((first | refine Wo fun K hK => ?_ | refine Wp ?_ | refine Wq ?_ | refine Wr ?_); (try simp only [go_sem, fN, seval, eT, iR, e1, e2, e4, e5, e6, e7, s500, s2, s4, hjl, hv, hzl, hz1, BG, dT, dF, nL]); (repeat refine Ai ?_); (try (refine hK _ ?_; clear hK K)); try refine iC ?_)) | refine Cg _ (hdec) ?_)
  refine AE ⟨V.length - (j + 1), by omega, j + 1, by omega, rfl, ?_⟩
  rw [ML 0 hv, List.map_append]
  simp only [go_sem, fN, seval, eT, iR, e1, e2, e4, e5, s2, s4]
  refine ⟨by congr 3, ?_⟩
  rfl
 ·obtain rfl : j = V.length := by omega
  rw [List.take_of_length_le (by omega)] at s500 hzl
  repeat' (first | (with_reducible first | refine W ?_ | refine Z0 ?_ | ((first | refine Wo fun K hK => ?_ | refine Wp ?_ | refine Wq ?_ | refine Wr ?_); (try simp only [go_sem, fN, seval, eT, iR, e1, e2, e4, e5, e6, e7, s500, s2, s4, hjl, hzl, dT, dF, nL]); (repeat refine Ai ?_); (try (refine hK _ ?_; clear hK K)); try refine iC ?_)) | refine Cg _ (o1) ?_ | refine Cg _ (o2) ?_)
  simp only [go_sem, fN, seval, AJ, AS.result, AA, AB, AH, e4, s4]
theorem Qn (c : UInt8) (h65 : 65 ≤ c.toNat) (h90 : c.toNat ≤ 90) {r : Pr} (h1 : r.1.may = 0) (h2 : r.2.may = 0) : AQ Tryz.prog 45 [aPr r, Bi ⟨#[c]⟩] (aPr (ED c 1 r)) := by
 obtain ⟨c1, z1⟩ := Tm.may_chk h1
 obtain ⟨c2, z2⟩ := Tm.may_chk h2
 have hvl := C1 r.1
 have hz1 : (⟨#[c]⟩ : ByteArray).size = 1 := rfl
 have hvo := Qc r.1 (by omega)
 have f1 := DL (k := 1) h65 h90 (by omega) (show r.1.varsOf.length ≤ 1000 by omega) c1
 have f2 := DL (k := 1) h65 h90 (by omega) (show r.1.varsOf.length ≤ 1000 by omega) c2
 have hnd := Mp r.1
 have hvv := FV r.1
 unfold ED
 generalize r.1.varsOf = V at *
 have hnm : BK (nmB c 1 V) := Ls hnd
 have hvs : ∀ b ∈ Ay (nmB c 1 V), AL b.1 = true := fun b hb => by
  have := List.mem_map_of_mem (f := (·.1)) ((BW _).mem_iff.1 hb)
  rw [H4] at this
  exact hvv _ this
 have hsl : (Ay (nmB c 1 V)).length = V.length := by rw [BM, JW]
 have o1 := Lq (Ay (nmB c 1 V)) (by omega) (Bb hnm) r.1 hvs c1
 have o2 := Lq (Ay (nmB c 1 V)) (by omega) (Bb hnm) r.2 hvs c2
 rw [Mh hnd z1 f1.2] at o1
 rw [Mh hnd z2 f2.2] at o2
 refine Hv.ac fun C hC => ?_
 unfold ER
 repeat' (first | (with_reducible first | refine W ?_ | refine Z0 ?_ | ((first | refine Wo fun K hK => ?_ | refine Wp ?_ | refine Wq ?_ | refine Wr ?_); (try simp only [go_sem, fN, seval, eT, iR, dT, dF, nL]); (repeat refine Ai ?_); (try (refine hK _ ?_; clear hK K)); try refine iC ?_)) | refine Cg _ (hvo) ?_)
 refine IWP.ghost (Af.ownM 5 500 81 3 rfl rfl (by rw [hC]; decide)) ?_
 refine IWP.loop (fun m x => ∃ j, j ≤ V.length ∧ m = V.length - j ∧ x.env 1 = Bi ⟨#[c]⟩ ∧ x.env 2 = .one (.ptr 2 1 0 0) ∧ x.env 4 = .one (.ptr 4 1 0 0) ∧ x.env 14 = DV V ∧ x.env 15 = AK V.length ∧ x.env 5 = .one (.row 500 j) ∧ x.env 16 = AK j ∧ x.S 8 = none ∧ x.S 10 = none ∧ x.S 500 = some (BN (nmB c 1 (V.take j))) ∧ x.S 2 = some (.box 31 [.st (.str r.1.name), .st (.list (r.1.args.map Ap)), .st (.str r.2.name), .st (.list (r.2.args.map Ap))]) ∧ x.S 4 = some (.box 31 [.st (.str ⟨#[]⟩), .full [], .st (.str ⟨#[]⟩), .full []])) V.length ⟨0, Nat.zero_le _, rfl, rfl, rfl, rfl, rfl, rfl, rfl, rfl, rfl, rfl, rfl, rfl, rfl⟩ ?_
 rintro m ⟨env, S⟩ ⟨j, hj, rfl, e1, e2, e4, e14, e15, e5, e16, s8, s10, s500, s2, s4⟩
 simp only at e1 e2 e4 e14 e15 e5 e16 s8 s10 s500 s2 s4
 have hzl := JW c (V.take j) 1
 rw [List.length_take, Nat.min_eq_left hj] at hzl
 by_cases hjl : (j : Int) < V.length
 ·obtain ⟨v, hv⟩ := AT (show j < V.length by omega)
  have hdec := S7 (j + 1) (by omega)
  have hsz := CG (n := j + 1) (by omega)
  rw [show (((j + 1 : Nat) : Int)) = (j : Int) + 1 by omega] at hdec
  repeat' (first | (with_reducible first | refine W ?_ | refine Z0 ?_ | ((first | refine Wo fun K hK => ?_ | refine Wp ?_ | refine Wq ?_ | refine Wr ?_); (try simp only [go_sem, fN, seval, eT, iR, e1, e2, e4, e14, e15, e5, e16, s500, s2, s4, hjl, hv, hzl, hz1, BG, dT, dF, nL]); (repeat refine Ai ?_); (try (refine hK _ ?_; clear hK K)); try refine iC ?_)) | refine Cg _ (hdec) ?_)
  refine AE ⟨V.length - (j + 1), by omega, j + 1, by omega, rfl, ?_⟩
  rw [BN, ML 1 hv, List.map_append]
  simp only [go_sem, fN, seval, eT, iR, e1, e2, e4, e14, e15, s2, s4, s8, s10]
  rw [Nat.add_comm 1 j]
  refine ⟨by congr 3, ?_⟩
  rfl
 ·obtain rfl : j = V.length := by omega
  rw [List.take_of_length_le (by omega)] at s500 hzl
  repeat' with_reducible first | refine W ?_ | refine Z0 ?_ | ((first | refine Wo fun K hK => ?_ | refine Wq ?_ | refine Wr ?_); (try simp only [go_sem, fN, seval, eT, iR, e15, e16, hjl]); (repeat refine Ai ?_); (try (refine hK _ ?_; clear hK K)))
  with_reducible refine Wp ?_
  simp only [go_sem, fN, seval, true_implies, false_implies, implies_true, dT, dF, nL, hjl]
  (try with_reducible refine iC ?_)
  repeat' (with_reducible first | refine Wb ?_ | refine Wc ?_ | refine Wd ?_ | refine We ?_ | refine Wg ?_ | refine Wh ?_ | refine Wi ?_ | refine Wj ?_ | refine Wk (by decide) ?_ | refine Wl ?_ | refine Wm ?_ | refine Wn ?_)
  have hs := Py (nmB c 1 V) hnm (by omega) (up1 500) (Aw 500) (upS S) (by rw [A7, s500]; rfl)
  rw [hzl] at hs
  refine IWP.mid (fun x => x.env 2 = .one (.ptr 2 1 0 0) ∧ x.env 4 = .one (.ptr 4 1 0 0) ∧ x.env 5 = .one (.row 500 V.length) ∧ x.S 8 = none ∧ x.S 10 = none ∧ x.S 500 = some (BN (Ay (nmB c 1 V))) ∧ x.S 2 = some (.box 31 [.st (.str r.1.name), .st (.list (r.1.args.map Ap)), .st (.str r.2.name), .st (.list (r.2.args.map Ap))]) ∧ x.S 4 = some (.box 31 [.st (.str ⟨#[]⟩), .full [], .st (.str ⟨#[]⟩), .full []])) ?_ ?_
  ·repeat' with_reducible first | refine W ?_ | refine Z0 ?_ | ((first | refine Wo fun K hK => ?_ | refine Wq ?_ | refine Wr ?_); (try simp only [go_sem, fN, seval, eT, iR, e2, e4, e5, s2, s4]); (repeat refine Ai ?_); (try (refine hK _ ?_; clear hK K)))
   refine ⟨_, _, hs, ?_⟩
   repeat' with_reducible first | refine W ?_ | refine Z0 ?_ | ((first | refine Wo fun K hK => ?_ | refine Wq ?_ | refine Wr ?_); (try simp only [go_sem, fN, seval, eT, iR, e2, e4, e5, s2, s4]); (repeat refine Ai ?_); (try (refine hK _ ?_; clear hK K)))
   refine ⟨rfl, ?_⟩
   simp only [go_sem, fN, seval, eT, iR, e2, e4, s2, s4, s8, s10]
  rintro ⟨env, S⟩ ⟨e2, e4, e5, s8, s10, s500, s2, s4⟩
  simp only at e2 e4 e5 s8 s10 s500 s2 s4
  refine IWP.ghost (Af.share (id := 500) s500) ?_
  repeat' (first | (with_reducible first | refine W ?_ | refine Z0 ?_ | ((first | refine Wo fun K hK => ?_ | refine Wp ?_ | refine Wq ?_ | refine Wr ?_); (try simp only [go_sem, fN, seval, eT, iR, e2, e4, e5, s2, s4, s8, s10, hsl, dT, dF, nL]); (repeat refine Ai ?_); (try (refine hK _ ?_; clear hK K)); try refine iC ?_)) | refine Cg _ (o1) ?_ | refine Cg _ (o2) ?_)
  simp only [go_sem, fN, seval, AJ, AS.result, AA, AB, AH, e4, s4]

def Ih : IR :=
 (.seq (.ops [.i 1 (.box 29 (.t 0)), .i 2 (.mov (.c (.one (.full []))))]) (.seq (.ops [.i 8 (.buildFlat []), .i 9 (.buildSlice false 38 1 [.t 8]), .m 3 9]) (.seq (.seq (.ops [.f 10 1 1, .l 11 10, .i 12 (.len false (.t 11)), .i 13 (.mov (.n 0))]) (.block 0 (.loop (.seq (.ops [.i 14 (.bin .lss (.t 13) (.t 12))]) (.seq (.cond (.t 14) .skip (.exit 0)) (.seq (.block 1 (.seq (.ops [.m 15 13, .i 16 (.indexAddr 2 (.t 11) (.t 13)), .L 17 2 16, .i 5 (.alloc 29 [.st (.str (ByteArray.mk (#[]))), .full []]), .m 4 15, .s 2 5 17]) (.seq (.ops [.L 18 2 5, .i 19 (.call 46 [.t 18]), .i 20 (.len false (.t 19)), .i 21 (.mov (.n 0))]) (.block 2 (.loop (.seq (.ops [.i 22 (.bin .lss (.t 21) (.t 20))]) (.seq (.cond (.t 22) .skip (.exit 2)) (.seq (.block 3 (.seq (.ops [.i 23 (.indexAddr 1 (.t 19) (.t 21)), .l 24 23, .m 7 24]) (.ops [.m 25 3, .m 26 4, .i 27 (.buildFlat [.t 26]), .m 28 7, .i 29 (.append false 3 1 8 (.t 27) (.t 28)), .i 30 (.buildSlice false 38 1 [.t 29]), .i 31 (.append false 38 1 24 (.t 25) (.t 30)), .m 3 31]))) (.ops [.i 32 (.bin .add (.t 21) (.n 1)), .m 21 32]))))))))) (.ops [.i 33 (.bin .add (.t 13) (.n 1)), .m 13 33]))))))) (.seq (.ops [.m 34 3, .m 2 34]) .ret))))
theorem O0 : OkF Tryz.prog 46 35 [] Ih [.t 2] := .of Tryz.func46 rfl rfl (by kernel_rfl) rfl
def Gp : IR :=
 (.seq (.ops [.i 2 (.box 29 (.t 0)), .i 4 (.alloc 29 [.st (.str (ByteArray.mk (#[]))), .full []]), .i 5 (.mov (.c (.one (.st (.bool false)))))]) (.seq (.seq (.ops [.m 8 1, .i 9 (.len false (.t 8)), .i 10 (.mov (.n 0))]) (.block 0 (.loop (.seq (.ops [.i 11 (.bin .lss (.t 10) (.t 9))]) (.seq (.cond (.t 11) .skip (.exit 0)) (.seq (.block 1 (.seq (.ops [.i 12 (.indexAddr 1 (.t 8) (.t 10)), .l 13 12, .m 7 13]) (.seq (.seq (.ops [.m 14 7, .i 15 (.bin .lss (.t 14) (.n 0)), .m 16 15, .mk (some 17) (some (16, false)) (.mov (.t 7)) .no, .mk (some 18) (some (16, false)) (.fieldAddr 1 (.t 2)) .no, .mk (some 19) (some (16, false)) (.load false 1 (.t 18)) .no, .mk (some 20) (some (16, false)) (.len false (.t 19)) .no, .mk (some 21) (some (16, false)) (.bin .geq (.t 17) (.t 20)) .no, .i 22 (.pick (.t 16) (.c (.one (.st (.bool true)))) (.t 21))]) (.cond (.t 22) (.seq (.ops [.i 23 (.build [.st (.str (ByteArray.mk (#[]))), .full []] []), .s 2 4 23, .i 5 (.mov (.c (.one (.st (.bool false)))))]) .ret) .skip)) (.ops [.f 24 1 2, .l 25 24, .m 26 7, .i 27 (.indexAddr 2 (.t 25) (.t 26)), .L 28 2 27, .s 2 2 28])))) (.ops [.i 29 (.bin .add (.t 10) (.n 1)), .m 10 29]))))))) (.seq (.ops [.L 30 2 2, .s 2 4 30, .i 5 (.mov (.c (.one (.st (.bool true)))))]) .ret)))
theorem K9 : OkF Tryz.prog 47 31 [] Gp [.cell 4 true 2, .t 5] := .of Tryz.func47 rfl rfl (by kernel_rfl) rfl
def E4 : IR :=
 (.seq (.ops [.i 3 (.box 29 (.t 0)), .i 5 (.box 29 (.t 2)), .i 6 (.alloc 29 [.st (.str (ByteArray.mk (#[]))), .full []])]) (.seq (.seq (.ops [.m 7 1, .i 8 (.len false (.t 7)), .i 9 (.bin .eql (.t 8) (.n 0))]) (.cond (.t 9) (.seq (.ops [.L 10 2 5, .i 11 (.call 72 [.t 10]), .s 2 6 11]) .ret) .skip)) (.seq (.ops [.L 12 2 3, .i 13 (.callS 72 [.t 12]), .s 2 3 13]) (.seq (.ops [.f 14 1 3, .l 15 14, .m 16 1, .i 17 (.indexAddr 1 (.t 16) (.n 0)), .l 18 17, .f 19 1 3, .l 20 19, .m 21 1, .i 22 (.indexAddr 1 (.t 21) (.n 0)), .l 23 22, .i 24 (.indexAddr 2 (.t 20) (.t 23)), .L 25 2 24, .m 26 1, .i 27 (.sliceL 1 (.t 26) (some (.n 1)) none), .L 28 2 5, .i 29 (.call 50 [.t 25, .t 27, .t 28]), .i 30 (.indexAddr 2 (.t 15) (.t 18)), .s 2 30 29]) (.seq (.ops [.L 31 2 3, .s 2 6 31]) .ret)))))
theorem HO : OkF Tryz.prog 50 32 [13] E4 [.cell 6 true 2] := .of Tryz.func50 rfl rfl (by kernel_rfl) rfl
def Gr : IR :=
 (.seq (.ops [.i 1 (.box 29 (.t 0)), .i 2 (.alloc 29 [.st (.str (ByteArray.mk (#[]))), .full []])]) (.seq (.ops [.f 6 0 1, .l 7 6, .i 8 (.build [.st (.str (ByteArray.mk (#[]))), .full []] [(0, 1, .t 7)]), .i 3 (.alloc 29 [.st (.str (ByteArray.mk (#[]))), .full []]), .s 2 3 8]) (.seq (.seq (.ops [.f 9 1 1, .l 10 9, .i 11 (.len false (.t 10)), .i 12 (.mov (.n 0))]) (.block 0 (.loop (.seq (.ops [.i 13 (.bin .lss (.t 12) (.t 11))]) (.seq (.cond (.t 13) .skip (.exit 0)) (.seq (.block 1 (.seq (.ops [.i 14 (.indexAddr 2 (.t 10) (.t 12)), .L 15 2 14, .i 5 (.alloc 29 [.st (.str (ByteArray.mk (#[]))), .full []]), .s 2 5 15]) (.ops [.f 16 1 3, .l 17 16, .L 18 2 5, .i 19 (.call 72 [.t 18]), .i 20 (.buildSlice false 29 2 [.t 19]), .i 21 (.append true 29 2 40 (.t 17) (.t 20)), .f 22 1 3, .s 1 22 21]))) (.ops [.i 23 (.bin .add (.t 12) (.n 1)), .m 12 23]))))))) (.seq (.ops [.L 24 2 3, .s 2 2 24]) .ret))))
theorem Kx : OkF Tryz.prog 72 25 [21] Gr [.cell 2 true 2] := .of Tryz.func72 rfl rfl (by kernel_rfl) rfl

def IT : IR :=
 (.seq (.ops [.i 2 (.box 29 (.t 0)), .i 4 (.alloc 29 [.st (.str (ByteArray.mk (#[]))), .full []]), .i 5 (.mov (.c (.one (.st (.bool false)))))]) (.seq (.seq (.ops [.m 6 1, .i 7 (.len false (.t 6)), .i 8 (.bin .eql (.t 7) (.n 0))]) (.cond (.t 8) (.seq (.ops [.L 9 2 2, .s 2 4 9, .i 5 (.mov (.c (.one (.st (.bool true)))))]) .ret) .skip)) (.seq (.seq (.ops [.m 10 1, .i 11 (.indexAddr 1 (.t 10) (.n 0)), .l 12 11, .i 13 (.bin .lss (.t 12) (.n 0)), .m 14 13, .mk (some 15) (some (14, false)) (.mov (.t 1)) .no, .mk (some 16) (some (14, false)) (.indexAddr 1 (.t 15) (.n 0)) .no, .mk (some 17) (some (14, false)) (.load false 1 (.t 16)) .no, .mk (some 18) (some (14, false)) (.fieldAddr 1 (.t 2)) .no, .mk (some 19) (some (14, false)) (.load false 1 (.t 18)) .no, .mk (some 20) (some (14, false)) (.len false (.t 19)) .no, .mk (some 21) (some (14, false)) (.bin .geq (.t 17) (.t 20)) .no, .i 22 (.pick (.t 14) (.c (.one (.st (.bool true)))) (.t 21))]) (.cond (.t 22) (.seq (.ops [.i 23 (.build [.st (.str (ByteArray.mk (#[]))), .full []] []), .s 2 4 23, .i 5 (.mov (.c (.one (.st (.bool false)))))]) .ret) .skip)) (.seq (.ops [.f 24 1 2, .l 25 24, .m 26 1, .i 27 (.indexAddr 1 (.t 26) (.n 0)), .l 28 27, .i 29 (.indexAddr 2 (.t 25) (.t 28)), .L 30 2 29, .m 31 1, .i 32 (.sliceL 1 (.t 31) (some (.n 1)) none), .i 33 (.call 33 [.t 30, .t 32]), .i 34 (.extract 0 (.t 33)), .i 35 (.extract 1 (.t 33)), .s 2 4 34, .m 5 35]) .ret))))
theorem Lv : OkF Tryz.prog 33 36 [] IT [.cell 4 true 2, .t 5] := .of Tryz.func33 rfl rfl (by kernel_rfl) rfl
def G1 : IR :=
 (.seq (.ops [.i 3 (.box 29 (.t 0)), .i 5 (.box 29 (.t 2)), .i 6 (.alloc 29 [.st (.str (ByteArray.mk (#[]))), .full []])]) (.seq (.seq (.ops [.m 9 1, .i 10 (.len false (.t 9)), .i 11 (.bin .eql (.t 10) (.n 0))]) (.cond (.t 11) (.seq (.ops [.L 12 2 5, .s 2 6 12]) .ret) .skip)) (.seq (.ops [.f 13 0 3, .l 14 13, .i 15 (.build [.st (.str (ByteArray.mk (#[]))), .full []] [(0, 1, .t 14)]), .i 7 (.alloc 29 [.st (.str (ByteArray.mk (#[]))), .full []]), .s 2 7 15]) (.seq (.seq (.ops [.i 8 (.mov (.n 0))]) (.block 0 (.loop (.seq (.seq (.ops [.m 16 8, .f 17 1 3, .l 18 17, .i 19 (.len false (.t 18)), .i 20 (.bin .lss (.t 16) (.t 19))]) (.cond (.t 20) .skip (.exit 0))) (.seq (.block 1 (.seq (.ops [.m 23 8, .m 24 1, .i 25 (.indexAddr 1 (.t 24) (.n 0)), .l 26 25, .i 27 (.bin .eql (.t 23) (.t 26))]) (.cond (.t 27) (.ops [.f 28 1 7, .l 29 28, .f 30 1 3, .l 31 30, .m 32 8, .i 33 (.indexAddr 2 (.t 31) (.t 32)), .L 34 2 33, .m 35 1, .i 36 (.sliceL 1 (.t 35) (some (.n 1)) none), .L 37 2 5, .i 38 (.call 36 [.t 34, .t 36, .t 37]), .i 39 (.buildSlice false 29 2 [.t 38]), .i 40 (.append false 29 2 40 (.t 29) (.t 39)), .f 41 1 7, .s 1 41 40]) (.ops [.f 42 1 7, .l 43 42, .f 44 1 3, .l 45 44, .m 46 8, .i 47 (.indexAddr 2 (.t 45) (.t 46)), .L 48 2 47, .i 49 (.buildSlice false 29 2 [.t 48]), .i 50 (.append false 29 2 40 (.t 43) (.t 49)), .f 51 1 7, .s 1 51 50])))) (.ops [.m 21 8, .i 22 (.bin .add (.t 21) (.n 1)), .m 8 22])))))) (.seq (.ops [.L 52 2 7, .s 2 6 52]) .ret)))))
theorem J_ : OkF Tryz.prog 36 53 [] G1 [.cell 6 true 2] := .of Tryz.func36 rfl rfl (by kernel_rfl) rfl
def Gg : IR :=
 (.seq (.ops [.i 1 (.box 29 (.t 0)), .i 2 (.mov (.c (.one (.full []))))]) (.seq (.ops [.i 7 (.buildSlice false 38 1 [.c (.one (.full []))]), .m 3 7]) (.seq (.seq (.ops [.i 4 (.mov (.n 0))]) (.block 0 (.loop (.seq (.seq (.ops [.m 8 4, .f 9 1 1, .l 10 9, .i 11 (.len false (.t 10)), .i 12 (.bin .lss (.t 8) (.t 11))]) (.cond (.t 12) .skip (.exit 0))) (.seq (.block 1 (.seq (.ops [.f 15 1 1, .l 16 15, .m 17 4, .i 18 (.indexAddr 2 (.t 16) (.t 17)), .L 19 2 18, .i 20 (.call 32 [.t 19]), .m 5 20]) (.seq (.ops [.i 6 (.mov (.n 0))]) (.block 2 (.loop (.seq (.seq (.ops [.m 21 6, .m 22 5, .i 23 (.len false (.t 22)), .i 24 (.bin .lss (.t 21) (.t 23))]) (.cond (.t 24) .skip (.exit 2))) (.seq (.block 3 (.ops [.m 27 3, .m 28 4, .i 29 (.buildFlat [.t 28]), .m 30 5, .m 31 6, .i 32 (.indexAddr 1 (.t 30) (.t 31)), .l 33 32, .i 34 (.append false 3 1 8 (.t 29) (.t 33)), .i 35 (.buildSlice false 38 1 [.t 34]), .i 36 (.append false 38 1 24 (.t 27) (.t 35)), .m 3 36])) (.ops [.m 25 6, .i 26 (.bin .add (.t 25) (.n 1)), .m 6 26])))))))) (.ops [.m 13 4, .i 14 (.bin .add (.t 13) (.n 1)), .m 4 14])))))) (.seq (.ops [.m 37 3, .m 2 37]) .ret))))
theorem LD : OkF Tryz.prog 32 38 [] Gg [.t 2] := .of Tryz.func32 rfl rfl (by kernel_rfl) rfl

end Go.Proofs.YtgepacmabaaohaaGreatDoor
