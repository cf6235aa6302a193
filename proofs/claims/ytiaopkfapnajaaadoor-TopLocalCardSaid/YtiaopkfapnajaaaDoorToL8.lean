/-
  Part 8 of the texts. Conditions: none.
-/
import Derived.Test.YtiaopkfapnajaaaDoorToL7
import Derived.Lib.AppendIntMem
import Derived.Lib.ItoaLen
import Derived.Lib.ItoaMem
namespace Go.Proofs.YtiaopkfapnajaaaDoor
open Go Go.RowKit
set_option linter.unusedVariables false
set_option linter.unusedSimpArgs false
set_option maxHeartbeats 2000000
def Stk (xs : List (List SV)) (l : List Pr) : Prop := xs.take l.length = l.reverse.map BR ∧ l.length ≤ xs.length
theorem Stk.push {xs : List (List SV)} {l : List Pr} (h : Stk xs l) (p : Pr) : Stk (xs.take l.length ++ [BR p] ++ xs.drop (l.length + 1)) (p :: l) := by
 obtain ⟨h1, h2⟩ := h
 have hl : (xs.take l.length).length = l.length := by rw [List.length_take]; omega
 refine ⟨?_, by simp only [List.length_append, List.length_take, List.length_cons, List.length_nil]; omega⟩
 rw [List.length_cons, List.take_append_of_le_length (by rw [List.length_append, hl]; simp), List.take_of_length_le (by rw [List.length_append, hl]; simp), h1, List.reverse_cons, List.map_append]
 rfl
theorem Stk.pushLen {xs : List (List SV)} {l : List Pr} (h : Stk xs l) (p : Pr) : (xs.take l.length ++ [BR p] ++ xs.drop (l.length + 1)).length = if xs.length ≤ l.length + 1 then l.length + 1 else xs.length := by
 have := h.2
 simp only [List.length_append, List.length_take, List.length_drop, List.length_cons, List.length_nil]
 split <;> omega
theorem Stk.top {xs : List (List SV)} {p : Pr} {l : List Pr} (h : Stk xs (p :: l)) : xs[l.length]? = some (BR p) := by
 obtain ⟨h1, h2⟩ := h
 have e : (xs.take (p :: l).length)[l.length]? = xs[l.length]? := by rw [List.getElem?_take, if_pos (by simp)]
 rw [← e, h1, List.reverse_cons, List.map_append, List.getElem?_append_right (by simp)]
 simp
theorem Stk.pop {xs : List (List SV)} {p : Pr} {l : List Pr} (h : Stk xs (p :: l)) : Stk xs l := by
 obtain ⟨h1, h2⟩ := h
 rw [List.length_cons] at h2
 refine ⟨?_, by omega⟩
 have e : xs.take l.length = (xs.take (p :: l).length).take l.length := by rw [List.take_take, List.length_cons, Nat.min_eq_left (by omega)]
 rw [e, h1, List.reverse_cons, List.map_append, List.take_append_of_le_length (by simp), List.take_of_length_le (by simp)]
def Dl (s : List Bd) (x : ByteArray) (t : Tm) (i : Nat) : List Bd := (s.take i).map (fun b => (b.1, b.2.on [(x, t)])) ++ s.drop i
theorem Ob (s : List Bd) (x : ByteArray) (t : Tm) (i : Nat) : (Dl s x t i).length = s.length := by
 have := congrArg List.length (List.take_append_drop i s)
 unfold Dl
 rw [List.length_append] at this ⊢
 rw [List.length_map]
 exact this
theorem Ny {s : List Bd} {x : ByteArray} {t : Tm} {i : Nat} {b : Bd} (h : s[i]? = some b) : (Dl s x t i)[i]? = some b := by
 have := CP h
 unfold Dl
 rw [List.getElem?_append_right (by rw [List.length_map, List.length_take]; omega), List.length_map, List.length_take, Nat.min_eq_left (by omega), Nat.sub_self, Bl h]
 rfl
theorem Nu {s : List Bd} {x : ByteArray} {t : Tm} {i : Nat} {b : Bd} (h : s[i]? = some b) : (Dl s x t i).set i (b.1, b.2.on [(x, t)]) = Dl s x t (i + 1) := by
 have := CP h
 unfold Dl
 rw [List.set_append_right _ _ (by rw [List.length_map, List.length_take]; omega), List.length_map, List.length_take, Nat.min_eq_left (by omega), Nat.sub_self, Bl h, Aq h, List.map_append, List.append_assoc]
 rfl
theorem OW (s : List Bd) (x : ByteArray) (t : Tm) : Dl s x t s.length = s.map fun b => (b.1, b.2.on [(x, t)]) := by
 unfold Dl
 rw [List.take_length, List.drop_length, List.append_nil]
theorem PK (U : List ByteArray) (hU : U.length ≤ 20000) (C0 : Nat) (hC0 : C0 ≤ 100000000000) (n : Nat) (l : List Pr) (r : List Bd × Int) (hr : Cq n [] l r) (hg : CN U C0 [] l) : Aa Tryd.prog 29 [CG l] (.tup [Nn r.1, AR r.2]) := by
 have hll : l.length ≤ 100000000001 := by have := hg.stack; omega
 refine JC.ac fun C hC => ?_
 unfold FN
 repeat' with_reducible first | refine W ?_ | refine Z0 ?_ | ((first | refine Wo fun K hK => ?_ | refine Wp ?_ | refine Wq ?_ | refine Wr ?_); (try simp only [go_sem, fN, seval, eT, iR, dT, dF, nL]); (repeat refine Ai ?_); (try (refine hK _ ?_; clear hK K)); try refine iC ?_)
 refine IWP.ghost (Ae.ownM 4 500 51 3 rfl rfl (by rw [hC]; decide)) ?_
 refine IWP.ghost (Ae.ownM 5 501 34 4 rfl rfl (by rw [hC]; decide)) ?_
 refine IWP.ghost (Ae.toPart 5 501 0 rfl (by rw [hC]; decide)) ?_
 refine IWP.loop (fun m x => ∃ (k : Nat) (xs : List (List SV)), k ≤ l.length ∧ m = k ∧ Stk xs (l.drop k) ∧ x.env 0 = CG l ∧ x.env 4 = .one (.row 500 0) ∧ x.env 5 = .one (.part 501 (l.drop k).length xs.length) ∧ x.env 6 = .one (.st (.int .i64 ((k : Int) - 1))) ∧ x.S 500 = some (BL []) ∧ x.S 501 = some (.mrow 34 4 xs) ∧ x.S 7 = none ∧ x.S 8 = none ∧ x.S 10 = none) l.length ⟨l.length, [], Nat.le_refl _, rfl, ?_⟩ ?_
 ·rw [List.drop_length]
  exact ⟨⟨rfl, Nat.le_refl _⟩, rfl, rfl, rfl, rfl, rfl, rfl, rfl, rfl, rfl⟩
 ·rintro k ⟨env, S⟩ ⟨_, xs, hk, rfl, hstk, e0, e4, e5, e6, s500, s501, s7, s8, s10⟩
  simp only at e0 e4 e5 e6 s500 s501 s7 s8 s10
  by_cases hk0 : 0 ≤ (k : Int) - 1
  ·obtain ⟨k, rfl⟩ : ∃ q, k = q + 1 := ⟨k - 1, by omega⟩
   obtain ⟨p, hp⟩ := Ao (show k < l.length by omega)
   have hz : (((k + 1 : Nat) : Int) - 1).toNat = k := by omega
   have hp' : l[(((k + 1 : Nat) : Int) - 1).toNat]? = some p := by rw [hz]; exact hp
   have hdl : (List.drop (k + 1) l).length ≤ 100000000001 := by rw [List.length_drop]; omega
   repeat' with_reducible first | refine W ?_ | refine Z0 ?_ | ((first | refine Wo fun K hK => ?_ | refine Wp ?_ | refine Wq ?_ | refine Wr ?_); (try simp only [go_sem, fN, seval, eT, iR, e0, e4, e5, e6, s500, s501, s7, s8, s10, hk0, hz, hp, BR, dT, dF, nL]); (repeat refine Ai ?_); (try (refine hK _ ?_; clear hK K)); try refine iC ?_)
   refine AG ⟨k, by omega, k, _, by omega, rfl, by rw [Bl hp]; exact hstk.push p, ?_⟩
   simp only [go_sem, fN, seval, eT, iR, e0, e4, e5, e6, s500, s7, s8, s10]
   have hpl : (List.take (List.drop (k + 1) l).length xs).length + 1 + (List.drop ((List.drop (k + 1) l).length + 1) xs).length = if xs.length ≤ (List.drop (k + 1) l).length + 1 then (List.drop (k + 1) l).length + 1 else xs.length := by
    have := hstk.pushLen p
    simpa only [List.length_append, List.length_cons, List.length_nil, Nat.zero_add] using this
   rw [hpl, Bl hp]
   refine ⟨rfl, ?_, rfl⟩
   congr 3
   omega
  ·obtain rfl : k = 0 := by omega
   rw [List.drop_zero] at hstk e5
   repeat' with_reducible first | refine W ?_ | refine Z0 ?_ | ((first | refine Wo fun K hK => ?_ | refine Wp ?_ | refine Wq ?_ | refine Wr ?_); (try simp only [go_sem, fN, seval, eT, iR, e6, hk0, dT, dF, nL]); (repeat refine Ai ?_); (try (refine hK _ ?_; clear hK K)); try refine iC ?_)
   refine IWP.loopD [7, 8, 10] (fun m x => ∃ s l xs, Cq m s l r ∧ CN U C0 s l ∧ Stk xs l ∧ x.env 4 = .one (.row 500 s.length) ∧ x.env 5 = .one (.part 501 l.length xs.length) ∧ x.S 500 = some (BL s) ∧ x.S 501 = some (.mrow 34 4 xs) ∧ x.S 7 = none ∧ x.S 8 = none ∧ x.S 10 = none) n ⟨[], l, xs, hr, hg, hstk, ?_⟩ ?_
   ·simp only [go_sem, fN, seval, eT, iR, e4, e5, s500, s501, s7, s8, s10]
   clear hr hg hstk e0 e4 e5 e6 s500 s501 s7 s8 s10 hll hk hk0 env S xs
   rintro m ⟨env, S⟩ ⟨s, l, xs, hr, hg, hstk, e4, e5, s500, s501, s7, s8, s10⟩
   simp only at e4 e5 s500 s501 s7 s8 s10
   have hsl : s.length ≤ 20000 := Nat.le_trans hg.len hU
   cases l with
   | nil =>
    cases hr
    refine IWP.ghost (Ae.share (id := 500) s500) ?_
    repeat' with_reducible first | refine W ?_ | refine Z0 ?_ | ((first | refine Wo fun K hK => ?_ | refine Wp ?_ | refine Wq ?_ | refine Wr ?_); (try simp only [go_sem, fN, seval, eT, iR, e4, e5, s501, dT, dF, nL]); (repeat refine Ai ?_); (try (refine hK _ ?_; clear hK K)); try refine iC ?_)
    simp only [go_sem, fN, seval, AO, AS.result, AB, AD, AI]
   | cons p l =>
    have hinv := QL hr
    obtain ⟨hc1, hc2⟩ := hg.lchk p (by simp)
    have hUp := hg.lU p (by simp)
    obtain ⟨hz1, hz2⟩ := hg.lsiz p (by simp)
    obtain ⟨a1, a2, a3⟩ := onU hg hc1 fun y => (hUp y).1
    obtain ⟨b1, b2, b3⟩ := onU hg hc2 fun y => (hUp y).2
    have hl0 : (0 : Int) < ((l.length + 1 : Nat) : Int) := by omega
    have hl1 : (((l.length + 1 : Nat) : Int) - 1) = (l.length : Int) := by omega
    have hl2 : (l.length : Int) < ((l.length + 1 : Nat) : Int) := by omega
    have hl3 : (l.length : Int) ≤ ((l.length + 1 : Nat) : Int) := by omega
    have hlb : l.length ≤ 100000000000 := by have := hg.stack; rw [List.length_cons] at this; omega
    have htop := hstk.top
    have hstk' := hstk.pop
    rw [List.length_cons] at e5
    have onc : ∀ t : Tm, t.chk = 0 → ∀ T : AA, (∀ q ∈ [(500, BL s)], T q.1 = some q.2) → Am Tryd.prog 30 [.one (.row (up1 500) s.length), aTm t] (upS T) (.tup [aTm (BH s t).1, Af (BH s t).2]) (upS T) :=
     fun t ht T hT => Up s (by omega) hg.ord t hg.var ht (up1 500) (Ar 500) (upS T) (by rw [As, hT _ (List.mem_singleton.2 rfl)]; rfl)
    by_cases ha : (p.1.on s).size ≤ 2000
    case neg =>
     have he : BH s p.1 = (Tm.nil, false) := by unfold BH; rw [if_neg ha]
     have hst : CB s p = .err 8 := by unfold CB; rw [if_pos (by omega)]
     repeat' with_reducible first | refine W ?_ | refine Z0 ?_ | ((first | refine Wo fun K hK => ?_ | refine Wp ?_ | refine Wq ?_ | refine Wr ?_); (try simp only [go_sem, fN, seval, eT, iR, e4, e5, s500, s501, s7, s8, s10, hl0, hl1, hl2, hl3, htop, BR, dT, dF, nL]); (repeat refine Ai ?_); (try (refine hK _ ?_; clear hK K)); try refine iC ?_)
     refine ⟨_, [(500, BL s)], C4 (by (simp only [go_sem, fN, seval, eT, iR, s500])), onc p.1 hc1, ?_⟩
     repeat' with_reducible first | refine W ?_ | refine Z0 ?_ | ((first | refine Wo fun K hK => ?_ | refine Wp ?_ | refine Wq ?_ | refine Wr ?_); (try simp only [go_sem, fN, seval, eT, iR, he, e4, e5, s8, s10, dT, dF, nL]); (repeat refine Ai ?_); (try (refine hK _ ?_; clear hK K)); try refine iC ?_)
     refine ⟨_, [(500, BL s)], C4 (by (simp only [go_sem, fN, seval, eT, iR, s500])), onc p.2 hc2, ?_⟩
     repeat' with_reducible first | refine W ?_ | refine Z0 ?_ | ((first | refine Wo fun K hK => ?_ | refine Wp ?_ | refine Wq ?_ | refine Wr ?_); (try simp only [go_sem, fN, seval, eT, iR, he, e4, e5, s8, s10, dT, dF, nL]); (repeat refine Ai ?_); (try (refine hK _ ?_; clear hK K)); try refine iC ?_)
     simp only [go_sem, fN, seval, AO, AS.result, AB, AD, AI]
     rcases hinv with ⟨e, h1, rfl⟩ | ⟨s', ps, q, h1, _⟩
     ·rw [hst] at h1
      cases h1
      rfl
     ·rw [hst] at h1
      cases h1
    by_cases hb : (p.2.on s).size ≤ 2000
    case neg =>
     have he : BH s p.1 = (p.1.on s, true) := by unfold BH; rw [if_pos ha]
     have he2 : BH s p.2 = (Tm.nil, false) := by unfold BH; rw [if_neg hb]
     have hst : CB s p = .err 8 := by unfold CB; rw [if_pos (by omega)]
     repeat' with_reducible first | refine W ?_ | refine Z0 ?_ | ((first | refine Wo fun K hK => ?_ | refine Wp ?_ | refine Wq ?_ | refine Wr ?_); (try simp only [go_sem, fN, seval, eT, iR, e4, e5, s500, s501, s7, s8, s10, hl0, hl1, hl2, hl3, htop, BR, dT, dF, nL]); (repeat refine Ai ?_); (try (refine hK _ ?_; clear hK K)); try refine iC ?_)
     refine ⟨_, [(500, BL s)], C4 (by (simp only [go_sem, fN, seval, eT, iR, s500])), onc p.1 hc1, ?_⟩
     repeat' with_reducible first | refine W ?_ | refine Z0 ?_ | ((first | refine Wo fun K hK => ?_ | refine Wp ?_ | refine Wq ?_ | refine Wr ?_); (try simp only [go_sem, fN, seval, eT, iR, he, e4, e5, s8, s10, dT, dF, nL]); (repeat refine Ai ?_); (try (refine hK _ ?_; clear hK K)); try refine iC ?_)
     refine ⟨_, [(500, BL s)], C4 (by (simp only [go_sem, fN, seval, eT, iR, s500])), onc p.2 hc2, ?_⟩
     repeat' with_reducible first | refine W ?_ | refine Z0 ?_ | ((first | refine Wo fun K hK => ?_ | refine Wp ?_ | refine Wq ?_ | refine Wr ?_); (try simp only [go_sem, fN, seval, eT, iR, he, he2, e4, e5, s8, s10, dT, dF, nL]); (repeat refine Ai ?_); (try (refine hK _ ?_; clear hK K)); try refine iC ?_)
     simp only [go_sem, fN, seval, AO, AS.result, AB, AD, AI]
     rcases hinv with ⟨e, h1, rfl⟩ | ⟨s', ps, q, h1, _⟩
     ·rw [hst] at h1
      cases h1
      rfl
     ·rw [hst] at h1
      cases h1
    have he : BH s p.1 = (p.1.on s, true) := by unfold BH; rw [if_pos ha]
    have he2 : BH s p.2 = (p.2.on s, true) := by unfold BH; rw [if_pos hb]
    have hta : Mt U s (p.1.on s) := ⟨a1, ha, a2, a3⟩
    have htb : Mt U s (p.2.on s) := ⟨b1, hb, b2, b3⟩
    repeat' with_reducible first | refine W ?_ | refine Z0 ?_ | ((first | refine Wo fun K hK => ?_ | refine Wp ?_ | refine Wq ?_ | refine Wr ?_); (try simp only [go_sem, fN, seval, eT, iR, e4, e5, s500, s501, s7, s8, s10, hl0, hl1, hl2, hl3, htop, BR, dT, dF, nL]); (repeat refine Ai ?_); (try (refine hK _ ?_; clear hK K)); try refine iC ?_)
    refine ⟨_, [(500, BL s)], C4 (by (simp only [go_sem, fN, seval, eT, iR, s500])), onc p.1 hc1, ?_⟩
    repeat' with_reducible first | refine W ?_ | refine Z0 ?_ | ((first | refine Wo fun K hK => ?_ | refine Wp ?_ | refine Wq ?_ | refine Wr ?_); (try simp only [go_sem, fN, seval, eT, iR, he, e4, e5, s8, s10, dT, dF, nL]); (repeat refine Ai ?_); (try (refine hK _ ?_; clear hK K)); try refine iC ?_)
    refine ⟨_, [(500, BL s)], C4 (by (simp only [go_sem, fN, seval, eT, iR, s500])), onc p.2 hc2, ?_⟩
    repeat' with_reducible first | refine W ?_ | refine Z0 ?_ | ((first | refine Wo fun K hK => ?_ | refine Wp ?_ | refine Wq ?_ | refine Wr ?_); (try simp only [go_sem, fN, seval, eT, iR, he, he2, e4, e5, s8, s10, dT, dF, nL]); (repeat refine Ai ?_); (try (refine hK _ ?_; clear hK K)); try refine iC ?_)
    refine ⟨_, Aj _, ?_⟩
    by_cases hsame : AQ (p.1.on s).name = true ∧ (p.1.on s).name = (p.2.on s).name
    ·have hst : CB s p = .go s [] := by unfold CB; rw [if_neg (by omega), if_pos hsame]
     have hsv : AQ (p.2.on s).name = true := by rw [← hsame.2]; exact hsame.1
     repeat' with_reducible first | refine W ?_ | refine Z0 ?_ | ((first | refine Wo fun K hK => ?_ | refine Wp ?_ | refine Wq ?_ | refine Wr ?_); (try simp only [go_sem, fN, seval, eT, iR, hsame.1, hsv, hsame.2, e4, e5, dT, dF, nL]); (repeat refine Ai ?_); (try (refine hK _ ?_; clear hK K)); try refine iC ?_)
     rcases hinv with ⟨e, h1, _⟩ | ⟨s', ps, q, h1, h2, h3⟩
     ·rw [hst] at h1
      cases h1
     rw [hst] at h1
     cases h1
     refine AG ⟨q, h2, s, l, xs, h3, hg.tail, hstk', ?_⟩
     simp only [go_sem, fN, seval, AS.drop, Ap, AC.clears, AC.clear, AC.highs, AC.high, Bool.not_false, Bool.true_and, Bool.and_self, AV.purge, AV.purges, AC.purge, AJ.purge, List.contains_cons, List.contains_nil, Nat.reduceBEq, Bool.or_self, Bool.or_false, Bool.false_or, Bool.or_true, eT, iR, e4, s500, s501]
    by_cases hvv : AQ (p.1.on s).name = true ∨ AQ (p.2.on s).name = true
    ·apply Ur
     ·intro rest
      cases hv : AQ (p.1.on s).name with
      | true =>
       have hne : ¬ (p.1.on s).name = (p.2.on s).name := fun h => hsame ⟨hv, h⟩
       repeat' with_reducible first | refine W ?_ | refine Z0 ?_ | ((first | refine Wo fun K hK => ?_ | refine Wp ?_ | refine Wq ?_ | refine Wr ?_); (try simp only [go_sem, fN, seval, eT, iR, hv, hne, dT, dF, nL]); (repeat refine Ai ?_); (try (refine hK _ ?_; skip)); try refine iC ?_)
       refine ⟨_, Aj _, ?_⟩
       repeat' with_reducible first | refine W ?_ | refine Z0 ?_ | ((first | refine Wo fun K hK => ?_ | refine Wq ?_ | refine Wr ?_); (try simp only [go_sem, fN, seval, eT, iR, hv]); (repeat refine Ai ?_); (try (refine hK _ ?_; skip)))
       with_reducible refine Wp ?_
       simp only [go_sem, fN, seval, true_implies, false_implies, implies_true, dT, dF, nL]
       (try with_reducible refine iC ?_)
       refine IWP.mid (fun x => ∃ u t, Lo U s p u t ∧ AQ u.name = true ∧ x.env 4 = .one (.row 500 s.length) ∧ x.env 5 = .one (.part 501 l.length xs.length) ∧ x.env 8 = .one (.ptr 8 1 0 0) ∧ x.env 10 = .one (.ptr 10 1 0 0) ∧ x.S 500 = some (BL s) ∧ x.S 501 = some (.mrow 34 4 xs) ∧ x.S 8 = some (TK u) ∧ x.S 10 = some (TK t)) ?_ rest
       repeat' with_reducible first | refine W ?_ | refine Z0 ?_ | ((first | refine Wo fun K hK => ?_ | refine Wp ?_ | refine Wq ?_ | refine Wr ?_); (try simp only [go_sem, fN, seval, eT, iR, dT, dF, nL]); (repeat refine Ai ?_); (try (refine hK _ ?_; skip)); try refine iC ?_)
       refine ⟨_, Aj _, ?_⟩
       repeat' with_reducible first | refine W ?_ | refine Z0 ?_ | ((first | refine Wo fun K hK => ?_ | refine Wp ?_ | refine Wq ?_ | refine Wr ?_); (try simp only [go_sem, fN, seval, eT, iR, hv, dT, dF, nL]); (repeat refine Ai ?_); (try (refine hK _ ?_; skip)); try refine iC ?_)
       refine ⟨rfl, _, _, RB hta htb hsame (.inl hv), hv, ?_⟩
       simp only [go_sem, fN, seval, eT, iR, e4, s500, s501]
      | false =>
       have hw : AQ (p.2.on s).name = true := hvv.resolve_left (by rw [hv]; simp)
       repeat' with_reducible first | refine W ?_ | refine Z0 ?_ | ((first | refine Wo fun K hK => ?_ | refine Wp ?_ | refine Wq ?_ | refine Wr ?_); (try simp only [go_sem, fN, seval, eT, iR, hv, dT, dF, nL]); (repeat refine Ai ?_); (try (refine hK _ ?_; skip)); try refine iC ?_)
       refine ⟨_, Aj _, ?_⟩
       repeat' with_reducible first | refine W ?_ | refine Z0 ?_ | ((first | refine Wo fun K hK => ?_ | refine Wp ?_ | refine Wq ?_ | refine Wr ?_); (try simp only [go_sem, fN, seval, eT, iR, hv, dT, dF, nL]); (repeat refine Ai ?_); (try (refine hK _ ?_; skip)); try refine iC ?_)
       refine ⟨_, Aj _, ?_⟩
       repeat' with_reducible first | refine W ?_ | refine Z0 ?_ | ((first | refine Wo fun K hK => ?_ | refine Wq ?_ | refine Wr ?_); (try simp only [go_sem, fN, seval, eT, iR, hv, hw]); (repeat refine Ai ?_); (try (refine hK _ ?_; skip)))
       with_reducible refine Wp ?_
       simp only [go_sem, fN, seval, true_implies, false_implies, implies_true, dT, dF, nL]
       (try with_reducible refine iC ?_)
       refine IWP.mid (fun x => ∃ u t, Lo U s p u t ∧ AQ u.name = true ∧ x.env 4 = .one (.row 500 s.length) ∧ x.env 5 = .one (.part 501 l.length xs.length) ∧ x.env 8 = .one (.ptr 8 1 0 0) ∧ x.env 10 = .one (.ptr 10 1 0 0) ∧ x.S 500 = some (BL s) ∧ x.S 501 = some (.mrow 34 4 xs) ∧ x.S 8 = some (TK u) ∧ x.S 10 = some (TK t)) ?_ rest
       repeat' with_reducible first | refine W ?_ | refine Z0 ?_ | ((first | refine Wo fun K hK => ?_ | refine Wp ?_ | refine Wq ?_ | refine Wr ?_); (try simp only [go_sem, fN, seval, eT, iR, dT, dF, nL]); (repeat refine Ai ?_); (try (refine hK _ ?_; skip)); try refine iC ?_)
       refine ⟨_, Aj _, ?_⟩
       repeat' with_reducible first | refine W ?_ | refine Z0 ?_ | ((first | refine Wo fun K hK => ?_ | refine Wp ?_ | refine Wq ?_ | refine Wr ?_); (try simp only [go_sem, fN, seval, eT, iR, hv, dT, dF, nL]); (repeat refine Ai ?_); (try (refine hK _ ?_; skip)); try refine iC ?_)
       refine ⟨rfl, _, _, RY hta htb hv hw, hw, ?_⟩
       simp only [go_sem, fN, seval, eT, iR, e4, s500, s501]
     clear e4 e5 s500 s501 s7 s8 s10
     rintro ⟨env, S⟩ ⟨u, t, ⟨hu, ht, hst⟩, hv, e4, e5, e8, e10, s500, s501, s8, s10⟩
     simp only at e4 e5 e8 e10 s500 s501 s8 s10
     have hst : CB s p = DX s u.name t := by
      rcases hst with ⟨_, h⟩ | ⟨h, _⟩
      ·exact h
      ·rw [hv] at h; cases h
     rw [hst] at hinv
     repeat' with_reducible first | refine W ?_ | refine Z0 ?_ | ((first | refine Wo fun K hK => ?_ | refine Wp ?_ | refine Wq ?_ | refine Wr ?_); (try simp only [go_sem, fN, seval, eT, iR, e4, e5, e8, e10, s500, s501, s8, s10, dT, dF, nL]); (repeat refine Ai ?_); (try (refine hK _ ?_; clear hK K)); try refine iC ?_)
     refine ⟨_, RA u.name t, ?_⟩
     cases ho : occ u.name t with
     | true =>
      have hbv : DX s u.name t = .err 6 := by unfold DX; rw [if_pos ho]
      repeat' with_reducible first | refine W ?_ | refine Z0 ?_ | ((first | refine Wo fun K hK => ?_ | refine Wp ?_ | refine Wq ?_ | refine Wr ?_); (try simp only [go_sem, fN, seval, eT, iR, ho, dT, dF, nL]); (repeat refine Ai ?_); (try (refine hK _ ?_; clear hK K)); try refine iC ?_)
      simp only [go_sem, fN, seval, AO, AS.result, AB, AD, AI]
      rcases hinv with ⟨e, h1, rfl⟩ | ⟨s', ps, q, h1, _⟩
      ·rw [hbv] at h1
       cases h1
       rfl
      ·rw [hbv] at h1
       cases h1
     | false =>
      repeat' with_reducible first | refine W ?_ | refine Z0 ?_ | ((first | refine Wo fun K hK => ?_ | refine Wp ?_ | refine Wq ?_ | refine Wr ?_); (try simp only [go_sem, fN, seval, eT, iR, ho, e4, e5, e8, e10, s500, s501, s8, s10, dT, dF, nL]); (repeat refine Ai ?_); (try (refine hK _ ?_; clear hK K)); try refine iC ?_)
      refine IWP.loop (fun m x => ∃ i, i ≤ s.length ∧ m = s.length - i ∧ (∀ c ∈ s.take i, (c.2.on [(u.name, t)]).size ≤ 2000) ∧ x.env 4 = .one (.row 500 s.length) ∧ x.env 5 = .one (.part 501 l.length xs.length) ∧ x.env 12 = .one (.full [CX (u.name, t)]) ∧ x.env 121 = AR s.length ∧ x.env 122 = AR i ∧ x.S 500 = some (BL (Dl s u.name t i)) ∧ x.S 501 = some (.mrow 34 4 xs)) s.length ⟨0, Nat.zero_le _, rfl, by simp, ?_⟩ ?_
      ·simp only [go_sem, fN, seval, eT, iR, e4, e5, s500, s501, CX]
       rfl
      rintro mm ⟨env, S⟩ ⟨i, hi, rfl, h20, e4, e5, e12, e121, e122, s500, s501⟩
      simp only at e4 e5 e12 e121 e122 s500 s501
      have hhl := Ob s u.name t i
      by_cases hlt : (i : Int) < s.length
      ·have hlt' : i < s.length := by omega
       obtain ⟨b, hb⟩ := Ao hlt'
       have hbz := hg.siz b (AW hb)
       have hbh := Ny (x := u.name) (t := t) hb
       have hone : ∀ c ∈ ([(u.name, t)] : List Bd), AQ c.1 = true := by simp [hv]
       repeat' with_reducible first | refine W ?_ | refine Z0 ?_ | ((first | refine Wo fun K hK => ?_ | refine Wp ?_ | refine Wq ?_ | refine Wr ?_); (try simp only [go_sem, fN, seval, eT, iR, e4, e5, e12, e121, e122, s500, s501, hlt, hlt', hhl, hbh, CX, dT, dF, nL]); (repeat refine Ai ?_); (try (refine hK _ ?_; clear hK K)); try refine iC ?_)
       refine ⟨_, Ki [(u.name, t)] (by simp) (List.pairwise_singleton _ _) b.2 hone (hg.chk b (AW hb)), ?_⟩
       by_cases hz : (b.2.on [(u.name, t)]).size ≤ 2000
       ·have hon : BH [(u.name, t)] b.2 = (b.2.on [(u.name, t)], true) := by unfold BH; rw [if_pos hz]
        repeat' with_reducible first | refine W ?_ | refine Z0 ?_ | ((first | refine Wo fun K hK => ?_ | refine Wp ?_ | refine Wq ?_ | refine Wr ?_); (try simp only [go_sem, fN, seval, eT, iR, hon, e4, e5, e12, e121, e122, s500, s501, hlt, hlt', hhl, hbh, CX, dT, dF, nL]); (repeat refine Ai ?_); (try (refine hK _ ?_; clear hK K)); try refine iC ?_)
        refine AG ⟨s.length - (i + 1), by omega, i + 1, by omega, rfl, fun c hc => ?_, ?_⟩
        ·rw [Aq hb] at hc
         rcases List.mem_append.1 hc with hc | hc
         ·exact h20 c hc
         ·rw [List.mem_singleton.1 hc]; exact hz
        ·simp only [go_sem, fN, seval, eT, iR, e4, e5, e12, e121, e122, s500, s501]
         refine ⟨rfl, by congr 3, ?_⟩
         show AJ.mrow _ _ (((Dl s u.name t i).map CX).set i (CX (b.1, b.2.on [(u.name, t)]))) = _
         rw [← List.map_set, Nu hb]
       ·have hon : BH [(u.name, t)] b.2 = (Tm.nil, false) := by unfold BH; rw [if_neg hz]
        have hbv : DX s u.name t = .err 8 := by
         unfold DX
         rw [if_neg (by rw [ho]; simp), if_neg]
         intro hall
         have := List.all_eq_true.1 hall b (AW hb)
         exact hz (by simpa using this)
        repeat' with_reducible first | refine W ?_ | refine Z0 ?_ | ((first | refine Wo fun K hK => ?_ | refine Wp ?_ | refine Wq ?_ | refine Wr ?_); (try simp only [go_sem, fN, seval, eT, iR, hon, e4, e5, e12, e121, e122, s500, s501, hlt, hlt', hhl, hbh, CX, dT, dF, nL]); (repeat refine Ai ?_); (try (refine hK _ ?_; clear hK K)); try refine iC ?_)
        simp only [go_sem, fN, seval, AO, AS.result, AB, AD, AI]
        rcases hinv with ⟨e, h1, rfl⟩ | ⟨s', ps, q, h1, _⟩
        ·rw [hbv] at h1
         cases h1
         rfl
        ·rw [hbv] at h1
         cases h1
      ·obtain rfl : i = s.length := by omega
       rw [List.take_of_length_le (Nat.le_refl _)] at h20
       rw [OW] at s500
       have hbv : DX s u.name t = .go (BQ (s.map (fun b => (b.1, b.2.on [(u.name, t)])) ++ [(u.name, t)])) [] := by
        unfold DX
        rw [if_neg (by rw [ho]; simp), if_pos]
        exact List.all_eq_true.2 fun b hb => by simpa using h20 b hb
       obtain ⟨hg', _⟩ := Fg hg (hst.trans hbv)
       rcases hinv with ⟨e, h1, _⟩ | ⟨s', ps, q, h1, h2, h3⟩
       ·rw [hbv] at h1
        cases h1
       rw [hbv] at h1
       cases h1
       have hnamed := Dm (CI _) (Cc hg'.ord)
       have hL : (s.map (fun b => (b.1, b.2.on [(u.name, t)]))).map CX ++ [[SV.str u.name, SV.str t.name, SV.list (t.args.map Ay)]] = (s.map (fun b => (b.1, b.2.on [(u.name, t)])) ++ [(u.name, t)]).map CX := by
        rw [List.map_append]
        rfl
       have hLl : (s.map (fun b => (b.1, b.2.on [(u.name, t)])) ++ [(u.name, t)]).length = s.length + 1 := by simp
       have hsort := fun S h => Nm _ hnamed (by omega) (up1 500) (Ar 500) S h
       have hsl2 := BS (s.map (fun b => (b.1, b.2.on [(u.name, t)])) ++ [(u.name, t)])
       rw [hLl] at hsort hsl2
       repeat' with_reducible first | refine W ?_ | refine Z0 ?_ | ((first | refine Wo fun K hK => ?_ | refine Wp ?_ | refine Wq ?_ | refine Wr ?_); (try simp only [go_sem, fN, seval, eT, iR, e4, e5, e12, e121, e122, s500, s501, hlt, CX, dT, dF, nL]); (repeat refine Ai ?_); (try (refine hK _ ?_; clear hK K)); try refine iC ?_)
       rw [hL]
       refine ⟨_, _, hsort _ (by rw [As, AE]; rfl), ?_⟩
       repeat' with_reducible first | refine W ?_ | refine Z0 ?_ | ((first | refine Wo fun K hK => ?_ | refine Wp ?_ | refine Wq ?_ | refine Wr ?_); (try simp only [go_sem, fN, seval, eT, iR, e5, s501, dT, dF, nL]); (repeat refine Ai ?_); (try (refine hK _ ?_; clear hK K)); try refine iC ?_)
       refine AG ⟨q, h2, _, l, xs, h3, hg', hstk', ?_⟩
       simp only [go_sem, fN, seval, AS.drop, Ap, AC.clears, AC.clear, AC.highs, AC.high, Bool.not_false, Bool.true_and, Bool.and_self, AV.purge, AV.purges, AC.purge, AJ.purge, List.contains_cons, List.contains_nil, Nat.reduceBEq, Bool.or_self, Bool.or_false, Bool.false_or, Bool.or_true, eT, iR, e5, s501, hsl2]
    ·-- two knots
     have hv : AQ (p.1.on s).name = false := by
      cases h : AQ (p.1.on s).name with
      | false => rfl
      | true => exact absurd (.inl h) hvv
     have hw : AQ (p.2.on s).name = false := by
      cases h : AQ (p.2.on s).name with
      | false => rfl
      | true => exact absurd (.inr h) hvv
     have hst : CB s p = if (p.1.on s).name = (p.2.on s).name ∧ (p.1.on s).args.length = (p.2.on s).args.length then .go s ((p.1.on s).args.zip (p.2.on s).args) else .err 5 := by
      unfold CB
      rw [if_neg (by omega), if_neg hsame, if_neg (by rw [hv]; simp), if_neg (by rw [hw]; simp)]
     rw [hst] at hinv
     have huk := Tm.length_le (p.1.on s).args
     have hus := Tm.size_eq (p.1.on s)
     have htk := Tm.length_le (p.2.on s).args
     have hts := Tm.size_eq (p.2.on s)
     by_cases hsame2 : (p.1.on s).name = (p.2.on s).name ∧ (p.1.on s).args.length = (p.2.on s).args.length
     ·rw [if_pos hsame2] at hst hinv
      obtain ⟨hg', _⟩ := Fg hg hst
      rcases hinv with ⟨e, h1, _⟩ | ⟨s', ps, q, h1, h2, h3⟩
      ·cases h1
      cases h1
      repeat' (first | (with_reducible first | refine W ?_ | refine Z0 ?_ | ((first | refine Wo fun K hK => ?_ | refine Wp ?_ | refine Wq ?_ | refine Wr ?_); (try simp only [go_sem, fN, seval, eT, iR, hv, hw, e4, e5, s500, s501, hsame2.1, hsame2.2, dT, dF, nL]); (repeat refine Ai ?_); (try (refine hK _ ?_; clear hK K)); try refine iC ?_)) | refine Cg _ (Aj _) ?_)
      have hzl : ((p.1.on s).args.zip (p.2.on s).args).length = (p.2.on s).args.length := by rw [List.length_zip, hsame2.2, Nat.min_self]
      refine IWP.loop (fun m x => ∃ (k : Nat) (xs : List (List SV)) (n1 n2 : ByteArray), k ≤ (p.2.on s).args.length ∧ m = k ∧ Stk xs (((p.1.on s).args.zip (p.2.on s).args).drop k ++ l) ∧ x.env 4 = .one (.row 500 s.length) ∧ x.env 5 = .one (.part 501 (((p.1.on s).args.zip (p.2.on s).args).drop k ++ l).length xs.length) ∧ x.env 8 = .one (.ptr 8 1 0 0) ∧ x.env 10 = .one (.ptr 10 1 0 0) ∧ x.env 14 = .one (.st (.int .i64 ((k : Int) - 1))) ∧ x.S 500 = some (BL s) ∧ x.S 501 = some (.mrow 34 4 xs) ∧
        x.S 8 = some (.box 32 [.st (.str n1), .st (.list ((p.1.on s).args.map Ay))]) ∧ x.S 10 = some (.box 32 [.st (.str n2), .st (.list ((p.2.on s).args.map Ay))])) (p.2.on s).args.length ⟨(p.2.on s).args.length, xs, (p.2.on s).name, (p.2.on s).name, Nat.le_refl _, rfl, ?_⟩ ?_
      ·rw [← hzl, List.drop_length, hzl]
       refine ⟨hstk', ?_⟩
       simp only [go_sem, fN, seval, eT, iR, e4, s500, s501, hsame2.1]
      rintro k ⟨env, S⟩ ⟨_, xs, n1, n2, hk, rfl, hstk, e4, e5, e8, e10, e14, s500, s501, s8, s10⟩
      simp only at e4 e5 e8 e10 e14 s500 s501 s8 s10
      by_cases hk0 : 0 ≤ (k : Int) - 1
      ·obtain ⟨k, rfl⟩ : ∃ q, k = q + 1 := ⟨k - 1, by omega⟩
       obtain ⟨x, hx⟩ := Ao (show k < (p.1.on s).args.length by omega)
       obtain ⟨y, hy⟩ := Ao (show k < (p.2.on s).args.length by omega)
       have hxy : ((p.1.on s).args.zip (p.2.on s).args)[k]? = some (x, y) := List.getElem?_zip_eq_some.2 ⟨hx, hy⟩
       have hz : (((k + 1 : Nat) : Int) - 1).toNat = k := by omega
       have hdl : (((p.1.on s).args.zip (p.2.on s).args).drop (k + 1) ++ l).length ≤ 100000002000 := by rw [List.length_append, List.length_drop, hzl]; omega
       generalize hD : ((p.1.on s).args.zip (p.2.on s).args).drop (k + 1) ++ l = D at *
       repeat' with_reducible first | refine W ?_ | refine Z0 ?_ | ((first | refine Wo fun K hK => ?_ | refine Wp ?_ | refine Wq ?_ | refine Wr ?_); (try simp only [go_sem, fN, seval, eT, iR, e4, e5, e8, e10, e14, s500, s501, s8, s10, hk0, hz, hx, hy, dT, dF, nL]); (repeat refine Ai ?_); (try (refine hK _ ?_; clear hK K)); try refine iC ?_)
       have hcons : ((p.1.on s).args.zip (p.2.on s).args).drop k ++ l = (x, y) :: D := by rw [Bl hxy, List.cons_append, hD]
       have hDl : (((p.1.on s).args.zip (p.2.on s).args).drop k).length + l.length = D.length + 1 := by rw [← List.length_append, hcons, List.length_cons]
       refine AG ⟨k, by omega, k, _, n1, n2, by omega, rfl, by rw [hcons]; exact hstk.push (x, y), ?_⟩
       have hpl : (List.take D.length xs).length + 1 + (List.drop (D.length + 1) xs).length = if xs.length ≤ D.length + 1 then D.length + 1 else xs.length := by
        have := hstk.pushLen (x, y)
        simpa only [List.length_append, List.length_cons, List.length_nil, Nat.zero_add] using this
       simp only [go_sem, fN, seval, eT, iR, e4, e5, e8, e10, e14, s500, s501, s8, s10, hDl, hpl]
       refine ⟨?_, rfl⟩
       congr 3
       omega
      ·obtain rfl : k = 0 := by omega
       rw [List.drop_zero] at hstk e5
       repeat' with_reducible first | refine W ?_ | refine Z0 ?_ | ((first | refine Wo fun K hK => ?_ | refine Wp ?_ | refine Wq ?_ | refine Wr ?_); (try simp only [go_sem, fN, seval, eT, iR, e4, e5, e14, hk0, dT, dF, nL]); (repeat refine Ai ?_); (try (refine hK _ ?_; clear hK K)); try refine iC ?_)
       refine AG ⟨q, h2, s, _, xs, h3, hg', hstk, ?_⟩
       simp only [go_sem, fN, seval, AS.drop, Ap, AC.clears, AC.clear, AC.highs, AC.high, Bool.not_false, Bool.true_and, Bool.and_self, AV.purge, AV.purges, AC.purge, AJ.purge, List.contains_cons, List.contains_nil, Nat.reduceBEq, Bool.or_self, Bool.or_false, Bool.false_or, Bool.or_true, eT, iR, e4, e5, s500, s501]
     ·rw [if_neg hsame2] at hst hinv
      by_cases hn : (p.1.on s).name = (p.2.on s).name
      ·have hl : ¬ ((p.1.on s).args.length : Int) = (p.2.on s).args.length := fun h => hsame2 ⟨hn, by omega⟩
       repeat' (first | (with_reducible first | refine W ?_ | refine Z0 ?_ | ((first | refine Wo fun K hK => ?_ | refine Wp ?_ | refine Wq ?_ | refine Wr ?_); (try simp only [go_sem, fN, seval, eT, iR, hv, hw, e4, e5, hn, hl, dT, dF, nL]); (repeat refine Ai ?_); (try (refine hK _ ?_; clear hK K)); try refine iC ?_)) | refine Cg _ (Aj _) ?_)
       simp only [go_sem, fN, seval, AO, AS.result, AB, AD, AI]
       rcases hinv with ⟨e, h1, rfl⟩ | ⟨s', ps, q, h1, _⟩
       ·cases h1
        rfl
       ·cases h1
      ·repeat' (first | (with_reducible first | refine W ?_ | refine Z0 ?_ | ((first | refine Wo fun K hK => ?_ | refine Wp ?_ | refine Wq ?_ | refine Wr ?_); (try simp only [go_sem, fN, seval, eT, iR, hv, hw, e4, e5, hn, dT, dF, nL]); (repeat refine Ai ?_); (try (refine hK _ ?_; clear hK K)); try refine iC ?_)) | refine Cg _ (Aj _) ?_)
       simp only [go_sem, fN, seval, AO, AS.result, AB, AD, AI]
       rcases hinv with ⟨e, h1, rfl⟩ | ⟨s', ps, q, h1, _⟩
       ·cases h1
        rfl
       ·cases h1

def Fs (l : List Pr) : List ByteArray := l.flatMap fun p => (p.1.knots ++ p.2.knots).map (·.name)
theorem NW {l : List Pr} (h : ∀ p ∈ l, p.1.size ≤ 200 ∧ p.2.size ≤ 200) : (Fs l).length ≤ 400 * l.length := by
 unfold Fs
 induction l with
 | nil => simp
 | cons p l ih =>
  have := ih fun q hq => h q (by simp [hq])
  have h1 := h p (by simp)
  rw [List.flatMap_cons, List.length_append, List.length_map, List.length_append, Tm.knots_length, Tm.knots_length, List.length_cons]
  omega
theorem Io (v : Nat) (hv : v ≤ 16000) (s : List Bd) : ∀ (l : List Pr), l.length ≤ 40 → HM 100000000000 v s l
 | [], _ => trivial
 | p :: l, h => by
  rw [List.length_cons] at h
  have := Nat.min_le_right (p.1.on s).size 2000
  exact ⟨by omega, Io v hv s l (by omega)⟩
theorem Ck {l : List Pr} (h : B_ l = 0) : (Fs l).length ≤ 20000 ∧ CN (Fs l) 100000000000 [] l := by
 obtain ⟨h1, h2⟩ := Ju h
 have hc : ∀ p ∈ l, (p.1.chk = 0 ∧ p.1.size ≤ 200) ∧ (p.2.chk = 0 ∧ p.2.size ≤ 200) := fun p hp => ⟨Tm.may_chk (h2 p hp).1, Tm.may_chk (h2 p hp).2⟩
 have hlen := NW fun p hp => ⟨(hc p hp).1.2, (hc p hp).2.2⟩
 refine ⟨by omega, ⟨List.Pairwise.nil, by simp, by simp, by simp, by simp, by simp, by simp, fun p hp => ⟨(hc p hp).1.1, (hc p hp).2.1⟩, fun p hp y => ⟨fun hy => ?_, fun hy => ?_⟩, fun p hp => ?_, Io _ (by simp; omega) [] l h1⟩⟩
 ·unfold occ at hy
  obtain ⟨k, hk, e⟩ := List.any_eq_true.1 hy
  exact List.mem_flatMap.2 ⟨p, hp, List.mem_map.2 ⟨k, by simp [hk], by simpa using e⟩⟩
 ·unfold occ at hy
  obtain ⟨k, hk, e⟩ := List.any_eq_true.1 hy
  exact List.mem_flatMap.2 ⟨p, hp, List.mem_map.2 ⟨k, by simp [hk], by simpa using e⟩⟩
 ·have := hc p hp
  omega
theorem MP {l : List Pr} (h : B_ l = 0) : ∃ n r, Cq n [] l r := Kc _ _ [] l (Ck h).2 rfl rfl
theorem Qj {l : List Pr} (h : B_ l = 0) {n : Nat} {r : List Bd × Int} (hr : Cq n [] l r) : Aa Tryd.prog 18 [CG l] (.tup [Nn r.1, AR r.2]) := by
 refine Jb.ac fun C hC => ?_
 unfold FF
 repeat' (first | (with_reducible first | refine W ?_ | refine Z0 ?_ | ((first | refine Wo fun K hK => ?_ | refine Wp ?_ | refine Wq ?_ | refine Wr ?_); (try simp only [go_sem, fN, seval, eT, iR, h, dT, dF, nL]); (repeat refine Ai ?_); (try (refine hK _ ?_; clear hK K)); try refine iC ?_)) | refine Cg _ (L5 l) ?_ | refine Cg _ (PK _ (Ck h).1 _ (Nat.le_refl _) n l r hr (Ck h).2) ?_)
 simp only [go_sem, fN, seval, AO, AS.result, AB, AD, AI]

abbrev vT (x : ByteArray) : Tm := .mk x []
def Sol (s θ : List Bd) : Prop := ∀ b ∈ s, b.2.on θ = (vT b.1).on θ
theorem PS {θ : List Bd} {t : Tm} (h : t.args ≠ []) : t.on θ = .mk t.name (t.args.map (Tm.on θ)) := Tm.on_knot (.inr h)
theorem IQ {t : Tm} (h : t.args = []) : t = vT t.name := by
 cases t with
 | mk n xs =>
  change xs = [] at h
  subst h
  rfl
theorem LP {s θ : List Bd} (hv : ∀ b ∈ s, AQ b.1 = true) (hs : Sol s θ) {t : Tm} (hc : t.chk = 0) : (t.on s).on θ = t.on θ := by
 induction hN : SizeOf.sizeOf t using Nat.strongRecOn generalizing t with
 | _ N ih =>
 subst hN
 obtain ⟨c1, c2⟩ := Tm.chk_args hc
 cases hl : lookup s t.name with
 | some x =>
  obtain ⟨b, hb, hbn, hbx⟩ := Cl hl
  have h0 := c1 (by rw [← hbn]; exact hv b hb)
  rw [Tm.on_leaf hl h0, ← hbx, hs b hb, hbn, ← IQ h0]
 | none =>
  rw [Tm.on_knot (.inl hl)]
  by_cases h0 : t.args = []
  ·have : (Tm.mk t.name (t.args.map (Tm.on s))) = t := by
    cases t with
    | mk n xs =>
     change xs = [] at h0
     subst h0
     rfl
   rw [this]
  ·rw [PS (t := Tm.mk t.name (t.args.map (Tm.on s))) (by rw [Tm.args_mk]; simpa using h0), PS h0]
   congr 1
   rw [Tm.args_mk, List.map_map]
   exact List.map_congr_left fun a ha => ih _ (Tm.lt_of_arg ha) (c2 a ha) rfl
theorem IX {θ : List Bd} (hv : ∀ b ∈ θ, AQ b.1 = true) {t : Tm} (hn : ¬ AQ t.name = true) : t.on θ = .mk t.name (t.args.map (Tm.on θ)) := by
 refine Tm.on_knot (.inl (D3 fun b hb e => hn ?_))
 rw [← e]
 exact hv b hb
theorem NG {s θ : List Bd} {x : ByteArray} {t : Tm} (hv : ∀ b ∈ s, AQ b.1 = true) (hx : AQ x = true) (hc : ∀ b ∈ s, b.2.chk = 0) (h1 : t.on θ = (vT x).on θ) : Sol s θ ↔ Sol (s.map fun b => (b.1, b.2.on [(x, t)])) θ := by
 have hone : Sol [(x, t)] θ := fun b hb => by
  rw [List.mem_singleton] at hb
  subst hb
  exact h1
 have hvo : ∀ b ∈ ([(x, t)] : List Bd), AQ b.1 = true := by simp [hx]
 constructor
 ·intro hs b hb
  obtain ⟨c, hc', rfl⟩ := List.mem_map.1 hb
  show (c.2.on [(x, t)]).on θ = _
  rw [LP hvo hone (hc c hc')]
  exact hs c hc'
 ·intro hs b hb
  have := hs (b.1, b.2.on [(x, t)]) (List.mem_map.2 ⟨b, hb, rfl⟩)
  change (b.2.on [(x, t)]).on θ = (vT b.1).on θ at this
  rwa [LP hvo hone (hc b hb)] at this
theorem RD {s θ : List Bd} {b : Bd} : Sol (BQ (s ++ [b])) θ ↔ Sol s θ ∧ b.2.on θ = (vT b.1).on θ := by
 constructor
 ·intro h
  exact ⟨fun c hc => h c (Bj.2 (by simp [hc])), h b (Bj.2 (by simp))⟩
 ·rintro ⟨h1, h2⟩ c hc
  rcases List.mem_append.1 (Bj.1 hc) with h | h
  ·exact h1 c h
  ·rw [List.mem_singleton] at h
   subst h
   exact h2
theorem PZ {f : Tm → Tm} : ∀ {xs ys : List Tm}, xs.length = ys.length → ((∀ p ∈ xs.zip ys, f p.1 = f p.2) ↔ xs.map f = ys.map f)
 | [], [], _ => by simp
 | x :: xs, y :: ys, h => by
  have := PZ (f := f) (xs := xs) (ys := ys) (by simpa using h)
  simp only [List.zip_cons_cons, List.mem_cons, forall_eq_or_imp, List.map_cons, List.cons.injEq]
  rw [this]
theorem SE {U : List ByteArray} {C : Nat} {s : List Bd} {p : Pr} {l : List Pr} (h : CN U C s (p :: l)) {θ : List Bd} (hθ : ∀ b ∈ θ, AQ b.1 = true) {s' : List Bd} {ps : List Pr} (hs : CB s p = .go s' ps) : (Sol s θ ∧ p.1.on θ = p.2.on θ) ↔ (Sol s' θ ∧ ∀ q ∈ ps, q.1.on θ = q.2.on θ) := by
 obtain ⟨hc1, hc2⟩ := h.lchk p (by simp)
 have hU := h.lU p (by simp)
 obtain ⟨a1, a2, a3⟩ := onU h hc1 fun y => (hU y).1
 obtain ⟨b1, b2, b3⟩ := onU h hc2 fun y => (hU y).2
 have e1 := fun hsol => LP h.var (θ := θ) hsol hc1
 have e2 := fun hsol => LP h.var (θ := θ) hsol hc2
 have bind : ∀ {x t u : Tm}, AQ x.name = true → x.chk = 0 → DX s x.name t = .go s' ps → (Sol s θ ∧ x.on θ = t.on θ ↔ Sol s' θ ∧ ∀ q ∈ ps, q.1.on θ = q.2.on θ) := by
  intro x t u hx hxc hb
  have hxl := IQ ((Tm.chk_args hxc).1 hx)
  unfold DX at hb
  split at hb
  ·cases hb
  split at hb
  ·cases hb
   rw [RD]
   constructor
   ·rintro ⟨k1, k2⟩
    have k3 : t.on θ = (vT x.name).on θ := by rw [← hxl]; exact k2.symm
    exact ⟨⟨(NG h.var hx h.chk k3).1 k1, k3⟩, fun q hq => by cases hq⟩
   ·rintro ⟨⟨k1, k3⟩, _⟩
    exact ⟨(NG h.var hx h.chk k3).2 k1, by rw [hxl]; exact k3.symm⟩
  ·cases hb
 unfold CB at hs
 split at hs
 ·cases hs
 split at hs
 ·rename_i hv
  cases hs
  have l1 := IQ ((Tm.chk_args a1).1 hv.1)
  have l2 := IQ ((Tm.chk_args b1).1 (by rw [← hv.2]; exact hv.1))
  constructor
  ·rintro ⟨k1, _⟩
   exact ⟨k1, fun q hq => by cases hq⟩
  ·rintro ⟨k1, _⟩
   refine ⟨k1, ?_⟩
   rw [← e1 k1, ← e2 k1, l1, l2, hv.2]
 split at hs
 ·rename_i hv
  rw [← bind (u := p.2.on s) hv a1 hs]
  constructor
  ·rintro ⟨k1, k2⟩
   exact ⟨k1, by rw [e1 k1, e2 k1]; exact k2⟩
  ·rintro ⟨k1, k2⟩
   exact ⟨k1, by rw [e1 k1, e2 k1] at k2; exact k2⟩
 split at hs
 ·rename_i hv
  rw [← bind (u := p.1.on s) hv b1 hs]
  constructor
  ·rintro ⟨k1, k2⟩
   exact ⟨k1, by rw [e1 k1, e2 k1]; exact k2.symm⟩
  ·rintro ⟨k1, k2⟩
   exact ⟨k1, by rw [e1 k1, e2 k1] at k2; exact k2.symm⟩
 rename_i hv1 hv2
 split at hs
 ·rename_i heq
  cases hs
  rw [PZ heq.2]
  constructor
  ·rintro ⟨k1, k2⟩
   refine ⟨k1, ?_⟩
   rw [← e1 k1, ← e2 k1, IX hθ hv1, IX hθ hv2] at k2
   injection k2
  ·rintro ⟨k1, k2⟩
   refine ⟨k1, ?_⟩
   rw [← e1 k1, ← e2 k1, IX hθ hv1, IX hθ hv2, k2, heq.1]
 ·cases hs
theorem Ts {s : List Bd} {p : Pr} {e : Int} (h : CB s p = .err e) : e ≠ 0 := by
 have hb : ∀ {x : ByteArray} {t : Tm}, DX s x t = .err e → e ≠ 0 := by
  intro x t hb
  unfold DX at hb
  split at hb
  ·cases hb; decide
  split at hb
  ·cases hb
  ·cases hb; decide
 unfold CB at h
 split at h
 ·cases h; decide
 split at h
 ·cases h
 split at h
 ·exact hb h
 split at h
 ·exact hb h
 split at h
 ·cases h
 ·cases h; decide
theorem Sc {s : List Bd} (hn : Ba s) (hi : ∀ b ∈ s, It s b.2) : Sol s s := fun b hb => by
 rw [T6 (hi b hb), Tm.on_leaf (t := vT b.1) ((N9 hn).2 (by exact hb)) rfl]
theorem Jz {U : List ByteArray} {C : Nat} {n : Nat} {s : List Bd} {l : List Pr} {r : List Bd × Int} (hr : Cq n s l r) : CN U C s l → r.2 = 0 → CN U C r.1 [] ∧ Sol s r.1 ∧ ∀ p ∈ l, p.1.on r.1 = p.2.on r.1 := by
 induction hr with
 | nil => exact fun h _ => ⟨h, Sc (Cc h.ord) h.idem, fun p hp => by cases hp⟩
 | err he => exact fun _ h0 => absurd h0 (Ts he)
 | @go s p l s' ps n r hst hr ih =>
  intro h h0
  obtain ⟨h', _⟩ := Fg h hst
  obtain ⟨q0, q1, q2⟩ := ih h' h0
  obtain ⟨k1, k2⟩ := (SE h q0.var hst).2 ⟨q1, fun q hq => q2 q (by simp [hq])⟩
  refine ⟨q0, k1, fun q hq => ?_⟩
  rcases List.mem_cons.1 hq with rfl | hq
  ·exact k2
  ·exact q2 q (by simp [hq])

section
variable {T : List (ByteArray × ByteArray)}
end
def EQ (c : UInt8) (k : Nat) : ByteArray := ⟨#[c]⟩ ++ Mu k
theorem GP (c : UInt8) (k : Nat) : (EQ c k).data.toList = c :: Lib.decDigits k := by
 unfold EQ Mu
 simp
theorem SR (c : UInt8) (k : Nat) : Ac (EQ c k) 0 = (c.toNat : Int) := by
 unfold Ac
 rw [GP]
 rfl
theorem OM (c : UInt8) (k : Nat) : (EQ c k).size = 1 + Lib.nDigits k := by
 have : (EQ c k).size = (EQ c k).data.toList.length := by
  show (EQ c k).data.size = _
  rw [Array.length_toList]
 rw [this, GP, List.length_cons, Lib.decDigits_length]
 omega
theorem Ra {c : UInt8} (h1 : 65 ≤ c.toNat) (h2 : c.toNat ≤ 90) {k : Nat} (h : k < 1000000) : A0 (EQ c k) = true := by
 have h6 := Lr (u := k) (k := 6) (by omega) (by omega)
 unfold A0
 rw [SR, OM, decide_eq_true (show 1 ≤ 1 + Lib.nDigits k by omega), decide_eq_true (show 1 + Lib.nDigits k ≤ 8 by omega), decide_eq_false (show ¬ ((c.toNat : Int) ≤ 57) by omega)]
 have : Bi (EQ c k) (1 + Lib.nDigits k) = true := by
  unfold Bi
  rw [GP]
  refine List.all_eq_true.2 fun d hd => ?_
  have hd := List.mem_of_mem_take hd
  rcases List.mem_cons.1 hd with rfl | hd
  ·unfold A7
   rw [decide_eq_true (show 65 ≤ (d.toNat : Int) ∧ (d.toNat : Int) ≤ 90 by omega)]
   simp
  ·have := FX _ d hd
   unfold A7
   rw [decide_eq_true (show 48 ≤ (d.toNat : Int) ∧ (d.toNat : Int) ≤ 57 by omega), Bool.or_true]
 rw [this]
 simp
def nmB (c : UInt8) : Nat → List ByteArray → List Bd
 | _, [] => []
 | k, n :: l => (n, .mk (EQ c k) []) :: nmB c (k + 1) l
theorem M_ (c : UInt8) : ∀ (l : List ByteArray) (k : Nat) (n : ByteArray), nmB c k (l ++ [n]) = nmB c k l ++ [(n, .mk (EQ c (k + l.length)) [])]
 | [], k, n => by simp [nmB]
 | x :: l, k, n => by
  rw [List.cons_append, nmB, M_ c l (k + 1) n, nmB, List.cons_append, List.length_cons, show k + 1 + l.length = k + (l.length + 1) by omega]
theorem Lz (c : UInt8) : ∀ (l : List ByteArray) (k : Nat), (nmB c k l).length = l.length
 | [], _ => rfl
 | n :: l, k => by rw [nmB, List.length_cons, List.length_cons, Lz c l]
theorem HY (c : UInt8) : ∀ (l : List ByteArray) (k : Nat), (nmB c k l).map (·.1) = l
 | [], _ => rfl
 | n :: l, k => by rw [nmB, List.map_cons, HY c l]
def HN (c : UInt8) (k : Nat) (r : Pr) : Pr := (r.1.on (nmB c k r.1.varsOf), r.2.on (nmB c k r.1.varsOf))

theorem QV : ∀ {n m : Nat} {s : List Bd} {l : List Pr} {r r' : List Bd × Int}, Cq n s l r → Cq m s l r' → r = r' := by
 intro n m s l r r' h
 induction h generalizing m with
 | nil =>
  intro k
  cases k
  rfl
 | err he =>
  intro k
  cases k with
  | err h2 =>
   rw [he] at h2
   cases h2
   rfl
  | go h2 _ =>
   rw [he] at h2
   cases h2
 | go hg hr ih =>
  intro k
  cases k with
  | err h2 =>
   rw [hg] at h2
   cases h2
  | go h2 h3 =>
   rw [hg] at h2
   cases h2
   exact ih h3
noncomputable def H7 (l : List Pr) : List Bd × Int := open Classical in if h : ∃ r n, Cq n [] l r then h.choose else ([], 0)
theorem PU {n : Nat} {l : List Pr} {r : List Bd × Int} (h : Cq n [] l r) : H7 l = r := by
 unfold H7
 have hx : ∃ r n, Cq n [] l r := ⟨r, n, h⟩
 rw [dif_pos hx]
 obtain ⟨m, hm⟩ := hx.choose_spec
 exact QV hm h
section
variable {f : ByteArray → ByteArray}
end
def Hb (l r : Tm) : Pr := ((l.cn []).1, (r.cn (l.cn []).2).1)
noncomputable def DI (a b : Pr) (same : Bool) (p : List Int) : Option (List Pr) := match a.1.atP p with
 | none => some []
 | some x => if AQ x.name = true ∨ (same = true ∧ p = []) then some []
  else if (H7 [(x, b.1)]).2 = 8 then none
  else if (H7 [(x, b.1)]).2 ≠ 0 then some []
  else if (BH (H7 [(x, b.1)]).1 a.2).2 = true ∧ (BH (H7 [(x, b.1)]).1 (a.1.putP p b.2)).2 = true then some [Hb (BH (H7 [(x, b.1)]).1 a.2).1 (BH (H7 [(x, b.1)]).1 (a.1.putP p b.2)).1]
  else none
theorem Gt {x y : Tm} (hx : x.may = 0) (hy : y.may = 0) : B_ [(x, y)] = 0 := by
 simp [B_, BD, Bm, hx, hy]
theorem Lq {t : Tm} (hc : t.chk = 0) (hz : t.size ≤ 200) : t.may = 0 := by
 unfold Tm.may
 rw [if_neg (by omega), hc]
noncomputable def EG (a b : Pr) (same : Bool) : List (List Int) → Option (List Pr)
 | [] => some []
 | p :: ps => match DI a b same p with
  | none => none
  | some x => (EG a b same ps).map (x ++ ·)
noncomputable def TL (a b : Pr) (same : Bool) : Option (List Pr) := EG a b same a.1.places
theorem Nx {U : List ByteArray} {C : Nat} {n : Nat} {s : List Bd} {l : List Pr} {r : List Bd × Int} (hr : Cq n s l r) : CN U C s l → r.2 = 0 → CN U C r.1 [] := fun h h0 => (Jz hr h h0).1
theorem Kw {l : List Pr} (h : B_ l = 0) (h0 : (H7 l).2 = 0) : CN (Fs l) 100000000000 (H7 l).1 [] := by
 obtain ⟨_, hg⟩ := Ck h
 obtain ⟨n, r, hr⟩ := Kc _ _ _ _ hg rfl rfl
 rw [PU hr] at h0 ⊢
 exact Nx hr hg h0
theorem JW : ∀ (p : List Int) (t x : Tm), t.chk = 0 → x.chk = 0 → (t.putP p x).chk = 0
 | [], t, x, _, hx => by rw [Tm.putP_nil]; exact hx
 | i :: p, t, x, ht, hx => by
  rw [Tm.putP_cons]
  split
  ·rename_i a ha
   have hl := (List.getElem?_eq_some_iff.1 ha).1
   refine O3 (n := t.name) (xs := t.args) (by cases t; exact ht) hl ?_
   exact JW p a x ((Tm.chk_args ht).2 a (List.mem_of_getElem? ha)) hx
  ·exact ht
theorem M1 {s : List Bd} (hs : ∀ b ∈ s, b.2.chk = 0) {t : Tm} (hc : t.chk = 0) (h : (BH s t).2 = true) : (BH s t).1.chk = 0 := by
 unfold BH at h ⊢
 split
 ·exact Jf hs hc
 ·rename_i hn
  rw [if_neg hn] at h
  cases h
theorem GR : ∀ (l : List ByteArray) (k : Nat) {b : Bd}, b ∈ EA k l → ∃ j, j < k + l.length ∧ b.2 = Ja j
 | [], k, b, h => by simp [EA] at h
 | n :: l, k, b, h => by
  rw [EA] at h
  rcases List.mem_cons.1 h with rfl | h
  ·exact ⟨k, by simp, rfl⟩
  ·obtain ⟨j, h1, h2⟩ := GR l (k + 1) h
   exact ⟨j, by rw [List.length_cons]; omega, h2⟩
theorem Lj (c : UInt8) : ∀ (l : List ByteArray) (k : Nat) {b : Bd}, b ∈ nmB c k l → ∃ j, j < k + l.length ∧ b.2 = .mk (EQ c j) []
 | [], k, b, h => by simp [nmB] at h
 | n :: l, k, b, h => by
  rw [nmB] at h
  rcases List.mem_cons.1 h with rfl | h
  ·exact ⟨k, by simp, rfl⟩
  ·obtain ⟨j, h1, h2⟩ := Lj c l (k + 1) h
   exact ⟨j, by rw [List.length_cons]; omega, h2⟩
theorem PH {s : List Bd} (hs : ∀ b ∈ s, b.2.size = 1) (t : Tm) : (t.on s).size = t.size := by
 induction hN : SizeOf.sizeOf t using Nat.strongRecOn generalizing t with
 | _ N ih =>
 subst hN
 have key : (Tm.mk t.name (t.args.map (Tm.on s))).size = t.size := by
  rw [Tm.size_eq, Tm.size_eq t]
  show 1 + Tm.sizes (t.args.map (Tm.on s)) = _
  have : ∀ l : List Tm, (∀ a ∈ l, (a.on s).size = a.size) → Tm.sizes (l.map (Tm.on s)) = Tm.sizes l := fun l h => by
   induction l with
   | nil => rfl
   | cons a l ih2 =>
    rw [List.map_cons, Tm.sizes, Tm.sizes, h a (by simp), ih2 fun b hb => h b (List.mem_cons_of_mem _ hb)]
  rw [this _ fun a ha => ih _ (Tm.lt_of_arg ha) a rfl]
 by_cases h0 : t.args = []
 ·cases hl : lookup s t.name with
  | some x =>
   obtain ⟨b, hb, _, rfl⟩ := Cl hl
   rw [Tm.on_leaf hl h0, hs b hb, Tm.size_eq t, h0]
   rfl
  | none => rw [Tm.on_knot (.inl hl)]; exact key
 ·rw [Tm.on_knot (.inr h0)]
  exact key
theorem RX {t : Tm} (hc : t.chk = 0) {l : List ByteArray} (hl : ∀ n ∈ (t.cn l).2, AQ n = true) (hk : (t.cn l).2.length < 900000) : (t.cn l).1.chk = 0 := by
 rw [Rh t hc l _ hl ⟨[], by simp⟩]
 refine Jf (fun b hb => ?_) hc
 obtain ⟨j, h1, h2⟩ := GR _ _ hb
 rw [h2]
 exact QJ (by omega)
def H8 (cr : Nat → Nat → Option (List Pr)) : List (Nat × Nat) → List Pr → List Pr × Int
 | [], acc => (acc, 0)
 | q :: l, acc => match cr q.1 q.2 with
  | none => ([], 8)
  | some x => if 400 < (acc ++ x).length then ([], 3) else H8 cr l (acc ++ x)
def Fw (n i j : Nat) : List (Nat × Nat) := (List.range' j (n - j)).map (fun j => (i, j)) ++ (List.range' (i + 1) (n - (i + 1))).flatMap fun i => (List.range' 0 n).map fun j => (i, j)
theorem Tg {n i j : Nat} (h : j < n) : Fw n i j = (i, j) :: Fw n i (j + 1) := by
 unfold Fw
 rw [show n - j = (n - (j + 1)) + 1 by omega, List.range'_succ]
 rfl
theorem Qw {n i : Nat} (h : i + 1 < n) : Fw n i n = Fw n (i + 1) 0 := by
 unfold Fw
 rw [Nat.sub_self, show n - (i + 1) = (n - (i + 1 + 1)) + 1 by omega, List.range'_succ, List.flatMap_cons, Nat.sub_zero]
 rfl
theorem R9 {n i : Nat} (h : n ≤ i + 1) : Fw n i n = [] := by
 unfold Fw
 rw [Nat.sub_self, show n - (i + 1) = 0 by omega]
 rfl
noncomputable def crR (R : List Pr) (c d : UInt8) (k : Nat) (i j : Nat) : Option (List Pr) := match R[i]?, R[j]? with
 | some a, some b => TL (HN c k a) (HN d k b) (decide (i = j))
 | _, _ => none
noncomputable def Cy (R : List Pr) (c d : UInt8) (k : Nat) : List Pr × Int := if R.length = 0 then ([], 0) else H8 (crR R c d k) (Fw R.length 0 0) []
theorem EZ {c : UInt8} (h1 : 65 ≤ c.toNat) (h2 : c.toNat ≤ 90) {k : Nat} (hk : k ≤ 1) {t : Tm} {V : List ByteArray} (hV : V.length ≤ 1000) (ht : t.chk = 0) : (t.on (nmB c k V)).chk = 0 ∧ (t.on (nmB c k V)).size = t.size := by
 refine ⟨Jf (fun b hb => ?_) ht, PH (fun b hb => ?_) t⟩
 ·obtain ⟨j, q1, q2⟩ := Lj c V k hb
  rw [q2]
  exact Mx (Ra h1 h2 (by omega))
 ·obtain ⟨j, q1, q2⟩ := Lj c V k hb
  rw [q2]
  rfl

set_option maxRecDepth 100000
def Fx : IR :=
 (.seq (.ops [.i 2 (.box 32 (.t 0)), .i 3 (.box 32 (.t 1)), .i 4 (.mov (.n 0))]) (.seq (.seq (.ops [.L 6 2 2, .i 7 (.call 15 [.t 6]), .m 5 7]) (.seq (.ops [.m 8 5, .i 9 (.bin .neq (.t 8) (.n 0))]) (.cond (.t 9) (.seq (.ops [.m 10 5, .m 4 10]) .ret) .skip))) (.seq (.ops [.L 11 2 3, .i 12 (.call 15 [.t 11]), .m 4 12]) .ret)))
theorem J0 : OkF Tryd.prog 20 13 [] Fx [.t 4] := .of Tryd.func20 rfl rfl (by kernel_rfl) rfl

theorem OI (a b : Tm) : Aa Tryd.prog 20 [aTm a, aTm b] (AR (Bm a b)) := by
 refine J0.ac fun C hC => ?_
 unfold Fx
 repeat' with_reducible first | refine W ?_ | refine Z0 ?_ | ((first | refine Wo fun K hK => ?_ | refine Wp ?_ | refine Wq ?_ | refine Wr ?_); (try simp only [go_sem, fN, seval, eT, iR, dT, dF, nL]); (repeat refine Ai ?_); (try (refine hK _ ?_; clear hK K)); try refine iC ?_)
 refine ⟨_, Cv a, ?_⟩
 by_cases h : a.may = 0
 ·repeat' (first | (with_reducible first | refine W ?_ | refine Z0 ?_ | ((first | refine Wo fun K hK => ?_ | refine Wp ?_ | refine Wq ?_ | refine Wr ?_); (try simp only [go_sem, fN, seval, eT, iR, h, dT, dF, nL]); (repeat refine Ai ?_); (try (refine hK _ ?_; clear hK K)); try refine iC ?_)) | refine Cg _ (Cv b) ?_)
  simp only [go_sem, fN, seval, AO, AS.result, AB, AD, AI]
  unfold Bm
  rw [if_pos h]
 ·repeat' with_reducible first | refine W ?_ | refine Z0 ?_ | ((first | refine Wo fun K hK => ?_ | refine Wp ?_ | refine Wq ?_ | refine Wr ?_); (try simp only [go_sem, fN, seval, eT, iR, h, dT, dF, nL]); (repeat refine Ai ?_); (try (refine hK _ ?_; clear hK K)); try refine iC ?_)
  simp only [go_sem, fN, seval, AO, AS.result, AB, AD, AI]
  unfold Bm
  rw [if_neg h]

def Ex : IR :=
 (.seq (.ops [.i 2 (.mov (.c (.one (.st (.str (ByteArray.mk (#[])))))))]) (.seq (.ops [.m 3 0, .i 4 (.bin .add (.t 3) (.n 1)), .i 5 (.call 46 [.t 4]), .i 6 (.bin .add (.c (.one (.st (.str (ByteArray.mk (#[90])))))) (.t 5)), .m 2 6]) .ret))
theorem H5 : OkF Tryd.prog 52 7 [] Ex [.t 2] := .of Tryd.func52 rfl rfl (by kernel_rfl) rfl

theorem Tt {σ : Sto} {vs : List Value} {x : AV} (h : Ab (AN σ noS noH) vs [x]) : ∃ v, vs = [v] ∧ AN σ noS noH v x := by
 cases h with
 | cons h1 h2 =>
  cases h2
  exact ⟨_, rfl, h1⟩
theorem R5 (n : Nat) (hn : n < 1000000) : Aa Tryd.prog 46 [AR n] (Bg (Mu n)) := by
 intro σ w vs hG hF hv
 obtain ⟨v, rfl, h1⟩ := Tt hv
 obtain ⟨rfl, hin⟩ := BE h1
 have ht : Lib.TabIs Tryd.prog w "internal/strconv.uint64pow10" .u64 Lib.pow10Tab := hG.ints hF (g := 0) (by kernel_rfl) (by kernel_rfl)
 refine (Any.strconv_Itoa Tryd.laysM171 n (by omega) (by omega) w ht).mono fun e w' ⟨he, k, os, hw⟩ => ?_
 have hb : Below w.heap.size w w' := by
  rw [hw]
  exact Lib.below_grow _ _ (Nat.le_refl _) _ _
 have hd : (⟨(Lib.itoa (n : Int)).toArray⟩ : ByteArray) = Mu n := by rw [Lib.itoa_nonneg]; rfl
 rw [hd] at he
 refine ⟨_, σ, he, .one (.st (.str ?_)), hF.below hb, Ext.refl _ _, hb⟩
 have := En hn
 rw [Fl]
 omega
theorem Pz (k : Nat) (hk : k + 1 < 1000000) : Aa Tryd.prog 52 [AR k] (Bg (Cp k)) := by
 have h := R5 (k + 1) hk
 rw [show (((k + 1 : Nat) : Int)) = (k : Int) + 1 by omega] at h
 have z := En hk
 have z1 : (⟨#[90]⟩ : ByteArray).size = 1 := rfl
 refine H5.ac fun C hC => ?_
 unfold Ex
 repeat' (first | (with_reducible first | refine W ?_ | refine Z0 ?_ | ((first | refine Wo fun K hK => ?_ | refine Wp ?_ | refine Wq ?_ | refine Wr ?_); (try simp only [go_sem, fN, seval, eT, iR, z1, dT, dF, nL]); (repeat refine Ai ?_); (try (refine hK _ ?_; clear hK K)); try refine iC ?_)) | refine Cg _ (h) ?_)
 simp only [go_sem, fN, seval, AO, AS.result, AB, AD, AI]
 rfl

def AY : IR :=
 (.seq (.ops [.i 6 (.mov (.c (.one (.st (.bool false)))))]) (.seq (.seq (.ops [.m 10 0, .i 11 (.len false (.t 10)), .m 12 1, .i 13 (.len false (.t 12)), .i 14 (.bin .neq (.t 11) (.t 13))]) (.cond (.t 14) (.seq (.ops [.i 6 (.mov (.c (.one (.st (.bool false)))))]) .ret) .skip)) (.seq (.seq (.ops [.m 15 0, .i 16 (.len false (.t 15)), .i 17 (.mov (.n 0))]) (.block 0 (.loop (.seq (.ops [.i 18 (.bin .lss (.t 17) (.t 16))]) (.seq (.cond (.t 18) .skip (.exit 0)) (.seq (.block 1 (.seq (.ops [.m 19 17, .i 20 (.indexAddr 2 (.t 15) (.t 17)), .L 21 2 20, .i 8 (.alloc 32 [.st (.str (ByteArray.mk (#[]))), .full []]), .m 7 19, .s 2 8 21]) (.seq (.ops [.m 22 1, .m 23 7, .i 24 (.indexAddr 2 (.t 22) (.t 23)), .L 25 2 24, .i 9 (.alloc 32 [.st (.str (ByteArray.mk (#[]))), .full []]), .s 2 9 25]) (.seq (.ops [.m 26 2, .L 27 2 8, .L 28 2 9, .i 29 (.callV (.t 26) [.t 27, .t 28]), .i 30 (.un .not (.t 29))]) (.cond (.t 30) (.seq (.ops [.i 6 (.mov (.c (.one (.st (.bool false)))))]) .ret) .skip))))) (.ops [.i 31 (.bin .add (.t 17) (.n 1)), .m 17 31]))))))) (.seq (.ops [.i 6 (.mov (.c (.one (.st (.bool true)))))]) .ret))))
theorem An : OkF Tryd.prog 55 32 [] AY [.t 6] := .of Tryd.func55 rfl rfl (by kernel_rfl) rfl
def Gr : IR :=
 (.seq (.ops [.i 2 (.box 32 (.t 0)), .i 3 (.box 32 (.t 1)), .i 4 (.mov (.c (.one (.st (.bool false)))))]) (.seq (.ops [.f 5 0 2, .l 6 5, .f 7 0 3, .l 8 7, .i 9 (.bin .eql (.t 6) (.t 8)), .m 10 9, .mk (some 11) (some (10, true)) (.fieldAddr 1 (.t 2)) .no, .mk (some 12) (some (10, true)) (.load false 1 (.t 11)) .no, .mk (some 13) (some (10, true)) (.fieldAddr 1 (.t 3)) .no, .mk (some 14) (some (10, true)) (.load false 1 (.t 13)) .no, .mk (some 15) (some (10, true)) (.call 55 [.t 12, .t 14, .c (.one (.fn 34 []))]) .no, .i 16 (.pick (.t 10) (.t 15) (.c (.one (.st (.bool false))))), .m 4 16]) .ret))
theorem Ld : OkF Tryd.prog 34 17 [] Gr [.t 4] := .of Tryd.func34 rfl rfl (by kernel_rfl) rfl

theorem Tm.beqL_no {xs ys : List Tm} (h : xs ≠ ys) : Tm.beqL xs ys = false := by
 rw [← Bool.not_eq_true, Tm.beqL_iff]
 exact h
theorem M7 (xs ys : List Tm) (ih : ∀ x ∈ xs, ∀ y, Aa Tryd.prog 34 [aTm x, aTm y] (Af (x.beq y))) :
  Aa Tryd.prog 55 [HX xs, HX ys, .one (.fn 34 [])] (Af (Tm.beqL xs ys)) := by
 have hplain : Bu Tryd.prog 34 = true := by kernel_rfl
 refine An.ac fun C hC => ?_
 unfold AY
 refine IWP.learn 0 (by omega) fun hkn => ?_
 have hkx := HA hkn
 rw [List.length_map] at hkx
 by_cases hl : xs.length = ys.length
 ·have hl' : (xs.length : Int) = ys.length := by omega
  repeat' with_reducible first | refine W ?_ | refine Z0 ?_ | ((first | refine Wo fun K hK => ?_ | refine Wp ?_ | refine Wq ?_ | refine Wr ?_); (try simp only [go_sem, fN, seval, eT, iR, hl', dT, dF, nL]); (repeat refine Ai ?_); (try (refine hK _ ?_; clear hK K)); try refine iC ?_)
  refine IWP.loopD [8, 9] (fun n s => ∃ k, k ≤ xs.length ∧ n = xs.length - k ∧ xs.take k = ys.take k ∧ s.env 1 = HX ys ∧ s.env 2 = .one (.fn 34 []) ∧ s.env 15 = HX xs ∧ s.env 16 = AR xs.length ∧ s.env 17 = AR k ∧ s.S 8 = none ∧ s.S 9 = none) xs.length ⟨0, Nat.zero_le _, rfl, rfl, rfl, rfl, rfl, by simp only [go_sem, fN, seval, eT, iR, hl'], rfl, rfl, rfl⟩ ?_
  rintro n ⟨env, S⟩ ⟨k, hk, rfl, h0, e1, e2, e15, e16, e17, s8, s9⟩
  simp only at e1 e2 e15 e16 e17 s8 s9
  by_cases hlt : (k : Int) < xs.length
  ·obtain ⟨x, hx⟩ := Ao (show k < xs.length by omega)
   obtain ⟨y, hy⟩ := Ao (show k < ys.length by omega)
   repeat' with_reducible first | refine W ?_ | refine Z0 ?_ | ((first | refine Wo fun K hK => ?_ | refine Wp ?_ | refine Wq ?_ | refine Wr ?_); (try simp only [go_sem, fN, seval, eT, iR, e1, e2, e15, e16, e17, s8, s9, hlt, hx, hy, hplain, dT, dF, nL]); (repeat refine Ai ?_); (try (refine hK _ ?_; clear hK K)); try refine iC ?_)
   refine ⟨_, _, (ih x (AW hx) y).toS rfl, ?_⟩
   cases hxy : x.beq y with
   | false =>
    repeat' with_reducible first | refine W ?_ | refine Z0 ?_ | ((first | refine Wo fun K hK => ?_ | refine Wp ?_ | refine Wq ?_ | refine Wr ?_); (try simp only [go_sem, fN, seval, eT, iR, hxy, dT, dF, nL]); (repeat refine Ai ?_); (try (refine hK _ ?_; clear hK K)); try refine iC ?_)
    simp only [go_sem, fN, seval, AO, AS.result, AB, AD, AI]
    rw [Tm.beqL_no fun e => by
     subst e
     rw [hx] at hy
     cases hy
     rw [Tm.beq_refl] at hxy
     cases hxy]
   | true =>
    have hxy' := (Tm.beq_iff x y).1 hxy
    repeat' with_reducible first | refine W ?_ | refine Z0 ?_ | ((first | refine Wo fun K hK => ?_ | refine Wp ?_ | refine Wq ?_ | refine Wr ?_); (try simp only [go_sem, fN, seval, eT, iR, hxy, e1, e2, e15, e16, e17, s8, s9, dT, dF, nL]); (repeat refine Ai ?_); (try (refine hK _ ?_; clear hK K)); try refine iC ?_)
    refine AG ⟨xs.length - (k + 1), by omega, k + 1, by omega, rfl, ?_, ?_⟩
    ·rw [Aq hx, Aq hy, h0, hxy']
    ·simp only [go_sem, fN, seval, AS.drop, Ap, AC.clears, AC.clear, AC.highs, AC.high, Bool.not_false, Bool.true_and, Bool.and_self, AV.purge, AV.purges, AC.purge, AJ.purge, List.contains_cons, List.contains_nil, Nat.reduceBEq, Bool.or_self, Bool.or_false, Bool.false_or, Bool.or_true, eT, iR, e1, e2, e15, e16, e17, s8, s9]
     congr 3
  ·repeat' with_reducible first | refine W ?_ | refine Z0 ?_ | ((first | refine Wo fun K hK => ?_ | refine Wp ?_ | refine Wq ?_ | refine Wr ?_); (try simp only [go_sem, fN, seval, eT, iR, e1, e2, e15, e16, e17, hlt, dT, dF, nL]); (repeat refine Ai ?_); (try (refine hK _ ?_; clear hK K)); try refine iC ?_)
   simp only [go_sem, fN, seval, AO, AS.result, AB, AD, AI]
   rw [List.take_of_length_le (by omega), List.take_of_length_le (by omega)] at h0
   rw [(Tm.beqL_iff xs ys).2 h0]
 ·have hl' : ¬ (xs.length : Int) = ys.length := by omega
  repeat' with_reducible first | refine W ?_ | refine Z0 ?_ | ((first | refine Wo fun K hK => ?_ | refine Wp ?_ | refine Wq ?_ | refine Wr ?_); (try simp only [go_sem, fN, seval, eT, iR, hl', dT, dF, nL]); (repeat refine Ai ?_); (try (refine hK _ ?_; clear hK K)); try refine iC ?_)
  simp only [go_sem, fN, seval, AO, AS.result, AB, AD, AI]
  rw [Tm.beqL_no fun e => hl (by rw [e])]
theorem SG (a b : Tm) : Aa Tryd.prog 34 [aTm a, aTm b] (Af (a.beq b)) := by
 induction h : SizeOf.sizeOf a using Nat.strongRecOn generalizing a b with
 | _ N ih =>
 subst h
 have hE := M7 a.args b.args fun x hx y => ih _ (Tm.lt_of_arg hx) x y rfl
 have he : a.beq b = (decide (a.name = b.name) && Tm.beqL a.args b.args) := by cases a; cases b; rfl
 refine Ld.ac fun C hC => ?_
 unfold Gr
 by_cases hn : a.name = b.name
 ·repeat' (first | (with_reducible first | refine W ?_ | refine Z0 ?_ | ((first | refine Wo fun K hK => ?_ | refine Wp ?_ | refine Wq ?_ | refine Wr ?_); (try simp only [go_sem, fN, seval, eT, iR, hn, dT, dF, nL]); (repeat refine Ai ?_); (try (refine hK _ ?_; clear hK K)); try refine iC ?_)) | refine Cg _ (hE) ?_)
  simp only [go_sem, fN, seval, AO, AS.result, AB, AD, AI]
  rw [he, decide_eq_true hn]
  rfl
 ·repeat' with_reducible first | refine W ?_ | refine Z0 ?_ | ((first | refine Wo fun K hK => ?_ | refine Wp ?_ | refine Wq ?_ | refine Wr ?_); (try simp only [go_sem, fN, seval, eT, iR, hn, dT, dF, nL]); (repeat refine Ai ?_); (try (refine hK _ ?_; clear hK K)); try refine iC ?_)
  simp only [go_sem, fN, seval, AO, AS.result, AB, AD, AI]
  rw [he, decide_eq_false hn]
  rfl




def Dk : IR :=
 (.seq (.ops [.i 3 (.box 32 (.t 0)), .i 4 (.alloc 32 [.st (.str (ByteArray.mk (#[]))), .full []])]) (.seq (.seq (.ops [.f 8 0 3, .l 9 8, .i 10 (.call 21 [.t 9])]) (.cond (.t 10) (.seq (.seq (.ops [.l 11 1, .f 12 0 3, .l 13 12, .i 14 (.lookup none false (.one (.st (.str (ByteArray.mk (#[]))))) (.t 11) (.t 13)), .i 15 (.bin .eql (.t 14) (.c (.one (.st (.str (ByteArray.mk (#[])))))))]) (.cond (.t 15) (.ops [.l 16 1, .f 17 0 3, .l 18 17, .l 19 1, .i 20 (.lenM (.t 19)), .i 21 (.call 52 [.t 20]), .mk none none (.mapSet none (.t 16) (.t 18) (.t 21)) .no]) .skip)) (.seq (.ops [.l 22 1, .f 23 0 3, .l 24 23, .i 25 (.lookup none false (.one (.st (.str (ByteArray.mk (#[]))))) (.t 22) (.t 24)), .i 26 (.build [.st (.str (ByteArray.mk (#[]))), .full []] [(0, 1, .t 25)]), .s 2 4 26]) .ret)) .skip)) (.seq (.ops [.f 27 0 3, .l 28 27, .i 29 (.build [.st (.str (ByteArray.mk (#[]))), .full []] [(0, 1, .t 28)]), .i 5 (.alloc 32 [.st (.str (ByteArray.mk (#[]))), .full []]), .s 2 5 29]) (.seq (.seq (.ops [.f 30 1 3, .l 31 30, .i 32 (.len false (.t 31)), .i 33 (.mov (.n 0))]) (.block 0 (.loop (.seq (.ops [.i 34 (.bin .lss (.t 33) (.t 32))]) (.seq (.cond (.t 34) .skip (.exit 0)) (.seq (.block 1 (.seq (.ops [.i 35 (.indexAddr 2 (.t 31) (.t 33)), .L 36 2 35, .i 7 (.alloc 32 [.st (.str (ByteArray.mk (#[]))), .full []]), .s 2 7 36]) (.ops [.mk (some 37) none (.fieldAddr 1 (.t 5)) (.onb 5), .mk (some 38) none (.load false 1 (.t 37)) (.onb 5), .l 39 2, .L 40 2 7, .mk (some 41) none (.callV (.t 39) [.t 40]) (.keeps [5, 5]), .i 42 (.buildSlice false 32 2 [.t 41]), .i 43 (.append false 32 2 40 (.t 38) (.t 42)), .f 44 1 5, .s 1 44 43]))) (.ops [.i 45 (.bin .add (.t 33) (.n 1)), .m 33 45]))))))) (.seq (.ops [.L 46 2 5, .s 2 4 46]) .ret)))))
theorem GN : OkF Tryd.prog 51 47 [41] Dk [.cell 4 true 2] := .of Tryd.func51 rfl rfl (by kernel_rfl) rfl
def EC : IR :=
 (.seq (.ops [.i 2 (.mov (.c (.one (.full []))))]) (.seq (.ops [.i 8 (.makeMap none), .i 3 (.alloc 90 [.st (.lit (.map none))]), .s 1 3 8]) (.seq (.ops [.i 4 (.alloc 89 [.st (.lit .nilFunc)])]) (.seq (.ops [.i 9 (.makeFunc 51 [.t 3, .t 4]), .s 1 4 9]) (.seq (.ops [.i 5 (.mov (.c (.one (.full []))))]) (.seq (.seq (.ops [.m 10 0, .i 11 (.len false (.t 10)), .i 12 (.mov (.n 0))]) (.block 0 (.loop (.seq (.ops [.i 13 (.bin .lss (.t 12) (.t 11))]) (.seq (.cond (.t 13) .skip (.exit 0)) (.seq (.block 1 (.seq (.ops [.i 14 (.indexAddr 2 (.t 10) (.t 12)), .L 15 2 14, .i 7 (.alloc 32 [.st (.str (ByteArray.mk (#[]))), .full []]), .s 2 7 15]) (.ops [.m 16 5, .l 17 4, .L 18 2 7, .i 19 (.callV (.t 17) [.t 18]), .i 20 (.buildSlice false 32 2 [.t 19]), .i 21 (.append false 32 2 40 (.t 16) (.t 20)), .m 5 21]))) (.ops [.i 22 (.bin .add (.t 12) (.n 1)), .m 12 22]))))))) (.seq (.ops [.m 23 5, .m 2 23]) .ret)))))))
theorem HR : OkF Tryd.prog 32 24 [19] EC [.t 2] := .of Tryd.func32 rfl rfl (by kernel_rfl) rfl

def EK (k : Nat) : List ByteArray → List (KV × AV)
 | [] => []
 | n :: l => (.s n, Bg (Cp k)) :: EK (k + 1) l
abbrev TU (l : List ByteArray) : AJ := .map none (EK 0 l)
theorem MN : ∀ (l : List ByteArray) (k : Nat), (EK k l).length = l.length
 | [], _ => rfl
 | n :: l, k => by rw [EK, List.length_cons, List.length_cons, MN l]
theorem HQ : ∀ (l : List ByteArray) (k : Nat) (n : ByteArray), DT (EK k l) (.s n) = if Bc l n < l.length then some (Bg (Cp (k + Bc l n))) else none
 | [], k, n => by simp [EK, DT, Bc]
 | x :: l, k, n => by
  rw [EK, DT, Bc]
  by_cases e : x = n
  ·rw [if_pos (congrArg KV.s e), if_pos e]
   simp
  ·rw [if_neg (fun h => e (KV.s.inj h)), if_neg e, HQ l (k + 1) n, List.length_cons]
   by_cases h : Bc l n < l.length
   ·rw [if_pos h, if_pos (by omega), show k + 1 + Bc l n = k + (Bc l n + 1) by omega]
   ·rw [if_neg h, if_neg (by omega)]
theorem LJ : ∀ {l : List ByteArray} {k : Nat} {n : ByteArray}, ¬ Bc l n < l.length → ∀ v, IA (EK k l) (.s n) v = EK k l ++ [(.s n, v)]
 | [], k, n, h, v => rfl
 | x :: l, k, n, h, v => by
  rw [Bc] at h
  by_cases e : x = n
  ·rw [if_pos e] at h; simp at h
  ·rw [if_neg e] at h
   rw [EK, IA, if_neg (fun h => e (KV.s.inj h)), LJ (by simpa using h), List.cons_append]
theorem KX : ∀ (l : List ByteArray) (k : Nat) (n : ByteArray), EK k (l ++ [n]) = EK k l ++ [(.s n, Bg (Cp (k + l.length)))]
 | [], k, n => by simp [EK]
 | x :: l, k, n => by
  rw [List.cons_append, EK, KX l (k + 1) n, EK, List.cons_append, List.length_cons, show k + 1 + l.length = k + (l.length + 1) by omega]
theorem RO (k : Nat) : ¬ Cp k = ⟨#[]⟩ := fun h => by
 have h1 := JZ k
 rw [h] at h1
 have : (⟨#[]⟩ : ByteArray).size = 0 := rfl
 omega
theorem Oi {l : List ByteArray} {n : ByteArray} (h : Bc l n < l.length) : Hq false (Bg ⟨#[]⟩) (DT (EK 0 l) (.s n)) = Bg (Cp (Bc l n)) := by
 rw [HQ, if_pos h, Nat.zero_add]
 rfl
theorem Sd {l : List ByteArray} {n : ByteArray} (h : ¬ Bc l n < l.length) : Hq false (Bg ⟨#[]⟩) (DT (EK 0 l) (.s n)) = Bg ⟨#[]⟩ := by
 rw [HQ, if_neg h]
 rfl
theorem TD {l : List ByteArray} {n : ByteArray} (h : ¬ Bc l n < l.length) : IA (EK 0 l) (.s n) (Bg (Cp l.length)) = EK 0 (Do l n) := by
 rw [LJ h, show Do l n = l ++ [n] by unfold Do; rw [if_neg h], KX, Nat.zero_add]
abbrev Nj (n0 f0 : Nat) : AC := .fn 51 [.ptr n0 1 0 0, .ptr f0 1 0 0]
theorem UF (t : Tm) (hz : t.size ≤ 1000000) : ∀ (n0 f0 m0 : Nat) (e1 e2 : TypeId) (l : List ByteArray) (S : AA), 1000 ≤ n0 → 1000 ≤ f0 → 1000 ≤ m0 → ¬ n0 = m0 → ¬ f0 = m0 → l.length + t.size ≤ 900000 →
  S n0 = some (.box e1 [.mptr m0]) → S f0 = some (.box e2 [Nj n0 f0]) → S m0 = some (TU l) →
  Am Tryd.prog 51 [aTm t, .one (.ptr n0 1 0 0), .one (.ptr f0 1 0 0)] S (aTm (t.cn l).1) (AH S m0 (some (TU (t.cn l).2))) := by
 induction h : SizeOf.sizeOf t using Nat.strongRecOn generalizing t with
 | _ N ih =>
 subst h
 intro n0 f0 m0 e1 e2 l S hn0 hf0 hm0 hnm hfm hl hSn hSf hSm
 have hs := Tm.size_eq t
 have hln := Tm.length_le t.args
 refine GN.acS fun hS C hC => ?_
 have k3 : S 3 = none := AM hS (by omega)
 have k4 : S 4 = none := AM hS (by omega)
 have k5 : S 5 = none := AM hS (by omega)
 have k7 : S 7 = none := AM hS (by omega)
 have k900 : S 900 = none := AM hS (by omega)
 have a3 : ¬ n0 = 3 := by omega
 have a4 : ¬ n0 = 4 := by omega
 have a5 : ¬ n0 = 5 := by omega
 have a7 : ¬ n0 = 7 := by omega
 have a900 : ¬ n0 = 900 := by omega
 have b3 : ¬ f0 = 3 := by omega
 have b4 : ¬ f0 = 4 := by omega
 have b5 : ¬ f0 = 5 := by omega
 have b7 : ¬ f0 = 7 := by omega
 have b900 : ¬ f0 = 900 := by omega
 have c3 : ¬ m0 = 3 := by omega
 have c4 : ¬ m0 = 4 := by omega
 have c5 : ¬ m0 = 5 := by omega
 have c7 : ¬ m0 = 7 := by omega
 have c900 : ¬ m0 = 900 := by omega
 have d3 : ¬ 3 = m0 := by omega
 have d4 : ¬ 4 = m0 := by omega
 have d5 : ¬ 5 = m0 := by omega
 have d7 : ¬ 7 = m0 := by omega
 have d900 : ¬ 900 = m0 := by omega
 have hplain : Bu Tryd.prog 51 = true := by kernel_rfl
 unfold Dk
 repeat' with_reducible first | refine W ?_ | refine Z0 ?_ | ((first | refine Wo fun K hK => ?_ | refine Wp ?_ | refine Wq ?_ | refine Wr ?_); (try simp only [go_sem, fN, seval, eT, iR, k3, k4, dT, dF, nL]); (repeat refine Ai ?_); (try (refine hK _ ?_; clear hK K)); try refine iC ?_)
 refine ⟨_, Aj _, ?_⟩
 cases hv : AQ t.name with
 | true =>
  have hcn := UK (l := l) hv
  by_cases hp : Bc l t.name < l.length
  ·have hadd : Do l t.name = l := by unfold Do; rw [if_pos hp]
   have hne := RO (Bc l t.name)
   repeat' with_reducible first | refine W ?_ | refine Z0 ?_ | ((first | refine Wo fun K hK => ?_ | refine Wp ?_ | refine Wq ?_ | refine Wr ?_); (try simp only [go_sem, fN, seval, eT, iR, hv, hSn, hSf, hSm, k3, k4, a3, a4, c3, c4, d3, d4, Cz, Gy, KV.of, Oi, hp, hne, dT, dF, nL]); (repeat refine Ai ?_); (try (refine hK _ ?_; clear hK K)); try refine iC ?_)
   rw [hcn, hadd]
   refine BV (.agg [.st (.str (Cp (Bc l t.name))), .full []]) hS hm0 rfl trivial ?_ ?_ ?_ fun i hi hne => ?_
   ·simp only [go_sem, fN, seval, eT, iR, AB, AD, AI]
   ·simp only [go_sem, fN, seval, eT, iR]
    rfl
   ·simp only [go_sem, fN, seval, eT, iR, c3, c4, hSm]
   ·have i3 : ¬ i = 3 := by omega
    have i4 : ¬ i = 4 := by omega
    simp only [go_sem, fN, seval, eT, iR, i3, i4]
  ·have hpn : Bc l t.name = l.length := by have := PO l t.name; omega
   have hel := MN l 0
   have hp2 : Bc (Do l t.name) t.name < (Do l t.name).length := by
    unfold Do
    rw [if_neg hp, Fh hp, List.length_append, List.length_singleton]
    omega
   have hp3 : Bc (Do l t.name) t.name = l.length := by
    unfold Do
    rw [if_neg hp, Fh hp]
   have hlk2 : Hq false (Bg ⟨#[]⟩) (DT (EK 0 (Do l t.name)) (.s t.name)) = Bg (Cp l.length) := by rw [Oi hp2, hp3]
   repeat' (first | (with_reducible first | refine W ?_ | refine Z0 ?_ | ((first | refine Wo fun K hK => ?_ | refine Wp ?_ | refine Wq ?_ | refine Wr ?_); (try simp only [go_sem, fN, seval, eT, iR, hv, hSn, hSf, hSm, k3, k4, a3, a4, c3, c4, d3, d4, hnm, Cz, Gy, KV.of, Sd, hp, hel, TD, hlk2, dT, dF, nL]); (repeat refine Ai ?_); (try (refine hK _ ?_; clear hK K)); try refine iC ?_)) | refine Cg _ (Pz l.length (by omega)) ?_)
   rw [hcn, hpn]
   refine BV (.agg [.st (.str (Cp l.length)), .full []]) hS hm0 rfl trivial ?_ ?_ ?_ fun i hi hne => ?_
   ·simp only [go_sem, fN, seval, eT, iR, AB, AD, AI, d4]
   ·simp only [go_sem, fN, seval, eT, iR]
    rfl
   ·simp only [go_sem, fN, seval, eT, iR, c3, c4, hSm]
   ·have i3 : ¬ i = 3 := by omega
    have i4 : ¬ i = 4 := by omega
    simp only [go_sem, fN, seval, eT, iR, i3, i4, hne]
 | false =>
  have hcn := TP (l := l) hv
  repeat' with_reducible first | refine W ?_ | refine Z0 ?_ | ((first | refine Wo fun K hK => ?_ | refine Wp ?_ | refine Wq ?_ | refine Wr ?_); (try simp only [go_sem, fN, seval, eT, iR, hv, k3, k4, k5, dT, dF, nL]); (repeat refine Ai ?_); (try (refine hK _ ?_; clear hK K)); try refine iC ?_)
  refine IWP.ghost (Ae.ownC 5 1 900 32 2 (xs := ([] : List Tm).map Ay) (by rfl) (by rfl) (by simp only [go_sem, fN, seval, eT, iR, k900]) C8) ?_
  refine IWP.loopD [7] (fun m x => ∃ k, k ≤ t.args.length ∧ m = t.args.length - k ∧ x.env 1 = .one (.ptr n0 1 0 0) ∧ x.env 2 = .one (.ptr f0 1 0 0) ∧ x.env 4 = .one (.ptr 4 1 0 0) ∧ x.env 5 = .one (.ptr 5 1 0 0) ∧ x.env 31 = HX t.args ∧ x.env 32 = AR t.args.length ∧ x.env 33 = AR k ∧
    x.S 4 = some (.box 32 [.st (.str ⟨#[]⟩), .full []]) ∧ x.S 5 = some (.box 32 [.st (.str t.name), .row 900 k]) ∧ x.S 900 = some (.arow 32 2 ((Tm.cnL (t.args.take k) l).1.map Ay)) ∧ x.S 7 = none ∧ x.S n0 = some (.box e1 [.mptr m0]) ∧ x.S f0 = some (.box e2 [Nj n0 f0]) ∧ x.S m0 = some (TU (Tm.cnL (t.args.take k) l).2) ∧ ∀ i, 1000 ≤ i → i ≠ m0 → x.S i = S i)
   t.args.length ⟨0, Nat.zero_le _, rfl, rfl, rfl, rfl, rfl, rfl, rfl, rfl, by simp only [go_sem, fN, seval, eT, iR], by (simp only [go_sem, fN, seval, eT, iR]; rfl), rfl, by simp only [go_sem, fN, seval, eT, iR, k7], by simp only [go_sem, fN, seval, eT, iR, a3, a4, a5, a900, hSn], by simp only [go_sem, fN, seval, eT, iR, b3, b4, b5, b900, hSf], by (simp only [go_sem, fN, seval, eT, iR, c3, c4, c5, c900, hSm]; rfl), fun i hi hne => ?_⟩ ?_
  ·have i3 : ¬ i = 3 := by omega
   have i4 : ¬ i = 4 := by omega
   have i5 : ¬ i = 5 := by omega
   have i900 : ¬ i = 900 := by omega
   simp only [go_sem, fN, seval, eT, iR, i3, i4, i5, i900]
  rintro m ⟨env, S1⟩ ⟨k, hk, rfl, v1, v2, v4, v5, v31, v32, v33, s4, s5, s900, s7, sn, sf, sm, hrest⟩
  simp only at v1 v2 v4 v5 v31 v32 v33 s4 s5 s900 s7 sn sf sm hrest
  have hlk : (Tm.cnL (t.args.take k) l).1.length = k := by rw [Lg, List.length_take]; omega
  have hnl := DH (t.args.take k) l
  by_cases hlt : (k : Int) < t.args.length
  ·obtain ⟨x, hx⟩ := Ao (show k < t.args.length by omega)
   have z1 := Tm.sizes_take hx
   have z2 := Tm.sizes_take_le t.args (k + 1)
   have hstep := NU (l := l) hx
   repeat' with_reducible first | refine W ?_ | refine Z0 ?_ | ((first | refine Wo fun K hK => ?_ | refine Wp ?_ | refine Wq ?_ | refine Wr ?_); (try simp only [go_sem, fN, seval, eT, iR, v1, v2, v4, v5, v31, v32, v33, s4, s5, s900, s7, sn, sf, sm, hlt, hx, hplain, a7, b7, c7, d7, d5, dT, dF, nL]); (repeat refine Ai ?_); (try (refine hK _ ?_; clear hK K)); try refine iC ?_)
   refine ⟨_, _, ih _ (Tm.lt_of_arg (AW hx)) x (by omega) rfl (up1 n0) (up1 f0) (up1 m0) e1 e2 (Tm.cnL (t.args.take k) l).2 _ (Ar n0) (Ar f0) (Ar m0) (fun e => hnm (Nat.add_right_cancel e)) (fun e => hfm (Nat.add_right_cancel e)) (by omega) (by rw [As]; (simp only [go_sem, fN, seval, eT, iR, a7, sn])) (by rw [As]; (simp only [go_sem, fN, seval, eT, iR, b7, sf])) (by rw [As]; (simp only [go_sem, fN, seval, eT, iR, c7, sm])), ?_⟩
   repeat' with_reducible first | refine W ?_ | refine Z0 ?_ | ((first | refine Wo fun K hK => ?_ | refine Wp ?_ | refine Wq ?_ | refine Wr ?_); (try simp only [go_sem, fN, seval, eT, iR, v1, v2, v4, v5, v31, v32, v33, s4, s5, s900, s7, sn, sf, sm, a7, b7, c7, d7, d5, d900, c5, c900, a5, a900, b5, b900, hlk, hnm, hfm, dT, dF, nL]); (repeat refine Ai ?_); (try (refine hK _ ?_; clear hK K)); try refine iC ?_)
   refine AG ⟨t.args.length - (k + 1), by omega, k + 1, by omega, rfl, ?_⟩
   rw [hstep]
   have hnb : (n0 == 7) = false := by simp; omega
   have hfb : (f0 == 7) = false := by simp; omega
   have hmb : (m0 == 7) = false := by simp; omega
   simp only [go_sem, fN, seval, AS.drop, Ap, AC.clears, AC.clear, AC.highs, AC.high, Bool.not_false, Bool.true_and, Bool.and_self, AV.purge, AV.purges, AC.purge, AJ.purge, List.contains_cons, List.contains_nil, Nat.reduceBEq, Bool.or_self, Bool.or_false, Bool.false_or, Bool.or_true, eT, iR, v1, v2, v4, v5, v31, v32, v33, s4, s5, s900, s7, sn, sf, sm, a7, b7, c7, d7, d5, d900, c5, c900, a5, a900, b5, b900, hnb, hfb, hmb, hnm, hfm, d4]
   refine ⟨by congr 3, ?_, fun i hi hne => ?_⟩
   ·rw [List.map_append, List.map_cons, List.map_nil, CS]
   ·have i5 : ¬ i = 5 := by omega
    have i7 : ¬ i = 7 := by omega
    have i7b : (i == 7) = false := by simp; omega
    have i900 : ¬ i = 900 := by omega
    simp only [go_sem, fN, seval, AS.drop, Ap, AC.clears, AC.clear, AC.highs, AC.high, Bool.not_false, Bool.true_and, Bool.and_self, AV.purge, AV.purges, AC.purge, AJ.purge, List.contains_cons, List.contains_nil, Nat.reduceBEq, Bool.or_self, Bool.or_false, Bool.false_or, Bool.or_true, eT, iR, i5, i7, i7b, i900, hne]
    rw [hrest i hi hne]
    exact OJ (by decide) fun b hb => (hS i b hb).2
  ·rw [List.take_of_length_le (by omega)] at sm s900 hlk
   repeat' with_reducible first | refine W ?_ | refine Z0 ?_ | ((first | refine Wo fun K hK => ?_ | refine Wp ?_ | refine Wq ?_ | refine Wr ?_); (try simp only [go_sem, fN, seval, eT, iR, v4, v5, v31, v32, v33, s4, s5, hlt, dT, dF, nL]); (repeat refine Ai ?_); (try (refine hK _ ?_; clear hK K)); try refine iC ?_)
   rw [hcn]
   refine BV (.agg [.st (.str t.name), .row 900 k]) hS hm0 rfl trivial ?_ ?_ ?_ fun i hi hne => ?_
   ·simp only [go_sem, fN, seval, eT, iR, AB, AD, AI, v4]
   ·simp only [go_sem, fN, seval, eT, iR, s900, hlk]
    rfl
   ·simp only [go_sem, fN, seval, eT, iR, c4, sm]
   ·have i4 : ¬ i = 4 := by omega
    simp only [go_sem, fN, seval, eT, iR, i4]
    exact hrest i hi hne

theorem Hy (t : Tm) : t.varsOf.length ≤ t.size := by
 have := C3 t.knots []
 rw [Tm.knots_length] at this
 simpa [Tm.varsOf] using this

theorem Q8 (L : List Tm) (hz : Tm.sizes L ≤ 800000) : Aa Tryd.prog 32 [HX L] (HX (Tm.cnL L []).1) := by
 have hplain : Bu Tryd.prog 51 = true := by kernel_rfl
 have hln := Tm.length_le L
 refine HR.ac fun C hC => ?_
 unfold EC
 repeat' with_reducible first | refine W ?_ | refine Z0 ?_ | ((first | refine Wo fun K hK => ?_ | refine Wp ?_ | refine Wq ?_ | refine Wr ?_); (try simp only [go_sem, fN, seval, eT, iR, AS.caps, dT, dF, nL]); (repeat refine Ai ?_); (try (refine hK _ ?_; clear hK K)); try refine iC ?_)
 refine IWP.ghost (Ae.own 5 900 32 2 (xs := ([] : List Tm).map Ay) (by rfl) (by rfl) C8 (by rw [hC]; decide)) ?_
 refine IWP.loopD [7] (fun m x => ∃ k, k ≤ L.length ∧ m = L.length - k ∧ x.env 4 = .one (.ptr 4 1 0 0) ∧ x.env 5 = .one (.row 900 k) ∧ x.env 10 = HX L ∧ x.env 11 = AR L.length ∧ x.env 12 = AR k ∧ x.S 900 = some (.arow 32 2 ((Tm.cnL (L.take k) []).1.map Ay)) ∧ x.S 7 = none ∧ (∃ e1, x.S 3 = some (.box e1 [.mptr 8])) ∧ (∃ e2, x.S 4 = some (.box e2 [Nj 3 4])) ∧ x.S 8 = some (TU (Tm.cnL (L.take k) []).2)) L.length ⟨0, Nat.zero_le _, rfl, rfl, rfl, rfl, rfl, rfl, rfl, rfl, ⟨_, rfl⟩, ⟨_, rfl⟩, rfl⟩ ?_
 rintro m ⟨env, S⟩ ⟨k, hk, rfl, v4, v5, v10, v11, v12, s900, s7, ⟨e1, s3⟩, ⟨e2, s4⟩, s8⟩
 simp only at v4 v5 v10 v11 v12 s900 s7 s3 s4 s8
 have hlk : (Tm.cnL (L.take k) []).1.length = k := by rw [Lg, List.length_take]; omega
 have hnl := DH (L.take k) []
 rw [List.length_nil] at hnl
 by_cases hlt : (k : Int) < L.length
 ·obtain ⟨x, hx⟩ := Ao (show k < L.length by omega)
  have z1 := Tm.sizes_take hx
  have z2 := Tm.sizes_take_le L (k + 1)
  have hstep := NU (l := []) hx
  repeat' with_reducible first | refine W ?_ | refine Z0 ?_ | ((first | refine Wo fun K hK => ?_ | refine Wp ?_ | refine Wq ?_ | refine Wr ?_); (try simp only [go_sem, fN, seval, eT, iR, v4, v5, v10, v11, v12, s900, s7, s3, s4, s8, hplain, hlt, hx, dT, dF, nL]); (repeat refine Ai ?_); (try (refine hK _ ?_; clear hK K)); try refine iC ?_)
  refine ⟨_, _, UF x (by omega) (up1 3) (up1 4) (up1 8) e1 e2 (Tm.cnL (L.take k) []).2 _ (Ar 3) (Ar 4) (Ar 8) (by decide) (by decide) (by omega) (by rw [As]; (simp only [go_sem, fN, seval, eT, iR, s3])) (by rw [As]; (simp only [go_sem, fN, seval, eT, iR, s4])) (by rw [As]; (simp only [go_sem, fN, seval, eT, iR, s8])), ?_⟩
  repeat' with_reducible first | refine W ?_ | refine Z0 ?_ | ((first | refine Wo fun K hK => ?_ | refine Wp ?_ | refine Wq ?_ | refine Wr ?_); (try simp only [go_sem, fN, seval, eT, iR, v4, v5, v10, v11, v12, s900, s7, s3, s4, s8, hlk, dT, dF, nL]); (repeat refine Ai ?_); (try (refine hK _ ?_; clear hK K)); try refine iC ?_)
  refine AG ⟨L.length - (k + 1), by omega, k + 1, by omega, rfl, ?_⟩
  rw [hstep]
  simp only [go_sem, fN, seval, AS.drop, Ap, AC.clears, AC.clear, AC.highs, AC.high, Bool.not_false, Bool.true_and, Bool.and_self, AV.purge, AV.purges, AC.purge, AJ.purge, List.contains_cons, List.contains_nil, Nat.reduceBEq, Bool.or_self, Bool.or_false, Bool.false_or, Bool.or_true, eT, iR, v4, v5, v10, v11, v12, s900, s7, s3, s4, s8]
  exact ⟨by congr 3, by rw [List.map_append, List.map_cons, List.map_nil, CS], ⟨_, rfl⟩, ⟨_, rfl⟩⟩
 ·rw [List.take_of_length_le (by omega)] at s900 hlk
  repeat' with_reducible first | refine W ?_ | refine Z0 ?_ | ((first | refine Wo fun K hK => ?_ | refine Wp ?_ | refine Wq ?_ | refine Wr ?_); (try simp only [go_sem, fN, seval, eT, iR, v5, v10, v11, v12, s900, hlt, dT, dF, nL]); (repeat refine Ai ?_); (try (refine hK _ ?_; clear hK K)); try refine iC ?_)
  simp only [go_sem, fN, seval, AO, AS.result, AB, AD, AI, s900, hlk]
  try rfl

theorem TC {s s' : List Bd} (h : ∀ n, lookup s n = lookup s' n) (t : Tm) : t.on s = t.on s' := by
 induction hN : SizeOf.sizeOf t using Nat.strongRecOn generalizing t with
 | _ N ih =>
 subst hN
 have hmap : t.args.map (Tm.on s) = t.args.map (Tm.on s') := List.map_congr_left fun a ha => ih _ (Tm.lt_of_arg ha) a rfl
 by_cases h0 : t.args = []
 ·cases hl : lookup s t.name with
  | some x => rw [Tm.on_leaf hl h0, Tm.on_leaf (by rw [← h]; exact hl) h0]
  | none => rw [Tm.on_knot (.inl hl), Tm.on_knot (.inl (by rw [← h]; exact hl)), hmap]
 ·rw [Tm.on_knot (.inr h0), Tm.on_knot (.inr h0), hmap]
theorem K5 {c : UInt8} {k : Nat} {V : List ByteArray} (h : V.Nodup) : Ba (nmB c k V) := by
 unfold Ba
 rw [HY]
 exact h
theorem K1 {c : UInt8} {k : Nat} {V : List ByteArray} (h : V.Nodup) {t : Tm} (hz : t.size ≤ 200) (hs : (t.on (nmB c k V)).size = t.size) : BH (BQ (nmB c k V)) t = (t.on (nmB c k V), true) := by
 have e : t.on (BQ (nmB c k V)) = t.on (nmB c k V) := TC (fun n => MZ (CI _) (K5 h) n) t
 unfold BH
 rw [e, if_pos (by omega)]
theorem P9 {c : UInt8} {V : List ByteArray} {j : Nat} {v : ByteArray} (k : Nat) (hv : V[j]? = some v) : nmB c k (V.take (j + 1)) = nmB c k (V.take j) ++ [(v, .mk (EQ c (k + j)) [])] := by
 have hl := (List.getElem?_eq_some_iff.1 hv).1
 rw [Aq hv, M_, List.length_take, Nat.min_eq_left (by omega)]
theorem Ou (c : UInt8) (h65 : 65 ≤ c.toNat) (h90 : c.toNat ≤ 90) {r : Pr} (h1 : r.1.may = 0) (h2 : r.2.may = 0) : Aa Tryd.prog 26 [aPr r, Bg ⟨#[c]⟩] (aPr (HN c 1 r)) := by
 obtain ⟨c1, z1⟩ := Tm.may_chk h1
 obtain ⟨c2, z2⟩ := Tm.may_chk h2
 have hvl := Hy r.1
 have hz1 : (⟨#[c]⟩ : ByteArray).size = 1 := rfl
 have hvo := OS r.1 (by omega)
 have f1 := EZ (k := 1) h65 h90 (by omega) (show r.1.varsOf.length ≤ 1000 by omega) c1
 have f2 := EZ (k := 1) h65 h90 (by omega) (show r.1.varsOf.length ≤ 1000 by omega) c2
 have hnd := L_ r.1
 have hvv := MF r.1
 unfold HN
 generalize r.1.varsOf = V at *
 have hnm : Ba (nmB c 1 V) := K5 hnd
 have hvs : ∀ b ∈ BQ (nmB c 1 V), AQ b.1 = true := fun b hb => by
  have := List.mem_map_of_mem (f := (·.1)) ((CI _).mem_iff.1 hb)
  rw [HY] at this
  exact hvv _ this
 have hsl : (BQ (nmB c 1 V)).length = V.length := by rw [BS, Lz]
 have o1 := Ki (BQ (nmB c 1 V)) (by omega) (Bh hnm) r.1 hvs c1
 have o2 := Ki (BQ (nmB c 1 V)) (by omega) (Bh hnm) r.2 hvs c2
 rw [K1 hnd z1 f1.2] at o1
 rw [K1 hnd z2 f2.2] at o2
 refine Gp.ac fun C hC => ?_
 unfold Dx
 repeat' (first | (with_reducible first | refine W ?_ | refine Z0 ?_ | ((first | refine Wo fun K hK => ?_ | refine Wp ?_ | refine Wq ?_ | refine Wr ?_); (try simp only [go_sem, fN, seval, eT, iR, dT, dF, nL]); (repeat refine Ai ?_); (try (refine hK _ ?_; clear hK K)); try refine iC ?_)) | refine Cg _ (hvo) ?_)
 refine IWP.ghost (Ae.ownM 5 500 51 3 rfl rfl (by rw [hC]; decide)) ?_
 refine IWP.loop (fun m x => ∃ j, j ≤ V.length ∧ m = V.length - j ∧ x.env 1 = Bg ⟨#[c]⟩ ∧ x.env 2 = .one (.ptr 2 1 0 0) ∧ x.env 4 = .one (.ptr 4 1 0 0) ∧ x.env 14 = Fz V ∧ x.env 15 = AR V.length ∧ x.env 5 = .one (.row 500 j) ∧ x.env 16 = AR j ∧ x.S 8 = none ∧ x.S 10 = none ∧ x.S 500 = some (BL (nmB c 1 (V.take j))) ∧ x.S 2 = some (.box 34 [.st (.str r.1.name), .st (.list (r.1.args.map Ay)), .st (.str r.2.name), .st (.list (r.2.args.map Ay))]) ∧ x.S 4 = some (.box 34 [.st (.str ⟨#[]⟩), .full [], .st (.str ⟨#[]⟩), .full []])) V.length ⟨0, Nat.zero_le _, rfl, rfl, rfl, rfl, rfl, rfl, rfl, rfl, rfl, rfl, rfl, rfl, rfl⟩ ?_
 rintro m ⟨env, S⟩ ⟨j, hj, rfl, e1, e2, e4, e14, e15, e5, e16, s8, s10, s500, s2, s4⟩
 simp only at e1 e2 e4 e14 e15 e5 e16 s8 s10 s500 s2 s4
 have hzl := Lz c (V.take j) 1
 rw [List.length_take, Nat.min_eq_left hj] at hzl
 by_cases hjl : (j : Int) < V.length
 ·obtain ⟨v, hv⟩ := Ao (show j < V.length by omega)
  have hdec := R5 (j + 1) (by omega)
  have hsz := En (n := j + 1) (by omega)
  rw [show (((j + 1 : Nat) : Int)) = (j : Int) + 1 by omega] at hdec
  repeat' (first | (with_reducible first | refine W ?_ | refine Z0 ?_ | ((first | refine Wo fun K hK => ?_ | refine Wp ?_ | refine Wq ?_ | refine Wr ?_); (try simp only [go_sem, fN, seval, eT, iR, e1, e2, e4, e14, e15, e5, e16, s500, s2, s4, hjl, hv, hzl, hz1, CX, dT, dF, nL]); (repeat refine Ai ?_); (try (refine hK _ ?_; clear hK K)); try refine iC ?_)) | refine Cg _ (hdec) ?_)
  refine AG ⟨V.length - (j + 1), by omega, j + 1, by omega, rfl, ?_⟩
  rw [BL, P9 1 hv, List.map_append]
  simp only [go_sem, fN, seval, eT, iR, e1, e2, e4, e14, e15, s2, s4, s8, s10]
  rw [Nat.add_comm 1 j]
  refine ⟨by congr 3, ?_⟩
  rfl
 ·obtain rfl : j = V.length := by omega
  rw [List.take_of_length_le (by omega)] at s500 hzl
  repeat' with_reducible first | refine W ?_ | refine Z0 ?_ | ((first | refine Wo fun K hK => ?_ | refine Wq ?_ | refine Wr ?_); (try simp only [go_sem, fN, seval, eT, iR, e15, e16, hjl]); (repeat refine Ai ?_); (try (refine hK _ ?_; clear hK K)))
  with_reducible refine Wp ?_
  simp only [go_sem, fN, seval, true_implies, false_implies, implies_true, dT, dF, nL, hjl]
  (try with_reducible refine iC ?_)
  repeat' (with_reducible first | refine Wb ?_ | refine Wc ?_ | refine Wd ?_ | refine We ?_ | refine Wg ?_ | refine Wh ?_ | refine Wi ?_ | refine Wj ?_ | refine Wk (by decide) ?_ | refine Wl ?_ | refine Wm ?_ | refine Wn ?_)
  have hs := Nm (nmB c 1 V) hnm (by omega) (up1 500) (Ar 500) (upS S) (by rw [As, s500]; rfl)
  rw [hzl] at hs
  refine IWP.mid (fun x => x.env 2 = .one (.ptr 2 1 0 0) ∧ x.env 4 = .one (.ptr 4 1 0 0) ∧ x.env 5 = .one (.row 500 V.length) ∧ x.S 8 = none ∧ x.S 10 = none ∧ x.S 500 = some (BL (BQ (nmB c 1 V))) ∧ x.S 2 = some (.box 34 [.st (.str r.1.name), .st (.list (r.1.args.map Ay)), .st (.str r.2.name), .st (.list (r.2.args.map Ay))]) ∧ x.S 4 = some (.box 34 [.st (.str ⟨#[]⟩), .full [], .st (.str ⟨#[]⟩), .full []])) ?_ ?_
  ·repeat' with_reducible first | refine W ?_ | refine Z0 ?_ | ((first | refine Wo fun K hK => ?_ | refine Wq ?_ | refine Wr ?_); (try simp only [go_sem, fN, seval, eT, iR, e2, e4, e5, s2, s4]); (repeat refine Ai ?_); (try (refine hK _ ?_; clear hK K)))
   refine ⟨_, _, hs, ?_⟩
   repeat' with_reducible first | refine W ?_ | refine Z0 ?_ | ((first | refine Wo fun K hK => ?_ | refine Wq ?_ | refine Wr ?_); (try simp only [go_sem, fN, seval, eT, iR, e2, e4, e5, s2, s4]); (repeat refine Ai ?_); (try (refine hK _ ?_; clear hK K)))
   refine ⟨rfl, ?_⟩
   simp only [go_sem, fN, seval, eT, iR, e2, e4, s2, s4, s8, s10]
  rintro ⟨env, S⟩ ⟨e2, e4, e5, s8, s10, s500, s2, s4⟩
  simp only at e2 e4 e5 s8 s10 s500 s2 s4
  refine IWP.ghost (Ae.share (id := 500) s500) ?_
  repeat' (first | (with_reducible first | refine W ?_ | refine Z0 ?_ | ((first | refine Wo fun K hK => ?_ | refine Wp ?_ | refine Wq ?_ | refine Wr ?_); (try simp only [go_sem, fN, seval, eT, iR, e2, e4, e5, s2, s4, s8, s10, hsl, dT, dF, nL]); (repeat refine Ai ?_); (try (refine hK _ ?_; clear hK K)); try refine iC ?_)) | refine Cg _ (o1) ?_ | refine Cg _ (o2) ?_)
  simp only [go_sem, fN, seval, AO, AS.result, AB, AD, AI, e4, s4]

def Hr : IR :=
 (.seq (.ops [.i 1 (.box 32 (.t 0)), .i 2 (.mov (.c (.one (.full []))))]) (.seq (.ops [.i 8 (.buildFlat []), .i 9 (.buildSlice false 62 1 [.t 8]), .m 3 9]) (.seq (.seq (.ops [.f 10 1 1, .l 11 10, .i 12 (.len false (.t 11)), .i 13 (.mov (.n 0))]) (.block 0 (.loop (.seq (.ops [.i 14 (.bin .lss (.t 13) (.t 12))]) (.seq (.cond (.t 14) .skip (.exit 0)) (.seq (.block 1 (.seq (.ops [.m 15 13, .i 16 (.indexAddr 2 (.t 11) (.t 13)), .L 17 2 16, .i 5 (.alloc 32 [.st (.str (ByteArray.mk (#[]))), .full []]), .m 4 15, .s 2 5 17]) (.seq (.ops [.L 18 2 5, .i 19 (.call 27 [.t 18]), .i 20 (.len false (.t 19)), .i 21 (.mov (.n 0))]) (.block 2 (.loop (.seq (.ops [.i 22 (.bin .lss (.t 21) (.t 20))]) (.seq (.cond (.t 22) .skip (.exit 2)) (.seq (.block 3 (.seq (.ops [.i 23 (.indexAddr 1 (.t 19) (.t 21)), .l 24 23, .m 7 24]) (.ops [.m 25 3, .m 26 4, .i 27 (.buildFlat [.t 26]), .m 28 7, .i 29 (.append false 3 1 8 (.t 27) (.t 28)), .i 30 (.buildSlice false 62 1 [.t 29]), .i 31 (.append false 62 1 24 (.t 25) (.t 30)), .m 3 31]))) (.ops [.i 32 (.bin .add (.t 21) (.n 1)), .m 21 32]))))))))) (.ops [.i 33 (.bin .add (.t 13) (.n 1)), .m 13 33]))))))) (.seq (.ops [.m 34 3, .m 2 34]) .ret))))
theorem NI : OkF Tryd.prog 27 35 [] Hr [.t 2] := .of Tryd.func27 rfl rfl (by kernel_rfl) rfl
def F8 : IR :=
 (.seq (.ops [.i 2 (.box 32 (.t 0)), .i 4 (.alloc 32 [.st (.str (ByteArray.mk (#[]))), .full []]), .i 5 (.mov (.c (.one (.st (.bool false)))))]) (.seq (.seq (.ops [.m 8 1, .i 9 (.len false (.t 8)), .i 10 (.mov (.n 0))]) (.block 0 (.loop (.seq (.ops [.i 11 (.bin .lss (.t 10) (.t 9))]) (.seq (.cond (.t 11) .skip (.exit 0)) (.seq (.block 1 (.seq (.ops [.i 12 (.indexAddr 1 (.t 8) (.t 10)), .l 13 12, .m 7 13]) (.seq (.seq (.ops [.m 14 7, .i 15 (.bin .lss (.t 14) (.n 0)), .m 16 15, .mk (some 17) (some (16, false)) (.mov (.t 7)) .no, .mk (some 18) (some (16, false)) (.fieldAddr 1 (.t 2)) .no, .mk (some 19) (some (16, false)) (.load false 1 (.t 18)) .no, .mk (some 20) (some (16, false)) (.len false (.t 19)) .no, .mk (some 21) (some (16, false)) (.bin .geq (.t 17) (.t 20)) .no, .i 22 (.pick (.t 16) (.c (.one (.st (.bool true)))) (.t 21))]) (.cond (.t 22) (.seq (.ops [.i 23 (.build [.st (.str (ByteArray.mk (#[]))), .full []] []), .s 2 4 23, .i 5 (.mov (.c (.one (.st (.bool false)))))]) .ret) .skip)) (.ops [.f 24 1 2, .l 25 24, .m 26 7, .i 27 (.indexAddr 2 (.t 25) (.t 26)), .L 28 2 27, .s 2 2 28])))) (.ops [.i 29 (.bin .add (.t 10) (.n 1)), .m 10 29]))))))) (.seq (.ops [.L 30 2 2, .s 2 4 30, .i 5 (.mov (.c (.one (.st (.bool true)))))]) .ret)))
theorem J7 : OkF Tryd.prog 28 31 [] F8 [.cell 4 true 2, .t 5] := .of Tryd.func28 rfl rfl (by kernel_rfl) rfl
def EX : IR :=
 (.seq (.ops [.i 3 (.box 32 (.t 0)), .i 5 (.box 32 (.t 2)), .i 6 (.alloc 32 [.st (.str (ByteArray.mk (#[]))), .full []])]) (.seq (.seq (.ops [.m 7 1, .i 8 (.len false (.t 7)), .i 9 (.bin .eql (.t 8) (.n 0))]) (.cond (.t 9) (.seq (.ops [.L 10 2 5, .i 11 (.call 50 [.t 10]), .s 2 6 11]) .ret) .skip)) (.seq (.ops [.L 12 2 3, .i 13 (.callS 50 [.t 12]), .s 2 3 13]) (.seq (.ops [.f 14 1 3, .l 15 14, .m 16 1, .i 17 (.indexAddr 1 (.t 16) (.n 0)), .l 18 17, .f 19 1 3, .l 20 19, .m 21 1, .i 22 (.indexAddr 1 (.t 21) (.n 0)), .l 23 22, .i 24 (.indexAddr 2 (.t 20) (.t 23)), .L 25 2 24, .m 26 1, .i 27 (.sliceL 1 (.t 26) (some (.n 1)) none), .L 28 2 5, .i 29 (.call 31 [.t 25, .t 27, .t 28]), .i 30 (.indexAddr 2 (.t 15) (.t 18)), .s 2 30 29]) (.seq (.ops [.L 31 2 3, .s 2 6 31]) .ret)))))
theorem Gu : OkF Tryd.prog 31 32 [13] EX [.cell 6 true 2] := .of Tryd.func31 rfl rfl (by kernel_rfl) rfl
def F6 : IR :=
 (.seq (.ops [.i 1 (.box 32 (.t 0)), .i 2 (.alloc 32 [.st (.str (ByteArray.mk (#[]))), .full []])]) (.seq (.ops [.f 6 0 1, .l 7 6, .i 8 (.build [.st (.str (ByteArray.mk (#[]))), .full []] [(0, 1, .t 7)]), .i 3 (.alloc 32 [.st (.str (ByteArray.mk (#[]))), .full []]), .s 2 3 8]) (.seq (.seq (.ops [.f 9 1 1, .l 10 9, .i 11 (.len false (.t 10)), .i 12 (.mov (.n 0))]) (.block 0 (.loop (.seq (.ops [.i 13 (.bin .lss (.t 12) (.t 11))]) (.seq (.cond (.t 13) .skip (.exit 0)) (.seq (.block 1 (.seq (.ops [.i 14 (.indexAddr 2 (.t 10) (.t 12)), .L 15 2 14, .i 5 (.alloc 32 [.st (.str (ByteArray.mk (#[]))), .full []]), .s 2 5 15]) (.ops [.f 16 1 3, .l 17 16, .L 18 2 5, .i 19 (.call 50 [.t 18]), .i 20 (.buildSlice false 32 2 [.t 19]), .i 21 (.append true 32 2 40 (.t 17) (.t 20)), .f 22 1 3, .s 1 22 21]))) (.ops [.i 23 (.bin .add (.t 12) (.n 1)), .m 12 23]))))))) (.seq (.ops [.L 24 2 3, .s 2 2 24]) .ret))))
theorem J3 : OkF Tryd.prog 50 25 [21] F6 [.cell 2 true 2] := .of Tryd.func50 rfl rfl (by kernel_rfl) rfl



theorem UH (t : Tm) (hz : t.size ≤ 1000000) : Aa Tryd.prog 27 [aTm t] (UU t.places) := by
 induction h : SizeOf.sizeOf t using Nat.strongRecOn generalizing t with
 | _ N ih =>
 subst h
 have hs := Tm.size_eq t
 have hkn := Tm.length_le t.args
 refine NI.ac fun C hC => ?_
 unfold Hr
 repeat' with_reducible first | refine W ?_ | refine Z0 ?_ | ((first | refine Wo fun K hK => ?_ | refine Wp ?_ | refine Wq ?_ | refine Wr ?_); (try simp only [go_sem, fN, seval, eT, iR, dT, dF, nL]); (repeat refine Ai ?_); (try (refine hK _ ?_; clear hK K)); try refine iC ?_)
 refine IWP.ghost (Ae.own 3 60 62 1 (xs := ([[]] : List (List Int)).map O8) (by simp only [go_sem, fN, seval, eT, iR]; rfl) rfl (by simp) (by omega)) ?_
 refine IWP.loopD [5] (fun m s => ∃ k, k ≤ t.args.length ∧ m = t.args.length - k ∧ s.env 11 = HX t.args ∧ s.env 12 = AR t.args.length ∧ s.env 3 = .one (.row 60 (t.placesTo k).length) ∧ s.S 60 = some (.arow 62 1 ((t.placesTo k).map O8)) ∧ s.env 13 = AR k ∧ s.S 29 = none ∧ s.S 5 = none)
  t.args.length ⟨0, Nat.zero_le _, rfl, rfl, rfl, rfl, rfl, rfl, rfl, rfl⟩ ?_
 rintro m ⟨env, S⟩ ⟨k, hk, rfl, e11, e12, e3, s60, e13, s29, s5⟩
 simp only at e11 e12 e3 s60 e13 s29 s5
 by_cases hlt : (k : Int) < t.args.length
 ·obtain ⟨a, ha⟩ := Ao (show k < t.args.length by omega)
  have hsz := Tm.size_mem (AW ha)
  have hpl := Tm.places_length a
  have hto := Tm.placesTo_length t k
  have hst := Tm.sizes_take ha
  have hst2 := Tm.sizes_take_le t.args (k + 1)
  repeat' (first | (with_reducible first | refine W ?_ | refine Z0 ?_ | ((first | refine Wo fun K hK => ?_ | refine Wp ?_ | refine Wq ?_ | refine Wr ?_); (try simp only [go_sem, fN, seval, eT, iR, e11, e12, e3, s60, e13, s5, hlt, ha, dT, dF, nL]); (repeat refine Ai ?_); (try (refine hK _ ?_; clear hK K)); try refine iC ?_)) | refine Cg _ (ih _ (Tm.lt_of_arg (AW ha)) a (by omega) rfl) ?_)
  refine IWP.loopD [29] (fun m s => ∃ i, i ≤ a.places.length ∧ m = a.places.length - i ∧ s.env 11 = HX t.args ∧ s.env 12 = AR t.args.length ∧ s.env 3 = .one (.row 60 (t.placesTo k ++ (a.places.take i).map fun p => (k : Int) :: p).length) ∧ s.S 60 = some (.arow 62 1 ((t.placesTo k ++ (a.places.take i).map fun p => (k : Int) :: p).map O8)) ∧ s.env 4 = AR k ∧ s.env 13 = AR k ∧ s.env 19 = UU a.places ∧ s.env 20 = AR a.places.length ∧ s.env 21 = AR i ∧ s.S 29 = none)
   a.places.length ⟨0, Nat.zero_le _, rfl, ?_⟩ ?_
  ·simp only [go_sem, fN, seval, eT, iR, e11, e12, e3, s60, e13, s29]
  rintro m ⟨env, S⟩ ⟨i, hi, rfl, e11, e12, e3, s60, e4, e13, e19, e20, e21, s29⟩
  simp only at e11 e12 e3 s60 e4 e13 e19 e20 e21 s29
  have hlen : (t.placesTo k ++ (a.places.take i).map fun p => (k : Int) :: p).length ≤ 1000000 := by
   rw [List.length_append, List.length_map, List.length_take]
   omega
  by_cases hli : (i : Int) < a.places.length
  ·obtain ⟨p, hp⟩ := Ao (show i < a.places.length by omega)
   have hd := Tm.places_deep a p (AW hp)
   repeat' with_reducible first | refine W ?_ | refine Z0 ?_ | ((first | refine Wo fun K hK => ?_ | refine Wp ?_ | refine Wq ?_ | refine Wr ?_); (try simp only [go_sem, fN, seval, eT, iR, e11, e12, e3, s60, e4, e13, e19, e20, e21, s29, hli, hp, dT, dF, nL]); (repeat refine Ai ?_); (try (refine hK _ ?_; clear hK K)); try refine iC ?_)
   refine AG ⟨a.places.length - (i + 1), by omega, i + 1, by omega, rfl, ?_⟩
   simp only [go_sem, fN, seval, AS.drop, Ap, AC.clears, AC.clear, AC.highs, AC.high, Bool.not_false, Bool.true_and, Bool.and_self, AV.purge, AV.purges, AC.purge, AJ.purge, List.contains_cons, List.contains_nil, Nat.reduceBEq, Bool.or_self, Bool.or_false, Bool.false_or, Bool.or_true, eT, iR, e11, e12, e3, s60, e4, e13, e19, e20, e21, s29]
   rw [Aq hp]
   refine ⟨?_, ?_, by congr 3⟩
   ·simp
    omega
   ·simp
  ·have e9 : (t.placesTo k ++ (a.places.take i).map fun p => (k : Int) :: p) = t.placesTo (k + 1) := by
    rw [List.take_of_length_le (by omega), Tm.placesTo_succ ha]
   rw [e9] at e3 s60
   repeat' with_reducible first | refine W ?_ | refine Z0 ?_ | ((first | refine Wo fun K hK => ?_ | refine Wp ?_ | refine Wq ?_ | refine Wr ?_); (try simp only [go_sem, fN, seval, eT, iR, e11, e12, e3, s60, e4, e13, e19, e20, e21, s29, hli, dT, dF, nL]); (repeat refine Ai ?_); (try (refine hK _ ?_; clear hK K)); try refine iC ?_)
   refine AG ⟨t.args.length - (k + 1), by omega, k + 1, by omega, rfl, ?_⟩
   simp only [go_sem, fN, seval, AS.drop, Ap, AC.clears, AC.clear, AC.highs, AC.high, Bool.not_false, Bool.true_and, Bool.and_self, AV.purge, AV.purges, AC.purge, AJ.purge, List.contains_cons, List.contains_nil, Nat.reduceBEq, Bool.or_self, Bool.or_false, Bool.false_or, Bool.or_true, eT, iR, e11, e12, e3, s60, e4, e13, s29]
   congr 3
 ·repeat' with_reducible first | refine W ?_ | refine Z0 ?_ | ((first | refine Wo fun K hK => ?_ | refine Wp ?_ | refine Wq ?_ | refine Wr ?_); (try simp only [go_sem, fN, seval, eT, iR, e11, e12, e3, s60, e13, hlt, dT, dF, nL]); (repeat refine Ai ?_); (try (refine hK _ ?_; clear hK K)); try refine iC ?_)
  simp only [go_sem, fN, seval, AO, AS.result, AB, AD, AI, e3, s60]
  rw [Tm.placesTo_all (by omega)]
theorem R6 (t : Tm) (p : List Int) (hp : p.length ≤ 1000000) : Aa Tryd.prog 28 [aTm t, RQ p] (.tup [aTm ((t.atP p).getD Tm.nil), Af (t.atP p).isSome]) := by
 refine J7.ac fun C hC => ?_
 unfold F8
 repeat' with_reducible first | refine W ?_ | refine Z0 ?_ | ((first | refine Wo fun K hK => ?_ | refine Wp ?_ | refine Wq ?_ | refine Wr ?_); (try simp only [go_sem, fN, seval, eT, iR, dT, dF, nL]); (repeat refine Ai ?_); (try (refine hK _ ?_; clear hK K)); try refine iC ?_)
 refine IWP.loop (fun m s => ∃ k x, k ≤ p.length ∧ m = p.length - k ∧ t.atP p = x.atP (p.drop k) ∧ s.env 2 = .one (.ptr 2 1 0 0) ∧ s.env 4 = .one (.ptr 4 1 0 0) ∧ s.env 8 = RQ p ∧ s.env 9 = AR p.length ∧ s.env 10 = AR k ∧ s.S 2 = some (.box 32 [.st (.str x.name), .st (.list (x.args.map Ay))]) ∧ s.S 4 = some (.box 32 [.st (.str ⟨#[]⟩), .full []])) p.length ⟨0, t, Nat.zero_le _, rfl, rfl, rfl, rfl, rfl, rfl, rfl, rfl, rfl⟩ ?_
 rintro m ⟨env, S⟩ ⟨k, x, hk, rfl, hx, e2, e4, e8, e9, e10, s2, s4⟩
 simp only at e2 e4 e8 e9 e10 s2 s4
 rw [hx]
 by_cases hlt : (k : Int) < p.length
 ·obtain ⟨i, hi⟩ := Ao (show k < p.length by omega)
  have hd := Bl hi
  rw [hd, Tm.atP_cons] at hx ⊢
  by_cases h0 : i < 0
  ·rw [if_pos h0]
   repeat' with_reducible first | refine W ?_ | refine Z0 ?_ | ((first | refine Wo fun K hK => ?_ | refine Wp ?_ | refine Wq ?_ | refine Wr ?_); (try simp only [go_sem, fN, seval, eT, iR, e2, e4, e8, e9, e10, s2, s4, hlt, hi, h0, dT, dF, nL]); (repeat refine Ai ?_); (try (refine hK _ ?_; clear hK K)); try refine iC ?_)
   simp only [go_sem, fN, seval, AO, AS.result, AB, AD, AI, e4, s4]
   try rfl
  ·rw [if_neg h0] at hx ⊢
   by_cases h1 : i < x.args.length
   ·obtain ⟨a, ha⟩ := Ao (show i.toNat < x.args.length by omega)
    rw [ha] at hx ⊢
    obtain ⟨n, rfl⟩ : ∃ n : Nat, i = n := ⟨i.toNat, by omega⟩
    rw [Int.toNat_natCast] at ha
    have h2 : ¬ (x.args.length : Int) ≤ (n : Int) := by omega
    repeat' with_reducible first | refine W ?_ | refine Z0 ?_ | ((first | refine Wo fun K hK => ?_ | refine Wp ?_ | refine Wq ?_ | refine Wr ?_); (try simp only [go_sem, fN, seval, eT, iR, e2, e4, e8, e9, e10, s2, s4, hlt, hi, h0, h2, ha, dT, dF, nL]); (repeat refine Ai ?_); (try (refine hK _ ?_; clear hK K)); try refine iC ?_)
    refine AG ⟨p.length - (k + 1), by omega, k + 1, a, by omega, rfl, rfl, ?_⟩
    simp only [go_sem, fN, seval, eT, iR, e2, e4, e8, e9, s4]
    congr 3
   ·rw [List.getElem?_eq_none (by omega)]
    have h2 : (x.args.length : Int) ≤ i := by omega
    repeat' with_reducible first | refine W ?_ | refine Z0 ?_ | ((first | refine Wo fun K hK => ?_ | refine Wp ?_ | refine Wq ?_ | refine Wr ?_); (try simp only [go_sem, fN, seval, eT, iR, e2, e4, e8, e9, e10, s2, s4, hlt, hi, h0, h2, dT, dF, nL]); (repeat refine Ai ?_); (try (refine hK _ ?_; clear hK K)); try refine iC ?_)
    simp only [go_sem, fN, seval, AO, AS.result, AB, AD, AI, e4, s4]
    try rfl
 ·have hd : p.drop k = [] := List.drop_of_length_le (by omega)
  rw [hd, Tm.atP_nil]
  repeat' with_reducible first | refine W ?_ | refine Z0 ?_ | ((first | refine Wo fun K hK => ?_ | refine Wp ?_ | refine Wq ?_ | refine Wr ?_); (try simp only [go_sem, fN, seval, eT, iR, e2, e4, e8, e9, e10, s2, s4, hlt, dT, dF, nL]); (repeat refine Ai ?_); (try (refine hK _ ?_; clear hK K)); try refine iC ?_)
  simp only [go_sem, fN, seval, AO, AS.result, AB, AD, AI, e4, s4]
  try rfl
section
variable {C : Ctx} {s : AS}
theorem Ae.ownCW (id j nid : Nat) (e : TypeId) (wd : Nat) {ty : TypeId} {cs : List AC} (hb : s.S id = some (.box ty cs)) (hc : cs[j]? = some (.full [])) (hn : s.S nid = none) :
  Ae C s ((s.set nid (.mrow e wd [])).set id (.box ty (cs.set j (.row nid 0)))) := fun a w ⟨σ, ι, R⟩ => by
 have hbk := R.blk id _ hb
 have hne : id ≠ nid := fun e => by subst e; rw [hb] at hn; cases hn
 cases hbk with
 | @box _ _ g vs h1 h2 h3 h4 h5 =>
  obtain ⟨v, hv, hr⟩ := h4.get hc
  cases hr with
  | @full p len _ hs =>
   have hl : len = 0 := by
    obtain ⟨p', cap', e1, _⟩ := CK hs
    cases e1
    rfl
   subst hl
   obtain ⟨hu, R'⟩ := R.fresh (w' := w) hn (.mrow e wd []) ⟨p, 0, none⟩ (Ext.refl _ _) R.fit (Below.refl _ _) (by simp) (fun S' ι' hu => .mnil rfl rfl)
   have hb' : (s.set nid (.mrow e wd [])).S id = some (.box ty cs) := by simp [AS.set, AK _ hne, hb]
   have hι : AH ι nid ⟨p, 0, none⟩ id = ι id := AK _ hne _
   obtain ⟨hu2, R2⟩ := R'.turn (w' := w) hb' (.box ty (cs.set j (.row nid 0))) (AH ι nid ⟨p, 0, none⟩ id) (σ' := σ) (fun _ _ h => h) (fun _ _ _ => rfl) R.fit (Nat.le_refl _) (fun _ => ⟨by simp [AJ.wid], rfl⟩) ⟨rfl, rfl, rfl⟩ (Nat.le_refl _) (fun _ _ _ => rfl) (fun g h => .inl h) (fun hu2 => by
    refine .box (by rw [hι]; exact h1) (by rw [hι]; exact h2) h3 (Ab.of_get (by rw [List.length_set]; exact h4.len) fun k u c hu' hck => ?_) h5
    by_cases hk : k = j
    ·subst hk
     rw [hv] at hu'
     cases hu'
     have hlt : k < cs.length := (List.getElem?_eq_some_iff.1 hc).1
     rw [List.getElem?_set_self hlt] at hck
     cases hck
     exact .row (b := .mrow e wd []) (by simp [AS.set, AH, hne.symm]) (Nat.le_refl _) rfl fun _ => by simp [AH, hne.symm]
    ·rw [List.getElem?_set_ne (fun e => hk e.symm)] at hck
     obtain ⟨u', q1, q2⟩ := h4.get hck
     rw [hu'] at q1
     cases q1
     exact (q2.mono (fun _ _ h => h) hu).mono (fun _ _ h => h) hu2)
   exact ⟨_, _, R2⟩
end
theorem TT (t : Tm) (hz : t.size ≤ 1000000) (a0 : Nat) (S : AA) (ha : 1000 ≤ a0) (hSa : S a0 = none) : Am Tryd.prog 50 [aTm t] S (.agg [.st (.str t.name), .row a0 t.args.length]) (AH S a0 (some (.mrow 32 2 (t.args.map Ay)))) := by
 have hs := Tm.size_eq t
 have hkn := Tm.length_le t.args
 refine J3.acS fun hS C hC => ?_
 unfold F6
 have k1 : S 1 = none := AM hS (by omega)
 have k2 : S 2 = none := AM hS (by omega)
 have k3 : S 3 = none := AM hS (by omega)
 have k5 : S 5 = none := AM hS (by omega)
 have k21 : S 21 = none := AM hS (by omega)
 repeat' with_reducible first | refine W ?_ | refine Z0 ?_ | ((first | refine Wo fun K hK => ?_ | refine Wq ?_ | refine Wr ?_); (try simp only [go_sem, fN, seval, eT, iR, AS.startS, k1, k2, k3]); (repeat refine Ai ?_); (try (refine hK _ ?_; clear hK K)))
 refine IWP.ghost (Ae.ownCW 3 1 21 32 2 (by rfl) (by rfl) (by simp only [go_sem, fN, seval, eT, iR, k21])) ?_
 refine IWP.loopD [5] (fun m s => ∃ k, k ≤ t.args.length ∧ m = t.args.length - k ∧ s.env 2 = .one (.ptr 2 1 0 0) ∧ s.env 3 = .one (.ptr 3 1 0 0) ∧ s.S 2 = some (.box 32 [.st (.str ⟨#[]⟩), .full []]) ∧ s.S 3 = some (.box 32 [.st (.str t.name), .row 21 k]) ∧ s.S 21 = some (.mrow 32 2 ((t.args.take k).map Ay)) ∧ s.env 10 = .one (.st (.list (t.args.map Ay))) ∧ s.env 11 = AR t.args.length ∧ s.env 12 = AR k ∧ s.S 5 = none ∧ ∀ i, 1000 ≤ i → s.S i = S i)
  t.args.length ⟨0, Nat.zero_le _, rfl, rfl, rfl, by simp only [go_sem, fN, seval, eT, iR], by (simp only [go_sem, fN, seval, eT, iR]; rfl), by simp only [go_sem, fN, seval, eT, iR], rfl, rfl, rfl, by simp only [go_sem, fN, seval, eT, iR, k5], fun i hi => ?_⟩ ?_
 ·have i1 : ¬ i = 1 := by omega
  have i2 : ¬ i = 2 := by omega
  have i3 : ¬ i = 3 := by omega
  have i21 : ¬ i = 21 := by omega
  simp only [go_sem, fN, seval, eT, iR, i1, i2, i3, i21]
 rintro m ⟨env, S1⟩ ⟨k, hk, rfl, e2, e3, s2, s3, s21, e10, e11, e12, s5, hrest⟩
 simp only at e2 e3 s2 s3 s21 e10 e11 e12 s5 hrest
 have hlk : (t.args.take k).length = k := by rw [List.length_take]; omega
 by_cases hlt : (k : Int) < t.args.length
 ·obtain ⟨a, ha'⟩ := Ao (show k < t.args.length by omega)
  repeat' (first | (with_reducible first | refine W ?_ | refine Z0 ?_ | ((first | refine Wo fun K hK => ?_ | refine Wp ?_ | refine Wq ?_ | refine Wr ?_); (try simp only [go_sem, fN, seval, eT, iR, e2, e3, s2, s3, s21, e10, e11, e12, s5, hlt, ha', hlk, dT, dF, nL]); (repeat refine Ai ?_); (try (refine hK _ ?_; clear hK K)); try refine iC ?_)) | refine Cg _ (Lp a (by have := Tm.size_mem (AW ha'); omega)) ?_)
  refine AG ⟨t.args.length - (k + 1), by omega, k + 1, by omega, rfl, ?_⟩
  simp only [go_sem, fN, seval, AS.drop, Ap, AC.clears, AC.clear, AC.highs, AC.high, Bool.not_false, Bool.true_and, Bool.and_self, AV.purge, AV.purges, AC.purge, AJ.purge, List.contains_cons, List.contains_nil, Nat.reduceBEq, Bool.or_self, Bool.or_false, Bool.false_or, Bool.or_true, eT, iR, e2, e3, s2, s3, s21, e10, e11, e12, s5]
  refine ⟨by rw [Aq ha']; simp [CS], by congr 3, fun i hi => ?_⟩
  have i3 : ¬ i = 3 := by omega
  have i5 : ¬ i = 5 := by omega
  have i5b : (i == 5) = false := by simp; omega
  have i21 : ¬ i = 21 := by omega
  simp only [go_sem, fN, seval, AS.drop, Ap, AC.clears, AC.clear, AC.highs, AC.high, Bool.not_false, Bool.true_and, Bool.and_self, AV.purge, AV.purges, AC.purge, AJ.purge, List.contains_cons, List.contains_nil, Nat.reduceBEq, Bool.or_self, Bool.or_false, Bool.false_or, Bool.or_true, eT, iR, i3, i5, i5b, i21]
  rw [hrest i hi]
  cases hb : S i with
  | none => rfl
  | some b => simp [AJ.purge_high (ds := [5]) (by decide) (hS i b hb).2]
 ·obtain rfl : k = t.args.length := by omega
  rw [List.take_of_length_le (by omega)] at s21
  repeat' with_reducible first | refine W ?_ | refine Z0 ?_ | ((first | refine Wo fun K hK => ?_ | refine Wp ?_ | refine Wq ?_ | refine Wr ?_); (try simp only [go_sem, fN, seval, eT, iR, e2, e3, s2, s3, s21, e10, e11, e12, s5, hlt, dT, dF, nL]); (repeat refine Ai ?_); (try (refine hK _ ?_; clear hK K)); try refine iC ?_)
  rw [show (.agg [.st (.str t.name), .row a0 t.args.length] : AV) = AV.ren (BY 21 a0) (.agg [.st (.str t.name), .row 21 t.args.length]) by simp [AV.ren, AC.ren, AC.rens, BY]]
  have n2 : ¬ a0 = 2 := by omega
  have n2' : ∀ i, 1000 ≤ i → ¬ i = 2 := fun i hi => by omega
  refine Kq trivial 21 a0 _ (b0 := .mrow 32 2 (t.args.map Ay)) (by omega) ha ?_ ?_ rfl ?_ ?_ ?_ ?_ (CT hS ha rfl)
  ·simp [AH, n2, hrest a0 ha, hSa]
  ·simp [AH, s21]
  ·intro i b hi hb
   have hb : AH S1 2 _ i = some b := hb
   rw [AK _ (n2' i hi), hrest i hi] at hb
   exact (hS i b hb).2
  ·simp [AB, AD, AI, AH, e2, Cf, MJ]
  ·simp [AV.ren, AC.ren, AC.rens, AV.high, AC.high, AC.highs, BY, ha]
  ·rw [G1 _ (by omega)]
   congr 1
   funext i
   show (if i < 1000 then none else S1 i) = S i
   by_cases hi : i < 1000
   ·rw [if_pos hi, AM hS hi]
   ·rw [if_neg hi, hrest i (by omega)]
theorem On (x : Tm) (hx : x.size ≤ 1000000) : ∀ (p : List Int) (t : Tm), p.length ≤ 1000000 → t.atP p ≠ none → t.size ≤ 1000000 → Aa Tryd.prog 31 [aTm t, RQ p, aTm x] (aTm (t.putP p x))
 | [], t, _, _, _ => by
  rw [Tm.putP_nil]
  refine Gu.ac fun C hC => ?_
  unfold EX
  repeat' (first | (with_reducible first | refine W ?_ | refine Z0 ?_ | ((first | refine Wo fun K hK => ?_ | refine Wp ?_ | refine Wq ?_ | refine Wr ?_); (try simp only [go_sem, fN, seval, eT, iR, dT, dF, nL]); (repeat refine Ai ?_); (try (refine hK _ ?_; clear hK K)); try refine iC ?_)) | refine Cg _ (Lp x hx) ?_)
  simp only [go_sem, fN, seval, AO, AS.result, AB, AD, AI]
 | i :: p, t, hpl, hp, hz => by
  rw [Tm.atP_cons] at hp
  have h0 : ¬ i < 0 := fun h => hp (by rw [if_pos h])
  rw [if_neg h0] at hp
  obtain ⟨a, ha⟩ : ∃ a, t.args[i.toNat]? = some a := by
   cases h : t.args[i.toNat]? with
   | none => rw [h] at hp; exact absurd rfl hp
   | some a => exact ⟨a, rfl⟩
  rw [ha] at hp
  obtain ⟨n, rfl⟩ : ∃ n : Nat, i = n := ⟨i.toNat, by omega⟩
  rw [Int.toNat_natCast] at ha
  rw [Tm.putP_at ha]
  have hlt : n < t.args.length := (List.getElem?_eq_some_iff.1 ha).1
  have hlt' : (n : Int) < t.args.length := by omega
  have hsz := Tm.size_mem (List.mem_of_getElem? ha)
  have hszq := Tm.size_eq t
  have ih := On x hx p a (by simp at hpl; omega) hp (by omega)
  have hl0 : ¬ (((p.length + 1 : Nat) : Int) = 0) := by omega
  have hseq := Tm.size_eq t
  refine Gu.ac fun C hC => ?_
  unfold EX
  repeat' with_reducible first | refine W ?_ | refine Z0 ?_ | ((first | refine Wo fun K hK => ?_ | refine Wp ?_ | refine Wq ?_ | refine Wr ?_); (try simp only [go_sem, fN, seval, eT, iR, hl0, dT, dF, nL]); (repeat refine Ai ?_); (try (refine hK _ ?_; clear hK K)); try refine iC ?_)
  refine ⟨_, _, TT t hz (up1 13) _ (Ar 13) (by rw [As]; rfl), ?_⟩
  have htk : List.take p.length (List.map Nq p) = List.map Nq p := List.take_of_length_le (by simp)
  have hl1 : (t.args.set n (a.putP p x)).length = t.args.length := by simp
  refine Wr ?_
  simp only [go_sem, fN, seval, eT, iR]
  refine hK _ ?_
  clear hK K
  refine Wb ?_
  refine IWP.mid (fun y => y.env 3 = .one (.ptr 3 1 0 0) ∧ y.env 6 = .one (.ptr 6 1 0 0) ∧ y.S 3 = some (.box 32 [.st (.str t.name), .row 13 t.args.length]) ∧ y.S 6 = some (.box 32 [.st (.str ⟨#[]⟩), .full []]) ∧ y.S 13 = some (.mrow 32 2 ((t.args.set n (a.putP p x)).map Ay))) ?_ ?_
  ·repeat' (first | (with_reducible first | refine W ?_ | refine Z0 ?_ | ((first | refine Wo fun K hK => ?_ | refine Wp ?_ | refine Wq ?_ | refine Wr ?_); (try simp only [go_sem, fN, seval, eT, iR, ha, hlt', htk, dT, dF, nL]); (repeat refine Ai ?_); (try (refine hK _ ?_; clear hK K)); try refine iC ?_)) | refine Cg _ (ih) ?_)
   refine ⟨rfl, ?_⟩
   simp only [go_sem, fN, seval, eT, iR, ha, hlt']
   rw [List.map_set, CS]
  rintro ⟨env, S⟩ ⟨e3, e6, s3, s6, s13⟩
  simp only at e3 e6 s3 s6 s13
  refine IWP.ghost (Ae.share (id := 13) s13) ?_
  repeat' with_reducible first | refine W ?_ | refine Z0 ?_ | ((first | refine Wo fun K hK => ?_ | refine Wp ?_ | refine Wq ?_ | refine Wr ?_); (try simp only [go_sem, fN, seval, eT, iR, e3, e6, s3, s6, hl1, dT, dF, nL]); (repeat refine Ai ?_); (try (refine hK _ ?_; clear hK K)); try refine iC ?_)
  simp only [go_sem, fN, seval, AO, AS.result, AB, AD, AI, e6, s6, hl1]
  try rfl

def Be : IR :=
 (.seq (.ops [.i 4 (.mov (.c (.one (.st (.bool false)))))]) (.seq (.ops [.m 5 0, .m 6 1, .i 7 (.callS 44 [.t 5, .t 6]), .i 8 (.bin .geq (.t 7) (.n 0)), .m 4 8]) .ret))
theorem CV : OkF Tryd.prog 23 9 [7] Be [.t 4] := .of Tryd.func23 rfl rfl (by kernel_rfl) rfl
def Bo : IR :=
 (.seq (.ops [.i 4 (.mov (.n 0))]) (.seq (.seq (.ops [.m 6 0, .i 7 (.len false (.t 6)), .i 8 (.mov (.n 0))]) (.block 0 (.loop (.seq (.ops [.i 9 (.bin .lss (.t 8) (.t 7))]) (.seq (.cond (.t 9) .skip (.exit 0)) (.seq (.block 1 (.seq (.ops [.m 10 8, .m 5 10]) (.seq (.ops [.m 11 1, .m 12 0, .m 13 5, .i 14 (.indexAddr 1 (.t 12) (.t 13)), .l 15 14, .i 16 (.callV (.t 11) [.t 15])]) (.cond (.t 16) (.seq (.ops [.m 17 5, .m 4 17]) .ret) .skip)))) (.ops [.i 18 (.bin .add (.t 8) (.n 1)), .m 8 18]))))))) (.seq (.ops [.i 4 (.mov (.c (.one (.st (.int .i64 (-1))))))]) .ret)))
theorem Cs : OkF Tryd.prog 44 19 [] Bo [.t 4] := .of Tryd.func44 rfl rfl (by kernel_rfl) rfl
def Ds : IR :=
 (.seq (.ops [.i 3 (.mov (.c (.one (.st (.bool false)))))]) (.seq (.ops [.l 4 1, .m 5 0, .i 6 (.call 25 [.t 4, .t 5]), .i 7 (.un .not (.t 6)), .m 3 7]) .ret))
theorem GQ : OkF Tryd.prog 24 8 [] Ds [.t 3] := .of Tryd.func24 rfl rfl (by kernel_rfl) rfl
def EU : IR :=
 (.seq (.ops [.i 2 (.mov (.n 0))]) (.seq (.seq (.ops [.m 7 0, .i 8 (.len false (.t 7)), .i 9 (.bin .gtr (.t 8) (.n 40))]) (.cond (.t 9) (.seq (.ops [.i 2 (.mov (.n 3))]) .ret) .skip)) (.seq (.seq (.ops [.m 10 0, .i 11 (.len false (.t 10)), .i 12 (.mov (.n 0))]) (.block 0 (.loop (.seq (.ops [.i 13 (.bin .lss (.t 12) (.t 11))]) (.seq (.cond (.t 13) .skip (.exit 0)) (.seq (.block 1 (.seq (.ops [.i 14 (.indexAddr 4 (.t 10) (.t 12)), .L 15 4 14, .i 4 (.alloc 34 [.st (.str (ByteArray.mk (#[]))), .full [], .st (.str (ByteArray.mk (#[]))), .full []]), .s 4 4 15]) (.seq (.seq (.ops [.f 16 0 4, .L 17 2 16, .f 18 2 4, .L 19 2 18, .i 20 (.call 20 [.t 17, .t 19]), .m 5 20]) (.seq (.ops [.m 21 5, .i 22 (.bin .neq (.t 21) (.n 0))]) (.cond (.t 22) (.seq (.ops [.m 23 5, .m 2 23]) .ret) .skip))) (.seq (.seq (.ops [.f 24 0 4, .f 25 0 24, .l 26 25, .i 27 (.call 21 [.t 26])]) (.cond (.t 27) (.seq (.ops [.i 2 (.mov (.n 2))]) .ret) .skip)) (.seq (.ops [.f 28 0 4, .L 29 2 28, .i 30 (.call 22 [.t 29]), .i 6 (.alloc 37 [.full []]), .s 1 6 30]) (.seq (.ops [.f 31 2 4, .L 32 2 31, .i 33 (.call 22 [.t 32]), .i 34 (.makeFunc 24 [.t 6]), .i 35 (.callS 23 [.t 33, .t 34])]) (.cond (.t 35) (.seq (.ops [.i 2 (.mov (.n 15))]) .ret) .skip))))))) (.ops [.i 36 (.bin .add (.t 12) (.n 1)), .m 12 36]))))))) (.seq (.ops [.i 2 (.mov (.n 0))]) .ret))))
theorem HB : OkF Tryd.prog 11 37 [35] EU [.t 2] := .of Tryd.func11 rfl rfl (by kernel_rfl) rfl
def Es : IR :=
 (.seq (.ops [.i 3 (.box 32 (.t 1)), .i 4 (.mov (.n 0))]) (.seq (.seq (.ops [.m 6 0, .i 7 (.call 11 [.t 6]), .m 5 7]) (.seq (.ops [.m 8 5, .i 9 (.bin .neq (.t 8) (.n 0))]) (.cond (.t 9) (.seq (.ops [.m 10 5, .m 4 10]) .ret) .skip))) (.seq (.ops [.L 11 2 3, .i 12 (.call 15 [.t 11]), .m 4 12]) .ret)))
theorem II : OkF Tryd.prog 14 13 [] Es [.t 4] := .of Tryd.func14 rfl rfl (by kernel_rfl) rfl
def Ew : IR :=
 (.seq (.ops [.i 4 (.box 32 (.t 1)), .i 6 (.alloc 32 [.st (.str (ByteArray.mk (#[]))), .full []]), .i 7 (.mov (.n 0)), .i 8 (.mov (.n 0))]) (.seq (.seq (.ops [.m 14 2, .m 9 14]) (.block 0 (.loop (.seq (.seq (.ops [.m 15 9, .m 16 0, .i 17 (.len false (.t 16)), .i 18 (.bin .lss (.t 15) (.t 17))]) (.cond (.t 18) .skip (.exit 0))) (.seq (.block 1 (.seq (.ops [.m 22 0, .m 23 9, .i 24 (.indexAddr 4 (.t 22) (.t 23)), .f 25 0 24, .L 26 2 25, .L 27 2 4, .i 28 (.call 73 [.t 26, .t 27]), .m 21 28, .i 29 (.extract 0 (.t 21)), .i 30 (.extract 1 (.t 21)), .m 10 29, .m 11 30]) (.seq (.ops [.m 31 11]) (.cond (.t 31) (.seq (.ops [.m 33 10, .m 34 0, .m 35 9, .i 36 (.indexAddr 4 (.t 34) (.t 35)), .f 37 2 36, .L 38 2 37, .i 39 (.call 30 [.t 33, .t 38]), .m 32 39, .i 40 (.extract 0 (.t 32)), .i 41 (.extract 1 (.t 32)), .i 12 (.alloc 32 [.st (.str (ByteArray.mk (#[]))), .full []]), .s 2 12 40, .m 13 41]) (.seq (.seq (.ops [.m 42 13, .i 43 (.un .not (.t 42))]) (.cond (.t 43) (.seq (.ops [.i 44 (.build [.st (.str (ByteArray.mk (#[]))), .full []] []), .m 45 9, .s 2 6 44, .m 7 45, .i 8 (.mov (.n 8))]) .ret) .skip)) (.seq (.ops [.L 46 2 12, .m 47 9, .s 2 6 46, .m 7 47, .i 8 (.mov (.n 0))]) .ret))) .skip)))) (.ops [.m 19 9, .i 20 (.bin .add (.t 19) (.n 1)), .m 9 20])))))) (.seq (.ops [.i 48 (.build [.st (.str (ByteArray.mk (#[]))), .full []] []), .s 2 6 48, .i 7 (.mov (.c (.one (.st (.int .i64 (-1)))))), .i 8 (.mov (.n 0))]) .ret)))
theorem IJ : OkF Tryd.prog 65 49 [] Ew [.cell 6 true 2, .t 7, .t 8] := .of Tryd.func65 rfl rfl (by kernel_rfl) rfl
def DM : IR :=
 (.seq (.ops [.i 3 (.box 32 (.t 1)), .i 4 (.alloc 32 [.st (.str (ByteArray.mk (#[]))), .full []]), .i 5 (.mov (.c (.one (.st (.bool false))))), .i 6 (.mov (.n 0))]) (.seq (.seq (.ops [.f 15 1 3, .l 16 15, .i 17 (.len false (.t 16)), .i 18 (.mov (.n 0))]) (.block 0 (.loop (.seq (.ops [.i 19 (.bin .lss (.t 18) (.t 17))]) (.seq (.cond (.t 19) .skip (.exit 0)) (.seq (.block 1 (.seq (.ops [.m 20 18, .m 7 20]) (.seq (.ops [.m 22 0, .f 23 1 3, .l 24 23, .m 25 7, .i 26 (.indexAddr 2 (.t 24) (.t 25)), .L 27 2 26, .i 28 (.call 53 [.t 22, .t 27]), .m 21 28, .i 29 (.extract 0 (.t 21)), .i 30 (.extract 1 (.t 21)), .i 31 (.extract 2 (.t 21)), .i 8 (.alloc 32 [.st (.str (ByteArray.mk (#[]))), .full []]), .s 2 8 29, .m 9 30, .m 10 31]) (.seq (.ops [.m 32 10, .i 33 (.bin .neq (.t 32) (.n 0)), .m 34 33, .mk (some 35) (some (34, false)) (.mov (.t 9)) .no, .i 36 (.pick (.t 34) (.c (.one (.st (.bool true)))) (.t 35))]) (.cond (.t 36) (.seq (.ops [.f 37 0 3, .l 38 37, .f 39 1 3, .l 40 39, .i 41 (.callN 64 [.t 40]), .i 42 (.build [.st (.str (ByteArray.mk (#[]))), .full []] [(0, 1, .t 38), (1, 1, .t 41)]), .i 11 (.alloc 32 [.st (.str (ByteArray.mk (#[]))), .full []]), .s 2 11 42]) (.seq (.ops [.f 43 1 11, .l 44 43, .m 45 7, .L 46 2 8, .i 47 (.indexAddr 2 (.t 44) (.t 45)), .s 2 47 46]) (.seq (.ops [.L 48 2 11, .m 49 9, .m 50 10, .s 2 4 48, .m 5 49, .m 6 50]) .ret))) .skip))))) (.ops [.i 51 (.bin .add (.t 18) (.n 1)), .m 18 51]))))))) (.seq (.ops [.m 53 0, .L 54 2 3, .i 55 (.call 65 [.t 53, .t 54, .n 0]), .m 52 55, .i 56 (.extract 0 (.t 52)), .i 57 (.extract 1 (.t 52)), .i 58 (.extract 2 (.t 52)), .i 12 (.alloc 32 [.st (.str (ByteArray.mk (#[]))), .full []]), .s 2 12 56, .m 13 57, .m 14 58]) (.seq (.ops [.L 59 2 12, .m 60 13, .i 61 (.bin .geq (.t 60) (.n 0)), .m 62 14, .s 2 4 59, .m 5 61, .m 6 62]) .ret))))
theorem FL : OkF Tryd.prog 53 63 [20000041] DM [.cell 4 true 2, .t 5, .t 6] := .of Tryd.func53 rfl rfl (by kernel_rfl) rfl
def Er : IR :=
 (.seq (.ops [.i 4 (.box 32 (.t 1)), .i 6 (.alloc 32 [.st (.str (ByteArray.mk (#[]))), .full []]), .i 7 (.mov (.n 0)), .i 8 (.mov (.n 0))]) (.seq (.ops [.L 13 2 4, .i 14 (.call 50 [.t 13]), .s 2 4 14]) (.seq (.ops [.i 9 (.mov (.n 0))]) (.block 0 (.loop (.seq (.block 1 (.seq (.ops [.m 18 0, .L 19 2 4, .i 20 (.call 53 [.t 18, .t 19]), .m 17 20, .i 21 (.extract 0 (.t 17)), .i 22 (.extract 1 (.t 17)), .i 23 (.extract 2 (.t 17)), .i 10 (.alloc 32 [.st (.str (ByteArray.mk (#[]))), .full []]), .s 2 10 21, .m 11 22, .m 12 23]) (.seq (.seq (.ops [.m 24 11, .m 25 24, .mk (some 26) (some (25, true)) (.mov (.t 9)) .no, .mk (some 27) (some (25, true)) (.mov (.t 2)) .no, .mk (some 28) (some (25, true)) (.bin .eql (.t 26) (.t 27)) .no, .i 29 (.pick (.t 25) (.t 28) (.c (.one (.st (.bool false)))))]) (.cond (.t 29) (.ops [.i 12 (.mov (.n 9))]) .skip)) (.seq (.seq (.ops [.m 30 12, .i 31 (.bin .neq (.t 30) (.n 0))]) (.cond (.t 31) (.seq (.ops [.i 32 (.build [.st (.str (ByteArray.mk (#[]))), .full []] []), .m 33 12, .s 2 6 32, .i 7 (.mov (.n 0)), .m 8 33]) .ret) .skip)) (.seq (.seq (.ops [.m 34 11, .i 35 (.un .not (.t 34))]) (.cond (.t 35) (.seq (.ops [.L 36 2 4, .m 37 9, .s 2 6 36, .m 7 37, .i 8 (.mov (.n 0))]) .ret) .skip)) (.seq (.ops [.L 38 2 10, .s 2 4 38]) (.seq (.ops [.L 39 2 4, .i 40 (.call 54 [.t 39]), .i 41 (.bin .gtr (.t 40) (.n 2000))]) (.cond (.t 41) (.seq (.ops [.i 42 (.build [.st (.str (ByteArray.mk (#[]))), .full []] []), .s 2 6 42, .i 7 (.mov (.n 0)), .i 8 (.mov (.n 8))]) .ret) .skip)))))))) (.ops [.m 15 9, .i 16 (.bin .add (.t 15) (.n 1)), .m 9 16])))))))
theorem H9 : OkF Tryd.prog 33 43 [] Er [.cell 6 true 2, .t 7, .t 8] := .of Tryd.func33 rfl rfl (by kernel_rfl) rfl
def E1 : IR :=
 (.seq (.ops [.i 5 (.box 32 (.t 1)), .i 6 (.box 32 (.t 2)), .i 8 (.mov (.c (.one (.st (.bool false))))), .i 9 (.mov (.n 0))]) (.seq (.ops [.m 11 0, .L 12 2 5, .i 13 (.call 14 [.t 11, .t 12]), .m 10 13]) (.seq (.seq (.ops [.m 14 10, .i 15 (.bin .eql (.t 14) (.n 0))]) (.cond (.t 15) (.ops [.L 16 2 6, .i 17 (.call 15 [.t 16]), .m 10 17]) .skip)) (.seq (.seq (.ops [.m 18 10, .i 19 (.bin .eql (.t 18) (.n 0))]) (.cond (.t 19) (.ops [.m 20 3, .i 21 (.call 16 [.t 20]), .m 10 21]) .skip)) (.seq (.seq (.ops [.m 22 10, .i 23 (.bin .neq (.t 22) (.n 0))]) (.cond (.t 23) (.seq (.ops [.m 24 10, .i 8 (.mov (.c (.one (.st (.bool false))))), .m 9 24]) .ret) .skip)) (.seq (.ops [.m 25 0, .L 26 2 5, .L 27 2 6, .m 28 3, .i 29 (.call 13 [.t 25, .t 26, .t 27, .t 28]), .i 30 (.extract 0 (.t 29)), .i 31 (.extract 1 (.t 29)), .m 8 30, .m 9 31]) .ret))))))
theorem IH : OkF Tryd.prog 7 32 [] E1 [.t 8, .t 9] := .of Tryd.func7 rfl rfl (by kernel_rfl) rfl
def FP : IR :=
 (.seq (.ops [.i 5 (.box 32 (.t 1)), .i 6 (.box 32 (.t 2)), .i 8 (.mov (.c (.one (.st (.bool false))))), .i 9 (.mov (.n 0))]) (.seq (.ops [.m 16 0, .L 17 2 5, .m 18 3, .i 19 (.call 33 [.t 16, .t 17, .t 18]), .m 15 19, .i 20 (.extract 0 (.t 15)), .i 21 (.extract 1 (.t 15)), .i 22 (.extract 2 (.t 15)), .i 10 (.alloc 32 [.st (.str (ByteArray.mk (#[]))), .full []]), .s 2 10 20, .m 11 21, .m 12 22]) (.seq (.seq (.ops [.m 23 12, .i 24 (.bin .neq (.t 23) (.n 0))]) (.cond (.t 24) (.seq (.ops [.m 25 12, .i 8 (.mov (.c (.one (.st (.bool false))))), .m 9 25]) .ret) .skip)) (.seq (.ops [.m 27 0, .L 28 2 6, .m 29 3, .i 30 (.call 33 [.t 27, .t 28, .t 29]), .m 26 30, .i 31 (.extract 0 (.t 26)), .i 32 (.extract 1 (.t 26)), .i 33 (.extract 2 (.t 26)), .i 13 (.alloc 32 [.st (.str (ByteArray.mk (#[]))), .full []]), .s 2 13 31, .m 14 32, .m 12 33]) (.seq (.seq (.ops [.m 34 12, .i 35 (.bin .neq (.t 34) (.n 0))]) (.cond (.t 35) (.seq (.ops [.m 36 12, .i 8 (.mov (.c (.one (.st (.bool false))))), .m 9 36]) .ret) .skip)) (.seq (.ops [.L 37 2 10, .L 38 2 13, .i 39 (.call 34 [.t 37, .t 38]), .m 8 39, .i 9 (.mov (.n 0))]) .ret))))))
theorem Jn : OkF Tryd.prog 13 40 [] FP [.t 8, .t 9] := .of Tryd.func13 rfl rfl (by kernel_rfl) rfl
def Eu : IR :=
 (.seq (.ops [.i 2 (.mov (.n 0))]) (.seq (.seq (.ops [.m 3 0, .i 4 (.bin .lss (.t 3) (.n 0)), .m 5 4, .mk (some 6) (some (5, false)) (.mov (.t 0)) .no, .mk (some 7) (some (5, false)) (.bin .gtr (.t 6) (.n 400)) .no, .i 8 (.pick (.t 5) (.c (.one (.st (.bool true)))) (.t 7))]) (.cond (.t 8) (.seq (.ops [.i 2 (.mov (.n 10))]) .ret) .skip)) (.seq (.ops [.i 2 (.mov (.n 0))]) .ret)))
theorem IB : OkF Tryd.prog 16 9 [] Eu [.t 2] := .of Tryd.func16 rfl rfl (by kernel_rfl) rfl

end Go.Proofs.YtiaopkfapnajaaaDoor
