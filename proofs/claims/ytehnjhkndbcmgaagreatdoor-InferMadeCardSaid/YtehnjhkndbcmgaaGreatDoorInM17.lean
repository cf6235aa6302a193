/-
  Part 17 of the texts: BUnify3; IrMatch; BMet; IrSameT; BSameT; BMatch; BLamMv. Conditions: none.
-/
import Derived.Test.YtehnjhkndbcmgaaGreatDoorInM16
namespace Go.Proofs.YtehnjhkndbcmgaaGreatDoor
open Go Go.RowKit
set_option linter.unusedVariables false
set_option linter.unusedSimpArgs false
set_option maxHeartbeats 2000000
def Stk (xs : List (List SV)) (l : List Pr) : Prop := xs.take l.length = l.reverse.map encP ∧ l.length ≤ xs.length
theorem Stk.push {xs : List (List SV)} {l : List Pr} (h : Stk xs l) (p : Pr) : Stk (xs.take l.length ++ [encP p] ++ xs.drop (l.length + 1)) (p :: l) := by
  obtain ⟨h1, h2⟩ := h
  have hl : (xs.take l.length).length = l.length := by rw [List.length_take]; omega
  refine ⟨?_, by simp only [List.length_append, List.length_take, List.length_cons, List.length_nil]; omega⟩
  rw [List.length_cons, List.take_append_of_le_length (by rw [List.length_append, hl]; simp), List.take_of_length_le (by rw [List.length_append, hl]; simp), h1, List.reverse_cons, List.map_append]
  rfl
theorem Stk.pushLen {xs : List (List SV)} {l : List Pr} (h : Stk xs l) (p : Pr) : (xs.take l.length ++ [encP p] ++ xs.drop (l.length + 1)).length = if xs.length ≤ l.length + 1 then l.length + 1 else xs.length := by
  have := h.2
  simp only [List.length_append, List.length_take, List.length_drop, List.length_cons, List.length_nil]
  split <;> omega
theorem Stk.top {xs : List (List SV)} {p : Pr} {l : List Pr} (h : Stk xs (p :: l)) : xs[l.length]? = some (encP p) := by
  obtain ⟨h1, h2⟩ := h
  have e : (xs.take (p :: l).length)[l.length]? = xs[l.length]? := by rw [List.getElem?_take, if_pos (by simp)]
  rw [← e, h1, List.reverse_cons, List.map_append, List.getElem?_append_right (by simp)]
  simp
theorem Stk.pop {xs : List (List SV)} {p : Pr} {l : List Pr} (h : Stk xs (p :: l)) : Stk xs l := by
  obtain ⟨h1, h2⟩ := h
  rw [List.length_cons] at h2
  refine ⟨?_, by omega⟩
  have e : xs.take l.length = (xs.take (p :: l).length).take l.length := by rw [List.take_take, List.length_cons, Nat.min_eq_left (by omega)]
  rw [e, h1, List.reverse_cons, List.map_append, List.take_append_of_le_length (by simp), List.take_of_length_le (by simp)]
def halfOn (s : List Bd) (x : ByteArray) (t : Tm) (i : Nat) : List Bd := (s.take i).map (fun b => (b.1, b.2.on [(x, t)])) ++ s.drop i
theorem halfOn_len (s : List Bd) (x : ByteArray) (t : Tm) (i : Nat) : (halfOn s x t i).length = s.length := by
  have := congrArg List.length (List.take_append_drop i s)
  unfold halfOn
  rw [List.length_append] at this ⊢
  rw [List.length_map]
  exact this
theorem halfOn_get {s : List Bd} {x : ByteArray} {t : Tm} {i : Nat} {b : Bd} (h : s[i]? = some b) : (halfOn s x t i)[i]? = some b := by
  have := lt_of_get h
  unfold halfOn
  rw [List.getElem?_append_right (by rw [List.length_map, List.length_take]; omega), List.length_map, List.length_take, Nat.min_eq_left (by omega), Nat.sub_self, drop_get h]
  rfl
theorem halfOn_set {s : List Bd} {x : ByteArray} {t : Tm} {i : Nat} {b : Bd} (h : s[i]? = some b) : (halfOn s x t i).set i (b.1, b.2.on [(x, t)]) = halfOn s x t (i + 1) := by
  have := lt_of_get h
  unfold halfOn
  rw [List.set_append_right _ _ (by rw [List.length_map, List.length_take]; omega), List.length_map, List.length_take, Nat.min_eq_left (by omega), Nat.sub_self, drop_get h, take_snoc h, List.map_append, List.append_assoc]
  rfl
theorem halfOn_all (s : List Bd) (x : ByteArray) (t : Tm) : halfOn s x t s.length = s.map fun b => (b.1, b.2.on [(x, t)]) := by
  unfold halfOn
  rw [List.take_length, List.drop_length, List.append_nil]
theorem solve_a (U : List ByteArray) (hU : U.length ≤ 20000) (C0 : Nat) (hC0 : C0 ≤ 100000000000) (n : Nat) (l : List Pr) (r : List Bd × Int) (hr : UEnds n [] l r) (hg : UGood U C0 [] l) : ACalls Tryz.prog 45 [aPrs l] (.tup [aBds r.1, aInt r.2]) := by
  have hll : l.length ≤ 100000000001 := by have := hg.stack; omega
  refine ac_unify_Solve (Nat.le_of_ble_eq_true rfl) fun C hC => ?_
  unfold ir_unify_Solve
  repeat' (first | (with_reducible first | refine W ?_ | refine Wk (by decide) ?_) | ((with_reducible first | refine Wo (fun K hK => ?_) | refine Wp ?_ | refine Wq ?_ | refine Wr ?_); (try simp only [go_sem, fN, ↓gI, ↓pI, seval, eT, iR, dT, dF, nL]); (repeat with_reducible refine And.intro (by first | omega | exact lens | (simp [maxLen_eq] <;> omega)) ?_); (try (refine hK _ ?_; clear hK K)); (try with_reducible refine iC ?_)))
  refine IWP.ghost (Ghost.ownM 4 500 118 3 rfl rfl (by rw [hC]; decide)) ?_
  refine IWP.ghost (Ghost.ownM 5 501 114 4 rfl rfl (by rw [hC]; decide)) ?_
  refine IWP.ghost (Ghost.toPart 5 501 0 rfl (by rw [hC]; decide)) ?_
  refine IWP.loop (fun m x => ∃ (k : Nat) (xs : List (List SV)), k ≤ l.length ∧ m = k ∧ Stk xs (l.drop k) ∧ x.env 0 = aPrs l ∧ x.env 4 = .one (.row 500 0) ∧ x.env 5 = .one (.part 501 (l.drop k).length xs.length) ∧ x.env 6 = .one (.st (.int .i64 ((k : Int) - 1))) ∧ x.S 500 = some (rowBd []) ∧ x.S 501 = some (.mrow 114 4 xs) ∧ x.S 7 = none ∧ x.S 8 = none ∧ x.S 10 = none) l.length ⟨l.length, [], Nat.le_refl _, rfl, ?_⟩ ?_
  · rw [List.drop_length]
    exact ⟨⟨rfl, Nat.le_refl _⟩, rfl, rfl, rfl, rfl, rfl, rfl, rfl, rfl, rfl⟩
  · rintro k ⟨env, S⟩ ⟨_, xs, hk, rfl, hstk, e0, e4, e5, e6, s500, s501, s7, s8, s10⟩
    simp only at e0 e4 e5 e6 s500 s501 s7 s8 s10
    by_cases hk0 : 0 ≤ (k : Int) - 1
    · obtain ⟨k, rfl⟩ : ∃ q, k = q + 1 := ⟨k - 1, by omega⟩
      obtain ⟨p, hp⟩ := get_lt (show k < l.length by omega)
      have hz : (((k + 1 : Nat) : Int) - 1).toNat = k := by omega
      have hp' : l[(((k + 1 : Nat) : Int) - 1).toNat]? = some p := by rw [hz]; exact hp
      have hdl : (List.drop (k + 1) l).length ≤ 100000000001 := by rw [List.length_drop]; omega
      repeat' (first | (with_reducible first | refine W ?_ | refine Wk (by decide) ?_) | ((with_reducible first | refine Wo (fun K hK => ?_) | refine Wp ?_ | refine Wq ?_ | refine Wr ?_); (try simp only [go_sem, fN, ↓gI, ↓pI, seval, eT, iR, e0, e4, e5, e6, s500, s501, s7, s8, s10, hk0, hz, hp, encP, dT, dF, nL]); (repeat with_reducible refine And.intro (by first | omega | exact lens | (simp [maxLen_eq] <;> omega)) ?_); (try (refine hK _ ?_; clear hK K)); (try with_reducible refine iC ?_)))
      refine then_normal ⟨k, by omega, k, _, by omega, rfl, by rw [drop_get hp]; exact hstk.push p, ?_⟩
      simp only [go_sem, fN, ↓gI, ↓pI, seval, eT, iR, e0, e4, e5, e6, s500, s7, s8, s10]
      have hpl : (List.take (List.drop (k + 1) l).length xs).length + 1 + (List.drop ((List.drop (k + 1) l).length + 1) xs).length = if xs.length ≤ (List.drop (k + 1) l).length + 1 then (List.drop (k + 1) l).length + 1 else xs.length := by
        have := hstk.pushLen p
        simpa only [List.length_append, List.length_cons, List.length_nil, Nat.zero_add] using this
      rw [hpl, drop_get hp]
      refine ⟨rfl, ?_, rfl⟩
      congr 3
      omega
    · obtain rfl : k = 0 := by omega
      rw [List.drop_zero] at hstk e5
      repeat' (first | (with_reducible first | refine W ?_ | refine Wk (by decide) ?_) | ((with_reducible first | refine Wo (fun K hK => ?_) | refine Wp ?_ | refine Wq ?_ | refine Wr ?_); (try simp only [go_sem, fN, ↓gI, ↓pI, seval, eT, iR, e6, hk0, dT, dF, nL]); (repeat with_reducible refine And.intro (by first | omega | exact lens | (simp [maxLen_eq] <;> omega)) ?_); (try (refine hK _ ?_; clear hK K)); (try with_reducible refine iC ?_)))
      refine IWP.loopD [7, 8, 10] (fun m x => ∃ s l xs, UEnds m s l r ∧ UGood U C0 s l ∧ Stk xs l ∧ x.env 4 = .one (.row 500 s.length) ∧ x.env 5 = .one (.part 501 l.length xs.length) ∧ x.S 500 = some (rowBd s) ∧ x.S 501 = some (.mrow 114 4 xs) ∧ x.S 7 = none ∧ x.S 8 = none ∧ x.S 10 = none) n ⟨[], l, xs, hr, hg, hstk, ?_⟩ ?_
      · simp only [go_sem, fN, ↓gI, ↓pI, seval, eT, iR, e4, e5, s500, s501, s7, s8, s10]
      clear hr hg hstk e0 e4 e5 e6 s500 s501 s7 s8 s10 hll hk hk0 env S xs
      rintro m ⟨env, S⟩ ⟨s, l, xs, hr, hg, hstk, e4, e5, s500, s501, s7, s8, s10⟩
      simp only at e4 e5 s500 s501 s7 s8 s10
      have hsl : s.length ≤ 20000 := Nat.le_trans hg.len hU
      cases l with
      | nil =>
        cases hr
        refine IWP.ghost (Ghost.share (id := 500) s500) ?_
        repeat' (first | (with_reducible first | refine W ?_ | refine Wk (by decide) ?_) | ((with_reducible first | refine Wo (fun K hK => ?_) | refine Wp ?_ | refine Wq ?_ | refine Wr ?_); (try simp only [go_sem, fN, ↓gI, ↓pI, seval, eT, iR, e4, e5, s501, dT, dF, nL]); (repeat with_reducible refine And.intro (by first | omega | exact lens | (simp [maxLen_eq] <;> omega)) ?_); (try (refine hK _ ?_; clear hK K)); (try with_reducible refine iC ?_)))
        simp only [go_sem, fN, ↓gI, ↓pI, seval, FinQ, AS.result, resAll, resOne, tupV]
      | cons p l =>
        have hinv := uends_inv hr
        obtain ⟨hc1, hc2⟩ := hg.lchk p (by simp)
        have hUp := hg.lU p (by simp)
        obtain ⟨hz1, hz2⟩ := hg.lsiz p (by simp)
        obtain ⟨a1, a2, a3⟩ := onU hg hc1 fun y => (hUp y).1
        obtain ⟨b1, b2, b3⟩ := onU hg hc2 fun y => (hUp y).2
        have hl0 : (0 : Int) < ((l.length + 1 : Nat) : Int) := by omega
        have hl1 : (((l.length + 1 : Nat) : Int) - 1) = (l.length : Int) := by omega
        have hl2 : (l.length : Int) < ((l.length + 1 : Nat) : Int) := by omega
        have hl3 : (l.length : Int) ≤ ((l.length + 1 : Nat) : Int) := by omega
        have hlb : l.length ≤ 100000000000 := by have := hg.stack; rw [List.length_cons] at this; omega
        have htop := hstk.top
        have hstk' := hstk.pop
        rw [List.length_cons] at e5
        have onc : ∀ t : Tm, t.chk = 0 → ∀ T : AStore, (∀ q ∈ [(500, rowBd s)], T q.1 = some q.2) → ACallsS Tryz.prog 46 [.one (.row (up1 500) s.length), aTm t] (upS T) (.tup [aTm (onTo s t).1, aBool (onTo s t).2]) (upS T) :=
          fun t ht T hT => on_M s (by omega) hg.ord t hg.var ht (up1 500) (up1_le 500) (upS T) (by rw [upS_up, hT _ (List.mem_singleton.2 rfl)]; rfl)
        by_cases ha : (p.1.on s).size ≤ 2000
        case neg =>
          have he : onTo s p.1 = (Tm.nil, false) := by unfold onTo; rw [if_neg ha]
          have hst : stepU s p = .err 8 := by unfold stepU; rw [if_pos (by omega)]
          repeat' (first | (with_reducible first | refine W ?_ | refine Wk (by decide) ?_) | ((with_reducible first | refine Wo (fun K hK => ?_) | refine Wp ?_ | refine Wq ?_ | refine Wr ?_); (try simp only [go_sem, fN, ↓gI, ↓pI, seval, eT, iR, e4, e5, s500, s501, s7, s8, s10, hl0, hl1, hl2, hl3, htop, encP, dT, dF, nL]); (repeat with_reducible refine And.intro (by first | omega | exact lens | (simp [maxLen_eq] <;> omega)) ?_); (try (refine hK _ ?_; clear hK K)); (try with_reducible refine iC ?_)))
          refine ⟨_, [(500, rowBd s)], rows_one (by (simp only [go_sem, fN, ↓gI, ↓pI, seval, eT, iR, s500])), onc p.1 hc1, ?_⟩
          repeat' (first | (with_reducible first | refine W ?_ | refine Wk (by decide) ?_) | ((with_reducible first | refine Wo (fun K hK => ?_) | refine Wp ?_ | refine Wq ?_ | refine Wr ?_); (try simp only [go_sem, fN, ↓gI, ↓pI, seval, eT, iR, he, e4, e5, s8, s10, dT, dF, nL]); (repeat with_reducible refine And.intro (by first | omega | exact lens | (simp [maxLen_eq] <;> omega)) ?_); (try (refine hK _ ?_; clear hK K)); (try with_reducible refine iC ?_)))
          refine ⟨_, [(500, rowBd s)], rows_one (by (simp only [go_sem, fN, ↓gI, ↓pI, seval, eT, iR, s500])), onc p.2 hc2, ?_⟩
          repeat' (first | (with_reducible first | refine W ?_ | refine Wk (by decide) ?_) | ((with_reducible first | refine Wo (fun K hK => ?_) | refine Wp ?_ | refine Wq ?_ | refine Wr ?_); (try simp only [go_sem, fN, ↓gI, ↓pI, seval, eT, iR, he, e4, e5, s8, s10, dT, dF, nL]); (repeat with_reducible refine And.intro (by first | omega | exact lens | (simp [maxLen_eq] <;> omega)) ?_); (try (refine hK _ ?_; clear hK K)); (try with_reducible refine iC ?_)))
          simp only [go_sem, fN, ↓gI, ↓pI, seval, FinQ, AS.result, resAll, resOne, tupV]
          rcases hinv with ⟨e, h1, rfl⟩ | ⟨s', ps, q, h1, _⟩
          · rw [hst] at h1
            cases h1
            rfl
          · rw [hst] at h1
            cases h1
        by_cases hb : (p.2.on s).size ≤ 2000
        case neg =>
          have he : onTo s p.1 = (p.1.on s, true) := by unfold onTo; rw [if_pos ha]
          have he2 : onTo s p.2 = (Tm.nil, false) := by unfold onTo; rw [if_neg hb]
          have hst : stepU s p = .err 8 := by unfold stepU; rw [if_pos (by omega)]
          repeat' (first | (with_reducible first | refine W ?_ | refine Wk (by decide) ?_) | ((with_reducible first | refine Wo (fun K hK => ?_) | refine Wp ?_ | refine Wq ?_ | refine Wr ?_); (try simp only [go_sem, fN, ↓gI, ↓pI, seval, eT, iR, e4, e5, s500, s501, s7, s8, s10, hl0, hl1, hl2, hl3, htop, encP, dT, dF, nL]); (repeat with_reducible refine And.intro (by first | omega | exact lens | (simp [maxLen_eq] <;> omega)) ?_); (try (refine hK _ ?_; clear hK K)); (try with_reducible refine iC ?_)))
          refine ⟨_, [(500, rowBd s)], rows_one (by (simp only [go_sem, fN, ↓gI, ↓pI, seval, eT, iR, s500])), onc p.1 hc1, ?_⟩
          repeat' (first | (with_reducible first | refine W ?_ | refine Wk (by decide) ?_) | ((with_reducible first | refine Wo (fun K hK => ?_) | refine Wp ?_ | refine Wq ?_ | refine Wr ?_); (try simp only [go_sem, fN, ↓gI, ↓pI, seval, eT, iR, he, e4, e5, s8, s10, dT, dF, nL]); (repeat with_reducible refine And.intro (by first | omega | exact lens | (simp [maxLen_eq] <;> omega)) ?_); (try (refine hK _ ?_; clear hK K)); (try with_reducible refine iC ?_)))
          refine ⟨_, [(500, rowBd s)], rows_one (by (simp only [go_sem, fN, ↓gI, ↓pI, seval, eT, iR, s500])), onc p.2 hc2, ?_⟩
          repeat' (first | (with_reducible first | refine W ?_ | refine Wk (by decide) ?_) | ((with_reducible first | refine Wo (fun K hK => ?_) | refine Wp ?_ | refine Wq ?_ | refine Wr ?_); (try simp only [go_sem, fN, ↓gI, ↓pI, seval, eT, iR, he, he2, e4, e5, s8, s10, dT, dF, nL]); (repeat with_reducible refine And.intro (by first | omega | exact lens | (simp [maxLen_eq] <;> omega)) ?_); (try (refine hK _ ?_; clear hK K)); (try with_reducible refine iC ?_)))
          simp only [go_sem, fN, ↓gI, ↓pI, seval, FinQ, AS.result, resAll, resOne, tupV]
          rcases hinv with ⟨e, h1, rfl⟩ | ⟨s', ps, q, h1, _⟩
          · rw [hst] at h1
            cases h1
            rfl
          · rw [hst] at h1
            cases h1
        have he : onTo s p.1 = (p.1.on s, true) := by unfold onTo; rw [if_pos ha]
        have he2 : onTo s p.2 = (p.2.on s, true) := by unfold onTo; rw [if_pos hb]
        have hta : TmOk U s (p.1.on s) := ⟨a1, ha, a2, a3⟩
        have htb : TmOk U s (p.2.on s) := ⟨b1, hb, b2, b3⟩
        repeat' (first | (with_reducible first | refine W ?_ | refine Wk (by decide) ?_) | ((with_reducible first | refine Wo (fun K hK => ?_) | refine Wp ?_ | refine Wq ?_ | refine Wr ?_); (try simp only [go_sem, fN, ↓gI, ↓pI, seval, eT, iR, e4, e5, s500, s501, s7, s8, s10, hl0, hl1, hl2, hl3, htop, encP, dT, dF, nL]); (repeat with_reducible refine And.intro (by first | omega | exact lens | (simp [maxLen_eq] <;> omega)) ?_); (try (refine hK _ ?_; clear hK K)); (try with_reducible refine iC ?_)))
        refine ⟨_, [(500, rowBd s)], rows_one (by (simp only [go_sem, fN, ↓gI, ↓pI, seval, eT, iR, s500])), onc p.1 hc1, ?_⟩
        repeat' (first | (with_reducible first | refine W ?_ | refine Wk (by decide) ?_) | ((with_reducible first | refine Wo (fun K hK => ?_) | refine Wp ?_ | refine Wq ?_ | refine Wr ?_); (try simp only [go_sem, fN, ↓gI, ↓pI, seval, eT, iR, he, e4, e5, s8, s10, dT, dF, nL]); (repeat with_reducible refine And.intro (by first | omega | exact lens | (simp [maxLen_eq] <;> omega)) ?_); (try (refine hK _ ?_; clear hK K)); (try with_reducible refine iC ?_)))
        refine ⟨_, [(500, rowBd s)], rows_one (by (simp only [go_sem, fN, ↓gI, ↓pI, seval, eT, iR, s500])), onc p.2 hc2, ?_⟩
        repeat' (first | (with_reducible first | refine W ?_ | refine Wk (by decide) ?_) | ((with_reducible first | refine Wo (fun K hK => ?_) | refine Wp ?_ | refine Wq ?_ | refine Wr ?_); (try simp only [go_sem, fN, ↓gI, ↓pI, seval, eT, iR, he, he2, e4, e5, s8, s10, dT, dF, nL]); (repeat with_reducible refine And.intro (by first | omega | exact lens | (simp [maxLen_eq] <;> omega)) ?_); (try (refine hK _ ?_; clear hK K)); (try with_reducible refine iC ?_)))
        refine ⟨_, variable_a _, ?_⟩
        by_cases hsame : isVar (p.1.on s).name = true ∧ (p.1.on s).name = (p.2.on s).name
        · have hst : stepU s p = .go s [] := by unfold stepU; rw [if_neg (by omega), if_pos hsame]
          have hsv : isVar (p.2.on s).name = true := by rw [← hsame.2]; exact hsame.1
          repeat' (first | (with_reducible first | refine W ?_ | refine Wk (by decide) ?_) | ((with_reducible first | refine Wo (fun K hK => ?_) | refine Wp ?_ | refine Wq ?_ | refine Wr ?_); (try simp only [go_sem, fN, ↓gI, ↓pI, seval, eT, iR, hsame.1, hsv, hsame.2, e4, e5, dT, dF, nL]); (repeat with_reducible refine And.intro (by first | omega | exact lens | (simp [maxLen_eq] <;> omega)) ?_); (try (refine hK _ ?_; clear hK K)); (try with_reducible refine iC ?_)))
          rcases hinv with ⟨e, h1, _⟩ | ⟨s', ps, q, h1, h2, h3⟩
          · rw [hst] at h1
            cases h1
          rw [hst] at h1
          cases h1
          refine then_normal ⟨q, h2, s, l, xs, h3, hg.tail, hstk', ?_⟩
          simp only [go_sem, fN, ↓gI, ↓pI, seval, AS.drop, dropS, AC.clears, AC.clear, AC.highs, AC.high, Bool.not_false, Bool.true_and, Bool.and_self, AV.purge, AV.purges, AC.purge, ABlk.purge, List.contains_cons, List.contains_nil, Nat.reduceBEq, Bool.or_self, Bool.or_false, Bool.false_or, Bool.or_true, eT, iR, e4, s500, s501]
        by_cases hvv : isVar (p.1.on s).name = true ∨ isVar (p.2.on s).name = true
        · apply once
          · intro rest
            cases hv : isVar (p.1.on s).name with
            | true =>
              have hne : ¬ (p.1.on s).name = (p.2.on s).name := fun h => hsame ⟨hv, h⟩
              repeat' (first | (with_reducible first | refine W ?_ | refine Wk (by decide) ?_) | ((with_reducible first | refine Wo (fun K hK => ?_) | refine Wp ?_ | refine Wq ?_ | refine Wr ?_); (try simp only [go_sem, fN, ↓gI, ↓pI, seval, eT, iR, hv, hne, dT, dF, nL]); (repeat with_reducible refine And.intro (by first | omega | exact lens | (simp [maxLen_eq] <;> omega)) ?_); (try (with_reducible refine hK _ ?_; skip)); (try with_reducible refine iC ?_)))
              refine ⟨_, variable_a _, ?_⟩
              repeat' (first | (with_reducible first | refine W ?_ | refine Wk (by decide) ?_) | ((with_reducible first | refine Wo (fun K hK => ?_) | refine Wq ?_ | refine Wr ?_); (try simp only [go_sem, fN, ↓gI, ↓pI, seval, eT, iR, hv]); (repeat with_reducible refine And.intro (by first | omega | exact lens | (simp [maxLen_eq] <;> omega)) ?_); (try (with_reducible refine hK _ ?_; skip))))
              with_reducible refine Wp ?_
              simp only [go_sem, fN, ↓gI, ↓pI, seval, true_implies, false_implies, implies_true, dT, dF, nL]
              (try with_reducible refine iC ?_)
              refine IWP.mid (fun x => ∃ u t, Turned U s p u t ∧ isVar u.name = true ∧ x.env 4 = .one (.row 500 s.length) ∧ x.env 5 = .one (.part 501 l.length xs.length) ∧ x.env 8 = .one (.ptr 8 1 0 0) ∧ x.env 10 = .one (.ptr 10 1 0 0) ∧ x.S 500 = some (rowBd s) ∧ x.S 501 = some (.mrow 114 4 xs) ∧ x.S 8 = some (boxT u) ∧ x.S 10 = some (boxT t)) ?_ rest
              repeat' (first | (with_reducible first | refine W ?_ | refine Wk (by decide) ?_) | ((with_reducible first | refine Wo (fun K hK => ?_) | refine Wp ?_ | refine Wq ?_ | refine Wr ?_); (try simp only [go_sem, fN, ↓gI, ↓pI, seval, eT, iR, dT, dF, nL]); (repeat with_reducible refine And.intro (by first | omega | exact lens | (simp [maxLen_eq] <;> omega)) ?_); (try (with_reducible refine hK _ ?_; skip)); (try with_reducible refine iC ?_)))
              refine ⟨_, variable_a _, ?_⟩
              repeat' (first | (with_reducible first | refine W ?_ | refine Wk (by decide) ?_) | ((with_reducible first | refine Wo (fun K hK => ?_) | refine Wp ?_ | refine Wq ?_ | refine Wr ?_); (try simp only [go_sem, fN, ↓gI, ↓pI, seval, eT, iR, hv, dT, dF, nL]); (repeat with_reducible refine And.intro (by first | omega | exact lens | (simp [maxLen_eq] <;> omega)) ?_); (try (with_reducible refine hK _ ?_; skip)); (try with_reducible refine iC ?_)))
              refine ⟨rfl, _, _, turned_a hta htb hsame (.inl hv), hv, ?_⟩
              simp only [go_sem, fN, ↓gI, ↓pI, seval, eT, iR, e4, s500, s501]
            | false =>
              have hw : isVar (p.2.on s).name = true := hvv.resolve_left (by rw [hv]; simp)
              repeat' (first | (with_reducible first | refine W ?_ | refine Wk (by decide) ?_) | ((with_reducible first | refine Wo (fun K hK => ?_) | refine Wp ?_ | refine Wq ?_ | refine Wr ?_); (try simp only [go_sem, fN, ↓gI, ↓pI, seval, eT, iR, hv, dT, dF, nL]); (repeat with_reducible refine And.intro (by first | omega | exact lens | (simp [maxLen_eq] <;> omega)) ?_); (try (with_reducible refine hK _ ?_; skip)); (try with_reducible refine iC ?_)))
              refine ⟨_, variable_a _, ?_⟩
              repeat' (first | (with_reducible first | refine W ?_ | refine Wk (by decide) ?_) | ((with_reducible first | refine Wo (fun K hK => ?_) | refine Wp ?_ | refine Wq ?_ | refine Wr ?_); (try simp only [go_sem, fN, ↓gI, ↓pI, seval, eT, iR, hv, dT, dF, nL]); (repeat with_reducible refine And.intro (by first | omega | exact lens | (simp [maxLen_eq] <;> omega)) ?_); (try (with_reducible refine hK _ ?_; skip)); (try with_reducible refine iC ?_)))
              refine ⟨_, variable_a _, ?_⟩
              repeat' (first | (with_reducible first | refine W ?_ | refine Wk (by decide) ?_) | ((with_reducible first | refine Wo (fun K hK => ?_) | refine Wq ?_ | refine Wr ?_); (try simp only [go_sem, fN, ↓gI, ↓pI, seval, eT, iR, hv, hw]); (repeat with_reducible refine And.intro (by first | omega | exact lens | (simp [maxLen_eq] <;> omega)) ?_); (try (with_reducible refine hK _ ?_; skip))))
              with_reducible refine Wp ?_
              simp only [go_sem, fN, ↓gI, ↓pI, seval, true_implies, false_implies, implies_true, dT, dF, nL]
              (try with_reducible refine iC ?_)
              refine IWP.mid (fun x => ∃ u t, Turned U s p u t ∧ isVar u.name = true ∧ x.env 4 = .one (.row 500 s.length) ∧ x.env 5 = .one (.part 501 l.length xs.length) ∧ x.env 8 = .one (.ptr 8 1 0 0) ∧ x.env 10 = .one (.ptr 10 1 0 0) ∧ x.S 500 = some (rowBd s) ∧ x.S 501 = some (.mrow 114 4 xs) ∧ x.S 8 = some (boxT u) ∧ x.S 10 = some (boxT t)) ?_ rest
              repeat' (first | (with_reducible first | refine W ?_ | refine Wk (by decide) ?_) | ((with_reducible first | refine Wo (fun K hK => ?_) | refine Wp ?_ | refine Wq ?_ | refine Wr ?_); (try simp only [go_sem, fN, ↓gI, ↓pI, seval, eT, iR, dT, dF, nL]); (repeat with_reducible refine And.intro (by first | omega | exact lens | (simp [maxLen_eq] <;> omega)) ?_); (try (with_reducible refine hK _ ?_; skip)); (try with_reducible refine iC ?_)))
              refine ⟨_, variable_a _, ?_⟩
              repeat' (first | (with_reducible first | refine W ?_ | refine Wk (by decide) ?_) | ((with_reducible first | refine Wo (fun K hK => ?_) | refine Wp ?_ | refine Wq ?_ | refine Wr ?_); (try simp only [go_sem, fN, ↓gI, ↓pI, seval, eT, iR, hv, dT, dF, nL]); (repeat with_reducible refine And.intro (by first | omega | exact lens | (simp [maxLen_eq] <;> omega)) ?_); (try (with_reducible refine hK _ ?_; skip)); (try with_reducible refine iC ?_)))
              refine ⟨rfl, _, _, turned_b hta htb hv hw, hw, ?_⟩
              simp only [go_sem, fN, ↓gI, ↓pI, seval, eT, iR, e4, s500, s501]
          clear e4 e5 s500 s501 s7 s8 s10
          rintro ⟨env, S⟩ ⟨u, t, ⟨hu, ht, hst⟩, hv, e4, e5, e8, e10, s500, s501, s8, s10⟩
          simp only at e4 e5 e8 e10 s500 s501 s8 s10
          have hst : stepU s p = bindV s u.name t := by
            rcases hst with ⟨_, h⟩ | ⟨h, _⟩
            · exact h
            · rw [hv] at h; cases h
          rw [hst] at hinv
          repeat' (first | (with_reducible first | refine W ?_ | refine Wk (by decide) ?_) | ((with_reducible first | refine Wo (fun K hK => ?_) | refine Wp ?_ | refine Wq ?_ | refine Wr ?_); (try simp only [go_sem, fN, ↓gI, ↓pI, seval, eT, iR, e4, e5, e8, e10, s500, s501, s8, s10, dT, dF, nL]); (repeat with_reducible refine And.intro (by first | omega | exact lens | (simp [maxLen_eq] <;> omega)) ?_); (try (refine hK _ ?_; clear hK K)); (try with_reducible refine iC ?_)))
          refine ⟨_, occurs_a u.name t, ?_⟩
          cases ho : occ u.name t with
          | true =>
            have hbv : bindV s u.name t = .err 6 := by unfold bindV; rw [if_pos ho]
            repeat' (first | (with_reducible first | refine W ?_ | refine Wk (by decide) ?_) | ((with_reducible first | refine Wo (fun K hK => ?_) | refine Wp ?_ | refine Wq ?_ | refine Wr ?_); (try simp only [go_sem, fN, ↓gI, ↓pI, seval, eT, iR, ho, dT, dF, nL]); (repeat with_reducible refine And.intro (by first | omega | exact lens | (simp [maxLen_eq] <;> omega)) ?_); (try (refine hK _ ?_; clear hK K)); (try with_reducible refine iC ?_)))
            simp only [go_sem, fN, ↓gI, ↓pI, seval, FinQ, AS.result, resAll, resOne, tupV]
            rcases hinv with ⟨e, h1, rfl⟩ | ⟨s', ps, q, h1, _⟩
            · rw [hbv] at h1
              cases h1
              rfl
            · rw [hbv] at h1
              cases h1
          | false =>
            repeat' (first | (with_reducible first | refine W ?_ | refine Wk (by decide) ?_) | ((with_reducible first | refine Wo (fun K hK => ?_) | refine Wp ?_ | refine Wq ?_ | refine Wr ?_); (try simp only [go_sem, fN, ↓gI, ↓pI, seval, eT, iR, ho, e4, e5, e8, e10, s500, s501, s8, s10, dT, dF, nL]); (repeat with_reducible refine And.intro (by first | omega | exact lens | (simp [maxLen_eq] <;> omega)) ?_); (try (refine hK _ ?_; clear hK K)); (try with_reducible refine iC ?_)))
            refine IWP.loop (fun m x => ∃ i, i ≤ s.length ∧ m = s.length - i ∧ (∀ c ∈ s.take i, (c.2.on [(u.name, t)]).size ≤ 2000) ∧ x.env 4 = .one (.row 500 s.length) ∧ x.env 5 = .one (.part 501 l.length xs.length) ∧ x.env 12 = .one (.full [encB (u.name, t)]) ∧ x.env 121 = aInt s.length ∧ x.env 122 = aInt i ∧ x.S 500 = some (rowBd (halfOn s u.name t i)) ∧ x.S 501 = some (.mrow 114 4 xs)) s.length ⟨0, Nat.zero_le _, rfl, by simp, ?_⟩ ?_
            · simp only [go_sem, fN, ↓gI, ↓pI, seval, eT, iR, e4, e5, s500, s501, encB]
              rfl
            rintro mm ⟨env, S⟩ ⟨i, hi, rfl, h20, e4, e5, e12, e121, e122, s500, s501⟩
            simp only at e4 e5 e12 e121 e122 s500 s501
            have hhl := halfOn_len s u.name t i
            by_cases hlt : (i : Int) < s.length
            · have hlt' : i < s.length := by omega
              obtain ⟨b, hb⟩ := get_lt hlt'
              have hbz := hg.siz b (mem_of_get hb)
              have hbh := halfOn_get (x := u.name) (t := t) hb
              have hone : ∀ c ∈ ([(u.name, t)] : List Bd), isVar c.1 = true := by simp [hv]
              repeat' (first | (with_reducible first | refine W ?_ | refine Wk (by decide) ?_) | ((with_reducible first | refine Wo (fun K hK => ?_) | refine Wp ?_ | refine Wq ?_ | refine Wr ?_); (try simp only [go_sem, fN, ↓gI, ↓pI, seval, eT, iR, e4, e5, e12, e121, e122, s500, s501, hlt, hlt', hhl, hbh, encB, dT, dF, nL]); (repeat with_reducible refine And.intro (by first | omega | exact lens | (simp [maxLen_eq] <;> omega)) ?_); (try (refine hK _ ?_; clear hK K)); (try with_reducible refine iC ?_)))
              refine ⟨_, onP_a [(u.name, t)] (by simp) (List.pairwise_singleton _ _) b.2 hone (hg.chk b (mem_of_get hb)), ?_⟩
              by_cases hz : (b.2.on [(u.name, t)]).size ≤ 2000
              · have hon : onTo [(u.name, t)] b.2 = (b.2.on [(u.name, t)], true) := by unfold onTo; rw [if_pos hz]
                repeat' (first | (with_reducible first | refine W ?_ | refine Wk (by decide) ?_) | ((with_reducible first | refine Wo (fun K hK => ?_) | refine Wp ?_ | refine Wq ?_ | refine Wr ?_); (try simp only [go_sem, fN, ↓gI, ↓pI, seval, eT, iR, hon, e4, e5, e12, e121, e122, s500, s501, hlt, hlt', hhl, hbh, encB, dT, dF, nL]); (repeat with_reducible refine And.intro (by first | omega | exact lens | (simp [maxLen_eq] <;> omega)) ?_); (try (refine hK _ ?_; clear hK K)); (try with_reducible refine iC ?_)))
                refine then_normal ⟨s.length - (i + 1), by omega, i + 1, by omega, rfl, fun c hc => ?_, ?_⟩
                · rw [take_snoc hb] at hc
                  rcases List.mem_append.1 hc with hc | hc
                  · exact h20 c hc
                  · rw [List.mem_singleton.1 hc]; exact hz
                · simp only [go_sem, fN, ↓gI, ↓pI, seval, eT, iR, e4, e5, e12, e121, e122, s500, s501]
                  refine ⟨rfl, by congr 3, ?_⟩
                  show ABlk.mrow _ _ (((halfOn s u.name t i).map encB).set i (encB (b.1, b.2.on [(u.name, t)]))) = _
                  rw [← List.map_set, halfOn_set hb]
              · have hon : onTo [(u.name, t)] b.2 = (Tm.nil, false) := by unfold onTo; rw [if_neg hz]
                have hbv : bindV s u.name t = .err 8 := by
                  unfold bindV
                  rw [if_neg (by rw [ho]; simp), if_neg]
                  intro hall
                  have := List.all_eq_true.1 hall b (mem_of_get hb)
                  exact hz (by simpa using this)
                repeat' (first | (with_reducible first | refine W ?_ | refine Wk (by decide) ?_) | ((with_reducible first | refine Wo (fun K hK => ?_) | refine Wp ?_ | refine Wq ?_ | refine Wr ?_); (try simp only [go_sem, fN, ↓gI, ↓pI, seval, eT, iR, hon, e4, e5, e12, e121, e122, s500, s501, hlt, hlt', hhl, hbh, encB, dT, dF, nL]); (repeat with_reducible refine And.intro (by first | omega | exact lens | (simp [maxLen_eq] <;> omega)) ?_); (try (refine hK _ ?_; clear hK K)); (try with_reducible refine iC ?_)))
                simp only [go_sem, fN, ↓gI, ↓pI, seval, FinQ, AS.result, resAll, resOne, tupV]
                rcases hinv with ⟨e, h1, rfl⟩ | ⟨s', ps, q, h1, _⟩
                · rw [hbv] at h1
                  cases h1
                  rfl
                · rw [hbv] at h1
                  cases h1
            · obtain rfl : i = s.length := by omega
              rw [List.take_of_length_le (Nat.le_refl _)] at h20
              rw [halfOn_all] at s500
              have hbv : bindV s u.name t = .go (sortB (s.map (fun b => (b.1, b.2.on [(u.name, t)])) ++ [(u.name, t)])) [] := by
                unfold bindV
                rw [if_neg (by rw [ho]; simp), if_pos]
                exact List.all_eq_true.2 fun b hb => by simpa using h20 b hb
              obtain ⟨hg', _⟩ := step_good hg (hst.trans hbv)
              rcases hinv with ⟨e, h1, _⟩ | ⟨s', ps, q, h1, h2, h3⟩
              · rw [hbv] at h1
                cases h1
              rw [hbv] at h1
              cases h1
              have hnamed := named_perm (sortB_perm _) (ordered_named hg'.ord)
              have hL : (s.map (fun b => (b.1, b.2.on [(u.name, t)]))).map encB ++ [[SV.str u.name, SV.str t.name, SV.list (t.args.map encT)]] = (s.map (fun b => (b.1, b.2.on [(u.name, t)])) ++ [(u.name, t)]).map encB := by
                rw [List.map_append]
                rfl
              have hLl : (s.map (fun b => (b.1, b.2.on [(u.name, t)])) ++ [(u.name, t)]).length = s.length + 1 := by simp
              have hsort := fun S h => sort_M _ hnamed (by omega) (up1 500) (up1_le 500) S h
              have hsl2 := sortB_length (s.map (fun b => (b.1, b.2.on [(u.name, t)])) ++ [(u.name, t)])
              rw [hLl] at hsort hsl2
              repeat' (first | (with_reducible first | refine W ?_ | refine Wk (by decide) ?_) | ((with_reducible first | refine Wo (fun K hK => ?_) | refine Wp ?_ | refine Wq ?_ | refine Wr ?_); (try simp only [go_sem, fN, ↓gI, ↓pI, seval, eT, iR, e4, e5, e12, e121, e122, s500, s501, hlt, encB, dT, dF, nL]); (repeat with_reducible refine And.intro (by first | omega | exact lens | (simp [maxLen_eq] <;> omega)) ?_); (try (refine hK _ ?_; clear hK K)); (try with_reducible refine iC ?_)))
              rw [hL]
              refine ⟨_, _, hsort _ (by rw [upS_up, updE_same]; rfl), ?_⟩
              repeat' (first | (with_reducible first | refine W ?_ | refine Wk (by decide) ?_) | ((with_reducible first | refine Wo (fun K hK => ?_) | refine Wp ?_ | refine Wq ?_ | refine Wr ?_); (try simp only [go_sem, fN, ↓gI, ↓pI, seval, eT, iR, e5, s501, dT, dF, nL]); (repeat with_reducible refine And.intro (by first | omega | exact lens | (simp [maxLen_eq] <;> omega)) ?_); (try (refine hK _ ?_; clear hK K)); (try with_reducible refine iC ?_)))
              refine then_normal ⟨q, h2, _, l, xs, h3, hg', hstk', ?_⟩
              simp only [go_sem, fN, ↓gI, ↓pI, seval, AS.drop, dropS, AC.clears, AC.clear, AC.highs, AC.high, Bool.not_false, Bool.true_and, Bool.and_self, AV.purge, AV.purges, AC.purge, ABlk.purge, List.contains_cons, List.contains_nil, Nat.reduceBEq, Bool.or_self, Bool.or_false, Bool.false_or, Bool.or_true, eT, iR, e5, s501, hsl2]
        · -- two knots
          have hv : isVar (p.1.on s).name = false := by
            cases h : isVar (p.1.on s).name with
            | false => rfl
            | true => exact absurd (.inl h) hvv
          have hw : isVar (p.2.on s).name = false := by
            cases h : isVar (p.2.on s).name with
            | false => rfl
            | true => exact absurd (.inr h) hvv
          have hst : stepU s p = if (p.1.on s).name = (p.2.on s).name ∧ (p.1.on s).args.length = (p.2.on s).args.length then .go s ((p.1.on s).args.zip (p.2.on s).args) else .err 5 := by
            unfold stepU
            rw [if_neg (by omega), if_neg hsame, if_neg (by rw [hv]; simp), if_neg (by rw [hw]; simp)]
          rw [hst] at hinv
          have huk := Tm.length_le (p.1.on s).args
          have hus := Tm.size_eq (p.1.on s)
          have htk := Tm.length_le (p.2.on s).args
          have hts := Tm.size_eq (p.2.on s)
          by_cases hsame2 : (p.1.on s).name = (p.2.on s).name ∧ (p.1.on s).args.length = (p.2.on s).args.length
          · rw [if_pos hsame2] at hst hinv
            obtain ⟨hg', _⟩ := step_good hg hst
            rcases hinv with ⟨e, h1, _⟩ | ⟨s', ps, q, h1, h2, h3⟩
            · cases h1
            cases h1
            repeat' (first | (with_reducible first | refine W ?_ | refine Wk (by decide) ?_) | refine Cg _ (variable_a _) ?_ | ((with_reducible first | refine Wo (fun K hK => ?_) | refine Wp ?_ | refine Wq ?_ | refine Wr ?_); (try simp only [go_sem, fN, ↓gI, ↓pI, seval, eT, iR, hv, hw, e4, e5, s500, s501, hsame2.1, hsame2.2, dT, dF, nL]); (repeat with_reducible refine And.intro (by first | omega | exact lens | (simp [maxLen_eq] <;> omega)) ?_); (try (refine hK _ ?_; clear hK K)); (try with_reducible refine iC ?_)))
            have hzl : ((p.1.on s).args.zip (p.2.on s).args).length = (p.2.on s).args.length := by rw [List.length_zip, hsame2.2, Nat.min_self]
            refine IWP.loop (fun m x => ∃ (k : Nat) (xs : List (List SV)) (n1 n2 : ByteArray), k ≤ (p.2.on s).args.length ∧ m = k ∧ Stk xs (((p.1.on s).args.zip (p.2.on s).args).drop k ++ l) ∧ x.env 4 = .one (.row 500 s.length) ∧ x.env 5 = .one (.part 501 (((p.1.on s).args.zip (p.2.on s).args).drop k ++ l).length xs.length) ∧ x.env 8 = .one (.ptr 8 1 0 0) ∧ x.env 10 = .one (.ptr 10 1 0 0) ∧ x.env 14 = .one (.st (.int .i64 ((k : Int) - 1))) ∧ x.S 500 = some (rowBd s) ∧ x.S 501 = some (.mrow 114 4 xs) ∧
                x.S 8 = some (.box 69 [.st (.str n1), .st (.list ((p.1.on s).args.map encT))]) ∧ x.S 10 = some (.box 69 [.st (.str n2), .st (.list ((p.2.on s).args.map encT))])) (p.2.on s).args.length ⟨(p.2.on s).args.length, xs, (p.2.on s).name, (p.2.on s).name, Nat.le_refl _, rfl, ?_⟩ ?_
            · rw [← hzl, List.drop_length, hzl]
              refine ⟨hstk', ?_⟩
              simp only [go_sem, fN, ↓gI, ↓pI, seval, eT, iR, e4, s500, s501, hsame2.1]
            rintro k ⟨env, S⟩ ⟨_, xs, n1, n2, hk, rfl, hstk, e4, e5, e8, e10, e14, s500, s501, s8, s10⟩
            simp only at e4 e5 e8 e10 e14 s500 s501 s8 s10
            by_cases hk0 : 0 ≤ (k : Int) - 1
            · obtain ⟨k, rfl⟩ : ∃ q, k = q + 1 := ⟨k - 1, by omega⟩
              obtain ⟨x, hx⟩ := get_lt (show k < (p.1.on s).args.length by omega)
              obtain ⟨y, hy⟩ := get_lt (show k < (p.2.on s).args.length by omega)
              have hxy : ((p.1.on s).args.zip (p.2.on s).args)[k]? = some (x, y) := List.getElem?_zip_eq_some.2 ⟨hx, hy⟩
              have hz : (((k + 1 : Nat) : Int) - 1).toNat = k := by omega
              have hdl : (((p.1.on s).args.zip (p.2.on s).args).drop (k + 1) ++ l).length ≤ 100000002000 := by rw [List.length_append, List.length_drop, hzl]; omega
              generalize hD : ((p.1.on s).args.zip (p.2.on s).args).drop (k + 1) ++ l = D at *
              repeat' (first | (with_reducible first | refine W ?_ | refine Wk (by decide) ?_) | ((with_reducible first | refine Wo (fun K hK => ?_) | refine Wp ?_ | refine Wq ?_ | refine Wr ?_); (try simp only [go_sem, fN, ↓gI, ↓pI, seval, eT, iR, e4, e5, e8, e10, e14, s500, s501, s8, s10, hk0, hz, hx, hy, dT, dF, nL]); (repeat with_reducible refine And.intro (by first | omega | exact lens | (simp [maxLen_eq] <;> omega)) ?_); (try (refine hK _ ?_; clear hK K)); (try with_reducible refine iC ?_)))
              have hcons : ((p.1.on s).args.zip (p.2.on s).args).drop k ++ l = (x, y) :: D := by rw [drop_get hxy, List.cons_append, hD]
              have hDl : (((p.1.on s).args.zip (p.2.on s).args).drop k).length + l.length = D.length + 1 := by rw [← List.length_append, hcons, List.length_cons]
              refine then_normal ⟨k, by omega, k, _, n1, n2, by omega, rfl, by rw [hcons]; exact hstk.push (x, y), ?_⟩
              have hpl : (List.take D.length xs).length + 1 + (List.drop (D.length + 1) xs).length = if xs.length ≤ D.length + 1 then D.length + 1 else xs.length := by
                have := hstk.pushLen (x, y)
                simpa only [List.length_append, List.length_cons, List.length_nil, Nat.zero_add] using this
              simp only [go_sem, fN, ↓gI, ↓pI, seval, eT, iR, e4, e5, e8, e10, e14, s500, s501, s8, s10, hDl, hpl]
              refine ⟨?_, rfl⟩
              congr 3
              omega
            · obtain rfl : k = 0 := by omega
              rw [List.drop_zero] at hstk e5
              repeat' (first | (with_reducible first | refine W ?_ | refine Wk (by decide) ?_) | ((with_reducible first | refine Wo (fun K hK => ?_) | refine Wp ?_ | refine Wq ?_ | refine Wr ?_); (try simp only [go_sem, fN, ↓gI, ↓pI, seval, eT, iR, e4, e5, e14, hk0, dT, dF, nL]); (repeat with_reducible refine And.intro (by first | omega | exact lens | (simp [maxLen_eq] <;> omega)) ?_); (try (refine hK _ ?_; clear hK K)); (try with_reducible refine iC ?_)))
              refine then_normal ⟨q, h2, s, _, xs, h3, hg', hstk, ?_⟩
              simp only [go_sem, fN, ↓gI, ↓pI, seval, AS.drop, dropS, AC.clears, AC.clear, AC.highs, AC.high, Bool.not_false, Bool.true_and, Bool.and_self, AV.purge, AV.purges, AC.purge, ABlk.purge, List.contains_cons, List.contains_nil, Nat.reduceBEq, Bool.or_self, Bool.or_false, Bool.false_or, Bool.or_true, eT, iR, e4, e5, s500, s501]
          · rw [if_neg hsame2] at hst hinv
            by_cases hn : (p.1.on s).name = (p.2.on s).name
            · have hl : ¬ ((p.1.on s).args.length : Int) = (p.2.on s).args.length := fun h => hsame2 ⟨hn, by omega⟩
              repeat' (first | (with_reducible first | refine W ?_ | refine Wk (by decide) ?_) | refine Cg _ (variable_a _) ?_ | ((with_reducible first | refine Wo (fun K hK => ?_) | refine Wp ?_ | refine Wq ?_ | refine Wr ?_); (try simp only [go_sem, fN, ↓gI, ↓pI, seval, eT, iR, hv, hw, e4, e5, hn, hl, dT, dF, nL]); (repeat with_reducible refine And.intro (by first | omega | exact lens | (simp [maxLen_eq] <;> omega)) ?_); (try (refine hK _ ?_; clear hK K)); (try with_reducible refine iC ?_)))
              simp only [go_sem, fN, ↓gI, ↓pI, seval, FinQ, AS.result, resAll, resOne, tupV]
              rcases hinv with ⟨e, h1, rfl⟩ | ⟨s', ps, q, h1, _⟩
              · cases h1
                rfl
              · cases h1
            · repeat' (first | (with_reducible first | refine W ?_ | refine Wk (by decide) ?_) | refine Cg _ (variable_a _) ?_ | ((with_reducible first | refine Wo (fun K hK => ?_) | refine Wp ?_ | refine Wq ?_ | refine Wr ?_); (try simp only [go_sem, fN, ↓gI, ↓pI, seval, eT, iR, hv, hw, e4, e5, hn, dT, dF, nL]); (repeat with_reducible refine And.intro (by first | omega | exact lens | (simp [maxLen_eq] <;> omega)) ?_); (try (refine hK _ ?_; clear hK K)); (try with_reducible refine iC ?_)))
              simp only [go_sem, fN, ↓gI, ↓pI, seval, FinQ, AS.result, resAll, resOne, tupV]
              rcases hinv with ⟨e, h1, rfl⟩ | ⟨s', ps, q, h1, _⟩
              · cases h1
                rfl
              · cases h1
end Go.Proofs.YtehnjhkndbcmgaaGreatDoor

namespace Go.Proofs.YtehnjhkndbcmgaaGreatDoor
open Go Go.RowKit
set_option maxRecDepth 100000
def ir_match_into : IR :=
  (.seq (.ops [.i 3 (.box 69 (.t 0)), .i 4 (.box 69 (.t 1)), .i 6 (.mov (.c (.one (.st (.bool false)))))]) (.seq (.seq (.ops [.i 10 (.fieldAddr 0 (.t 3)), .i 11 (.load false 1 (.t 10)), .i 12 (.call 81 [.t 11])]) (.cond (.t 12) (.seq (.seq (.ops [.i 14 (.mov (.t 2)), .i 15 (.fieldAddr 0 (.t 3)), .i 16 (.load false 1 (.t 15)), .i 17 (.lookup none true (.agg [.st (.str (ByteArray.mk (#[]))), .full []]) (.t 14) (.t 16)), .i 13 (.mov (.t 17)), .i 18 (.extract 0 (.t 13)), .i 19 (.extract 1 (.t 13)), .i 7 (.alloc 69 [.st (.str (ByteArray.mk (#[]))), .full []]), .mk none none (.store 2 (.t 7) (.t 18)) .no, .i 8 (.mov (.t 19))]) (.seq (.ops [.i 20 (.mov (.t 8))]) (.cond (.t 20) (.seq (.ops [.i 21 (.load true 2 (.t 7)), .i 22 (.load true 2 (.t 4)), .i 23 (.call 113 [.t 21, .t 22]), .i 6 (.mov (.t 23))]) .ret) .skip))) (.seq (.ops [.i 24 (.mov (.t 2)), .i 25 (.fieldAddr 0 (.t 3)), .i 26 (.load false 1 (.t 25)), .i 27 (.load true 2 (.t 4)), .mk none none (.mapSet none (.t 24) (.t 26) (.t 27)) .no]) (.seq (.ops [.i 6 (.mov (.c (.one (.st (.bool true)))))]) .ret))) .skip)) (.seq (.seq (.ops [.i 28 (.fieldAddr 0 (.t 3)), .i 29 (.load false 1 (.t 28)), .i 30 (.fieldAddr 0 (.t 4)), .i 31 (.load false 1 (.t 30)), .i 32 (.bin .neq (.t 29) (.t 31)), .i 33 (.mov (.t 32)), .mk (some 34) (some (33, false)) (.fieldAddr 1 (.t 3)) .no, .mk (some 35) (some (33, false)) (.load false 1 (.t 34)) .no, .mk (some 36) (some (33, false)) (.len false (.t 35)) .no, .mk (some 37) (some (33, false)) (.fieldAddr 1 (.t 4)) .no, .mk (some 38) (some (33, false)) (.load false 1 (.t 37)) .no, .mk (some 39) (some (33, false)) (.len false (.t 38)) .no, .mk (some 40) (some (33, false)) (.bin .neq (.t 36) (.t 39)) .no, .i 41 (.pick (.t 33) (.c (.one (.st (.bool true)))) (.t 40))]) (.cond (.t 41) (.seq (.ops [.i 6 (.mov (.c (.one (.st (.bool false)))))]) .ret) .skip)) (.seq (.seq (.ops [.i 42 (.fieldAddr 1 (.t 3)), .i 43 (.load false 1 (.t 42)), .i 44 (.len false (.t 43)), .i 45 (.mov (.n 0))]) (.block 0 (.loop (.seq (.ops [.i 46 (.bin .lss (.t 45) (.t 44))]) (.seq (.cond (.t 46) .skip (.exit 0)) (.seq (.block 1 (.seq (.ops [.i 47 (.mov (.t 45)), .i 9 (.mov (.t 47))]) (.seq (.ops [.i 48 (.fieldAddr 1 (.t 3)), .i 49 (.load false 1 (.t 48)), .i 50 (.mov (.t 9)), .i 51 (.indexAddr 2 (.t 49) (.t 50)), .i 52 (.load true 2 (.t 51)), .i 53 (.fieldAddr 1 (.t 4)), .i 54 (.load false 1 (.t 53)), .i 55 (.mov (.t 9)), .i 56 (.indexAddr 2 (.t 54) (.t 55)), .i 57 (.load true 2 (.t 56)), .i 58 (.mov (.t 2)), .i 59 (.callS 85 [.t 52, .t 57, .t 58]), .i 60 (.un .not (.t 59))]) (.cond (.t 60) (.seq (.ops [.i 6 (.mov (.c (.one (.st (.bool false)))))]) .ret) .skip)))) (.ops [.i 61 (.bin .add (.t 45) (.n 1)), .i 45 (.mov (.t 61))]))))))) (.seq (.ops [.i 6 (.mov (.c (.one (.st (.bool true)))))]) .ret)))))
theorem tr_match_into : trCode Tryz.prog 62 [59] (Tryz.f85.body.getD .skip) = some ir_match_into := by kernel_rfl
theorem acS_match_into {xs : List AV} {S S' : AStore} {r : AV} (hn : xs.length ≤ 62) (h : Clean S → ∀ C : Ctx, C.n = 62 → IWP Tryz.prog C [59] ir_match_into (FinS C [.t 6] r S') (AS.startS xs S)) : ACallsS Tryz.prog 85 xs S r S' :=
  acallsS_of Tryz.func85 rfl tr_match_into rfl hn h
def ir_match_Case : IR :=
  (.seq (.ops [.i 2 (.box 69 (.t 0)), .i 3 (.box 69 (.t 1)), .i 4 (.mov (.c (.one (.full [])))), .i 5 (.mov (.c (.one (.st (.bool false)))))]) (.seq (.ops [.i 10 (.makeMap none), .i 6 (.mov (.t 10))]) (.seq (.seq (.ops [.i 11 (.load true 2 (.t 2)), .i 12 (.load true 2 (.t 3)), .i 13 (.mov (.t 6)), .i 14 (.callS 85 [.t 11, .t 12, .t 13]), .i 15 (.un .not (.t 14))]) (.cond (.t 15) (.seq (.ops [.i 4 (.mov (.c (.one (.full [])))), .i 5 (.mov (.c (.one (.st (.bool false)))))]) .ret) .skip)) (.seq (.ops [.i 7 (.mov (.c (.one (.full []))))]) (.seq (.seq (.ops [.i 16 (.mov (.t 6)), .i 17 (.rangeM (.t 16))]) (.block 0 (.loop (.seq (.ops [.i 18 (.next (.t 17)), .i 19 (.extract 0 (.t 18))]) (.seq (.cond (.t 19) .skip (.exit 0)) (.block 1 (.seq (.ops [.i 20 (.entry (.t 17)), .i 21 (.extract 0 (.t 20)), .i 22 (.extract 1 (.t 20)), .i 9 (.alloc 69 [.st (.str (ByteArray.mk (#[]))), .full []]), .i 8 (.mov (.t 21)), .mk none none (.store 2 (.t 9) (.t 22)) .no]) (.ops [.i 23 (.mov (.t 7)), .i 24 (.mov (.t 8)), .i 25 (.load true 2 (.t 9)), .i 26 (.call 86 [.t 25]), .i 27 (.build [.st (.str (ByteArray.mk (#[]))), .st (.str (ByteArray.mk (#[]))), .full []] [(0, 1, .t 24), (1, 2, .t 26)]), .i 28 (.buildSlice false 118 3 [.t 27]), .i 29 (.append true 118 3 56 (.t 23) (.t 28)), .i 7 (.mov (.t 29))])))))))) (.seq (.ops [.i 30 (.mov (.t 7)), .i 31 (.callS 83 [.t 30]), .i 4 (.mov (.t 31)), .i 5 (.mov (.c (.one (.st (.bool true)))))]) .ret))))))
theorem tr_match_Case : trCode Tryz.prog 32 [14, 29, 31] (Tryz.f49.body.getD .skip) = some ir_match_Case := by kernel_rfl
theorem ac_match_Case {xs : List AV} {r : AV} (hn : xs.length ≤ 32) (h : ∀ C : Ctx, C.n = 32 → IWP Tryz.prog C [14, 29, 31] ir_match_Case (FinQ [.t 4, .t 5] r) (AS.start xs)) : ACalls Tryz.prog 49 xs r :=
  acalls_of Tryz.func49 rfl tr_match_Case rfl hn h
end Go.Proofs.YtehnjhkndbcmgaaGreatDoor

namespace Go.Proofs.YtehnjhkndbcmgaaGreatDoor
open Go Go.RowKit
set_option linter.unusedVariables false
def met {α : Type} (l : List α) (seen : List Nat) : List α := seen.filterMap fun j => l[j]?
theorem met_snoc {α : Type} {l : List α} {seen : List Nat} {j : Nat} {b : α} (h : l[j]? = some b) : met l (seen ++ [j]) = met l seen ++ [b] := by
  unfold met
  rw [List.filterMap_append, List.filterMap_cons_some h]
  rfl
theorem met_len {α : Type} {l : List α} : ∀ {seen : List Nat}, (∀ j ∈ seen, j < l.length) → (met l seen).length = seen.length
  | [], _ => rfl
  | j :: seen, h => by
    have hj := h j (by simp)
    unfold met
    rw [List.filterMap_cons_some (List.getElem?_eq_getElem hj), List.length_cons, List.length_cons]
    exact congrArg (· + 1) (met_len fun i hi => h i (by simp [hi]))
theorem seen_len {n : Nat} {seen : List Nat} (hn : seen.Nodup) (h : ∀ j ∈ seen, j < n) : seen.length ≤ n := by
  have h1 : seen.Perm ((List.range n).filter fun j => decide (j ∈ seen)) := (List.perm_ext_iff_of_nodup hn (List.nodup_range.filter _)).2 fun j => by
    rw [List.mem_filter, List.mem_range, decide_eq_true_eq]
    exact ⟨fun hj => ⟨h j hj, hj⟩, fun hj => hj.2⟩
  rw [h1.length_eq]
  exact Nat.le_trans (List.length_filter_le _ _) (Nat.le_of_eq List.length_range)
theorem met_perm {α : Type} {l : List α} {seen : List Nat} (hn : seen.Nodup) (h : ∀ j ∈ seen, j < l.length) (hall : ∀ j, j < l.length → j ∈ seen) : (met l seen).Perm l := by
  have hp : seen.Perm (List.range l.length) := (List.perm_ext_iff_of_nodup hn List.nodup_range).2 fun j => ⟨fun hj => List.mem_range.2 (h j hj), fun hj => hall j (List.mem_range.1 hj)⟩
  have := hp.filterMap fun j => l[j]?
  rw [filterMap_range] at this
  exact this
end Go.Proofs.YtehnjhkndbcmgaaGreatDoor

namespace Go.Proofs.YtehnjhkndbcmgaaGreatDoor
open Go Go.RowKit
set_option maxRecDepth 100000
def ir_slices_EqualFunc_metaprune_api_Term_metaprune_api_Term_metaprune_api_Term_metaprune_api_Term : IR :=
  (.seq (.ops [.i 6 (.mov (.c (.one (.st (.bool false)))))]) (.seq (.seq (.ops [.i 10 (.mov (.t 0)), .i 11 (.len false (.t 10)), .i 12 (.mov (.t 1)), .i 13 (.len false (.t 12)), .i 14 (.bin .neq (.t 11) (.t 13))]) (.cond (.t 14) (.seq (.ops [.i 6 (.mov (.c (.one (.st (.bool false)))))]) .ret) .skip)) (.seq (.seq (.ops [.i 15 (.mov (.t 0)), .i 16 (.len false (.t 15)), .i 17 (.mov (.n 0))]) (.block 0 (.loop (.seq (.ops [.i 18 (.bin .lss (.t 17) (.t 16))]) (.seq (.cond (.t 18) .skip (.exit 0)) (.seq (.block 1 (.seq (.ops [.i 19 (.mov (.t 17)), .i 20 (.indexAddr 2 (.t 15) (.t 17)), .i 21 (.load true 2 (.t 20)), .i 8 (.alloc 69 [.st (.str (ByteArray.mk (#[]))), .full []]), .i 7 (.mov (.t 19)), .mk none none (.store 2 (.t 8) (.t 21)) .no]) (.seq (.ops [.i 22 (.mov (.t 1)), .i 23 (.mov (.t 7)), .i 24 (.indexAddr 2 (.t 22) (.t 23)), .i 25 (.load true 2 (.t 24)), .i 9 (.alloc 69 [.st (.str (ByteArray.mk (#[]))), .full []]), .mk none none (.store 2 (.t 9) (.t 25)) .no]) (.seq (.ops [.i 26 (.mov (.t 2)), .i 27 (.load true 2 (.t 8)), .i 28 (.load true 2 (.t 9)), .i 29 (.callV (.t 26) [.t 27, .t 28]), .i 30 (.un .not (.t 29))]) (.cond (.t 30) (.seq (.ops [.i 6 (.mov (.c (.one (.st (.bool false)))))]) .ret) .skip))))) (.ops [.i 31 (.bin .add (.t 17) (.n 1)), .i 17 (.mov (.t 31))]))))))) (.seq (.ops [.i 6 (.mov (.c (.one (.st (.bool true)))))]) .ret))))
theorem tr_slices_EqualFunc_metaprune_api_Term_metaprune_api_Term_metaprune_api_Term_metaprune_api_Term : trCode Tryz.prog 32 [] (Tryz.f126.body.getD .skip) = some ir_slices_EqualFunc_metaprune_api_Term_metaprune_api_Term_metaprune_api_Term_metaprune_api_Term := by kernel_rfl
theorem ac_slices_EqualFunc_metaprune_api_Term_metaprune_api_Term_metaprune_api_Term_metaprune_api_Term {xs : List AV} {r : AV} (hn : xs.length ≤ 32) (h : ∀ C : Ctx, C.n = 32 → IWP Tryz.prog C [] ir_slices_EqualFunc_metaprune_api_Term_metaprune_api_Term_metaprune_api_Term_metaprune_api_Term (FinQ [.t 6] r) (AS.start xs)) : ACalls Tryz.prog 126 xs r :=
  acalls_of Tryz.func126 rfl tr_slices_EqualFunc_metaprune_api_Term_metaprune_api_Term_metaprune_api_Term_metaprune_api_Term rfl hn h
def ir_term_Same : IR :=
  (.seq (.ops [.i 2 (.box 69 (.t 0)), .i 3 (.box 69 (.t 1)), .i 4 (.mov (.c (.one (.st (.bool false)))))]) (.seq (.ops [.i 5 (.fieldAddr 0 (.t 2)), .i 6 (.load false 1 (.t 5)), .i 7 (.fieldAddr 0 (.t 3)), .i 8 (.load false 1 (.t 7)), .i 9 (.bin .eql (.t 6) (.t 8)), .i 10 (.mov (.t 9)), .mk (some 11) (some (10, true)) (.fieldAddr 1 (.t 2)) .no, .mk (some 12) (some (10, true)) (.load false 1 (.t 11)) .no, .mk (some 13) (some (10, true)) (.fieldAddr 1 (.t 3)) .no, .mk (some 14) (some (10, true)) (.load false 1 (.t 13)) .no, .mk (some 15) (some (10, true)) (.call 126 [.t 12, .t 14, .c (.one (.fn 113 []))]) .no, .i 16 (.pick (.t 10) (.t 15) (.c (.one (.st (.bool false))))), .i 4 (.mov (.t 16))]) .ret))
theorem tr_term_Same : trCode Tryz.prog 17 [] (Tryz.f113.body.getD .skip) = some ir_term_Same := by kernel_rfl
theorem ac_term_Same {xs : List AV} {r : AV} (hn : xs.length ≤ 17) (h : ∀ C : Ctx, C.n = 17 → IWP Tryz.prog C [] ir_term_Same (FinQ [.t 4] r) (AS.start xs)) : ACalls Tryz.prog 113 xs r :=
  acalls_of Tryz.func113 rfl tr_term_Same rfl hn h
end Go.Proofs.YtehnjhkndbcmgaaGreatDoor

namespace Go.Proofs.YtehnjhkndbcmgaaGreatDoor
open Go Go.RowKit
set_option linter.unusedVariables false
set_option linter.unusedSimpArgs false
set_option maxHeartbeats 800000
theorem Tm.beqL_no {xs ys : List Tm} (h : xs ≠ ys) : Tm.beqL xs ys = false := by
  rw [← Bool.not_eq_true, Tm.beqL_iff]
  exact h
theorem equalFunc_a (xs ys : List Tm) (ih : ∀ x ∈ xs, ∀ y, ACalls Tryz.prog 113 [aTm x, aTm y] (aBool (x.beq y))) :
    ACalls Tryz.prog 126 [aTms xs, aTms ys, .one (.fn 113 [])] (aBool (Tm.beqL xs ys)) := by
  have hplain : plainF Tryz.prog 113 = true := by kernel_rfl
  refine ac_slices_EqualFunc_metaprune_api_Term_metaprune_api_Term_metaprune_api_Term_metaprune_api_Term (Nat.le_of_ble_eq_true rfl) fun C hC => ?_
  unfold ir_slices_EqualFunc_metaprune_api_Term_metaprune_api_Term_metaprune_api_Term_metaprune_api_Term
  refine IWP.learn 0 (by omega) fun hkn => ?_
  have hkx := known_len hkn
  rw [List.length_map] at hkx
  by_cases hl : xs.length = ys.length
  · have hl' : (xs.length : Int) = ys.length := by omega
    repeat' (first | (with_reducible first | refine W ?_ | refine Wk (by decide) ?_) | ((with_reducible first | refine Wo (fun K hK => ?_) | refine Wp ?_ | refine Wq ?_ | refine Wr ?_); (try simp only [go_sem, fN, ↓gI, ↓pI, seval, eT, iR, hl', dT, dF, nL]); (repeat with_reducible refine And.intro (by first | omega | exact lens | (simp [maxLen_eq] <;> omega)) ?_); (try (refine hK _ ?_; clear hK K)); (try with_reducible refine iC ?_)))
    refine IWP.loopD [8, 9] (fun n s => ∃ k, k ≤ xs.length ∧ n = xs.length - k ∧ xs.take k = ys.take k ∧ s.env 1 = aTms ys ∧ s.env 2 = .one (.fn 113 []) ∧ s.env 15 = aTms xs ∧ s.env 16 = aInt xs.length ∧ s.env 17 = aInt k ∧ s.S 8 = none ∧ s.S 9 = none) xs.length ⟨0, Nat.zero_le _, rfl, rfl, rfl, rfl, rfl, by simp only [go_sem, fN, ↓gI, ↓pI, seval, eT, iR, hl'], rfl, rfl, rfl⟩ ?_
    rintro n ⟨env, S⟩ ⟨k, hk, rfl, h0, e1, e2, e15, e16, e17, s8, s9⟩
    simp only at e1 e2 e15 e16 e17 s8 s9
    by_cases hlt : (k : Int) < xs.length
    · obtain ⟨x, hx⟩ := get_lt (show k < xs.length by omega)
      obtain ⟨y, hy⟩ := get_lt (show k < ys.length by omega)
      repeat' (first | (with_reducible first | refine W ?_ | refine Wk (by decide) ?_) | ((with_reducible first | refine Wo (fun K hK => ?_) | refine Wp ?_ | refine Wq ?_ | refine Wr ?_); (try simp only [go_sem, fN, ↓gI, ↓pI, seval, eT, iR, e1, e2, e15, e16, e17, s8, s9, hlt, hx, hy, hplain, dT, dF, nL]); (repeat with_reducible refine And.intro (by first | omega | exact lens | (simp [maxLen_eq] <;> omega)) ?_); (try (refine hK _ ?_; clear hK K)); (try with_reducible refine iC ?_)))
      refine ⟨_, _, (ih x (mem_of_get hx) y).toS rfl, ?_⟩
      cases hxy : x.beq y with
      | false =>
        repeat' (first | (with_reducible first | refine W ?_ | refine Wk (by decide) ?_) | ((with_reducible first | refine Wo (fun K hK => ?_) | refine Wp ?_ | refine Wq ?_ | refine Wr ?_); (try simp only [go_sem, fN, ↓gI, ↓pI, seval, eT, iR, hxy, dT, dF, nL]); (repeat with_reducible refine And.intro (by first | omega | exact lens | (simp [maxLen_eq] <;> omega)) ?_); (try (refine hK _ ?_; clear hK K)); (try with_reducible refine iC ?_)))
        simp only [go_sem, fN, ↓gI, ↓pI, seval, FinQ, AS.result, resAll, resOne, tupV]
        rw [Tm.beqL_no fun e => by
          subst e
          rw [hx] at hy
          cases hy
          rw [Tm.beq_refl] at hxy
          cases hxy]
      | true =>
        have hxy' := (Tm.beq_iff x y).1 hxy
        repeat' (first | (with_reducible first | refine W ?_ | refine Wk (by decide) ?_) | ((with_reducible first | refine Wo (fun K hK => ?_) | refine Wp ?_ | refine Wq ?_ | refine Wr ?_); (try simp only [go_sem, fN, ↓gI, ↓pI, seval, eT, iR, hxy, e1, e2, e15, e16, e17, s8, s9, dT, dF, nL]); (repeat with_reducible refine And.intro (by first | omega | exact lens | (simp [maxLen_eq] <;> omega)) ?_); (try (refine hK _ ?_; clear hK K)); (try with_reducible refine iC ?_)))
        refine then_normal ⟨xs.length - (k + 1), by omega, k + 1, by omega, rfl, ?_, ?_⟩
        · rw [take_snoc hx, take_snoc hy, h0, hxy']
        · simp only [go_sem, fN, ↓gI, ↓pI, seval, AS.drop, dropS, AC.clears, AC.clear, AC.highs, AC.high, Bool.not_false, Bool.true_and, Bool.and_self, AV.purge, AV.purges, AC.purge, ABlk.purge, List.contains_cons, List.contains_nil, Nat.reduceBEq, Bool.or_self, Bool.or_false, Bool.false_or, Bool.or_true, eT, iR, e1, e2, e15, e16, e17, s8, s9]
          congr 3
    · repeat' (first | (with_reducible first | refine W ?_ | refine Wk (by decide) ?_) | ((with_reducible first | refine Wo (fun K hK => ?_) | refine Wp ?_ | refine Wq ?_ | refine Wr ?_); (try simp only [go_sem, fN, ↓gI, ↓pI, seval, eT, iR, e1, e2, e15, e16, e17, hlt, dT, dF, nL]); (repeat with_reducible refine And.intro (by first | omega | exact lens | (simp [maxLen_eq] <;> omega)) ?_); (try (refine hK _ ?_; clear hK K)); (try with_reducible refine iC ?_)))
      simp only [go_sem, fN, ↓gI, ↓pI, seval, FinQ, AS.result, resAll, resOne, tupV]
      rw [List.take_of_length_le (by omega), List.take_of_length_le (by omega)] at h0
      rw [(Tm.beqL_iff xs ys).2 h0]
  · have hl' : ¬ (xs.length : Int) = ys.length := by omega
    repeat' (first | (with_reducible first | refine W ?_ | refine Wk (by decide) ?_) | ((with_reducible first | refine Wo (fun K hK => ?_) | refine Wp ?_ | refine Wq ?_ | refine Wr ?_); (try simp only [go_sem, fN, ↓gI, ↓pI, seval, eT, iR, hl', dT, dF, nL]); (repeat with_reducible refine And.intro (by first | omega | exact lens | (simp [maxLen_eq] <;> omega)) ?_); (try (refine hK _ ?_; clear hK K)); (try with_reducible refine iC ?_)))
    simp only [go_sem, fN, ↓gI, ↓pI, seval, FinQ, AS.result, resAll, resOne, tupV]
    rw [Tm.beqL_no fun e => hl (by rw [e])]
theorem same_a (a b : Tm) : ACalls Tryz.prog 113 [aTm a, aTm b] (aBool (a.beq b)) := by
  induction h : SizeOf.sizeOf a using Nat.strongRecOn generalizing a b with
  | _ N ih =>
  subst h
  have hE := equalFunc_a a.args b.args fun x hx y => ih _ (Tm.lt_of_arg hx) x y rfl
  have he : a.beq b = (decide (a.name = b.name) && Tm.beqL a.args b.args) := by cases a; cases b; rfl
  refine ac_term_Same (Nat.le_of_ble_eq_true rfl) fun C hC => ?_
  unfold ir_term_Same
  by_cases hn : a.name = b.name
  · repeat' (first | (with_reducible first | refine W ?_ | refine Wk (by decide) ?_) | refine Cg _ (hE) ?_ | ((with_reducible first | refine Wo (fun K hK => ?_) | refine Wp ?_ | refine Wq ?_ | refine Wr ?_); (try simp only [go_sem, fN, ↓gI, ↓pI, seval, eT, iR, hn, dT, dF, nL]); (repeat with_reducible refine And.intro (by first | omega | exact lens | (simp [maxLen_eq] <;> omega)) ?_); (try (refine hK _ ?_; clear hK K)); (try with_reducible refine iC ?_)))
    simp only [go_sem, fN, ↓gI, ↓pI, seval, FinQ, AS.result, resAll, resOne, tupV]
    rw [he, decide_eq_true hn]
    rfl
  · repeat' (first | (with_reducible first | refine W ?_ | refine Wk (by decide) ?_) | ((with_reducible first | refine Wo (fun K hK => ?_) | refine Wp ?_ | refine Wq ?_ | refine Wr ?_); (try simp only [go_sem, fN, ↓gI, ↓pI, seval, eT, iR, hn, dT, dF, nL]); (repeat with_reducible refine And.intro (by first | omega | exact lens | (simp [maxLen_eq] <;> omega)) ?_); (try (refine hK _ ?_; clear hK K)); (try with_reducible refine iC ?_)))
    simp only [go_sem, fN, ↓gI, ↓pI, seval, FinQ, AS.result, resAll, resOne, tupV]
    rw [he, decide_eq_false hn]
    rfl
end Go.Proofs.YtehnjhkndbcmgaaGreatDoor

namespace Go.Proofs.YtehnjhkndbcmgaaGreatDoor
open Go Go.RowKit
set_option linter.unusedVariables false
set_option linter.unusedSimpArgs false
set_option maxHeartbeats 1000000
def entB (b : Bd) : KV × AV := (.s b.1, aTm b.2)
abbrev mapB (l : List Bd) : ABlk := .map none (l.map entB)
theorem mGet_mapB (l : List Bd) (n : ByteArray) : mGet (l.map entB) (.s n) = (lookup l n).map fun t => aTm t := by
  induction l with
  | nil => rfl
  | cons b l ih =>
    unfold lookup
    rw [List.map_cons, mGet, List.find?_cons]
    by_cases h : b.1 = n
    · have h1 : decide (b.1 = n) = true := decide_eq_true h
      rw [if_pos (show (entB b).1 = KV.s n from congrArg KV.s h)]
      simp only [h1]
      rfl
    · have h1 : decide (b.1 = n) = false := decide_eq_false h
      rw [if_neg (show ¬ (entB b).1 = KV.s n from fun e => h (KV.s.inj e)), ih]
      simp only [h1]
      rfl
theorem mPut_mapB {l : List Bd} {n : ByteArray} (h : lookup l n = none) (t : Tm) : mPut (l.map entB) (.s n) (aTm t) = (l ++ [(n, t)]).map entB := by
  rw [mPut_none (by rw [mGet_mapB, h]; rfl), List.map_append]
  rfl
theorem into_M (p : Tm) (hz : p.size ≤ 1000000) : ∀ (t : Tm) (a0 : Nat) (l : List Bd) (S : AStore), 1000 ≤ a0 → S a0 = some (mapB l) →
    ACallsS Tryz.prog 85 [aTm p, aTm t, .one (.mptr a0)] S (aBool (p.mt t l).2) (updE S a0 (some (mapB (p.mt t l).1))) := by
  induction h : SizeOf.sizeOf p using Nat.strongRecOn generalizing p with
  | _ N ih =>
  subst h
  intro t a0 l S ha0 hSa
  have hs := Tm.size_eq p
  have hln := Tm.length_le p.args
  refine acS_match_into (Nat.le_of_ble_eq_true rfl) fun hS C hC => ?_
  have n3 : S 3 = none := clean_none hS (by omega)
  have n4 : S 4 = none := clean_none hS (by omega)
  have n7 : S 7 = none := clean_none hS (by omega)
  have d3 : ¬ 3 = a0 := by omega
  have d4 : ¬ 4 = a0 := by omega
  have d7 : ¬ 7 = a0 := by omega
  have e3 : ¬ a0 = 3 := by omega
  have e4 : ¬ a0 = 4 := by omega
  have e7 : ¬ a0 = 7 := by omega
  unfold ir_match_into
  repeat' (first | (with_reducible first | refine W ?_ | refine Wk (by decide) ?_) | ((with_reducible first | refine Wo (fun K hK => ?_) | refine Wp ?_ | refine Wq ?_ | refine Wr ?_); (try simp only [go_sem, fN, ↓gI, ↓pI, seval, eT, iR, n3, n4, dT, dF, nL]); (repeat with_reducible refine And.intro (by first | omega | exact lens | (simp [maxLen_eq] <;> omega)) ?_); (try (refine hK _ ?_; clear hK K)); (try with_reducible refine iC ?_)))
  refine ⟨_, variable_a _, ?_⟩
  cases hv : isVar p.name with
  | true =>
    cases hl : lookup l p.name with
    | some x =>
      repeat' (first | (with_reducible first | refine W ?_ | refine Wk (by decide) ?_) | refine Cg _ (same_a _ _) ?_ | ((with_reducible first | refine Wo (fun K hK => ?_) | refine Wp ?_ | refine Wq ?_ | refine Wr ?_); (try simp only [go_sem, fN, ↓gI, ↓pI, seval, eT, iR, hv, hSa, n3, n4, n7, d3, d4, d7, e3, e4, e7, mapOf, keyOf, KV.of, lookA, mGet_mapB, hl, dT, dF, nL]); (repeat with_reducible refine And.intro (by first | omega | exact lens | (simp [maxLen_eq] <;> omega)) ?_); (try (refine hK _ ?_; clear hK K)); (try with_reducible refine iC ?_)))
      rw [Tm.mt_old hv hl]
      refine finS_one (aBool (x.beq t)) hS ha0 rfl trivial rfl rfl (by simp only [go_sem, fN, ↓gI, ↓pI, seval, eT, iR, e3, e4, e7, hSa]) fun i hi hne => ?_
      have i3 : ¬ i = 3 := by omega
      have i4 : ¬ i = 4 := by omega
      have i7 : ¬ i = 7 := by omega
      simp only [go_sem, fN, ↓gI, ↓pI, seval, eT, iR, i3, i4, i7]
    | none =>
      repeat' (first | (with_reducible first | refine W ?_ | refine Wk (by decide) ?_) | ((with_reducible first | refine Wo (fun K hK => ?_) | refine Wp ?_ | refine Wq ?_ | refine Wr ?_); (try simp only [go_sem, fN, ↓gI, ↓pI, seval, eT, iR, hv, hSa, n3, n4, n7, d3, d4, d7, e3, e4, e7, mapOf, keyOf, KV.of, lookA, mGet_mapB, hl, mPut_mapB, dT, dF, nL]); (repeat with_reducible refine And.intro (by first | omega | exact lens | (simp [maxLen_eq] <;> omega)) ?_); (try (refine hK _ ?_; clear hK K)); (try with_reducible refine iC ?_)))
      rw [Tm.mt_new hv hl]
      refine finS_one (aBool true) hS ha0 rfl trivial rfl rfl (by simp only [go_sem, fN, ↓gI, ↓pI, seval, eT, iR, e3, e4, e7, hSa]) fun i hi hne => ?_
      have i3 : ¬ i = 3 := by omega
      have i4 : ¬ i = 4 := by omega
      have i7 : ¬ i = 7 := by omega
      simp only [go_sem, fN, ↓gI, ↓pI, seval, eT, iR, i3, i4, i7, hne]
  | false =>
    by_cases hn : p.name = t.name
    case neg =>
      have hc : ¬ (p.name = t.name ∧ p.args.length = t.args.length) := fun h => hn h.1
      repeat' (first | (with_reducible first | refine W ?_ | refine Wk (by decide) ?_) | ((with_reducible first | refine Wo (fun K hK => ?_) | refine Wp ?_ | refine Wq ?_ | refine Wr ?_); (try simp only [go_sem, fN, ↓gI, ↓pI, seval, eT, iR, hv, hSa, n3, n4, n7, d3, d4, d7, e3, e4, e7, hn, dT, dF, nL]); (repeat with_reducible refine And.intro (by first | omega | exact lens | (simp [maxLen_eq] <;> omega)) ?_); (try (refine hK _ ?_; clear hK K)); (try with_reducible refine iC ?_)))
      rw [Tm.mt_clash hv hc]
      refine finS_one (aBool false) hS ha0 rfl trivial rfl rfl (by simp only [go_sem, fN, ↓gI, ↓pI, seval, eT, iR, e3, e4, hSa]) fun i hi hne => ?_
      have i3 : ¬ i = 3 := by omega
      have i4 : ¬ i = 4 := by omega
      simp only [go_sem, fN, ↓gI, ↓pI, seval, eT, iR, i3, i4]
    by_cases hlen : p.args.length = t.args.length
    case neg =>
      have hc : ¬ (p.name = t.name ∧ p.args.length = t.args.length) := fun h => hlen h.2
      have hlen' : ¬ (p.args.length : Int) = t.args.length := by omega
      repeat' (first | (with_reducible first | refine W ?_ | refine Wk (by decide) ?_) | ((with_reducible first | refine Wo (fun K hK => ?_) | refine Wp ?_ | refine Wq ?_ | refine Wr ?_); (try simp only [go_sem, fN, ↓gI, ↓pI, seval, eT, iR, hv, hSa, n3, n4, n7, d3, d4, d7, e3, e4, e7, hn, hlen', dT, dF, nL]); (repeat with_reducible refine And.intro (by first | omega | exact lens | (simp [maxLen_eq] <;> omega)) ?_); (try (refine hK _ ?_; clear hK K)); (try with_reducible refine iC ?_)))
      rw [Tm.mt_clash hv hc]
      refine finS_one (aBool false) hS ha0 rfl trivial rfl rfl (by simp only [go_sem, fN, ↓gI, ↓pI, seval, eT, iR, e3, e4, hSa]) fun i hi hne => ?_
      have i3 : ¬ i = 3 := by omega
      have i4 : ¬ i = 4 := by omega
      simp only [go_sem, fN, ↓gI, ↓pI, seval, eT, iR, i3, i4]
    have hlen' : (p.args.length : Int) = t.args.length := by omega
    have hknot : p.mt t l = Tm.mtL p.args t.args l := Tm.mt_knot hv hn hlen
    repeat' (first | (with_reducible first | refine W ?_ | refine Wk (by decide) ?_) | ((with_reducible first | refine Wo (fun K hK => ?_) | refine Wp ?_ | refine Wq ?_ | refine Wr ?_); (try simp only [go_sem, fN, ↓gI, ↓pI, seval, eT, iR, hv, hSa, n3, n4, n7, d3, d4, d7, e3, e4, e7, hn, hlen', dT, dF, nL]); (repeat with_reducible refine And.intro (by first | omega | exact lens | (simp [maxLen_eq] <;> omega)) ?_); (try (refine hK _ ?_; clear hK K)); (try with_reducible refine iC ?_)))
    refine IWP.loop (fun m x => ∃ k, k ≤ p.args.length ∧ m = p.args.length - k ∧ (Tm.mtL (p.args.take k) (t.args.take k) l).2 = true ∧ x.env 2 = .one (.mptr a0) ∧ x.env 3 = .one (.ptr 3 1 0 0) ∧ x.env 4 = .one (.ptr 4 1 0 0) ∧ x.env 44 = aInt p.args.length ∧ x.env 45 = aInt k ∧
        x.S 3 = some (.box 69 [.st (.str t.name), .st (.list (p.args.map encT))]) ∧ x.S 4 = some (.box 69 [.st (.str t.name), .st (.list (t.args.map encT))]) ∧ x.S a0 = some (mapB (Tm.mtL (p.args.take k) (t.args.take k) l).1) ∧ ∀ i, 1000 ≤ i → i ≠ a0 → x.S i = S i)
      p.args.length ⟨0, Nat.zero_le _, rfl, by simp [Tm.mtL], rfl, rfl, rfl, by simp only [go_sem, fN, ↓gI, ↓pI, seval, eT, iR, hlen'], rfl, by simp only [go_sem, fN, ↓gI, ↓pI, seval, eT, iR, hn], rfl, by (simp only [go_sem, fN, ↓gI, ↓pI, seval, eT, iR, e3, e4, hSa]); simp [Tm.mtL], fun i hi hne => ?_⟩ ?_
    · have i3 : ¬ i = 3 := by omega
      have i4 : ¬ i = 4 := by omega
      simp only [go_sem, fN, ↓gI, ↓pI, seval, eT, iR, i3, i4]
    rintro m ⟨env, S1⟩ ⟨k, hk, rfl, hok, e2, e3', e4', e44, e45, s3, s4, sa, hrest⟩
    simp only at e2 e3' e4' e44 e45 s3 s4 sa hrest
    have hend : ∀ (b : Bool) (r : List Bd) (env : Nat → AV) (S2 : AStore), env 6 = aBool b → S2 a0 = some (mapB r) → (∀ i, 1000 ≤ i → i ≠ a0 → S2 i = S i) → FinS C [.t 6] (aBool b) (updE S a0 (some (mapB r))) .ret ⟨env, S2⟩ := fun b r env S2 h6 h1 h2 =>
      finS_one (aBool b) hS ha0 rfl trivial (by simp only [resAll, resOne, tupV, h6, Option.map_some]) rfl h1 h2
    by_cases hlt : (k : Int) < p.args.length
    · obtain ⟨a, ha⟩ := get_lt (show k < p.args.length by omega)
      obtain ⟨c, hc⟩ := get_lt (show k < t.args.length by omega)
      have hstep := Tm.mtL_take hlen ha hc hok
      repeat' (first | (with_reducible first | refine W ?_ | refine Wk (by decide) ?_) | ((with_reducible first | refine Wo (fun K hK => ?_) | refine Wp ?_ | refine Wq ?_ | refine Wr ?_); (try simp only [go_sem, fN, ↓gI, ↓pI, seval, eT, iR, e2, e3', e4', e44, e45, s3, s4, sa, hlt, ha, hc, dT, dF, nL]); (repeat with_reducible refine And.intro (by first | omega | exact lens | (simp [maxLen_eq] <;> omega)) ?_); (try (refine hK _ ?_; clear hK K)); (try with_reducible refine iC ?_)))
      refine ⟨_, _, ih _ (Tm.lt_of_arg (mem_of_get ha)) a (by have := Tm.size_mem (mem_of_get ha); omega) rfl c (up1 a0) (Tm.mtL (p.args.take k) (t.args.take k) l).1 (upS S1) (up1_le a0) (by rw [upS_up, sa]; rfl), ?_⟩
      rw [← hstep]
      cases hb : (Tm.mtL (p.args.take (k + 1)) (t.args.take (k + 1)) l).2 with
      | true =>
        repeat' (first | (with_reducible first | refine W ?_ | refine Wk (by decide) ?_) | ((with_reducible first | refine Wo (fun K hK => ?_) | refine Wp ?_ | refine Wq ?_ | refine Wr ?_); (try simp only [go_sem, fN, ↓gI, ↓pI, seval, eT, iR, hb, e2, e3', e4', e44, e45, s3, s4, dT, dF, nL]); (repeat with_reducible refine And.intro (by first | omega | exact lens | (simp [maxLen_eq] <;> omega)) ?_); (try (refine hK _ ?_; clear hK K)); (try with_reducible refine iC ?_)))
        refine then_normal ⟨p.args.length - (k + 1), by omega, k + 1, by omega, rfl, hb, ?_⟩
        simp only [go_sem, fN, ↓gI, ↓pI, seval, eT, iR, e2, e3', e4', e44, s3, s4, d3, d4]
        refine ⟨by congr 3, fun i hi hne => ?_⟩
        simp only [go_sem, fN, ↓gI, ↓pI, seval, eT, iR, hne]
        exact hrest i hi hne
      | false =>
        have hno := Tm.mtL_no hlen hb
        repeat' (first | (with_reducible first | refine W ?_ | refine Wk (by decide) ?_) | ((with_reducible first | refine Wo (fun K hK => ?_) | refine Wp ?_ | refine Wq ?_ | refine Wr ?_); (try simp only [go_sem, fN, ↓gI, ↓pI, seval, eT, iR, hb, e2, e3', e4', e44, e45, s3, s4, dT, dF, nL]); (repeat with_reducible refine And.intro (by first | omega | exact lens | (simp [maxLen_eq] <;> omega)) ?_); (try (refine hK _ ?_; clear hK K)); (try with_reducible refine iC ?_)))
        rw [hknot, hno]
        refine hend false _ _ _ rfl (by simp only [go_sem, fN, ↓gI, ↓pI, seval, eT, iR]) fun i hi hne => ?_
        simp only [go_sem, fN, ↓gI, ↓pI, seval, eT, iR, hne]
        exact hrest i hi hne
    · rw [List.take_of_length_le (by omega), List.take_of_length_le (by omega)] at hok sa
      repeat' (first | (with_reducible first | refine W ?_ | refine Wk (by decide) ?_) | ((with_reducible first | refine Wo (fun K hK => ?_) | refine Wp ?_ | refine Wq ?_ | refine Wr ?_); (try simp only [go_sem, fN, ↓gI, ↓pI, seval, eT, iR, e44, e45, hlt, dT, dF, nL]); (repeat with_reducible refine And.intro (by first | omega | exact lens | (simp [maxLen_eq] <;> omega)) ?_); (try (refine hK _ ?_; clear hK K)); (try with_reducible refine iC ?_)))
      rw [hknot, hok]
      exact hend true _ _ _ rfl sa hrest
theorem sortB_perm_eq {l m : List Bd} (h : l.Perm m) (hn : Named m) : sortB l = sortB m :=
  ordered_unique (sortB_ordered (named_perm h.symm hn)) (sortB_ordered hn) ((sortB_perm l).trans (h.trans (sortB_perm m).symm))
theorem case_a (p t : Tm) (hp : p.size ≤ 100000) (ht : t.size ≤ 1000000) : ACalls Tryz.prog 49 [aTm p, aTm t] (.tup [aBds (caseOf p t), aBool (isCase p t)]) := by
  have hnm := mt_named p t
  have hml := mt_len p t
  have hms := mt_size p t
  refine ac_match_Case (Nat.le_of_ble_eq_true rfl) fun C hC => ?_
  unfold ir_match_Case
  repeat' (first | (with_reducible first | refine W ?_ | refine Wk (by decide) ?_) | ((with_reducible first | refine Wo (fun K hK => ?_) | refine Wp ?_ | refine Wq ?_ | refine Wr ?_); (try simp only [go_sem, fN, ↓gI, ↓pI, seval, eT, iR, dT, dF, nL]); (repeat with_reducible refine And.intro (by first | omega | exact lens | (simp [maxLen_eq] <;> omega)) ?_); (try (refine hK _ ?_; clear hK K)); (try with_reducible refine iC ?_)))
  refine ⟨_, _, into_M p (by omega) t (up1 10) [] _ (up1_le 10) (by rw [upS_up]; rfl), ?_⟩
  cases hc : (p.mt t []).2 with
  | false =>
    repeat' (first | (with_reducible first | refine W ?_ | refine Wk (by decide) ?_) | ((with_reducible first | refine Wo (fun K hK => ?_) | refine Wp ?_ | refine Wq ?_ | refine Wr ?_); (try simp only [go_sem, fN, ↓gI, ↓pI, seval, eT, iR, hc, dT, dF, nL]); (repeat with_reducible refine And.intro (by first | omega | exact lens | (simp [maxLen_eq] <;> omega)) ?_); (try (refine hK _ ?_; clear hK K)); (try with_reducible refine iC ?_)))
    simp only [go_sem, fN, ↓gI, ↓pI, seval, FinQ, AS.result, resAll, resOne, tupV]
    unfold caseOf isCase
    rw [hc]
    rfl
  | true =>
    have hca : caseOf p t = sortB (p.mt t []).1 := by unfold caseOf; rw [if_pos hc]
    have his : isCase p t = true := hc
    repeat' (first | (with_reducible first | refine W ?_ | refine Wk (by decide) ?_) | ((with_reducible first | refine Wo (fun K hK => ?_) | refine Wp ?_ | refine Wq ?_ | refine Wr ?_); (try simp only [go_sem, fN, ↓gI, ↓pI, seval, eT, iR, hc, mapOf, dT, dF, nL]); (repeat with_reducible refine And.intro (by first | omega | exact lens | (simp [maxLen_eq] <;> omega)) ?_); (try (refine hK _ ?_; clear hK K)); (try with_reducible refine iC ?_)))
    rw [hca, his]
    generalize (p.mt t []).1 = l at *
    refine IWP.ghost (Ghost.ownM 7 500 118 3 (by rfl) (by rfl) (by rw [hC]; decide)) ?_
    refine IWP.loopD [9] (fun m x => ∃ seen : List Nat, seen.Nodup ∧ (∀ j ∈ seen, j < l.length) ∧ m = l.length - seen.length ∧ x.env 7 = .one (.row 500 seen.length) ∧ x.env 17 = .one (.ptr 17 1 0 0) ∧ x.S 10 = some (mapB l) ∧ x.S 17 = some (.iter (.mptr 10) l.length seen) ∧ x.S 500 = some (rowBd (met l seen)) ∧ x.S 9 = none) l.length ⟨[], List.nodup_nil, by simp, rfl, rfl, rfl, by simp only [go_sem, fN, ↓gI, ↓pI, seval, eT, iR], by simp only [go_sem, fN, ↓gI, ↓pI, seval, eT, iR], rfl, rfl⟩ ?_
    rintro m ⟨env, S⟩ ⟨seen, hnd, hlt, rfl, e7, e17, s10, s17, s500, s9⟩
    simp only at e7 e17 s10 s17 s500 s9
    have hsl := seen_len hnd hlt
    have hmt := met_len hlt
    repeat' (first | (with_reducible first | refine W ?_ | refine Wk (by decide) ?_) | ((with_reducible first | refine Wo (fun K hK => ?_) | refine Wp ?_ | refine Wq ?_ | refine Wr ?_); (try simp only [go_sem, fN, ↓gI, ↓pI, seval, eT, iR, e7, e17, s10, s17, iterOf, dT, dF, nL]); (repeat with_reducible refine And.intro (by first | omega | exact lens | (simp [maxLen_eq] <;> omega)) ?_); (try (refine hK _ ?_; clear hK K)); (try with_reducible refine iC ?_)))
    refine ⟨fun hall => ?_, fun j x c hx hj hkv => ?_⟩
    · have hmp := met_perm hnd hlt hall
      have hl' : seen.length = l.length := by rw [← hmt]; exact hmp.length_eq
      refine hK _ ?_
      clear hK K
      refine Wb ?_
      refine Wa ?_
      with_reducible refine Wp ?_
      simp only [go_sem, fN, ↓gI, ↓pI, seval, true_implies, false_implies, implies_true, dT, dF, nL]
      (try with_reducible refine iC ?_)
      repeat' (with_reducible first | refine Wb ?_ | refine Wc ?_ | refine Wd ?_ | refine We ?_ | refine Wg ?_ | refine Wh ?_ | refine Wi ?_ | refine Wj ?_ | refine Wk (by decide) ?_ | refine Wl ?_ | refine Wm ?_ | refine Wn ?_)
      refine IWP.mid (fun x => x.env 4 = .one (.row 500 l.length) ∧ x.env 5 = aBool true ∧ x.S 500 = some (rowBd (sortB l))) ?_ ?_
      · have hs := sort_M (met l seen) (named_perm hmp.symm hnm) (by omega) (up1 500) (up1_le 500) (upS S) (by rw [upS_up, s500]; rfl)
        rw [hmt, hl', sortB_perm_eq hmp hnm] at hs
        rw [hl'] at e7
        repeat' (first | (with_reducible first | refine W ?_ | refine Wk (by decide) ?_) | ((with_reducible first | refine Wo (fun K hK => ?_) | refine Wq ?_ | refine Wr ?_); (try simp only [go_sem, fN, ↓gI, ↓pI, seval, eT, iR, e7]); (repeat with_reducible refine And.intro (by first | omega | exact lens | (simp [maxLen_eq] <;> omega)) ?_); (try (refine hK _ ?_; clear hK K))))
        refine ⟨_, _, hs, ?_⟩
        repeat' (first | (with_reducible first | refine W ?_ | refine Wk (by decide) ?_) | ((with_reducible first | refine Wo (fun K hK => ?_) | refine Wq ?_ | refine Wr ?_); (try simp only [go_sem, fN, ↓gI, ↓pI, seval, eT, iR, e7]); (repeat with_reducible refine And.intro (by first | omega | exact lens | (simp [maxLen_eq] <;> omega)) ?_); (try (refine hK _ ?_; clear hK K))))
        refine ⟨rfl, ?_⟩
        simp only [go_sem, fN, ↓gI, ↓pI, seval, eT, iR]
      rintro ⟨env, S⟩ ⟨e4, e5, s500⟩
      simp only at e4 e5 s500
      refine IWP.ghost (Ghost.share (id := 500) s500) ?_
      repeat' (first | (with_reducible first | refine W ?_ | refine Wk (by decide) ?_) | ((with_reducible first | refine Wo (fun K hK => ?_) | refine Wq ?_ | refine Wr ?_); (try simp only [go_sem, fN, ↓gI, ↓pI, seval, eT, iR]); (repeat with_reducible refine And.intro (by first | omega | exact lens | (simp [maxLen_eq] <;> omega)) ?_); (try (refine hK _ ?_; clear hK K))))
      simp only [go_sem, fN, ↓gI, ↓pI, seval, FinQ, AS.result, resAll, resOne, tupV, e4, e5, sortB_length]
    · rw [Option.map_eq_some_iff] at hx
      obtain ⟨b, hb, rfl⟩ := hx
      have hbz := hms b (mem_of_get hb)
      have hjl : j < l.length := by
        rcases Nat.lt_or_ge j l.length with h | h
        · exact h
        · rw [List.getElem?_eq_none h] at hb; cases hb
      have hcv : c = .str b.1 := by
        have : some (SV.str b.1) = some c := hkv
        cases this
        rfl
      subst hcv
      have hnd' : (seen ++ [j]).Nodup := by
        rw [List.nodup_append]
        exact ⟨hnd, by simp, fun a ha b hb e => hj (by rw [List.mem_singleton.1 hb] at e; rw [← e]; exact ha)⟩
      have hlt' : ∀ i ∈ seen ++ [j], i < l.length := fun i hi => by
        rcases List.mem_append.1 hi with h | h
        · exact hlt i h
        · rw [List.mem_singleton.1 h]; exact hjl
      have hsl' := seen_len hnd' hlt'
      rw [List.length_append, List.length_singleton] at hsl'
      refine hK _ ?_
      clear hK K
      refine Wb ?_
      repeat' (first | (with_reducible first | refine W ?_ | refine Wk (by decide) ?_) | refine Cg _ (copy_a b.2 (by omega)) ?_ | ((with_reducible first | refine Wo (fun K hK => ?_) | refine Wp ?_ | refine Wq ?_ | refine Wr ?_); (try simp only [go_sem, fN, ↓gI, ↓pI, seval, eT, iR, e7, e17, s10, s17, s500, s9, iterOf, List.getLast?_concat, hb, entB, KV.sv, hmt, encB, dT, dF, nL]); (repeat with_reducible refine And.intro (by first | omega | exact lens | (simp [maxLen_eq] <;> omega)) ?_); (try (refine hK _ ?_; clear hK K)); (try with_reducible refine iC ?_)))
      refine then_normal ⟨l.length - (seen.length + 1), by omega, seen ++ [j], hnd', hlt', by rw [List.length_append, List.length_singleton], ?_⟩
      rw [met_snoc hb]
      simp only [go_sem, fN, ↓gI, ↓pI, seval, AS.drop, dropS, AC.clears, AC.clear, AC.highs, AC.high, Bool.not_false, Bool.true_and, Bool.and_self, AV.purge, AV.purges, AC.purge, ABlk.purge, List.contains_cons, List.contains_nil, Nat.reduceBEq, Bool.or_self, Bool.or_false, Bool.false_or, Bool.or_true, eT, iR, e7, e17, s10, s500]
      show ABlk.mrow _ _ ((met l seen).map encB ++ [encB b]) = rowBd _
      rw [rowBd, List.map_append]
      rfl
end Go.Proofs.YtehnjhkndbcmgaaGreatDoor

namespace Go.Proofs.YtehnjhkndbcmgaaGreatDoor
open Go Go.RowKit
set_option linter.unusedVariables false
set_option linter.unusedSimpArgs false
set_option maxHeartbeats 400000
theorem lVar_a (i : Int) : ACalls Tryz.prog 57 [aInt i] (aLm (.mk 1 i [])) := by
  refine ac_R_Var (Nat.le_of_ble_eq_true rfl) fun C hC => ?_
  unfold ir_R_Var
  repeat' (first | (with_reducible first | refine W ?_ | refine Wk (by decide) ?_) | ((with_reducible first | refine Wo (fun K hK => ?_) | refine Wp ?_ | refine Wq ?_ | refine Wr ?_); (try simp only [go_sem, fN, ↓gI, ↓pI, seval, eT, iR, dT, dF, nL]); (repeat with_reducible refine And.intro (by first | omega | exact lens | (simp [maxLen_eq] <;> omega)) ?_); (try (refine hK _ ?_; clear hK K)); (try with_reducible refine iC ?_)))
  simp only [go_sem, fN, ↓gI, ↓pI, seval, FinQ, AS.result, resAll, resOne, tupV]
  rfl
end Go.Proofs.YtehnjhkndbcmgaaGreatDoor
