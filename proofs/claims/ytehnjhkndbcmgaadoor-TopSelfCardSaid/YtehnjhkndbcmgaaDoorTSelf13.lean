/-
  Part 13 of the texts: BUnify3; IrMatch; BMet; IrSameT; BSameT; BMatch; BLamMv; BLamPut; BInf5; IrRed; PRed; PRed2; BRed; IrCon; BCon; IrRaw; BRawL. Conditions: none.
-/
import Derived.Test.YtehnjhkndbcmgaaDoorTSelf12
namespace Go.Proofs.YtehnjhkndbcmgaaDoor
open Go Go.RowKit
set_option linter.unusedVariables false
set_option linter.unusedSimpArgs false
set_option maxHeartbeats 2000000
def Stk (xs : List (List SV)) (l : List Pr) : Prop := xs.take l.length = l.reverse.map encP ∧ l.length ≤ xs.length
theorem Stk.push {xs : List (List SV)} {l : List Pr} (h : Stk xs l) (p : Pr) : Stk (xs.take l.length ++ [encP p] ++ xs.drop (l.length + 1)) (p :: l) := by
  obtain ⟨h1, h2⟩ := h
  have hl : (xs.take l.length).length = l.length := by rw [List.length_take]; omega
  refine ⟨?_, by simp only [List.length_append, List.length_take, List.length_cons, List.length_nil]; omega⟩
  rw [List.length_cons, List.take_append_of_le_length (by rw [List.length_append, hl]; simp), List.take_of_length_le (by rw [List.length_append, hl]; simp), h1, List.reverse_cons, List.map_append]
  rfl
theorem Stk.pushLen {xs : List (List SV)} {l : List Pr} (h : Stk xs l) (p : Pr) : (xs.take l.length ++ [encP p] ++ xs.drop (l.length + 1)).length = if xs.length ≤ l.length + 1 then l.length + 1 else xs.length := by
  have := h.2
  simp only [List.length_append, List.length_take, List.length_drop, List.length_cons, List.length_nil]
  split <;> omega
theorem Stk.top {xs : List (List SV)} {p : Pr} {l : List Pr} (h : Stk xs (p :: l)) : xs[l.length]? = some (encP p) := by
  obtain ⟨h1, h2⟩ := h
  have e : (xs.take (p :: l).length)[l.length]? = xs[l.length]? := by rw [List.getElem?_take, if_pos (by simp)]
  rw [← e, h1, List.reverse_cons, List.map_append, List.getElem?_append_right (by simp)]
  simp
theorem Stk.pop {xs : List (List SV)} {p : Pr} {l : List Pr} (h : Stk xs (p :: l)) : Stk xs l := by
  obtain ⟨h1, h2⟩ := h
  rw [List.length_cons] at h2
  refine ⟨?_, by omega⟩
  have e : xs.take l.length = (xs.take (p :: l).length).take l.length := by rw [List.take_take, List.length_cons, Nat.min_eq_left (by omega)]
  rw [e, h1, List.reverse_cons, List.map_append, List.take_append_of_le_length (by simp), List.take_of_length_le (by simp)]
def halfOn (s : List Bd) (x : ByteArray) (t : Tm) (i : Nat) : List Bd := (s.take i).map (fun b => (b.1, b.2.on [(x, t)])) ++ s.drop i
theorem halfOn_len (s : List Bd) (x : ByteArray) (t : Tm) (i : Nat) : (halfOn s x t i).length = s.length := by
  have := congrArg List.length (List.take_append_drop i s)
  unfold halfOn
  rw [List.length_append] at this ⊢
  rw [List.length_map]
  exact this
theorem halfOn_get {s : List Bd} {x : ByteArray} {t : Tm} {i : Nat} {b : Bd} (h : s[i]? = some b) : (halfOn s x t i)[i]? = some b := by
  have := lt_of_get h
  unfold halfOn
  rw [List.getElem?_append_right (by rw [List.length_map, List.length_take]; omega), List.length_map, List.length_take, Nat.min_eq_left (by omega), Nat.sub_self, drop_get h]
  rfl
theorem halfOn_set {s : List Bd} {x : ByteArray} {t : Tm} {i : Nat} {b : Bd} (h : s[i]? = some b) : (halfOn s x t i).set i (b.1, b.2.on [(x, t)]) = halfOn s x t (i + 1) := by
  have := lt_of_get h
  unfold halfOn
  rw [List.set_append_right _ _ (by rw [List.length_map, List.length_take]; omega), List.length_map, List.length_take, Nat.min_eq_left (by omega), Nat.sub_self, drop_get h, take_snoc h, List.map_append, List.append_assoc]
  rfl
theorem halfOn_all (s : List Bd) (x : ByteArray) (t : Tm) : halfOn s x t s.length = s.map fun b => (b.1, b.2.on [(x, t)]) := by
  unfold halfOn
  rw [List.take_length, List.drop_length, List.append_nil]
theorem solve_a (U : List ByteArray) (hU : U.length ≤ 20000) (C0 : Nat) (hC0 : C0 ≤ 100000000000) (n : Nat) (l : List Pr) (r : List Bd × Int) (hr : UEnds n [] l r) (hg : UGood U C0 [] l) : ACalls Tryd.prog 15 [aPrs l] (.tup [aBds r.1, aInt r.2]) := by
  have hll : l.length ≤ 100000000001 := by have := hg.stack; omega
  refine ac_unify_Solve (Nat.le_of_ble_eq_true rfl) fun C hC => ?_
  unfold ir_unify_Solve
  repeat' (first | (with_reducible first | refine W ?_ | refine Wk (by decide) ?_) | ((with_reducible first | refine Wo (fun K hK => ?_) | refine Wp ?_ | refine Wq ?_ | refine Wr ?_); (try simp only [go_sem, fN, ↓gI, ↓pI, seval, eT, iR, dT, dF, nL]); (repeat with_reducible refine And.intro (by first | omega | (with_reducible exact lens) | (simp [maxLen_eq] <;> omega)) ?_); (try (with_reducible refine hK _ ?_; clear hK K)); (try with_reducible refine iC ?_)))
  refine IWP.ghost (Ghost.ownM 4 500 72 3 rfl rfl (by rw [hC]; decide)) ?_
  refine IWP.ghost (Ghost.ownM 5 501 68 4 rfl rfl (by rw [hC]; decide)) ?_
  refine IWP.ghost (Ghost.toPart 5 501 0 rfl (by rw [hC]; decide)) ?_
  refine IWP.loop (fun m x => ∃ (k : Nat) (xs : List (List SV)), k ≤ l.length ∧ m = k ∧ Stk xs (l.drop k) ∧ x.env 0 = aPrs l ∧ x.env 4 = .one (.row 500 0) ∧ x.env 5 = .one (.part 501 (l.drop k).length xs.length) ∧ x.env 6 = .one (.st (.int .i64 ((k : Int) - 1))) ∧ x.S 500 = some (rowBd []) ∧ x.S 501 = some (.mrow 68 4 xs) ∧ x.S 7 = none ∧ x.S 8 = none ∧ x.S 10 = none) l.length ⟨l.length, [], Nat.le_refl _, rfl, ?_⟩ ?_
  · rw [List.drop_length]
    exact ⟨⟨rfl, Nat.le_refl _⟩, rfl, rfl, rfl, rfl, rfl, rfl, rfl, rfl, rfl⟩
  · rintro k ⟨env, S⟩ ⟨_, xs, hk, rfl, hstk, e0, e4, e5, e6, s500, s501, s7, s8, s10⟩
    simp only at e0 e4 e5 e6 s500 s501 s7 s8 s10
    by_cases hk0 : 0 ≤ (k : Int) - 1
    · obtain ⟨k, rfl⟩ : ∃ q, k = q + 1 := ⟨k - 1, by omega⟩
      obtain ⟨p, hp⟩ := get_lt (show k < l.length by omega)
      have hz : (((k + 1 : Nat) : Int) - 1).toNat = k := by omega
      have hp' : l[(((k + 1 : Nat) : Int) - 1).toNat]? = some p := by rw [hz]; exact hp
      have hdl : (List.drop (k + 1) l).length ≤ 100000000001 := by rw [List.length_drop]; omega
      repeat' (first | (with_reducible first | refine W ?_ | refine Wk (by decide) ?_) | ((with_reducible first | refine Wo (fun K hK => ?_) | refine Wp ?_ | refine Wq ?_ | refine Wr ?_); (try simp only [go_sem, fN, ↓gI, ↓pI, seval, eT, iR, e0, e4, e5, e6, s500, s501, s7, s8, s10, hk0, hz, hp, encP, dT, dF, nL]); (repeat with_reducible refine And.intro (by first | omega | (with_reducible exact lens) | (simp [maxLen_eq] <;> omega)) ?_); (try (with_reducible refine hK _ ?_; clear hK K)); (try with_reducible refine iC ?_)))
      refine then_normal ⟨k, by omega, k, _, by omega, rfl, by rw [drop_get hp]; exact hstk.push p, ?_⟩
      simp only [go_sem, fN, ↓gI, ↓pI, seval, eT, iR, e0, e4, e5, e6, s500, s7, s8, s10]
      have hpl : (List.take (List.drop (k + 1) l).length xs).length + 1 + (List.drop ((List.drop (k + 1) l).length + 1) xs).length = if xs.length ≤ (List.drop (k + 1) l).length + 1 then (List.drop (k + 1) l).length + 1 else xs.length := by
        have := hstk.pushLen p
        simpa only [List.length_append, List.length_cons, List.length_nil, Nat.zero_add] using this
      rw [hpl, drop_get hp]
      refine ⟨rfl, ?_, rfl⟩
      congr 3
      omega
    · obtain rfl : k = 0 := by omega
      rw [List.drop_zero] at hstk e5
      repeat' (first | (with_reducible first | refine W ?_ | refine Wk (by decide) ?_) | ((with_reducible first | refine Wo (fun K hK => ?_) | refine Wp ?_ | refine Wq ?_ | refine Wr ?_); (try simp only [go_sem, fN, ↓gI, ↓pI, seval, eT, iR, e6, hk0, dT, dF, nL]); (repeat with_reducible refine And.intro (by first | omega | (with_reducible exact lens) | (simp [maxLen_eq] <;> omega)) ?_); (try (with_reducible refine hK _ ?_; clear hK K)); (try with_reducible refine iC ?_)))
      refine IWP.loopD [7, 8, 10] (fun m x => ∃ s l xs, UEnds m s l r ∧ UGood U C0 s l ∧ Stk xs l ∧ x.env 4 = .one (.row 500 s.length) ∧ x.env 5 = .one (.part 501 l.length xs.length) ∧ x.S 500 = some (rowBd s) ∧ x.S 501 = some (.mrow 68 4 xs) ∧ x.S 7 = none ∧ x.S 8 = none ∧ x.S 10 = none) n ⟨[], l, xs, hr, hg, hstk, ?_⟩ ?_
      · simp only [go_sem, fN, ↓gI, ↓pI, seval, eT, iR, e4, e5, s500, s501, s7, s8, s10]
      clear hr hg hstk e0 e4 e5 e6 s500 s501 s7 s8 s10 hll hk hk0 env S xs
      rintro m ⟨env, S⟩ ⟨s, l, xs, hr, hg, hstk, e4, e5, s500, s501, s7, s8, s10⟩
      simp only at e4 e5 s500 s501 s7 s8 s10
      have hsl : s.length ≤ 20000 := Nat.le_trans hg.len hU
      cases l with
      | nil =>
        cases hr
        refine IWP.ghost (Ghost.share (id := 500) s500) ?_
        repeat' (first | (with_reducible first | refine W ?_ | refine Wk (by decide) ?_) | ((with_reducible first | refine Wo (fun K hK => ?_) | refine Wp ?_ | refine Wq ?_ | refine Wr ?_); (try simp only [go_sem, fN, ↓gI, ↓pI, seval, eT, iR, e4, e5, s501, dT, dF, nL]); (repeat with_reducible refine And.intro (by first | omega | (with_reducible exact lens) | (simp [maxLen_eq] <;> omega)) ?_); (try (with_reducible refine hK _ ?_; clear hK K)); (try with_reducible refine iC ?_)))
        simp only [go_sem, fN, ↓gI, ↓pI, seval, FinQ, AS.result, resAll, resOne, tupV]
      | cons p l =>
        have hinv := uends_inv hr
        obtain ⟨hc1, hc2⟩ := hg.lchk p (by simp)
        have hUp := hg.lU p (by simp)
        obtain ⟨hz1, hz2⟩ := hg.lsiz p (by simp)
        obtain ⟨a1, a2, a3⟩ := onU hg hc1 fun y => (hUp y).1
        obtain ⟨b1, b2, b3⟩ := onU hg hc2 fun y => (hUp y).2
        have hl0 : (0 : Int) < ((l.length + 1 : Nat) : Int) := by omega
        have hl1 : (((l.length + 1 : Nat) : Int) - 1) = (l.length : Int) := by omega
        have hl2 : (l.length : Int) < ((l.length + 1 : Nat) : Int) := by omega
        have hl3 : (l.length : Int) ≤ ((l.length + 1 : Nat) : Int) := by omega
        have hlb : l.length ≤ 100000000000 := by have := hg.stack; rw [List.length_cons] at this; omega
        have htop := hstk.top
        have hstk' := hstk.pop
        rw [List.length_cons] at e5
        have onc : ∀ t : Tm, t.chk = 0 → ∀ T : AStore, (∀ q ∈ [(500, rowBd s)], T q.1 = some q.2) → ACallsS Tryd.prog 16 [.one (.row (up1 500) s.length), aTm t] (upS T) (.tup [aTm (onTo s t).1, aBool (onTo s t).2]) (upS T) :=
          fun t ht T hT => on_M s (by omega) hg.ord t hg.var ht (up1 500) (up1_le 500) (upS T) (by rw [upS_up, hT _ (List.mem_singleton.2 rfl)]; rfl)
        by_cases ha : (p.1.on s).size ≤ 2000
        case neg =>
          have he : onTo s p.1 = (Tm.nil, false) := by unfold onTo; rw [if_neg ha]
          have hst : stepU s p = .err 8 := by unfold stepU; rw [if_pos (by omega)]
          repeat' (first | (with_reducible first | refine W ?_ | refine Wk (by decide) ?_) | ((with_reducible first | refine Wo (fun K hK => ?_) | refine Wp ?_ | refine Wq ?_ | refine Wr ?_); (try simp only [go_sem, fN, ↓gI, ↓pI, seval, eT, iR, e4, e5, s500, s501, s7, s8, s10, hl0, hl1, hl2, hl3, htop, encP, dT, dF, nL]); (repeat with_reducible refine And.intro (by first | omega | (with_reducible exact lens) | (simp [maxLen_eq] <;> omega)) ?_); (try (with_reducible refine hK _ ?_; clear hK K)); (try with_reducible refine iC ?_)))
          refine ⟨_, [(500, rowBd s)], rows_one (by (simp only [go_sem, fN, ↓gI, ↓pI, seval, eT, iR, s500])), onc p.1 hc1, ?_⟩
          repeat' (first | (with_reducible first | refine W ?_ | refine Wk (by decide) ?_) | ((with_reducible first | refine Wo (fun K hK => ?_) | refine Wp ?_ | refine Wq ?_ | refine Wr ?_); (try simp only [go_sem, fN, ↓gI, ↓pI, seval, eT, iR, he, e4, e5, s8, s10, dT, dF, nL]); (repeat with_reducible refine And.intro (by first | omega | (with_reducible exact lens) | (simp [maxLen_eq] <;> omega)) ?_); (try (with_reducible refine hK _ ?_; clear hK K)); (try with_reducible refine iC ?_)))
          refine ⟨_, [(500, rowBd s)], rows_one (by (simp only [go_sem, fN, ↓gI, ↓pI, seval, eT, iR, s500])), onc p.2 hc2, ?_⟩
          repeat' (first | (with_reducible first | refine W ?_ | refine Wk (by decide) ?_) | ((with_reducible first | refine Wo (fun K hK => ?_) | refine Wp ?_ | refine Wq ?_ | refine Wr ?_); (try simp only [go_sem, fN, ↓gI, ↓pI, seval, eT, iR, he, e4, e5, s8, s10, dT, dF, nL]); (repeat with_reducible refine And.intro (by first | omega | (with_reducible exact lens) | (simp [maxLen_eq] <;> omega)) ?_); (try (with_reducible refine hK _ ?_; clear hK K)); (try with_reducible refine iC ?_)))
          simp only [go_sem, fN, ↓gI, ↓pI, seval, FinQ, AS.result, resAll, resOne, tupV]
          rcases hinv with ⟨e, h1, rfl⟩ | ⟨s', ps, q, h1, _⟩
          · rw [hst] at h1
            cases h1
            rfl
          · rw [hst] at h1
            cases h1
        by_cases hb : (p.2.on s).size ≤ 2000
        case neg =>
          have he : onTo s p.1 = (p.1.on s, true) := by unfold onTo; rw [if_pos ha]
          have he2 : onTo s p.2 = (Tm.nil, false) := by unfold onTo; rw [if_neg hb]
          have hst : stepU s p = .err 8 := by unfold stepU; rw [if_pos (by omega)]
          repeat' (first | (with_reducible first | refine W ?_ | refine Wk (by decide) ?_) | ((with_reducible first | refine Wo (fun K hK => ?_) | refine Wp ?_ | refine Wq ?_ | refine Wr ?_); (try simp only [go_sem, fN, ↓gI, ↓pI, seval, eT, iR, e4, e5, s500, s501, s7, s8, s10, hl0, hl1, hl2, hl3, htop, encP, dT, dF, nL]); (repeat with_reducible refine And.intro (by first | omega | (with_reducible exact lens) | (simp [maxLen_eq] <;> omega)) ?_); (try (with_reducible refine hK _ ?_; clear hK K)); (try with_reducible refine iC ?_)))
          refine ⟨_, [(500, rowBd s)], rows_one (by (simp only [go_sem, fN, ↓gI, ↓pI, seval, eT, iR, s500])), onc p.1 hc1, ?_⟩
          repeat' (first | (with_reducible first | refine W ?_ | refine Wk (by decide) ?_) | ((with_reducible first | refine Wo (fun K hK => ?_) | refine Wp ?_ | refine Wq ?_ | refine Wr ?_); (try simp only [go_sem, fN, ↓gI, ↓pI, seval, eT, iR, he, e4, e5, s8, s10, dT, dF, nL]); (repeat with_reducible refine And.intro (by first | omega | (with_reducible exact lens) | (simp [maxLen_eq] <;> omega)) ?_); (try (with_reducible refine hK _ ?_; clear hK K)); (try with_reducible refine iC ?_)))
          refine ⟨_, [(500, rowBd s)], rows_one (by (simp only [go_sem, fN, ↓gI, ↓pI, seval, eT, iR, s500])), onc p.2 hc2, ?_⟩
          repeat' (first | (with_reducible first | refine W ?_ | refine Wk (by decide) ?_) | ((with_reducible first | refine Wo (fun K hK => ?_) | refine Wp ?_ | refine Wq ?_ | refine Wr ?_); (try simp only [go_sem, fN, ↓gI, ↓pI, seval, eT, iR, he, he2, e4, e5, s8, s10, dT, dF, nL]); (repeat with_reducible refine And.intro (by first | omega | (with_reducible exact lens) | (simp [maxLen_eq] <;> omega)) ?_); (try (with_reducible refine hK _ ?_; clear hK K)); (try with_reducible refine iC ?_)))
          simp only [go_sem, fN, ↓gI, ↓pI, seval, FinQ, AS.result, resAll, resOne, tupV]
          rcases hinv with ⟨e, h1, rfl⟩ | ⟨s', ps, q, h1, _⟩
          · rw [hst] at h1
            cases h1
            rfl
          · rw [hst] at h1
            cases h1
        have he : onTo s p.1 = (p.1.on s, true) := by unfold onTo; rw [if_pos ha]
        have he2 : onTo s p.2 = (p.2.on s, true) := by unfold onTo; rw [if_pos hb]
        have hta : TmOk U s (p.1.on s) := ⟨a1, ha, a2, a3⟩
        have htb : TmOk U s (p.2.on s) := ⟨b1, hb, b2, b3⟩
        repeat' (first | (with_reducible first | refine W ?_ | refine Wk (by decide) ?_) | ((with_reducible first | refine Wo (fun K hK => ?_) | refine Wp ?_ | refine Wq ?_ | refine Wr ?_); (try simp only [go_sem, fN, ↓gI, ↓pI, seval, eT, iR, e4, e5, s500, s501, s7, s8, s10, hl0, hl1, hl2, hl3, htop, encP, dT, dF, nL]); (repeat with_reducible refine And.intro (by first | omega | (with_reducible exact lens) | (simp [maxLen_eq] <;> omega)) ?_); (try (with_reducible refine hK _ ?_; clear hK K)); (try with_reducible refine iC ?_)))
        refine ⟨_, [(500, rowBd s)], rows_one (by (simp only [go_sem, fN, ↓gI, ↓pI, seval, eT, iR, s500])), onc p.1 hc1, ?_⟩
        repeat' (first | (with_reducible first | refine W ?_ | refine Wk (by decide) ?_) | ((with_reducible first | refine Wo (fun K hK => ?_) | refine Wp ?_ | refine Wq ?_ | refine Wr ?_); (try simp only [go_sem, fN, ↓gI, ↓pI, seval, eT, iR, he, e4, e5, s8, s10, dT, dF, nL]); (repeat with_reducible refine And.intro (by first | omega | (with_reducible exact lens) | (simp [maxLen_eq] <;> omega)) ?_); (try (with_reducible refine hK _ ?_; clear hK K)); (try with_reducible refine iC ?_)))
        refine ⟨_, [(500, rowBd s)], rows_one (by (simp only [go_sem, fN, ↓gI, ↓pI, seval, eT, iR, s500])), onc p.2 hc2, ?_⟩
        repeat' (first | (with_reducible first | refine W ?_ | refine Wk (by decide) ?_) | ((with_reducible first | refine Wo (fun K hK => ?_) | refine Wp ?_ | refine Wq ?_ | refine Wr ?_); (try simp only [go_sem, fN, ↓gI, ↓pI, seval, eT, iR, he, he2, e4, e5, s8, s10, dT, dF, nL]); (repeat with_reducible refine And.intro (by first | omega | (with_reducible exact lens) | (simp [maxLen_eq] <;> omega)) ?_); (try (with_reducible refine hK _ ?_; clear hK K)); (try with_reducible refine iC ?_)))
        refine ⟨_, variable_a _, ?_⟩
        by_cases hsame : isVar (p.1.on s).name = true ∧ (p.1.on s).name = (p.2.on s).name
        · have hst : stepU s p = .go s [] := by unfold stepU; rw [if_neg (by omega), if_pos hsame]
          have hsv : isVar (p.2.on s).name = true := by rw [← hsame.2]; exact hsame.1
          repeat' (first | (with_reducible first | refine W ?_ | refine Wk (by decide) ?_) | ((with_reducible first | refine Wo (fun K hK => ?_) | refine Wp ?_ | refine Wq ?_ | refine Wr ?_); (try simp only [go_sem, fN, ↓gI, ↓pI, seval, eT, iR, hsame.1, hsv, hsame.2, e4, e5, dT, dF, nL]); (repeat with_reducible refine And.intro (by first | omega | (with_reducible exact lens) | (simp [maxLen_eq] <;> omega)) ?_); (try (with_reducible refine hK _ ?_; clear hK K)); (try with_reducible refine iC ?_)))
          rcases hinv with ⟨e, h1, _⟩ | ⟨s', ps, q, h1, h2, h3⟩
          · rw [hst] at h1
            cases h1
          rw [hst] at h1
          cases h1
          refine then_normal ⟨q, h2, s, l, xs, h3, hg.tail, hstk', ?_⟩
          simp only [go_sem, fN, ↓gI, ↓pI, seval, AS.drop, dropS, AC.clears, AC.clear, AC.highs, AC.high, Bool.not_false, Bool.true_and, Bool.and_self, AV.purge, AV.purges, AC.purge, ABlk.purge, List.contains_cons, List.contains_nil, Nat.reduceBEq, Bool.or_self, Bool.or_false, Bool.false_or, Bool.or_true, eT, iR, e4, s500, s501]
        by_cases hvv : isVar (p.1.on s).name = true ∨ isVar (p.2.on s).name = true
        · apply once
          · intro rest
            cases hv : isVar (p.1.on s).name with
            | true =>
              have hne : ¬ (p.1.on s).name = (p.2.on s).name := fun h => hsame ⟨hv, h⟩
              repeat' (first | (with_reducible first | refine W ?_ | refine Wk (by decide) ?_) | ((with_reducible first | refine Wo (fun K hK => ?_) | refine Wp ?_ | refine Wq ?_ | refine Wr ?_); (try simp only [go_sem, fN, ↓gI, ↓pI, seval, eT, iR, hv, hne, dT, dF, nL]); (repeat with_reducible refine And.intro (by first | omega | (with_reducible exact lens) | (simp [maxLen_eq] <;> omega)) ?_); (try (with_reducible refine hK _ ?_; skip)); (try with_reducible refine iC ?_)))
              refine ⟨_, variable_a _, ?_⟩
              repeat' (first | (with_reducible first | refine W ?_ | refine Wk (by decide) ?_) | ((with_reducible first | refine Wo (fun K hK => ?_) | refine Wq ?_ | refine Wr ?_); (try simp only [go_sem, fN, ↓gI, ↓pI, seval, eT, iR, hv]); (repeat with_reducible refine And.intro (by first | omega | (with_reducible exact lens) | (simp [maxLen_eq] <;> omega)) ?_); (try (with_reducible refine hK _ ?_; skip))))
              with_reducible refine Wp ?_
              simp only [go_sem, fN, ↓gI, ↓pI, seval, true_implies, false_implies, implies_true, dT, dF, nL]
              (try with_reducible refine iC ?_)
              refine IWP.mid (fun x => ∃ u t, Turned U s p u t ∧ isVar u.name = true ∧ x.env 4 = .one (.row 500 s.length) ∧ x.env 5 = .one (.part 501 l.length xs.length) ∧ x.env 8 = .one (.ptr 8 1 0 0) ∧ x.env 10 = .one (.ptr 10 1 0 0) ∧ x.S 500 = some (rowBd s) ∧ x.S 501 = some (.mrow 68 4 xs) ∧ x.S 8 = some (boxT u) ∧ x.S 10 = some (boxT t)) ?_ rest
              repeat' (first | (with_reducible first | refine W ?_ | refine Wk (by decide) ?_) | ((with_reducible first | refine Wo (fun K hK => ?_) | refine Wp ?_ | refine Wq ?_ | refine Wr ?_); (try simp only [go_sem, fN, ↓gI, ↓pI, seval, eT, iR, dT, dF, nL]); (repeat with_reducible refine And.intro (by first | omega | (with_reducible exact lens) | (simp [maxLen_eq] <;> omega)) ?_); (try (with_reducible refine hK _ ?_; skip)); (try with_reducible refine iC ?_)))
              refine ⟨_, variable_a _, ?_⟩
              repeat' (first | (with_reducible first | refine W ?_ | refine Wk (by decide) ?_) | ((with_reducible first | refine Wo (fun K hK => ?_) | refine Wp ?_ | refine Wq ?_ | refine Wr ?_); (try simp only [go_sem, fN, ↓gI, ↓pI, seval, eT, iR, hv, dT, dF, nL]); (repeat with_reducible refine And.intro (by first | omega | (with_reducible exact lens) | (simp [maxLen_eq] <;> omega)) ?_); (try (with_reducible refine hK _ ?_; skip)); (try with_reducible refine iC ?_)))
              refine ⟨rfl, _, _, turned_a hta htb hsame (.inl hv), hv, ?_⟩
              simp only [go_sem, fN, ↓gI, ↓pI, seval, eT, iR, e4, s500, s501]
            | false =>
              have hw : isVar (p.2.on s).name = true := hvv.resolve_left (by rw [hv]; simp)
              repeat' (first | (with_reducible first | refine W ?_ | refine Wk (by decide) ?_) | ((with_reducible first | refine Wo (fun K hK => ?_) | refine Wp ?_ | refine Wq ?_ | refine Wr ?_); (try simp only [go_sem, fN, ↓gI, ↓pI, seval, eT, iR, hv, dT, dF, nL]); (repeat with_reducible refine And.intro (by first | omega | (with_reducible exact lens) | (simp [maxLen_eq] <;> omega)) ?_); (try (with_reducible refine hK _ ?_; skip)); (try with_reducible refine iC ?_)))
              refine ⟨_, variable_a _, ?_⟩
              repeat' (first | (with_reducible first | refine W ?_ | refine Wk (by decide) ?_) | ((with_reducible first | refine Wo (fun K hK => ?_) | refine Wp ?_ | refine Wq ?_ | refine Wr ?_); (try simp only [go_sem, fN, ↓gI, ↓pI, seval, eT, iR, hv, dT, dF, nL]); (repeat with_reducible refine And.intro (by first | omega | (with_reducible exact lens) | (simp [maxLen_eq] <;> omega)) ?_); (try (with_reducible refine hK _ ?_; skip)); (try with_reducible refine iC ?_)))
              refine ⟨_, variable_a _, ?_⟩
              repeat' (first | (with_reducible first | refine W ?_ | refine Wk (by decide) ?_) | ((with_reducible first | refine Wo (fun K hK => ?_) | refine Wq ?_ | refine Wr ?_); (try simp only [go_sem, fN, ↓gI, ↓pI, seval, eT, iR, hv, hw]); (repeat with_reducible refine And.intro (by first | omega | (with_reducible exact lens) | (simp [maxLen_eq] <;> omega)) ?_); (try (with_reducible refine hK _ ?_; skip))))
              with_reducible refine Wp ?_
              simp only [go_sem, fN, ↓gI, ↓pI, seval, true_implies, false_implies, implies_true, dT, dF, nL]
              (try with_reducible refine iC ?_)
              refine IWP.mid (fun x => ∃ u t, Turned U s p u t ∧ isVar u.name = true ∧ x.env 4 = .one (.row 500 s.length) ∧ x.env 5 = .one (.part 501 l.length xs.length) ∧ x.env 8 = .one (.ptr 8 1 0 0) ∧ x.env 10 = .one (.ptr 10 1 0 0) ∧ x.S 500 = some (rowBd s) ∧ x.S 501 = some (.mrow 68 4 xs) ∧ x.S 8 = some (boxT u) ∧ x.S 10 = some (boxT t)) ?_ rest
              repeat' (first | (with_reducible first | refine W ?_ | refine Wk (by decide) ?_) | ((with_reducible first | refine Wo (fun K hK => ?_) | refine Wp ?_ | refine Wq ?_ | refine Wr ?_); (try simp only [go_sem, fN, ↓gI, ↓pI, seval, eT, iR, dT, dF, nL]); (repeat with_reducible refine And.intro (by first | omega | (with_reducible exact lens) | (simp [maxLen_eq] <;> omega)) ?_); (try (with_reducible refine hK _ ?_; skip)); (try with_reducible refine iC ?_)))
              refine ⟨_, variable_a _, ?_⟩
              repeat' (first | (with_reducible first | refine W ?_ | refine Wk (by decide) ?_) | ((with_reducible first | refine Wo (fun K hK => ?_) | refine Wp ?_ | refine Wq ?_ | refine Wr ?_); (try simp only [go_sem, fN, ↓gI, ↓pI, seval, eT, iR, hv, dT, dF, nL]); (repeat with_reducible refine And.intro (by first | omega | (with_reducible exact lens) | (simp [maxLen_eq] <;> omega)) ?_); (try (with_reducible refine hK _ ?_; skip)); (try with_reducible refine iC ?_)))
              refine ⟨rfl, _, _, turned_b hta htb hv hw, hw, ?_⟩
              simp only [go_sem, fN, ↓gI, ↓pI, seval, eT, iR, e4, s500, s501]
          clear e4 e5 s500 s501 s7 s8 s10
          rintro ⟨env, S⟩ ⟨u, t, ⟨hu, ht, hst⟩, hv, e4, e5, e8, e10, s500, s501, s8, s10⟩
          simp only at e4 e5 e8 e10 s500 s501 s8 s10
          have hst : stepU s p = bindV s u.name t := by
            rcases hst with ⟨_, h⟩ | ⟨h, _⟩
            · exact h
            · rw [hv] at h; cases h
          rw [hst] at hinv
          repeat' (first | (with_reducible first | refine W ?_ | refine Wk (by decide) ?_) | ((with_reducible first | refine Wo (fun K hK => ?_) | refine Wp ?_ | refine Wq ?_ | refine Wr ?_); (try simp only [go_sem, fN, ↓gI, ↓pI, seval, eT, iR, e4, e5, e8, e10, s500, s501, s8, s10, dT, dF, nL]); (repeat with_reducible refine And.intro (by first | omega | (with_reducible exact lens) | (simp [maxLen_eq] <;> omega)) ?_); (try (with_reducible refine hK _ ?_; clear hK K)); (try with_reducible refine iC ?_)))
          refine ⟨_, occurs_a u.name t, ?_⟩
          cases ho : occ u.name t with
          | true =>
            have hbv : bindV s u.name t = .err 6 := by unfold bindV; rw [if_pos ho]
            repeat' (first | (with_reducible first | refine W ?_ | refine Wk (by decide) ?_) | ((with_reducible first | refine Wo (fun K hK => ?_) | refine Wp ?_ | refine Wq ?_ | refine Wr ?_); (try simp only [go_sem, fN, ↓gI, ↓pI, seval, eT, iR, ho, dT, dF, nL]); (repeat with_reducible refine And.intro (by first | omega | (with_reducible exact lens) | (simp [maxLen_eq] <;> omega)) ?_); (try (with_reducible refine hK _ ?_; clear hK K)); (try with_reducible refine iC ?_)))
            simp only [go_sem, fN, ↓gI, ↓pI, seval, FinQ, AS.result, resAll, resOne, tupV]
            rcases hinv with ⟨e, h1, rfl⟩ | ⟨s', ps, q, h1, _⟩
            · rw [hbv] at h1
              cases h1
              rfl
            · rw [hbv] at h1
              cases h1
          | false =>
            repeat' (first | (with_reducible first | refine W ?_ | refine Wk (by decide) ?_) | ((with_reducible first | refine Wo (fun K hK => ?_) | refine Wp ?_ | refine Wq ?_ | refine Wr ?_); (try simp only [go_sem, fN, ↓gI, ↓pI, seval, eT, iR, ho, e4, e5, e8, e10, s500, s501, s8, s10, dT, dF, nL]); (repeat with_reducible refine And.intro (by first | omega | (with_reducible exact lens) | (simp [maxLen_eq] <;> omega)) ?_); (try (with_reducible refine hK _ ?_; clear hK K)); (try with_reducible refine iC ?_)))
            refine IWP.loop (fun m x => ∃ i, i ≤ s.length ∧ m = s.length - i ∧ (∀ c ∈ s.take i, (c.2.on [(u.name, t)]).size ≤ 2000) ∧ x.env 4 = .one (.row 500 s.length) ∧ x.env 5 = .one (.part 501 l.length xs.length) ∧ x.env 12 = .one (.full [encB (u.name, t)]) ∧ x.env 121 = aInt s.length ∧ x.env 122 = aInt i ∧ x.S 500 = some (rowBd (halfOn s u.name t i)) ∧ x.S 501 = some (.mrow 68 4 xs)) s.length ⟨0, Nat.zero_le _, rfl, by simp, ?_⟩ ?_
            · simp only [go_sem, fN, ↓gI, ↓pI, seval, eT, iR, e4, e5, s500, s501, encB]
              rfl
            rintro mm ⟨env, S⟩ ⟨i, hi, rfl, h20, e4, e5, e12, e121, e122, s500, s501⟩
            simp only at e4 e5 e12 e121 e122 s500 s501
            have hhl := halfOn_len s u.name t i
            by_cases hlt : (i : Int) < s.length
            · have hlt' : i < s.length := by omega
              obtain ⟨b, hb⟩ := get_lt hlt'
              have hbz := hg.siz b (mem_of_get hb)
              have hbh := halfOn_get (x := u.name) (t := t) hb
              have hone : ∀ c ∈ ([(u.name, t)] : List Bd), isVar c.1 = true := by simp [hv]
              repeat' (first | (with_reducible first | refine W ?_ | refine Wk (by decide) ?_) | ((with_reducible first | refine Wo (fun K hK => ?_) | refine Wp ?_ | refine Wq ?_ | refine Wr ?_); (try simp only [go_sem, fN, ↓gI, ↓pI, seval, eT, iR, e4, e5, e12, e121, e122, s500, s501, hlt, hlt', hhl, hbh, encB, dT, dF, nL]); (repeat with_reducible refine And.intro (by first | omega | (with_reducible exact lens) | (simp [maxLen_eq] <;> omega)) ?_); (try (with_reducible refine hK _ ?_; clear hK K)); (try with_reducible refine iC ?_)))
              refine ⟨_, onP_a [(u.name, t)] (by simp) (List.pairwise_singleton _ _) b.2 hone (hg.chk b (mem_of_get hb)), ?_⟩
              by_cases hz : (b.2.on [(u.name, t)]).size ≤ 2000
              · have hon : onTo [(u.name, t)] b.2 = (b.2.on [(u.name, t)], true) := by unfold onTo; rw [if_pos hz]
                repeat' (first | (with_reducible first | refine W ?_ | refine Wk (by decide) ?_) | ((with_reducible first | refine Wo (fun K hK => ?_) | refine Wp ?_ | refine Wq ?_ | refine Wr ?_); (try simp only [go_sem, fN, ↓gI, ↓pI, seval, eT, iR, hon, e4, e5, e12, e121, e122, s500, s501, hlt, hlt', hhl, hbh, encB, dT, dF, nL]); (repeat with_reducible refine And.intro (by first | omega | (with_reducible exact lens) | (simp [maxLen_eq] <;> omega)) ?_); (try (with_reducible refine hK _ ?_; clear hK K)); (try with_reducible refine iC ?_)))
                refine then_normal ⟨s.length - (i + 1), by omega, i + 1, by omega, rfl, fun c hc => ?_, ?_⟩
                · rw [take_snoc hb] at hc
                  rcases List.mem_append.1 hc with hc | hc
                  · exact h20 c hc
                  · rw [List.mem_singleton.1 hc]; exact hz
                · simp only [go_sem, fN, ↓gI, ↓pI, seval, eT, iR, e4, e5, e12, e121, e122, s500, s501]
                  refine ⟨rfl, by congr 3, ?_⟩
                  show ABlk.mrow _ _ (((halfOn s u.name t i).map encB).set i (encB (b.1, b.2.on [(u.name, t)]))) = _
                  rw [← List.map_set, halfOn_set hb]
              · have hon : onTo [(u.name, t)] b.2 = (Tm.nil, false) := by unfold onTo; rw [if_neg hz]
                have hbv : bindV s u.name t = .err 8 := by
                  unfold bindV
                  rw [if_neg (by rw [ho]; simp), if_neg]
                  intro hall
                  have := List.all_eq_true.1 hall b (mem_of_get hb)
                  exact hz (by simpa using this)
                repeat' (first | (with_reducible first | refine W ?_ | refine Wk (by decide) ?_) | ((with_reducible first | refine Wo (fun K hK => ?_) | refine Wp ?_ | refine Wq ?_ | refine Wr ?_); (try simp only [go_sem, fN, ↓gI, ↓pI, seval, eT, iR, hon, e4, e5, e12, e121, e122, s500, s501, hlt, hlt', hhl, hbh, encB, dT, dF, nL]); (repeat with_reducible refine And.intro (by first | omega | (with_reducible exact lens) | (simp [maxLen_eq] <;> omega)) ?_); (try (with_reducible refine hK _ ?_; clear hK K)); (try with_reducible refine iC ?_)))
                simp only [go_sem, fN, ↓gI, ↓pI, seval, FinQ, AS.result, resAll, resOne, tupV]
                rcases hinv with ⟨e, h1, rfl⟩ | ⟨s', ps, q, h1, _⟩
                · rw [hbv] at h1
                  cases h1
                  rfl
                · rw [hbv] at h1
                  cases h1
            · obtain rfl : i = s.length := by omega
              rw [List.take_of_length_le (Nat.le_refl _)] at h20
              rw [halfOn_all] at s500
              have hbv : bindV s u.name t = .go (sortB (s.map (fun b => (b.1, b.2.on [(u.name, t)])) ++ [(u.name, t)])) [] := by
                unfold bindV
                rw [if_neg (by rw [ho]; simp), if_pos]
                exact List.all_eq_true.2 fun b hb => by simpa using h20 b hb
              obtain ⟨hg', _⟩ := step_good hg (hst.trans hbv)
              rcases hinv with ⟨e, h1, _⟩ | ⟨s', ps, q, h1, h2, h3⟩
              · rw [hbv] at h1
                cases h1
              rw [hbv] at h1
              cases h1
              have hnamed := named_perm (sortB_perm _) (ordered_named hg'.ord)
              have hL : (s.map (fun b => (b.1, b.2.on [(u.name, t)]))).map encB ++ [[SV.str u.name, SV.str t.name, SV.list (t.args.map encT)]] = (s.map (fun b => (b.1, b.2.on [(u.name, t)])) ++ [(u.name, t)]).map encB := by
                rw [List.map_append]
                rfl
              have hLl : (s.map (fun b => (b.1, b.2.on [(u.name, t)])) ++ [(u.name, t)]).length = s.length + 1 := by simp
              have hsort := fun S h => sort_M _ hnamed (by omega) (up1 500) (up1_le 500) S h
              have hsl2 := sortB_length (s.map (fun b => (b.1, b.2.on [(u.name, t)])) ++ [(u.name, t)])
              rw [hLl] at hsort hsl2
              repeat' (first | (with_reducible first | refine W ?_ | refine Wk (by decide) ?_) | ((with_reducible first | refine Wo (fun K hK => ?_) | refine Wp ?_ | refine Wq ?_ | refine Wr ?_); (try simp only [go_sem, fN, ↓gI, ↓pI, seval, eT, iR, e4, e5, e12, e121, e122, s500, s501, hlt, encB, dT, dF, nL]); (repeat with_reducible refine And.intro (by first | omega | (with_reducible exact lens) | (simp [maxLen_eq] <;> omega)) ?_); (try (with_reducible refine hK _ ?_; clear hK K)); (try with_reducible refine iC ?_)))
              rw [hL]
              refine ⟨_, _, hsort _ (by rw [upS_up, updE_same]; rfl), ?_⟩
              repeat' (first | (with_reducible first | refine W ?_ | refine Wk (by decide) ?_) | ((with_reducible first | refine Wo (fun K hK => ?_) | refine Wp ?_ | refine Wq ?_ | refine Wr ?_); (try simp only [go_sem, fN, ↓gI, ↓pI, seval, eT, iR, e5, s501, dT, dF, nL]); (repeat with_reducible refine And.intro (by first | omega | (with_reducible exact lens) | (simp [maxLen_eq] <;> omega)) ?_); (try (with_reducible refine hK _ ?_; clear hK K)); (try with_reducible refine iC ?_)))
              refine then_normal ⟨q, h2, _, l, xs, h3, hg', hstk', ?_⟩
              simp only [go_sem, fN, ↓gI, ↓pI, seval, AS.drop, dropS, AC.clears, AC.clear, AC.highs, AC.high, Bool.not_false, Bool.true_and, Bool.and_self, AV.purge, AV.purges, AC.purge, ABlk.purge, List.contains_cons, List.contains_nil, Nat.reduceBEq, Bool.or_self, Bool.or_false, Bool.false_or, Bool.or_true, eT, iR, e5, s501, hsl2]
        · -- two knots
          have hv : isVar (p.1.on s).name = false := by
            cases h : isVar (p.1.on s).name with
            | false => rfl
            | true => exact absurd (.inl h) hvv
          have hw : isVar (p.2.on s).name = false := by
            cases h : isVar (p.2.on s).name with
            | false => rfl
            | true => exact absurd (.inr h) hvv
          have hst : stepU s p = if (p.1.on s).name = (p.2.on s).name ∧ (p.1.on s).args.length = (p.2.on s).args.length then .go s ((p.1.on s).args.zip (p.2.on s).args) else .err 5 := by
            unfold stepU
            rw [if_neg (by omega), if_neg hsame, if_neg (by rw [hv]; simp), if_neg (by rw [hw]; simp)]
          rw [hst] at hinv
          have huk := Tm.length_le (p.1.on s).args
          have hus := Tm.size_eq (p.1.on s)
          have htk := Tm.length_le (p.2.on s).args
          have hts := Tm.size_eq (p.2.on s)
          by_cases hsame2 : (p.1.on s).name = (p.2.on s).name ∧ (p.1.on s).args.length = (p.2.on s).args.length
          · rw [if_pos hsame2] at hst hinv
            obtain ⟨hg', _⟩ := step_good hg hst
            rcases hinv with ⟨e, h1, _⟩ | ⟨s', ps, q, h1, h2, h3⟩
            · cases h1
            cases h1
            repeat' (first | (with_reducible first | refine W ?_ | refine Wk (by decide) ?_) | refine Cg _ (variable_a _) ?_ | ((with_reducible first | refine Wo (fun K hK => ?_) | refine Wp ?_ | refine Wq ?_ | refine Wr ?_); (try simp only [go_sem, fN, ↓gI, ↓pI, seval, eT, iR, hv, hw, e4, e5, s500, s501, hsame2.1, hsame2.2, dT, dF, nL]); (repeat with_reducible refine And.intro (by first | omega | (with_reducible exact lens) | (simp [maxLen_eq] <;> omega)) ?_); (try (with_reducible refine hK _ ?_; clear hK K)); (try with_reducible refine iC ?_)))
            have hzl : ((p.1.on s).args.zip (p.2.on s).args).length = (p.2.on s).args.length := by rw [List.length_zip, hsame2.2, Nat.min_self]
            refine IWP.loop (fun m x => ∃ (k : Nat) (xs : List (List SV)) (n1 n2 : ByteArray), k ≤ (p.2.on s).args.length ∧ m = k ∧ Stk xs (((p.1.on s).args.zip (p.2.on s).args).drop k ++ l) ∧ x.env 4 = .one (.row 500 s.length) ∧ x.env 5 = .one (.part 501 (((p.1.on s).args.zip (p.2.on s).args).drop k ++ l).length xs.length) ∧ x.env 8 = .one (.ptr 8 1 0 0) ∧ x.env 10 = .one (.ptr 10 1 0 0) ∧ x.env 14 = .one (.st (.int .i64 ((k : Int) - 1))) ∧ x.S 500 = some (rowBd s) ∧ x.S 501 = some (.mrow 68 4 xs) ∧
                x.S 8 = some (.box 50 [.st (.str n1), .st (.list ((p.1.on s).args.map encT))]) ∧ x.S 10 = some (.box 50 [.st (.str n2), .st (.list ((p.2.on s).args.map encT))])) (p.2.on s).args.length ⟨(p.2.on s).args.length, xs, (p.2.on s).name, (p.2.on s).name, Nat.le_refl _, rfl, ?_⟩ ?_
            · rw [← hzl, List.drop_length, hzl]
              refine ⟨hstk', ?_⟩
              simp only [go_sem, fN, ↓gI, ↓pI, seval, eT, iR, e4, s500, s501, hsame2.1]
            rintro k ⟨env, S⟩ ⟨_, xs, n1, n2, hk, rfl, hstk, e4, e5, e8, e10, e14, s500, s501, s8, s10⟩
            simp only at e4 e5 e8 e10 e14 s500 s501 s8 s10
            by_cases hk0 : 0 ≤ (k : Int) - 1
            · obtain ⟨k, rfl⟩ : ∃ q, k = q + 1 := ⟨k - 1, by omega⟩
              obtain ⟨x, hx⟩ := get_lt (show k < (p.1.on s).args.length by omega)
              obtain ⟨y, hy⟩ := get_lt (show k < (p.2.on s).args.length by omega)
              have hxy : ((p.1.on s).args.zip (p.2.on s).args)[k]? = some (x, y) := List.getElem?_zip_eq_some.2 ⟨hx, hy⟩
              have hz : (((k + 1 : Nat) : Int) - 1).toNat = k := by omega
              have hdl : (((p.1.on s).args.zip (p.2.on s).args).drop (k + 1) ++ l).length ≤ 100000002000 := by rw [List.length_append, List.length_drop, hzl]; omega
              generalize hD : ((p.1.on s).args.zip (p.2.on s).args).drop (k + 1) ++ l = D at *
              repeat' (first | (with_reducible first | refine W ?_ | refine Wk (by decide) ?_) | ((with_reducible first | refine Wo (fun K hK => ?_) | refine Wp ?_ | refine Wq ?_ | refine Wr ?_); (try simp only [go_sem, fN, ↓gI, ↓pI, seval, eT, iR, e4, e5, e8, e10, e14, s500, s501, s8, s10, hk0, hz, hx, hy, dT, dF, nL]); (repeat with_reducible refine And.intro (by first | omega | (with_reducible exact lens) | (simp [maxLen_eq] <;> omega)) ?_); (try (with_reducible refine hK _ ?_; clear hK K)); (try with_reducible refine iC ?_)))
              have hcons : ((p.1.on s).args.zip (p.2.on s).args).drop k ++ l = (x, y) :: D := by rw [drop_get hxy, List.cons_append, hD]
              have hDl : (((p.1.on s).args.zip (p.2.on s).args).drop k).length + l.length = D.length + 1 := by rw [← List.length_append, hcons, List.length_cons]
              refine then_normal ⟨k, by omega, k, _, n1, n2, by omega, rfl, by rw [hcons]; exact hstk.push (x, y), ?_⟩
              have hpl : (List.take D.length xs).length + 1 + (List.drop (D.length + 1) xs).length = if xs.length ≤ D.length + 1 then D.length + 1 else xs.length := by
                have := hstk.pushLen (x, y)
                simpa only [List.length_append, List.length_cons, List.length_nil, Nat.zero_add] using this
              simp only [go_sem, fN, ↓gI, ↓pI, seval, eT, iR, e4, e5, e8, e10, e14, s500, s501, s8, s10, hDl, hpl]
              refine ⟨?_, rfl⟩
              congr 3
              omega
            · obtain rfl : k = 0 := by omega
              rw [List.drop_zero] at hstk e5
              repeat' (first | (with_reducible first | refine W ?_ | refine Wk (by decide) ?_) | ((with_reducible first | refine Wo (fun K hK => ?_) | refine Wp ?_ | refine Wq ?_ | refine Wr ?_); (try simp only [go_sem, fN, ↓gI, ↓pI, seval, eT, iR, e4, e5, e14, hk0, dT, dF, nL]); (repeat with_reducible refine And.intro (by first | omega | (with_reducible exact lens) | (simp [maxLen_eq] <;> omega)) ?_); (try (with_reducible refine hK _ ?_; clear hK K)); (try with_reducible refine iC ?_)))
              refine then_normal ⟨q, h2, s, _, xs, h3, hg', hstk, ?_⟩
              simp only [go_sem, fN, ↓gI, ↓pI, seval, AS.drop, dropS, AC.clears, AC.clear, AC.highs, AC.high, Bool.not_false, Bool.true_and, Bool.and_self, AV.purge, AV.purges, AC.purge, ABlk.purge, List.contains_cons, List.contains_nil, Nat.reduceBEq, Bool.or_self, Bool.or_false, Bool.false_or, Bool.or_true, eT, iR, e4, e5, s500, s501]
          · rw [if_neg hsame2] at hst hinv
            by_cases hn : (p.1.on s).name = (p.2.on s).name
            · have hl : ¬ ((p.1.on s).args.length : Int) = (p.2.on s).args.length := fun h => hsame2 ⟨hn, by omega⟩
              repeat' (first | (with_reducible first | refine W ?_ | refine Wk (by decide) ?_) | refine Cg _ (variable_a _) ?_ | ((with_reducible first | refine Wo (fun K hK => ?_) | refine Wp ?_ | refine Wq ?_ | refine Wr ?_); (try simp only [go_sem, fN, ↓gI, ↓pI, seval, eT, iR, hv, hw, e4, e5, hn, hl, dT, dF, nL]); (repeat with_reducible refine And.intro (by first | omega | (with_reducible exact lens) | (simp [maxLen_eq] <;> omega)) ?_); (try (with_reducible refine hK _ ?_; clear hK K)); (try with_reducible refine iC ?_)))
              simp only [go_sem, fN, ↓gI, ↓pI, seval, FinQ, AS.result, resAll, resOne, tupV]
              rcases hinv with ⟨e, h1, rfl⟩ | ⟨s', ps, q, h1, _⟩
              · cases h1
                rfl
              · cases h1
            · repeat' (first | (with_reducible first | refine W ?_ | refine Wk (by decide) ?_) | refine Cg _ (variable_a _) ?_ | ((with_reducible first | refine Wo (fun K hK => ?_) | refine Wp ?_ | refine Wq ?_ | refine Wr ?_); (try simp only [go_sem, fN, ↓gI, ↓pI, seval, eT, iR, hv, hw, e4, e5, hn, dT, dF, nL]); (repeat with_reducible refine And.intro (by first | omega | (with_reducible exact lens) | (simp [maxLen_eq] <;> omega)) ?_); (try (with_reducible refine hK _ ?_; clear hK K)); (try with_reducible refine iC ?_)))
              simp only [go_sem, fN, ↓gI, ↓pI, seval, FinQ, AS.result, resAll, resOne, tupV]
              rcases hinv with ⟨e, h1, rfl⟩ | ⟨s', ps, q, h1, _⟩
              · cases h1
                rfl
              · cases h1
end Go.Proofs.YtehnjhkndbcmgaaDoor

namespace Go.Proofs.YtehnjhkndbcmgaaDoor
open Go Go.RowKit
set_option maxRecDepth 100000
end Go.Proofs.YtehnjhkndbcmgaaDoor

namespace Go.Proofs.YtehnjhkndbcmgaaDoor
open Go Go.RowKit
set_option linter.unusedVariables false
end Go.Proofs.YtehnjhkndbcmgaaDoor

namespace Go.Proofs.YtehnjhkndbcmgaaDoor
open Go Go.RowKit
set_option maxRecDepth 100000
end Go.Proofs.YtehnjhkndbcmgaaDoor

namespace Go.Proofs.YtehnjhkndbcmgaaDoor
open Go Go.RowKit
set_option linter.unusedVariables false
set_option linter.unusedSimpArgs false
set_option maxHeartbeats 800000
end Go.Proofs.YtehnjhkndbcmgaaDoor

namespace Go.Proofs.YtehnjhkndbcmgaaDoor
open Go Go.RowKit
set_option linter.unusedVariables false
set_option linter.unusedSimpArgs false
set_option maxHeartbeats 1000000
end Go.Proofs.YtehnjhkndbcmgaaDoor

namespace Go.Proofs.YtehnjhkndbcmgaaDoor
open Go Go.RowKit
set_option linter.unusedVariables false
set_option linter.unusedSimpArgs false
set_option maxHeartbeats 400000
theorem lVar_a (i : Int) : ACalls Tryd.prog 8 [aInt i] (aLm (.mk 1 i [])) := by
  refine ac_R_Var (Nat.le_of_ble_eq_true rfl) fun C hC => ?_
  unfold ir_R_Var
  repeat' (first | (with_reducible first | refine W ?_ | refine Wk (by decide) ?_) | ((with_reducible first | refine Wo (fun K hK => ?_) | refine Wp ?_ | refine Wq ?_ | refine Wr ?_); (try simp only [go_sem, fN, ↓gI, ↓pI, seval, eT, iR, dT, dF, nL]); (repeat with_reducible refine And.intro (by first | omega | (with_reducible exact lens) | (simp [maxLen_eq] <;> omega)) ?_); (try (with_reducible refine hK _ ?_; clear hK K)); (try with_reducible refine iC ?_)))
  simp only [go_sem, fN, ↓gI, ↓pI, seval, FinQ, AS.result, resAll, resOne, tupV]
  rfl
end Go.Proofs.YtehnjhkndbcmgaaDoor

namespace Go.Proofs.YtehnjhkndbcmgaaDoor
open Go Go.RowKit
set_option linter.unusedVariables false
set_option linter.unusedSimpArgs false
set_option maxHeartbeats 400000
end Go.Proofs.YtehnjhkndbcmgaaDoor

namespace Go.Proofs.YtehnjhkndbcmgaaDoor
open Go Go.RowKit
set_option linter.unusedVariables false
set_option linter.unusedSimpArgs false
set_option maxHeartbeats 2000000
theorem Ghost.ownCellA {C : Ctx} {s : AS} {id r : Nat} {e e' : TypeId} {cs : List AC} (j wd : Nat) (hS : s.S id = some (.box e cs)) (hj : cs[j]? = some (.full [])) (hr : s.S r = none) (hne : id ≠ r) :
    Ghost C s ((s.set r (.arow e' wd [])).set id (.box e (cs.set j (.row r 0)))) := fun a w ⟨σ, ι, R⟩ => by
  have hb := R.blk _ _ hS
  cases hb with
  | @box _ _ g vs k1 k2 k3 k4 k5 =>
    obtain ⟨v, hv, hvr⟩ := k4.get hj
    cases hvr with
    | @full p len xs hs =>
      have hl : len = 0 := by
        obtain ⟨p', cap', e1, _⟩ := srep_slice hs
        cases e1
        rfl
      subst hl
      obtain ⟨hu, R'⟩ := R.fresh (w' := w) hr (.arow e' wd []) ⟨p, 0, none⟩ (Ext.refl _ _) R.fit (Below.refl _ _) (by simp) (fun S' ι' hu => .afull rfl rfl (by simp) hs)
      have hS' : (s.set r (.arow e' wd [])).S id = some (.box e cs) := by simp [AS.set, updE_ne _ hne, hS]
      have hι : updE ι r ⟨p, 0, none⟩ id = ι id := updE_ne _ hne _
      obtain ⟨hu2, R2⟩ := R'.turn (w' := w) hS' (.box e (cs.set j (.row r 0))) (updE ι r ⟨p, 0, none⟩ id) (σ' := σ) (fun _ _ h => h) (fun _ _ _ => rfl) R.fit (by simp [ABlk.len]) (fun _ => ⟨rfl, rfl⟩) ⟨rfl, rfl, rfl⟩ (Nat.le_refl _) (fun _ _ _ => rfl) (fun g h => .inl h)
        (fun hu2 => by
          rw [hι] at hu2 ⊢
          refine .box k1 k2 k3 (All2.of_get (by rw [List.length_set]; exact k4.len) fun q u c hu3 hc => ?_) k5
          by_cases e2 : q = j
          · subst e2
            rw [hv] at hu3
            cases hu3
            rw [List.getElem?_set_self (List.getElem?_eq_some_iff.1 hj).1] at hc
            cases hc
            refine .row (b := .arow e' wd []) (by simp [AS.set, updE, Ne.symm hne]) (Nat.le_refl _) rfl fun _ => ?_
            simp [updE, Ne.symm hne]
          · rw [List.getElem?_set_ne (fun e => e2 e.symm)] at hc
            obtain ⟨u', hu', hr'⟩ := k4.get hc
            rw [hu3] at hu'
            cases hu'
            exact (hr'.mono (fun _ _ h => h) hu).mono (fun _ _ h => h) hu2)
      exact ⟨σ, _, R2⟩
theorem acallsS_full {P : Program} {f : FuncId} {x y : AV} {S : AStore} {r : AV} {S' : AStore} {xs : List (List SV)} (h : ACallsS P f [x, y, .one (.st (.list xs))] S r S') : ACallsS P f [x, y, .one (.full xs)] S r S' := by
  intro hc σ w vs ι hg hf ho hv
  refine h hc σ w vs ι hg hf ho ?_
  cases hv with
  | cons h1 hv =>
  cases hv with
  | cons h2 hv =>
  cases hv with
  | cons h3 hv =>
  cases hv
  exact .cons h1 (.cons h2 (.cons (.one (.st (arep_full (vrep_one h3)))) .nil))
def tNames (n : Nat) : List ByteArray := fS :: (List.range (n + 1)).map (lName 84)
theorem inT_names {n : Nat} {t : Tm} (h : inT n t) : ∀ y, occ y t = true → y ∈ tNames n := fun y hy => by
  rcases h.2 y hy with rfl | ⟨k, k1, k2, rfl⟩
  · exact List.mem_cons_self
  · exact List.mem_cons_of_mem _ (List.mem_map.2 ⟨k, List.mem_range.2 (by omega), rfl⟩)
theorem fits_long (v : Nat) (hv : v ≤ 5000) (s : List Bd) : ∀ (l : List Pr), l.length ≤ 1000000 → Fits 100000000000 v s l
  | [], _ => trivial
  | p :: l, h => by
    rw [List.length_cons] at h
    have := Nat.min_le_right (p.1.on s).size 2000
    exact ⟨by omega, fits_long v hv s l (by omega)⟩
theorem good_eqs {K : Nat} (hK : K ≤ 2000) {m : List Pr × Nat} (hm : TyOk K m) (hn : m.2 ≤ 2000) (hl : m.1.length ≤ 2000) : UGood (tNames m.2) 100000000000 [] m.1 := by
  refine ⟨List.Pairwise.nil, by simp, by simp, by simp, by simp, by simp, by simp, fun p hp => ⟨(hm.eqs p hp).1.1.1.chk, (hm.eqs p hp).2.1.1.chk⟩, fun p hp y => ⟨inT_names (hm.eqs p hp).1.1 y, inT_names (hm.eqs p hp).2.1 y⟩, fun p hp => ?_, fits_long _ (by simp [tNames]; omega) [] m.1 (by omega)⟩
  have := hm.eqs p hp
  omega
end Go.Proofs.YtehnjhkndbcmgaaDoor

namespace Go.Proofs.YtehnjhkndbcmgaaDoor
open Go Go.RowKit
set_option maxRecDepth 100000
def ir_R_App : IR :=
  (.seq (.ops [.i 2 (.box 25 (.t 0)), .i 3 (.box 25 (.t 1)), .i 4 (.alloc 25 [.st (.int .i64 0), .st (.int .i64 0), .full []])]) (.seq (.ops [.i 5 (.load true 3 (.t 2)), .i 6 (.load true 3 (.t 3)), .i 7 (.buildSlice false 25 3 [.t 5, .t 6]), .i 8 (.build [.st (.int .i64 0), .st (.int .i64 0), .full []] [(0, 1, .n 3), (2, 1, .t 7)]), .mk none none (.store 3 (.t 4) (.t 8)) .no]) .ret))
theorem tr_R_App : trCode Tryd.prog 9 [] (Tryd.f7.body.getD .skip) = some ir_R_App := by kernel_rfl
theorem ac_R_App {xs : List AV} {r : AV} (hn : xs.length ≤ 9) (h : ∀ C : Ctx, C.n = 9 → IWP Tryd.prog C [] ir_R_App (FinQ [.cell 4 true 3] r) (AS.start xs)) : ACalls Tryd.prog 7 xs r :=
  acalls_of Tryd.func7 rfl tr_R_App rfl hn h
def ir_R_Fun : IR :=
  (.seq (.ops [.i 1 (.box 25 (.t 0)), .i 2 (.alloc 25 [.st (.int .i64 0), .st (.int .i64 0), .full []])]) (.seq (.ops [.i 3 (.load true 3 (.t 1)), .i 4 (.buildSlice false 25 3 [.t 3]), .i 5 (.build [.st (.int .i64 0), .st (.int .i64 0), .full []] [(0, 1, .n 2), (2, 1, .t 4)]), .mk none none (.store 3 (.t 2) (.t 5)) .no]) .ret))
theorem tr_R_Fun : trCode Tryd.prog 6 [] (Tryd.f6.body.getD .skip) = some ir_R_Fun := by kernel_rfl
theorem ac_R_Fun {xs : List AV} {r : AV} (hn : xs.length ≤ 6) (h : ∀ C : Ctx, C.n = 6 → IWP Tryd.prog C [] ir_R_Fun (FinQ [.cell 2 true 3] r) (AS.start xs)) : ACalls Tryd.prog 6 xs r :=
  acalls_of Tryd.func6 rfl tr_R_Fun rfl hn h
end Go.Proofs.YtehnjhkndbcmgaaDoor

namespace Go.Proofs.YtehnjhkndbcmgaaDoor
open Go Go.RowKit
set_option linter.unusedVariables false
mutual
def Lm.wf : Lm → Prop
  | .mk k i xs => (1 ≤ k ∧ k ≤ 5 ∧ (xs.length : Int) = nSubs k) ∧ Lm.wfs xs
def Lm.wfs : List Lm → Prop
  | [] => True
  | t :: ts => t.wf ∧ Lm.wfs ts
end
def Lm.top (k : Int) (xs : List Lm) : Option Lm := match xs with
  | f :: x :: _ => if k = 3 ∧ f.kind = 2 then (match f.subs with | b :: _ => some (Lm.put x 0 b) | [] => none) else none
  | _ => none
mutual
def Lm.outer : Lm → Option Lm
  | .mk k i xs => match Lm.top k xs with
    | some y => some y
    | none => match Lm.outers xs with
      | some ys => some (.mk k i ys)
      | none => none
def Lm.outers : List Lm → Option (List Lm)
  | [] => none
  | t :: ts => match t.outer with
    | some x => some (x :: ts)
    | none => match Lm.outers ts with
      | some ys => some (t :: ys)
      | none => none
end
def Lm.run : Nat → Int → Lm → Lm × Int × Int
  | left, n, t => match t.outer with
    | none => (t, n, 0)
    | some x => match left with
      | 0 => (Lm.nil, 0, 9)
      | left + 1 => if 2000 < x.size then (Lm.nil, 0, 8) else Lm.run left (n + 1) x
end Go.Proofs.YtehnjhkndbcmgaaDoor

namespace Go.Proofs.YtehnjhkndbcmgaaDoor
open Go Go.RowKit
set_option linter.unusedVariables false
mutual
def Lm.known (m : Int) : Lm → Prop
  | .mk k i xs => (k = 5 → 0 ≤ i ∧ i < m) ∧ Lm.knowns m xs
def Lm.knowns (m : Int) : List Lm → Prop
  | [] => True
  | t :: ts => t.known m ∧ Lm.knowns m ts
end
mutual
def Lm.fill (ws : List Lm) : Lm → Lm
  | .mk k i xs => if k = 5 then ws.getD i.toNat Lm.nil else .mk k i (Lm.fills ws xs)
def Lm.fills (ws : List Lm) : List Lm → List Lm
  | [] => []
  | t :: ts => Lm.fill ws t :: Lm.fills ws ts
end
def Lm.v (i : Int) : Lm := .mk 1 i []
def Lm.l (t : Lm) : Lm := .mk 2 0 [t]
def Lm.a (f x : Lm) : Lm := .mk 3 0 [f, x]
def Lm.isOne (t : Lm) : Option Lm := match t.subs with
  | f :: x :: _ => if t.kind = 3 ∧ f.same (Lm.v 1) = true then some x else none
  | _ => none
def Lm.chain : Nat → Lm → Int × Lm
  | 0, t => (0, t)
  | n + 1, t => match t.isOne with
    | some x => ((Lm.chain n x).1 + 1, (Lm.chain n x).2)
    | none => (0, t)
def Lm.ch (t : Lm) : Int × Lm := Lm.chain t.size t
def Lm.val (t : Lm) : Int := if t.same (Lm.l (Lm.v 0)) = true then 1 else
  if t.kind = 2 then (match t.subs with
    | g :: _ => if g.kind = 2 then (match g.subs with
      | b :: _ => if b.ch.2.same (Lm.v 0) = true then b.ch.1 else -1
      | [] => -1) else -1
    | [] => -1) else -1
end Go.Proofs.YtehnjhkndbcmgaaDoor

namespace Go.Proofs.YtehnjhkndbcmgaaDoor
open Go Go.RowKit
set_option linter.unusedVariables false
set_option linter.unusedSimpArgs false
set_option maxHeartbeats 400000
theorem lApp_a (f x : Lm) : ACalls Tryd.prog 7 [aLm f, aLm x] (aLm (Lm.a f x)) := by
  refine ac_R_App (Nat.le_of_ble_eq_true rfl) fun C hC => ?_
  unfold ir_R_App
  repeat' (first | (with_reducible first | refine W ?_ | refine Wk (by decide) ?_) | ((with_reducible first | refine Wo (fun K hK => ?_) | refine Wp ?_ | refine Wq ?_ | refine Wr ?_); (try simp only [go_sem, fN, ↓gI, ↓pI, seval, eT, iR, dT, dF, nL]); (repeat with_reducible refine And.intro (by first | omega | (with_reducible exact lens) | (simp [maxLen_eq] <;> omega)) ?_); (try (with_reducible refine hK _ ?_; clear hK K)); (try with_reducible refine iC ?_)))
  simp only [go_sem, fN, ↓gI, ↓pI, seval, FinQ, AS.result, resAll, resOne, tupV]
  simp [Lm.a, Lm.kind_mk, Lm.idx_mk, Lm.subs_mk, encL_eq]
theorem lFun_a (t : Lm) : ACalls Tryd.prog 6 [aLm t] (aLm (Lm.l t)) := by
  refine ac_R_Fun (Nat.le_of_ble_eq_true rfl) fun C hC => ?_
  unfold ir_R_Fun
  repeat' (first | (with_reducible first | refine W ?_ | refine Wk (by decide) ?_) | ((with_reducible first | refine Wo (fun K hK => ?_) | refine Wp ?_ | refine Wq ?_ | refine Wr ?_); (try simp only [go_sem, fN, ↓gI, ↓pI, seval, eT, iR, dT, dF, nL]); (repeat with_reducible refine And.intro (by first | omega | (with_reducible exact lens) | (simp [maxLen_eq] <;> omega)) ?_); (try (with_reducible refine hK _ ?_; clear hK K)); (try with_reducible refine iC ?_)))
  simp only [go_sem, fN, ↓gI, ↓pI, seval, FinQ, AS.result, resAll, resOne, tupV]
  simp [Lm.l, Lm.kind_mk, Lm.idx_mk, Lm.subs_mk, encL_eq]
end Go.Proofs.YtehnjhkndbcmgaaDoor

namespace Go.Proofs.YtehnjhkndbcmgaaDoor
open Go Go.RowKit
set_option maxRecDepth 100000
def ir_R_Con : IR :=
  (.seq (.ops [.i 2 (.alloc 25 [.st (.int .i64 0), .st (.int .i64 0), .full []])]) (.seq (.ops [.i 3 (.mov (.t 0)), .i 4 (.build [.st (.int .i64 0), .st (.int .i64 0), .full []] [(0, 1, .n 4), (1, 1, .t 3)]), .mk none none (.store 3 (.t 2) (.t 4)) .no]) .ret))
theorem tr_R_Con : trCode Tryd.prog 5 [] (Tryd.f21.body.getD .skip) = some ir_R_Con := by kernel_rfl
theorem ac_R_Con {xs : List AV} {r : AV} (hn : xs.length ≤ 5) (h : ∀ C : Ctx, C.n = 5 → IWP Tryd.prog C [] ir_R_Con (FinQ [.cell 2 true 3] r) (AS.start xs)) : ACalls Tryd.prog 21 xs r :=
  acalls_of Tryd.func21 rfl tr_R_Con rfl hn h
end Go.Proofs.YtehnjhkndbcmgaaDoor

namespace Go.Proofs.YtehnjhkndbcmgaaDoor
open Go Go.RowKit
set_option linter.unusedVariables false
set_option linter.unusedSimpArgs false
set_option maxHeartbeats 1000000
theorem lCon_a (i : Int) : ACalls Tryd.prog 21 [aInt i] (aLm (.mk 4 i [])) := by
  refine ac_R_Con (Nat.le_of_ble_eq_true rfl) fun C hC => ?_
  unfold ir_R_Con
  repeat' (first | (with_reducible first | refine W ?_ | refine Wk (by decide) ?_) | ((with_reducible first | refine Wo (fun K hK => ?_) | refine Wp ?_ | refine Wq ?_ | refine Wr ?_); (try simp only [go_sem, fN, ↓gI, ↓pI, seval, eT, iR, dT, dF, nL]); (repeat with_reducible refine And.intro (by first | omega | (with_reducible exact lens) | (simp [maxLen_eq] <;> omega)) ?_); (try (with_reducible refine hK _ ?_; clear hK K)); (try with_reducible refine iC ?_)))
  simp only [go_sem, fN, ↓gI, ↓pI, seval, FinQ, AS.result, resAll, resOne, tupV]
  simp [Lm.kind_mk, Lm.idx_mk, Lm.subs_mk, encL_eq]
end Go.Proofs.YtehnjhkndbcmgaaDoor

namespace Go.Proofs.YtehnjhkndbcmgaaDoor
open Go Go.RowKit
set_option maxRecDepth 100000
def ir_R_Pick : IR :=
  (.seq (.ops [.i 4 (.mov (.n 0))]) (.seq (.seq (.ops [.i 5 (.mov (.t 0)), .i 6 (.bin .lss (.t 5) (.n 0))]) (.cond (.t 6) (.ops [.i 7 (.mov (.t 0)), .i 8 (.bin .add (.t 7) (.n 1)), .i 9 (.un .neg (.t 8)), .i 0 (.mov (.t 9))]) .skip)) (.seq (.ops [.i 10 (.mov (.t 0)), .i 11 (.mov (.t 1)), .i 12 (.bin .rem (.t 10) (.t 11)), .i 4 (.mov (.t 12))]) .ret)))
theorem tr_R_Pick : trCode Tryd.prog 13 [] (Tryd.f5.body.getD .skip) = some ir_R_Pick := by kernel_rfl
theorem ac_R_Pick {xs : List AV} {r : AV} (hn : xs.length ≤ 13) (h : ∀ C : Ctx, C.n = 13 → IWP Tryd.prog C [] ir_R_Pick (FinQ [.t 4] r) (AS.start xs)) : ACalls Tryd.prog 5 xs r :=
  acalls_of Tryd.func5 rfl tr_R_Pick rfl hn h
def ir_R_Raw : IR :=
  (.seq (.ops [.i 4 (.mov (.n 0))]) (.seq (.seq (.ops [.i 5 (.mov (.t 0)), .i 6 (.len false (.t 5)), .i 7 (.bin .eql (.t 6) (.n 0))]) (.cond (.t 7) (.seq (.ops [.i 8 (.mov (.t 1)), .i 9 (.bin .mul (.t 8) (.n 31)), .i 4 (.mov (.t 9))]) .ret) .skip)) (.seq (.ops [.i 10 (.mov (.t 0)), .i 11 (.mov (.t 1)), .i 12 (.mov (.t 0)), .i 13 (.len false (.t 12)), .i 14 (.bin .rem (.t 11) (.t 13)), .i 15 (.indexAddr 1 (.t 10) (.t 14)), .i 16 (.load false 1 (.t 15)), .i 17 (.call 5 [.t 16, .n 1000003]), .i 18 (.mov (.t 1)), .i 19 (.mov (.t 0)), .i 20 (.len false (.t 19)), .i 21 (.bin .quo (.t 18) (.t 20)), .i 22 (.bin .mul (.t 21) (.n 7919)), .i 23 (.bin .add (.t 17) (.t 22)), .i 4 (.mov (.t 23))]) .ret)))
theorem tr_R_Raw : trCode Tryd.prog 24 [] (Tryd.f20.body.getD .skip) = some ir_R_Raw := by kernel_rfl
theorem ac_R_Raw {xs : List AV} {r : AV} (hn : xs.length ≤ 24) (h : ∀ C : Ctx, C.n = 24 → IWP Tryd.prog C [] ir_R_Raw (FinQ [.t 4] r) (AS.start xs)) : ACalls Tryd.prog 20 xs r :=
  acalls_of Tryd.func20 rfl tr_R_Raw rfl hn h
def ir_R_LamFrom : IR :=
  (.seq (.ops [.i 10 (.alloc 25 [.st (.int .i64 0), .st (.int .i64 0), .full []]), .i 11 (.mov (.n 0))]) (.seq (.ops [.i 18 (.mov (.t 0)), .i 19 (.mov (.t 1)), .i 20 (.call 20 [.t 18, .t 19]), .i 12 (.mov (.t 20))]) (.seq (.ops [.i 21 (.mov (.t 1)), .i 22 (.bin .add (.t 21) (.n 1)), .i 1 (.mov (.t 22))]) (.seq (.seq (.ops [.i 23 (.mov (.t 2)), .i 24 (.bin .lss (.t 23) (.n 3)), .i 25 (.mov (.t 24)), .mk (some 26) (some (25, false)) (.mov (.t 12)) .no, .mk (some 27) (some (25, false)) (.call 5 [.t 26, .n 6]) .no, .mk (some 28) (some (25, false)) (.bin .eql (.t 27) (.n 0)) .no, .i 29 (.pick (.t 25) (.c (.one (.st (.bool true)))) (.t 28))]) (.cond (.t 29) (.seq (.seq (.ops [.i 30 (.mov (.t 3)), .i 31 (.bin .eql (.t 30) (.n 0)), .i 32 (.mov (.t 31)), .mk (some 33) (some (32, true)) (.mov (.t 4)) .no, .mk (some 34) (some (32, true)) (.bin .eql (.t 33) (.n 0)) .no, .i 35 (.pick (.t 32) (.t 34) (.c (.one (.st (.bool false)))))]) (.cond (.t 35) (.seq (.ops [.i 36 (.call 8 [.n 0]), .i 37 (.call 6 [.t 36]), .i 38 (.mov (.t 1)), .mk none none (.store 3 (.t 10) (.t 37)) .no, .i 11 (.mov (.t 38))]) .ret) .skip)) (.seq (.seq (.ops [.i 39 (.mov (.t 3)), .i 40 (.bin .eql (.t 39) (.n 0)), .i 41 (.mov (.t 40)), .mk (some 42) (some (41, false)) (.mov (.t 4)) .no, .mk (some 43) (some (41, false)) (.bin .gtr (.t 42) (.n 0)) .no, .mk (some 44) (some (41, false)) (.mov (.t 43)) .no, .mk (some 45) (some (44, true)) (.mov (.t 12)) .no, .mk (some 46) (some (44, true)) (.bin .quo (.t 45) (.n 6)) .no, .mk (some 47) (some (44, true)) (.call 5 [.t 46, .n 4]) .no, .mk (some 48) (some (44, true)) (.bin .eql (.t 47) (.n 0)) .no, .mk (some 49) (some (41, false)) (.pick (.t 44) (.t 48) (.c (.one (.st (.bool false))))) .no, .i 50 (.pick (.t 41) (.c (.one (.st (.bool true)))) (.t 49))]) (.cond (.t 50) (.seq (.ops [.i 51 (.mov (.t 12)), .i 52 (.bin .quo (.t 51) (.n 24)), .i 53 (.mov (.t 4)), .i 54 (.call 5 [.t 52, .t 53]), .i 55 (.call 21 [.t 54]), .i 56 (.mov (.t 1)), .mk none none (.store 3 (.t 10) (.t 55)) .no, .i 11 (.mov (.t 56))]) .ret) .skip)) (.seq (.ops [.i 57 (.mov (.t 12)), .i 58 (.bin .quo (.t 57) (.n 6)), .i 59 (.mov (.t 3)), .i 60 (.call 5 [.t 58, .t 59]), .i 61 (.call 8 [.t 60]), .i 62 (.mov (.t 1)), .mk none none (.store 3 (.t 10) (.t 61)) .no, .i 11 (.mov (.t 62))]) .ret))) .skip)) (.seq (.seq (.ops [.i 63 (.mov (.t 12)), .i 64 (.call 5 [.t 63, .n 6]), .i 65 (.bin .lss (.t 64) (.n 3))]) (.cond (.t 65) (.seq (.ops [.i 67 (.mov (.t 0)), .i 68 (.mov (.t 1)), .i 69 (.mov (.t 2)), .i 70 (.bin .sub (.t 69) (.n 1)), .i 71 (.mov (.t 3)), .i 72 (.bin .add (.t 71) (.n 1)), .i 73 (.mov (.t 4)), .i 74 (.call 11 [.t 67, .t 68, .t 70, .t 72, .t 73]), .i 66 (.mov (.t 74)), .i 75 (.extract 0 (.t 66)), .i 76 (.extract 1 (.t 66)), .i 13 (.alloc 25 [.st (.int .i64 0), .st (.int .i64 0), .full []]), .mk none none (.store 3 (.t 13) (.t 75)) .no, .i 14 (.mov (.t 76))]) (.seq (.ops [.i 77 (.load true 3 (.t 13)), .i 78 (.call 6 [.t 77]), .i 79 (.mov (.t 14)), .mk none none (.store 3 (.t 10) (.t 78)) .no, .i 11 (.mov (.t 79))]) .ret)) .skip)) (.seq (.ops [.i 81 (.mov (.t 0)), .i 82 (.mov (.t 1)), .i 83 (.mov (.t 2)), .i 84 (.bin .quo (.t 83) (.n 2)), .i 85 (.mov (.t 3)), .i 86 (.mov (.t 4)), .i 87 (.call 11 [.t 81, .t 82, .t 84, .t 85, .t 86]), .i 80 (.mov (.t 87)), .i 88 (.extract 0 (.t 80)), .i 89 (.extract 1 (.t 80)), .i 15 (.alloc 25 [.st (.int .i64 0), .st (.int .i64 0), .full []]), .mk none none (.store 3 (.t 15) (.t 88)) .no, .i 16 (.mov (.t 89))]) (.seq (.ops [.i 91 (.mov (.t 0)), .i 92 (.mov (.t 16)), .i 93 (.mov (.t 2)), .i 94 (.bin .quo (.t 93) (.n 2)), .i 95 (.mov (.t 3)), .i 96 (.mov (.t 4)), .i 97 (.call 11 [.t 91, .t 92, .t 94, .t 95, .t 96]), .i 90 (.mov (.t 97)), .i 98 (.extract 0 (.t 90)), .i 99 (.extract 1 (.t 90)), .i 17 (.alloc 25 [.st (.int .i64 0), .st (.int .i64 0), .full []]), .mk none none (.store 3 (.t 17) (.t 98)) .no, .i 16 (.mov (.t 99))]) (.seq (.ops [.i 100 (.load true 3 (.t 15)), .i 101 (.load true 3 (.t 17)), .i 102 (.call 7 [.t 100, .t 101]), .i 103 (.mov (.t 16)), .mk none none (.store 3 (.t 10) (.t 102)) .no, .i 11 (.mov (.t 103))]) .ret))))))))
theorem tr_R_LamFrom : trCode Tryd.prog 104 [] (Tryd.f11.body.getD .skip) = some ir_R_LamFrom := by kernel_rfl
theorem ac_R_LamFrom {xs : List AV} {r : AV} (hn : xs.length ≤ 104) (h : ∀ C : Ctx, C.n = 104 → IWP Tryd.prog C [] ir_R_LamFrom (FinQ [.cell 10 true 3, .t 11] r) (AS.start xs)) : ACalls Tryd.prog 11 xs r :=
  acalls_of Tryd.func11 rfl tr_R_LamFrom rfl hn h
def ir_R_LamOfRaw : IR :=
  (.seq (.ops [.i 10 (.alloc 25 [.st (.int .i64 0), .st (.int .i64 0), .full []])]) (.seq (.ops [.i 14 (.mov (.t 0)), .i 15 (.mov (.t 1)), .i 16 (.mov (.t 2)), .i 17 (.mov (.t 3)), .i 18 (.mov (.t 4)), .i 19 (.call 11 [.t 14, .t 15, .t 16, .t 17, .t 18]), .i 13 (.mov (.t 19)), .i 20 (.extract 0 (.t 13)), .i 21 (.extract 1 (.t 13)), .i 11 (.alloc 25 [.st (.int .i64 0), .st (.int .i64 0), .full []]), .mk none none (.store 3 (.t 11) (.t 20)) .no, .i 12 (.mov (.t 21))]) (.seq (.ops [.i 22 (.load true 3 (.t 11)), .mk none none (.store 3 (.t 10) (.t 22)) .no]) .ret)))
theorem tr_R_LamOfRaw : trCode Tryd.prog 23 [] (Tryd.f4.body.getD .skip) = some ir_R_LamOfRaw := by kernel_rfl
theorem ac_R_LamOfRaw {xs : List AV} {r : AV} (hn : xs.length ≤ 23) (h : ∀ C : Ctx, C.n = 23 → IWP Tryd.prog C [] ir_R_LamOfRaw (FinQ [.cell 10 true 3] r) (AS.start xs)) : ACalls Tryd.prog 4 xs r :=
  acalls_of Tryd.func4 rfl tr_R_LamOfRaw rfl hn h
end Go.Proofs.YtehnjhkndbcmgaaDoor

namespace Go.Proofs.YtehnjhkndbcmgaaDoor
open Go Go.RowKit
set_option linter.unusedVariables false
set_option linter.unusedSimpArgs false
set_option maxHeartbeats 1000000
def pickI (c n : Int) : Int := (if c < 0 then -(c + 1) else c) % n
theorem pickI_range (c n : Int) (hn : 1 ≤ n) : 0 ≤ pickI c n ∧ pickI c n < n := ⟨Int.emod_nonneg _ (by omega), Int.emod_lt_of_pos _ (by omega)⟩
theorem tmod_range {x n : Int} (hx : 0 ≤ x) (hn : 1 ≤ n) : x.tmod n = x % n ∧ 0 ≤ x % n ∧ x % n < n ∧ x % n ≤ x := by
  rw [Int.tmod_eq_emod_of_nonneg hx]
  refine ⟨rfl, Int.emod_nonneg _ (by omega), Int.emod_lt_of_pos _ (by omega), ?_⟩
  by_cases h : x < n
  · rw [Int.emod_eq_of_lt hx h]; exact Int.le_refl _
  · have := Int.emod_lt_of_pos x (show 0 < n by omega); omega
theorem tdiv_range {x n : Int} (hx : 0 ≤ x) (hn : 1 ≤ n) : x.tdiv n = x / n ∧ 0 ≤ x / n ∧ x / n ≤ x := by
  rw [Int.tdiv_eq_ediv_of_nonneg hx]
  exact ⟨rfl, Int.ediv_nonneg hx (by omega), Int.ediv_le_self _ hx⟩
theorem pick_a (c n : Int) (hc : inR .i64 c) (hn : 1 ≤ n) : ACalls Tryd.prog 5 [aInt c, aInt n] (aInt (pickI c n)) := by
  rw [inR_i64] at hc
  refine ac_R_Pick (Nat.le_of_ble_eq_true rfl) fun C hC => ?_
  unfold ir_R_Pick
  repeat' (first | (with_reducible first | refine W ?_ | refine Wk (by decide) ?_) | ((with_reducible first | refine Wo (fun K hK => ?_) | refine Wq ?_ | refine Wr ?_); (try simp only [go_sem, fN, ↓gI, ↓pI, seval, eT, iR]); (repeat with_reducible refine And.intro (by first | omega | (with_reducible exact lens) | (simp [maxLen_eq] <;> omega)) ?_); (try (with_reducible refine hK _ ?_; clear hK K))))
  with_reducible refine Wp ?_
  simp only [go_sem, fN, ↓gI, ↓pI, seval, true_implies, false_implies, implies_true, dT, dF, nL]
  (try with_reducible refine iC ?_)
  refine ⟨fun h0 => ?_, fun h0 => ?_⟩
  · have h1 := tmod_range (x := 0 - (c + 1)) (n := n) (by omega) hn
    repeat' (first | (with_reducible first | refine W ?_ | refine Wk (by decide) ?_) | ((with_reducible first | refine Wo (fun K hK => ?_) | refine Wq ?_ | refine Wr ?_); (try simp only [go_sem, fN, ↓gI, ↓pI, seval, eT, iR, h1.1]); (repeat with_reducible refine And.intro (by first | omega | (with_reducible exact lens) | (simp [maxLen_eq] <;> omega)) ?_); (try (with_reducible refine hK _ ?_; clear hK K))))
    simp only [go_sem, fN, ↓gI, ↓pI, seval, FinQ, AS.result, resAll, resOne, tupV]
    unfold pickI
    rw [if_pos h0]
    congr 5
    omega
  · have h1 := tmod_range (x := c) (n := n) (by omega) hn
    repeat' (first | (with_reducible first | refine W ?_ | refine Wk (by decide) ?_) | ((with_reducible first | refine Wo (fun K hK => ?_) | refine Wq ?_ | refine Wr ?_); (try simp only [go_sem, fN, ↓gI, ↓pI, seval, eT, iR, h1.1]); (repeat with_reducible refine And.intro (by first | omega | (with_reducible exact lens) | (simp [maxLen_eq] <;> omega)) ?_); (try (with_reducible refine hK _ ?_; clear hK K))))
    simp only [go_sem, fN, ↓gI, ↓pI, seval, FinQ, AS.result, resAll, resOne, tupV]
    unfold pickI
    rw [if_neg h0]
def rawI (l : List Int) (i : Nat) : Int := if l.length = 0 then i * 31 else pickI (l.getD (i % l.length) 0) 1000003 + ((i / l.length : Nat) : Int) * 7919
theorem rawI_range (l : List Int) (i : Nat) : 0 ≤ rawI l i ∧ rawI l i ≤ 1000003 + i * 7919 := by
  unfold rawI
  split
  · omega
  · have := pickI_range (l.getD (i % l.length) 0) 1000003 (by omega)
    have h2 : i / l.length ≤ i := Nat.div_le_self _ _
    generalize i / l.length = q at *
    omega
theorem raw_a (l : List Int) (i : Nat) (hi : i ≤ 1000000) (hl : ∀ n ∈ l, inR .i64 n) (hm : l.length ≤ maxLen) : ACalls Tryd.prog 20 [aInts l, aInt i] (aInt (rawI l i)) := by
  rw [maxLen_eq] at hm
  refine ac_R_Raw (Nat.le_of_ble_eq_true rfl) fun C hC => ?_
  unfold ir_R_Raw
  repeat' (first | (with_reducible first | refine W ?_ | refine Wk (by decide) ?_) | ((with_reducible first | refine Wo (fun K hK => ?_) | refine Wq ?_ | refine Wr ?_); (try simp only [go_sem, fN, ↓gI, ↓pI, seval, eT, iR]); (repeat with_reducible refine And.intro (by first | omega | (with_reducible exact lens) | (simp [maxLen_eq] <;> omega)) ?_); (try (with_reducible refine hK _ ?_; clear hK K))))
  with_reducible refine Wp ?_
  simp only [go_sem, fN, ↓gI, ↓pI, seval, true_implies, false_implies, implies_true, dT, dF, nL]
  (try with_reducible refine iC ?_)
  refine ⟨fun h0 => ?_, fun h0 => ?_⟩
  · repeat' (first | (with_reducible first | refine W ?_ | refine Wk (by decide) ?_) | ((with_reducible first | refine Wo (fun K hK => ?_) | refine Wq ?_ | refine Wr ?_); (try simp only [go_sem, fN, ↓gI, ↓pI, seval, eT, iR]); (repeat with_reducible refine And.intro (by first | omega | (with_reducible exact lens) | (simp [maxLen_eq] <;> omega)) ?_); (try (with_reducible refine hK _ ?_; clear hK K))))
    simp only [go_sem, fN, ↓gI, ↓pI, seval, FinQ, AS.result, resAll, resOne, tupV]
    unfold rawI
    rw [if_pos (by omega)]
  · have h1 := tmod_range (x := (i : Int)) (n := (l.length : Int)) (by omega) (by omega)
    have h2 := tdiv_range (x := (i : Int)) (n := (l.length : Int)) (by omega) (by omega)
    have hlt : i % l.length < l.length := Nat.mod_lt _ (by omega)
    obtain ⟨a, ha⟩ := get_lt hlt
    have e1 : ((i : Int) % (l.length : Int)) = ((i % l.length : Nat) : Int) := by omega
    have e2 : ((i : Int) / (l.length : Int)) = ((i / l.length : Nat) : Int) := by omega
    have h3 : i / l.length ≤ i := Nat.div_le_self _ _
    repeat' (first | (with_reducible first | refine W ?_ | refine Wk (by decide) ?_) | ((with_reducible first | refine Wo (fun K hK => ?_) | refine Wq ?_ | refine Wr ?_); (try simp only [go_sem, fN, ↓gI, ↓pI, seval, eT, iR, h1.1, h2.1, e1, e2, ha]); (repeat with_reducible refine And.intro (by first | omega | (with_reducible exact lens) | (simp [maxLen_eq] <;> omega)) ?_); (try (with_reducible refine hK _ ?_; clear hK K))))
    refine ⟨_, pick_a a 1000003 (hl a (mem_of_get ha)) (by omega), ?_⟩
    have hp := pickI_range a 1000003 (by omega)
    repeat' (first | (with_reducible first | refine W ?_ | refine Wk (by decide) ?_) | ((with_reducible first | refine Wo (fun K hK => ?_) | refine Wq ?_ | refine Wr ?_); (try simp only [go_sem, fN, ↓gI, ↓pI, seval, eT, iR, h1.1, h2.1, e1, e2]); (repeat with_reducible refine And.intro (by first | omega | (with_reducible exact lens) | (simp [maxLen_eq] <;> omega)) ?_); (try (with_reducible refine hK _ ?_; clear hK K))))
    simp only [go_sem, fN, ↓gI, ↓pI, seval, FinQ, AS.result, resAll, resOne, tupV]
    unfold rawI
    rw [if_neg (by omega), List.getD_eq_getElem?_getD, ha]
    rfl
def LamAt (l : List Int) (at_ : Nat) (most under consts : Int) (t : Lm) (n : Nat) : Prop :=
  ACalls Tryd.prog 11 [aInts l, aInt at_, aInt most, aInt under, aInt consts] (.tup [aLm t, aInt n])
theorem chk_leaf {k i m u : Int} (h : (k = 1 ∧ 0 ≤ i ∧ i < u) ∨ (k = 4 ∧ 0 ≤ i ∧ i < 40)) : (Lm.mk k i []).chk m u = 0 := by
  rw [Lm.chk_eq]
  rcases h with ⟨rfl, h1, h2⟩ | ⟨rfl, h1, h2⟩ <;> simp [Lm.kind_mk, Lm.idx_mk, Lm.subs_mk, nSubs, mostIdx, h1, h2, Lm.chks]
theorem chk_fun {t : Lm} {m u : Int} (h : t.chk m (u + 1) = 0) : (Lm.l t).chk m u = 0 := by
  rw [Lm.chk_eq]
  simp [Lm.l, Lm.kind_mk, Lm.idx_mk, Lm.subs_mk, nSubs, mostIdx, under, Lm.chks, h]
theorem chk_app {f x : Lm} {m u : Int} (h1 : f.chk m u = 0) (h2 : x.chk m u = 0) : (Lm.a f x).chk m u = 0 := by
  rw [Lm.chk_eq]
  simp [Lm.a, Lm.kind_mk, Lm.idx_mk, Lm.subs_mk, nSubs, mostIdx, under, Lm.chks, h1, h2]
theorem lamFrom_a (l : List Int) (hl : ∀ n ∈ l, inR .i64 n) (hm : l.length ≤ maxLen) (consts : Int) (hc : 0 ≤ consts ∧ consts ≤ 40) : ∀ (most : Nat) (at_ under : Nat), 0 ≤ most → most ≤ 1000 → at_ + 3 * most ≤ 900000 → under + most ≤ 2000 →
    ∃ (t : Lm) (n : Nat), LamAt l at_ most under consts t n ∧ t.size + 1 ≤ 3 * max most 1 ∧ n ≤ at_ + t.size ∧ t.chk 0 under = 0 ∧ (consts = 0 → t.pure = true) := by
  intro most
  induction most using Nat.strongRecOn with
  | _ most ih =>
  intro at_ under h1 h1000 hat hund
  have hraw := raw_a l at_ (by omega) hl hm
  have hr := rawI_range l at_
  generalize rawI l at_ = c at hraw hr
  have d6 := tdiv_range (x := c) (n := 6) (by omega) (by omega)
  have d24 := tdiv_range (x := c) (n := 24) (by omega) (by omega)
  have p6 := pick_a c 6 (by rw [inR_i64]; omega) (by omega)
  have q6 := pickI_range c 6 (by omega)
  have p64 := pick_a (c / 6) 4 (by rw [inR_i64]; omega) (by omega)
  have q64 := pickI_range (c / 6) 4 (by omega)
  have p24 : 1 ≤ consts → _ := fun h => pick_a (c / 24) consts (by rw [inR_i64]; omega) h
  have q24 : 1 ≤ consts → _ := fun h => pickI_range (c / 24) consts h
  have p6u : 1 ≤ (under : Int) → _ := fun h => pick_a (c / 6) under (by rw [inR_i64]; omega) h
  have q6u : 1 ≤ (under : Int) → _ := fun h => pickI_range (c / 6) under h
  generalize pickI c 6 = x6 at *
  generalize pickI (c / 6) 4 = x64 at *
  generalize pickI (c / 24) consts = x24 at *
  generalize pickI (c / 6) under = x6u at *
  by_cases hleaf : (most : Int) < 3 ∨ x6 = 0
  · by_cases hu0 : (under : Int) = 0
    · by_cases hc0 : consts = 0
      · refine ⟨.l (.v 0), at_ + 1, ?_, by simp only [Lm.l, Lm.v, Lm.size, Lm.sizes]; omega, by simp only [Lm.l, Lm.v, Lm.size, Lm.sizes]; omega, chk_fun (chk_leaf (Or.inl ⟨rfl, by omega, by omega⟩)), fun _ => by simp [Lm.l, Lm.v, Lm.pure, Lm.pures]⟩
        by_cases hm3 : (most : Int) < 3
        · unfold LamAt
          refine ac_R_LamFrom (Nat.le_of_ble_eq_true rfl) fun C hC => ?_
          unfold ir_R_LamFrom
          repeat' (first | (with_reducible first | refine W ?_ | refine Wk (by decide) ?_) | refine Cg _ (hraw) ?_ | refine Cg _ (lVar_a 0) ?_ | refine Cg _ (lFun_a (.v 0)) ?_ | ((with_reducible first | refine Wo (fun K hK => ?_) | refine Wp ?_ | refine Wq ?_ | refine Wr ?_); (try simp only [go_sem, fN, ↓gI, ↓pI, seval, eT, iR, hm3, hu0, hc0, dT, dF, nL]); (repeat with_reducible refine And.intro (by first | omega | (with_reducible exact lens) | (simp [maxLen_eq] <;> omega)) ?_); (try (with_reducible refine hK _ ?_; clear hK K)); (try with_reducible refine iC ?_)))
          simp only [go_sem, fN, ↓gI, ↓pI, seval, FinQ, AS.result, resAll, resOne, tupV]
          all_goals first | done | rfl | skip
        · have hx6 : x6 = 0 := by omega
          unfold LamAt
          refine ac_R_LamFrom (Nat.le_of_ble_eq_true rfl) fun C hC => ?_
          unfold ir_R_LamFrom
          repeat' (first | (with_reducible first | refine W ?_ | refine Wk (by decide) ?_) | refine Cg _ (hraw) ?_ | refine Cg _ (p6) ?_ | refine Cg _ (lVar_a 0) ?_ | refine Cg _ (lFun_a (.v 0)) ?_ | ((with_reducible first | refine Wo (fun K hK => ?_) | refine Wp ?_ | refine Wq ?_ | refine Wr ?_); (try simp only [go_sem, fN, ↓gI, ↓pI, seval, eT, iR, hm3, hx6, hu0, hc0, dT, dF, nL]); (repeat with_reducible refine And.intro (by first | omega | (with_reducible exact lens) | (simp [maxLen_eq] <;> omega)) ?_); (try (with_reducible refine hK _ ?_; clear hK K)); (try with_reducible refine iC ?_)))
          simp only [go_sem, fN, ↓gI, ↓pI, seval, FinQ, AS.result, resAll, resOne, tupV]
          all_goals first | done | rfl | skip
      · have hc1 : 1 ≤ consts := by omega
        have q := q24 hc1
        refine ⟨.mk 4 x24 [], at_ + 1, ?_, by simp only [Lm.size, Lm.sizes]; omega, by simp only [Lm.size, Lm.sizes]; omega, chk_leaf (Or.inr ⟨rfl, by omega, by omega⟩), fun h => by omega⟩
        by_cases hm3 : (most : Int) < 3
        · unfold LamAt
          refine ac_R_LamFrom (Nat.le_of_ble_eq_true rfl) fun C hC => ?_
          unfold ir_R_LamFrom
          repeat' (first | (with_reducible first | refine W ?_ | refine Wk (by decide) ?_) | refine Cg _ (hraw) ?_ | refine Cg _ (p24 hc1) ?_ | refine Cg _ (lCon_a x24) ?_ | ((with_reducible first | refine Wo (fun K hK => ?_) | refine Wp ?_ | refine Wq ?_ | refine Wr ?_); (try simp only [go_sem, fN, ↓gI, ↓pI, seval, eT, iR, hm3, hu0, hc0, d24.1, dT, dF, nL]); (repeat with_reducible refine And.intro (by first | omega | (with_reducible exact lens) | (simp [maxLen_eq] <;> omega)) ?_); (try (with_reducible refine hK _ ?_; clear hK K)); (try with_reducible refine iC ?_)))
          simp only [go_sem, fN, ↓gI, ↓pI, seval, FinQ, AS.result, resAll, resOne, tupV]
          all_goals first | done | rfl | skip
        · have hx6 : x6 = 0 := by omega
          unfold LamAt
          refine ac_R_LamFrom (Nat.le_of_ble_eq_true rfl) fun C hC => ?_
          unfold ir_R_LamFrom
          repeat' (first | (with_reducible first | refine W ?_ | refine Wk (by decide) ?_) | refine Cg _ (hraw) ?_ | refine Cg _ (p6) ?_ | refine Cg _ (p24 hc1) ?_ | refine Cg _ (lCon_a x24) ?_ | ((with_reducible first | refine Wo (fun K hK => ?_) | refine Wp ?_ | refine Wq ?_ | refine Wr ?_); (try simp only [go_sem, fN, ↓gI, ↓pI, seval, eT, iR, hm3, hx6, hu0, hc0, d24.1, dT, dF, nL]); (repeat with_reducible refine And.intro (by first | omega | (with_reducible exact lens) | (simp [maxLen_eq] <;> omega)) ?_); (try (with_reducible refine hK _ ?_; clear hK K)); (try with_reducible refine iC ?_)))
          simp only [go_sem, fN, ↓gI, ↓pI, seval, FinQ, AS.result, resAll, resOne, tupV]
          all_goals first | done | rfl | skip
    · have hu1 : 1 ≤ (under : Int) := by omega
      have qu := q6u hu1
      by_cases hc0 : consts = 0
      · refine ⟨.mk 1 x6u [], at_ + 1, ?_, by simp only [Lm.size, Lm.sizes]; omega, by simp only [Lm.size, Lm.sizes]; omega, chk_leaf (Or.inl ⟨rfl, by omega, by omega⟩), fun _ => by simp [Lm.pure, Lm.pures]⟩
        by_cases hm3 : (most : Int) < 3
        · unfold LamAt
          refine ac_R_LamFrom (Nat.le_of_ble_eq_true rfl) fun C hC => ?_
          unfold ir_R_LamFrom
          repeat' (first | (with_reducible first | refine W ?_ | refine Wk (by decide) ?_) | refine Cg _ (hraw) ?_ | refine Cg _ (p6u hu1) ?_ | refine Cg _ (lVar_a x6u) ?_ | ((with_reducible first | refine Wo (fun K hK => ?_) | refine Wp ?_ | refine Wq ?_ | refine Wr ?_); (try simp only [go_sem, fN, ↓gI, ↓pI, seval, eT, iR, hm3, hu0, hc0, d6.1, dT, dF, nL]); (repeat with_reducible refine And.intro (by first | omega | (with_reducible exact lens) | (simp [maxLen_eq] <;> omega)) ?_); (try (with_reducible refine hK _ ?_; clear hK K)); (try with_reducible refine iC ?_)))
          simp only [go_sem, fN, ↓gI, ↓pI, seval, FinQ, AS.result, resAll, resOne, tupV]
          all_goals first | done | rfl | skip
        · have hx6 : x6 = 0 := by omega
          unfold LamAt
          refine ac_R_LamFrom (Nat.le_of_ble_eq_true rfl) fun C hC => ?_
          unfold ir_R_LamFrom
          repeat' (first | (with_reducible first | refine W ?_ | refine Wk (by decide) ?_) | refine Cg _ (hraw) ?_ | refine Cg _ (p6) ?_ | refine Cg _ (p6u hu1) ?_ | refine Cg _ (lVar_a x6u) ?_ | ((with_reducible first | refine Wo (fun K hK => ?_) | refine Wp ?_ | refine Wq ?_ | refine Wr ?_); (try simp only [go_sem, fN, ↓gI, ↓pI, seval, eT, iR, hm3, hx6, hu0, hc0, d6.1, dT, dF, nL]); (repeat with_reducible refine And.intro (by first | omega | (with_reducible exact lens) | (simp [maxLen_eq] <;> omega)) ?_); (try (with_reducible refine hK _ ?_; clear hK K)); (try with_reducible refine iC ?_)))
          simp only [go_sem, fN, ↓gI, ↓pI, seval, FinQ, AS.result, resAll, resOne, tupV]
          all_goals first | done | rfl | skip
      · have hc0' : 0 < consts := by omega
        have hc1 : 1 ≤ consts := by omega
        have q := q24 hc1
        by_cases hx4 : x64 = 0
        · refine ⟨.mk 4 x24 [], at_ + 1, ?_, by simp only [Lm.size, Lm.sizes]; omega, by simp only [Lm.size, Lm.sizes]; omega, chk_leaf (Or.inr ⟨rfl, by omega, by omega⟩), fun h => by omega⟩
          by_cases hm3 : (most : Int) < 3
          · unfold LamAt
            refine ac_R_LamFrom (Nat.le_of_ble_eq_true rfl) fun C hC => ?_
            unfold ir_R_LamFrom
            repeat' (first | (with_reducible first | refine W ?_ | refine Wk (by decide) ?_) | refine Cg _ (hraw) ?_ | refine Cg _ (p64) ?_ | refine Cg _ (p24 hc1) ?_ | refine Cg _ (lCon_a x24) ?_ | ((with_reducible first | refine Wo (fun K hK => ?_) | refine Wp ?_ | refine Wq ?_ | refine Wr ?_); (try simp only [go_sem, fN, ↓gI, ↓pI, seval, eT, iR, hm3, hu0, hc0', d6.1, hx4, d24.1, dT, dF, nL]); (repeat with_reducible refine And.intro (by first | omega | (with_reducible exact lens) | (simp [maxLen_eq] <;> omega)) ?_); (try (with_reducible refine hK _ ?_; clear hK K)); (try with_reducible refine iC ?_)))
            simp only [go_sem, fN, ↓gI, ↓pI, seval, FinQ, AS.result, resAll, resOne, tupV]
            all_goals first | done | rfl | skip
          · have hx6 : x6 = 0 := by omega
            unfold LamAt
            refine ac_R_LamFrom (Nat.le_of_ble_eq_true rfl) fun C hC => ?_
            unfold ir_R_LamFrom
            repeat' (first | (with_reducible first | refine W ?_ | refine Wk (by decide) ?_) | refine Cg _ (hraw) ?_ | refine Cg _ (p6) ?_ | refine Cg _ (p64) ?_ | refine Cg _ (p24 hc1) ?_ | refine Cg _ (lCon_a x24) ?_ | ((with_reducible first | refine Wo (fun K hK => ?_) | refine Wp ?_ | refine Wq ?_ | refine Wr ?_); (try simp only [go_sem, fN, ↓gI, ↓pI, seval, eT, iR, hm3, hx6, hu0, hc0', d6.1, hx4, d24.1, dT, dF, nL]); (repeat with_reducible refine And.intro (by first | omega | (with_reducible exact lens) | (simp [maxLen_eq] <;> omega)) ?_); (try (with_reducible refine hK _ ?_; clear hK K)); (try with_reducible refine iC ?_)))
            simp only [go_sem, fN, ↓gI, ↓pI, seval, FinQ, AS.result, resAll, resOne, tupV]
            all_goals first | done | rfl | skip
        · refine ⟨.mk 1 x6u [], at_ + 1, ?_, by simp only [Lm.size, Lm.sizes]; omega, by simp only [Lm.size, Lm.sizes]; omega, chk_leaf (Or.inl ⟨rfl, by omega, by omega⟩), fun _ => by simp [Lm.pure, Lm.pures]⟩
          by_cases hm3 : (most : Int) < 3
          · unfold LamAt
            refine ac_R_LamFrom (Nat.le_of_ble_eq_true rfl) fun C hC => ?_
            unfold ir_R_LamFrom
            repeat' (first | (with_reducible first | refine W ?_ | refine Wk (by decide) ?_) | refine Cg _ (hraw) ?_ | refine Cg _ (p64) ?_ | refine Cg _ (p6u hu1) ?_ | refine Cg _ (lVar_a x6u) ?_ | ((with_reducible first | refine Wo (fun K hK => ?_) | refine Wp ?_ | refine Wq ?_ | refine Wr ?_); (try simp only [go_sem, fN, ↓gI, ↓pI, seval, eT, iR, hm3, hu0, hc0', d6.1, hx4, dT, dF, nL]); (repeat with_reducible refine And.intro (by first | omega | (with_reducible exact lens) | (simp [maxLen_eq] <;> omega)) ?_); (try (with_reducible refine hK _ ?_; clear hK K)); (try with_reducible refine iC ?_)))
            simp only [go_sem, fN, ↓gI, ↓pI, seval, FinQ, AS.result, resAll, resOne, tupV]
            all_goals first | done | rfl | skip
          · have hx6 : x6 = 0 := by omega
            unfold LamAt
            refine ac_R_LamFrom (Nat.le_of_ble_eq_true rfl) fun C hC => ?_
            unfold ir_R_LamFrom
            repeat' (first | (with_reducible first | refine W ?_ | refine Wk (by decide) ?_) | refine Cg _ (hraw) ?_ | refine Cg _ (p6) ?_ | refine Cg _ (p64) ?_ | refine Cg _ (p6u hu1) ?_ | refine Cg _ (lVar_a x6u) ?_ | ((with_reducible first | refine Wo (fun K hK => ?_) | refine Wp ?_ | refine Wq ?_ | refine Wr ?_); (try simp only [go_sem, fN, ↓gI, ↓pI, seval, eT, iR, hm3, hx6, hu0, hc0', d6.1, hx4, dT, dF, nL]); (repeat with_reducible refine And.intro (by first | omega | (with_reducible exact lens) | (simp [maxLen_eq] <;> omega)) ?_); (try (with_reducible refine hK _ ?_; clear hK K)); (try with_reducible refine iC ?_)))
            simp only [go_sem, fN, ↓gI, ↓pI, seval, FinQ, AS.result, resAll, resOne, tupV]
            all_goals first | done | rfl | skip
  · have hm3 : ¬ (most : Int) < 3 := by omega
    have hx6 : ¬ x6 = 0 := by omega
    by_cases h3 : x6 < 3
    · obtain ⟨t, n, ht, hs, hn, hk, hp⟩ := ih (most - 1) (by omega) (at_ + 1) (under + 1) (by omega) (by omega) (by omega) (by omega)
      unfold LamAt at ht
      rw [show (((at_ + 1 : Nat) : Int)) = (at_ : Int) + 1 by omega, show (((most - 1 : Nat) : Int)) = (most : Int) - 1 by omega, show (((under + 1 : Nat) : Int)) = (under : Int) + 1 by omega] at ht
      rw [show (((under + 1 : Nat) : Int)) = (under : Int) + 1 by omega] at hk
      refine ⟨.l t, n, ?_, by simp only [Lm.l, Lm.size, Lm.sizes]; omega, by simp only [Lm.l, Lm.size, Lm.sizes]; omega, chk_fun hk, fun h => by simp [Lm.l, Lm.pure, Lm.pures, hp h]⟩
      unfold LamAt
      refine ac_R_LamFrom (Nat.le_of_ble_eq_true rfl) fun C hC => ?_
      unfold ir_R_LamFrom
      repeat' (first | (with_reducible first | refine W ?_ | refine Wk (by decide) ?_) | refine Cg _ (hraw) ?_ | refine Cg _ (p6) ?_ | refine Cg _ (ht) ?_ | refine Cg _ (lFun_a t) ?_ | ((with_reducible first | refine Wo (fun K hK => ?_) | refine Wp ?_ | refine Wq ?_ | refine Wr ?_); (try simp only [go_sem, fN, ↓gI, ↓pI, seval, eT, iR, hm3, hx6, h3, dT, dF, nL]); (repeat with_reducible refine And.intro (by first | omega | (with_reducible exact lens) | (simp [maxLen_eq] <;> omega)) ?_); (try (with_reducible refine hK _ ?_; clear hK K)); (try with_reducible refine iC ?_)))
      simp only [go_sem, fN, ↓gI, ↓pI, seval, FinQ, AS.result, resAll, resOne, tupV]
    · have d2 := tdiv_range (x := (most : Int)) (n := 2) (by omega) (by omega)
      have e2 : (most : Int) / 2 = ((most / 2 : Nat) : Int) := by omega
      obtain ⟨t, n, ht, hs, hn, hk, hp⟩ := ih (most / 2) (by omega) (at_ + 1) under (by omega) (by omega) (by omega) (by omega)
      obtain ⟨u, n2, hu, hs2, hn2, hk2, hp2⟩ := ih (most / 2) (by omega) n under (by omega) (by omega) (by omega) (by omega)
      unfold LamAt at ht hu
      rw [show (((at_ + 1 : Nat) : Int)) = (at_ : Int) + 1 by omega] at ht
      refine ⟨.a t u, n2, ?_, by simp only [Lm.a, Lm.size, Lm.sizes]; omega, by simp only [Lm.a, Lm.size, Lm.sizes]; omega, chk_app hk hk2, fun h => by simp [Lm.a, Lm.pure, Lm.pures, hp h, hp2 h]⟩
      unfold LamAt
      refine ac_R_LamFrom (Nat.le_of_ble_eq_true rfl) fun C hC => ?_
      unfold ir_R_LamFrom
      repeat' (first | (with_reducible first | refine W ?_ | refine Wk (by decide) ?_) | refine Cg _ (hraw) ?_ | refine Cg _ (p6) ?_ | refine Cg _ (ht) ?_ | refine Cg _ (hu) ?_ | refine Cg _ (lApp_a t u) ?_ | ((with_reducible first | refine Wo (fun K hK => ?_) | refine Wp ?_ | refine Wq ?_ | refine Wr ?_); (try simp only [go_sem, fN, ↓gI, ↓pI, seval, eT, iR, hm3, hx6, h3, d2.1, e2, dT, dF, nL]); (repeat with_reducible refine And.intro (by first | omega | (with_reducible exact lens) | (simp [maxLen_eq] <;> omega)) ?_); (try (with_reducible refine hK _ ?_; clear hK K)); (try with_reducible refine iC ?_)))
      simp only [go_sem, fN, ↓gI, ↓pI, seval, FinQ, AS.result, resAll, resOne, tupV]
theorem lamOfRaw_a (l : List Int) (hl : ∀ n ∈ l, inR .i64 n) (hm : l.length ≤ maxLen) (consts : Int) (hc : 0 ≤ consts ∧ consts ≤ 40) (most under : Nat) (h1 : 0 ≤ most) (h2 : most ≤ 1000) (h3 : under ≤ 1000) :
    ∃ t : Lm, ACalls Tryd.prog 4 [aInts l, aInt 0, aInt most, aInt under, aInt consts] (aLm t) ∧ t.size + 1 ≤ 3 * max most 1 ∧ t.chk 0 under = 0 ∧ (consts = 0 → t.pure = true) := by
  obtain ⟨t, n, ht, hs, _, hk, hp⟩ := lamFrom_a l hl hm consts hc most 0 under h1 h2 (by omega) (by omega)
  refine ⟨t, ?_, hs, hk, hp⟩
  unfold LamAt at ht
  rw [show ((0 : Nat) : Int) = 0 from rfl] at ht
  refine ac_R_LamOfRaw (Nat.le_of_ble_eq_true rfl) fun C hC => ?_
  unfold ir_R_LamOfRaw
  repeat' (first | (with_reducible first | refine W ?_ | refine Wk (by decide) ?_) | refine Cg _ (ht) ?_ | ((with_reducible first | refine Wo (fun K hK => ?_) | refine Wp ?_ | refine Wq ?_ | refine Wr ?_); (try simp only [go_sem, fN, ↓gI, ↓pI, seval, eT, iR, dT, dF, nL]); (repeat with_reducible refine And.intro (by first | omega | (with_reducible exact lens) | (simp [maxLen_eq] <;> omega)) ?_); (try (with_reducible refine hK _ ?_; clear hK K)); (try with_reducible refine iC ?_)))
  simp only [go_sem, fN, ↓gI, ↓pI, seval, FinQ, AS.result, resAll, resOne, tupV]
end Go.Proofs.YtehnjhkndbcmgaaDoor
