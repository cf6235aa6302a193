/-
  Part 16 of the texts: BUnify3; BUnify4; PNone2. Conditions: none.
-/
import Derived.Test.YtohgkbgpcnmdpaaNon15
namespace Go.Proofs.Ytohgkbgpcnmdpaa
open Go Go.RowKit
set_option linter.unusedVariables false
set_option linter.unusedSimpArgs false
set_option maxHeartbeats 2000000
def Stk (xs : List (List SV)) (l : List Pr) : Prop := xs.take l.length = l.reverse.map encP ∧ l.length ≤ xs.length
theorem Stk.push {xs : List (List SV)} {l : List Pr} (h : Stk xs l) (p : Pr) : Stk (xs.take l.length ++ [encP p] ++ xs.drop (l.length + 1)) (p :: l) := by
  obtain ⟨h1, h2⟩ := h
  have hl : (xs.take l.length).length = l.length := by rw [List.length_take]; omega
  refine ⟨?_, by simp only [List.length_append, List.length_take, List.length_cons, List.length_nil]; omega⟩
  rw [List.length_cons, List.take_append_of_le_length (by rw [List.length_append, hl]; simp), List.take_of_length_le (by rw [List.length_append, hl]; simp), h1, List.reverse_cons, List.map_append]
  rfl
theorem Stk.pushLen {xs : List (List SV)} {l : List Pr} (h : Stk xs l) (p : Pr) : (xs.take l.length ++ [encP p] ++ xs.drop (l.length + 1)).length = if xs.length ≤ l.length + 1 then l.length + 1 else xs.length := by
  have := h.2
  simp only [List.length_append, List.length_take, List.length_drop, List.length_cons, List.length_nil]
  split <;> omega
theorem Stk.top {xs : List (List SV)} {p : Pr} {l : List Pr} (h : Stk xs (p :: l)) : xs[l.length]? = some (encP p) := by
  obtain ⟨h1, h2⟩ := h
  have e : (xs.take (p :: l).length)[l.length]? = xs[l.length]? := by rw [List.getElem?_take, if_pos (by simp)]
  rw [← e, h1, List.reverse_cons, List.map_append, List.getElem?_append_right (by simp)]
  simp
theorem Stk.pop {xs : List (List SV)} {p : Pr} {l : List Pr} (h : Stk xs (p :: l)) : Stk xs l := by
  obtain ⟨h1, h2⟩ := h
  rw [List.length_cons] at h2
  refine ⟨?_, by omega⟩
  have e : xs.take l.length = (xs.take (p :: l).length).take l.length := by rw [List.take_take, List.length_cons, Nat.min_eq_left (by omega)]
  rw [e, h1, List.reverse_cons, List.map_append, List.take_append_of_le_length (by simp), List.take_of_length_le (by simp)]
def halfOn (s : List Bd) (x : ByteArray) (t : Tm) (i : Nat) : List Bd := (s.take i).map (fun b => (b.1, b.2.on [(x, t)])) ++ s.drop i
theorem halfOn_len (s : List Bd) (x : ByteArray) (t : Tm) (i : Nat) : (halfOn s x t i).length = s.length := by
  have := congrArg List.length (List.take_append_drop i s)
  unfold halfOn
  rw [List.length_append] at this ⊢
  rw [List.length_map]
  exact this
theorem halfOn_get {s : List Bd} {x : ByteArray} {t : Tm} {i : Nat} {b : Bd} (h : s[i]? = some b) : (halfOn s x t i)[i]? = some b := by
  have := lt_of_get h
  unfold halfOn
  rw [List.getElem?_append_right (by rw [List.length_map, List.length_take]; omega), List.length_map, List.length_take, Nat.min_eq_left (by omega), Nat.sub_self, drop_get h]
  rfl
theorem halfOn_set {s : List Bd} {x : ByteArray} {t : Tm} {i : Nat} {b : Bd} (h : s[i]? = some b) : (halfOn s x t i).set i (b.1, b.2.on [(x, t)]) = halfOn s x t (i + 1) := by
  have := lt_of_get h
  unfold halfOn
  rw [List.set_append_right _ _ (by rw [List.length_map, List.length_take]; omega), List.length_map, List.length_take, Nat.min_eq_left (by omega), Nat.sub_self, drop_get h, take_snoc h, List.map_append, List.append_assoc]
  rfl
theorem halfOn_all (s : List Bd) (x : ByteArray) (t : Tm) : halfOn s x t s.length = s.map fun b => (b.1, b.2.on [(x, t)]) := by
  unfold halfOn
  rw [List.take_length, List.drop_length, List.append_nil]
theorem solve_a (U : List ByteArray) (hU : U.length ≤ 20000) (C0 : Nat) (hC0 : C0 ≤ 100000000000) (n : Nat) (l : List Pr) (r : List Bd × Int) (hr : UEnds n [] l r) (hg : UGood U C0 [] l) : ACalls Try.prog 37 [aPrs l] (.tup [aBds r.1, aInt r.2]) := by
  have hll : l.length ≤ 100000000001 := by have := hg.stack; omega
  refine ac_unify_Solve (Nat.le_of_ble_eq_true rfl) fun C hC => ?_
  unfold ir_unify_Solve
  repeat' (first | (with_reducible first | refine Wa ?_ | refine Wb ?_ | refine Wc ?_ | refine Wd ?_ | refine We ?_ | refine Wf ?_ | refine Wg ?_ | refine Wh ?_ | refine Wi ?_ | refine Wj ?_ | refine Wk (by decide) ?_ | refine Wl ?_ | refine Wm ?_ | refine Wn ?_) | ((with_reducible first | refine Wo (fun K hK => ?_) | refine Wp ?_ | refine Wq ?_ | refine Wr ?_); (try simp only [go_sem, List.forall_mem_nil, ↓guard_ite, ↓pick_ite, seval, encT_eq, inR_i64, decide_eq_true_eq, decide_eq_false_iff_not, Int.ofNat_lt]); (repeat with_reducible refine And.intro (by first | omega | (with_reducible first | exact lens_encT | exact lens_encL | exact lens_encB | exact lens_encP) | (simp; done) | (simp only [List.length_take, List.length_map, List.length_append, maxLen_eq]; omega)) ?_); (try (with_reducible refine hK _ ?_; clear hK K)); (try with_reducible refine ite_conj ?_)))
  refine IWP.ghost (Ghost.ownM 4 500 56 3 rfl rfl (by rw [hC]; decide)) ?_
  refine IWP.ghost (Ghost.ownM 5 501 51 4 rfl rfl (by rw [hC]; decide)) ?_
  refine IWP.ghost (Ghost.toPart 5 501 0 rfl (by rw [hC]; decide)) ?_
  refine IWP.loop (fun m x => ∃ (k : Nat) (xs : List (List SV)), k ≤ l.length ∧ m = k ∧ Stk xs (l.drop k) ∧ x.env 0 = aPrs l ∧ x.env 4 = .one (.row 500 0) ∧ x.env 5 = .one (.part 501 (l.drop k).length xs.length) ∧ x.env 6 = .one (.st (.int .i64 ((k : Int) - 1))) ∧ x.S 500 = some (rowBd []) ∧ x.S 501 = some (.mrow 51 4 xs) ∧ x.S 7 = none ∧ x.S 8 = none ∧ x.S 10 = none) l.length ⟨l.length, [], Nat.le_refl _, rfl, ?_⟩ ?_
  · rw [List.drop_length]
    exact ⟨⟨rfl, Nat.le_refl _⟩, rfl, rfl, rfl, rfl, rfl, rfl, rfl, rfl, rfl⟩
  · rintro k ⟨env, S⟩ ⟨_, xs, hk, rfl, hstk, e0, e4, e5, e6, s500, s501, s7, s8, s10⟩
    simp only at e0 e4 e5 e6 s500 s501 s7 s8 s10
    by_cases hk0 : 0 ≤ (k : Int) - 1
    · obtain ⟨k, rfl⟩ : ∃ q, k = q + 1 := ⟨k - 1, by omega⟩
      obtain ⟨p, hp⟩ := get_lt (show k < l.length by omega)
      have hz : (((k + 1 : Nat) : Int) - 1).toNat = k := by omega
      have hp' : l[(((k + 1 : Nat) : Int) - 1).toNat]? = some p := by rw [hz]; exact hp
      have hdl : (List.drop (k + 1) l).length ≤ 100000000001 := by rw [List.length_drop]; omega
      repeat' (first | (with_reducible first | refine Wa ?_ | refine Wb ?_ | refine Wc ?_ | refine Wd ?_ | refine We ?_ | refine Wf ?_ | refine Wg ?_ | refine Wh ?_ | refine Wi ?_ | refine Wj ?_ | refine Wk (by decide) ?_ | refine Wl ?_ | refine Wm ?_ | refine Wn ?_) | ((with_reducible first | refine Wo (fun K hK => ?_) | refine Wp ?_ | refine Wq ?_ | refine Wr ?_); (try simp only [go_sem, List.forall_mem_nil, ↓guard_ite, ↓pick_ite, seval, encT_eq, inR_i64, e0, e4, e5, e6, s500, s501, s7, s8, s10, hk0, hz, hp, encP, decide_eq_true_eq, decide_eq_false_iff_not, Int.ofNat_lt]); (repeat with_reducible refine And.intro (by first | omega | (with_reducible first | exact lens_encT | exact lens_encL | exact lens_encB | exact lens_encP) | (simp; done) | (simp only [List.length_take, List.length_map, List.length_append, maxLen_eq]; omega)) ?_); (try (with_reducible refine hK _ ?_; clear hK K)); (try with_reducible refine ite_conj ?_)))
      refine then_normal ⟨k, by omega, k, _, by omega, rfl, by rw [drop_get hp]; exact hstk.push p, ?_⟩
      simp only [go_sem, List.forall_mem_nil, ↓guard_ite, ↓pick_ite, seval, encT_eq, inR_i64, e0, e4, e5, e6, s500, s7, s8, s10]
      have hpl : (List.take (List.drop (k + 1) l).length xs).length + 1 + (List.drop ((List.drop (k + 1) l).length + 1) xs).length = if xs.length ≤ (List.drop (k + 1) l).length + 1 then (List.drop (k + 1) l).length + 1 else xs.length := by
        have := hstk.pushLen p
        simpa only [List.length_append, List.length_cons, List.length_nil, Nat.zero_add] using this
      rw [hpl, drop_get hp]
      refine ⟨rfl, ?_, rfl⟩
      congr 3
      omega
    · obtain rfl : k = 0 := by omega
      rw [List.drop_zero] at hstk e5
      repeat' (first | (with_reducible first | refine Wa ?_ | refine Wb ?_ | refine Wc ?_ | refine Wd ?_ | refine We ?_ | refine Wf ?_ | refine Wg ?_ | refine Wh ?_ | refine Wi ?_ | refine Wj ?_ | refine Wk (by decide) ?_ | refine Wl ?_ | refine Wm ?_ | refine Wn ?_) | ((with_reducible first | refine Wo (fun K hK => ?_) | refine Wp ?_ | refine Wq ?_ | refine Wr ?_); (try simp only [go_sem, List.forall_mem_nil, ↓guard_ite, ↓pick_ite, seval, encT_eq, inR_i64, e6, hk0, decide_eq_true_eq, decide_eq_false_iff_not, Int.ofNat_lt]); (repeat with_reducible refine And.intro (by first | omega | (with_reducible first | exact lens_encT | exact lens_encL | exact lens_encB | exact lens_encP) | (simp; done) | (simp only [List.length_take, List.length_map, List.length_append, maxLen_eq]; omega)) ?_); (try (with_reducible refine hK _ ?_; clear hK K)); (try with_reducible refine ite_conj ?_)))
      refine IWP.loopD [7, 8, 10] (fun m x => ∃ s l xs, UEnds m s l r ∧ UGood U C0 s l ∧ Stk xs l ∧ x.env 4 = .one (.row 500 s.length) ∧ x.env 5 = .one (.part 501 l.length xs.length) ∧ x.S 500 = some (rowBd s) ∧ x.S 501 = some (.mrow 51 4 xs) ∧ x.S 7 = none ∧ x.S 8 = none ∧ x.S 10 = none) n ⟨[], l, xs, hr, hg, hstk, ?_⟩ ?_
      · simp only [go_sem, List.forall_mem_nil, ↓guard_ite, ↓pick_ite, seval, encT_eq, inR_i64, e4, e5, s500, s501, s7, s8, s10]
      clear hr hg hstk e0 e4 e5 e6 s500 s501 s7 s8 s10 hll hk hk0 env S xs
      rintro m ⟨env, S⟩ ⟨s, l, xs, hr, hg, hstk, e4, e5, s500, s501, s7, s8, s10⟩
      simp only at e4 e5 s500 s501 s7 s8 s10
      have hsl : s.length ≤ 20000 := Nat.le_trans hg.len hU
      cases l with
      | nil =>
        cases hr
        refine IWP.ghost (Ghost.share (id := 500) s500) ?_
        repeat' (first | (with_reducible first | refine Wa ?_ | refine Wb ?_ | refine Wc ?_ | refine Wd ?_ | refine We ?_ | refine Wf ?_ | refine Wg ?_ | refine Wh ?_ | refine Wi ?_ | refine Wj ?_ | refine Wk (by decide) ?_ | refine Wl ?_ | refine Wm ?_ | refine Wn ?_) | ((with_reducible first | refine Wo (fun K hK => ?_) | refine Wp ?_ | refine Wq ?_ | refine Wr ?_); (try simp only [go_sem, List.forall_mem_nil, ↓guard_ite, ↓pick_ite, seval, encT_eq, inR_i64, e4, e5, s501, decide_eq_true_eq, decide_eq_false_iff_not, Int.ofNat_lt]); (repeat with_reducible refine And.intro (by first | omega | (with_reducible first | exact lens_encT | exact lens_encL | exact lens_encB | exact lens_encP) | (simp; done) | (simp only [List.length_take, List.length_map, List.length_append, maxLen_eq]; omega)) ?_); (try (with_reducible refine hK _ ?_; clear hK K)); (try with_reducible refine ite_conj ?_)))
        simp only [go_sem, List.forall_mem_nil, ↓guard_ite, ↓pick_ite, seval, FinQ, AS.result, resAll, resOne, tupV]
      | cons p l =>
        have hinv := uends_inv hr
        obtain ⟨hc1, hc2⟩ := hg.lchk p (by simp)
        have hUp := hg.lU p (by simp)
        obtain ⟨hz1, hz2⟩ := hg.lsiz p (by simp)
        obtain ⟨a1, a2, a3⟩ := onU hg hc1 fun y => (hUp y).1
        obtain ⟨b1, b2, b3⟩ := onU hg hc2 fun y => (hUp y).2
        have hl0 : (0 : Int) < ((l.length + 1 : Nat) : Int) := by omega
        have hl1 : (((l.length + 1 : Nat) : Int) - 1) = (l.length : Int) := by omega
        have hl2 : (l.length : Int) < ((l.length + 1 : Nat) : Int) := by omega
        have hl3 : (l.length : Int) ≤ ((l.length + 1 : Nat) : Int) := by omega
        have hlb : l.length ≤ 100000000000 := by have := hg.stack; rw [List.length_cons] at this; omega
        have htop := hstk.top
        have hstk' := hstk.pop
        rw [List.length_cons] at e5
        have onc : ∀ t : Tm, t.chk = 0 → ∀ T : AStore, (∀ q ∈ [(500, rowBd s)], T q.1 = some q.2) → ACallsS Try.prog 46 [.one (.row (up1 500) s.length), aTm t] (upS T) (.tup [aTm (onTo s t).1, aBool (onTo s t).2]) (upS T) :=
          fun t ht T hT => on_M s (by omega) hg.ord t hg.var ht (up1 500) (up1_le 500) (upS T) (by rw [upS_up, hT _ (List.mem_singleton.2 rfl)]; rfl)
        by_cases ha : (p.1.on s).size ≤ 2000
        case neg =>
          have he : onTo s p.1 = (Tm.nil, false) := by unfold onTo; rw [if_neg ha]
          have hst : stepU s p = .err 8 := by unfold stepU; rw [if_pos (by omega)]
          repeat' (first | (with_reducible first | refine Wa ?_ | refine Wb ?_ | refine Wc ?_ | refine Wd ?_ | refine We ?_ | refine Wf ?_ | refine Wg ?_ | refine Wh ?_ | refine Wi ?_ | refine Wj ?_ | refine Wk (by decide) ?_ | refine Wl ?_ | refine Wm ?_ | refine Wn ?_) | ((with_reducible first | refine Wo (fun K hK => ?_) | refine Wp ?_ | refine Wq ?_ | refine Wr ?_); (try simp only [go_sem, List.forall_mem_nil, ↓guard_ite, ↓pick_ite, seval, encT_eq, inR_i64, e4, e5, s500, s501, s7, s8, s10, hl0, hl1, hl2, hl3, htop, encP, decide_eq_true_eq, decide_eq_false_iff_not, Int.ofNat_lt]); (repeat with_reducible refine And.intro (by first | omega | (with_reducible first | exact lens_encT | exact lens_encL | exact lens_encB | exact lens_encP) | (simp; done) | (simp only [List.length_take, List.length_map, List.length_append, maxLen_eq]; omega)) ?_); (try (with_reducible refine hK _ ?_; clear hK K)); (try with_reducible refine ite_conj ?_)))
          refine ⟨_, [(500, rowBd s)], rows_one (by (simp only [go_sem, List.forall_mem_nil, ↓guard_ite, ↓pick_ite, seval, encT_eq, inR_i64, s500])), onc p.1 hc1, ?_⟩
          repeat' (first | (with_reducible first | refine Wa ?_ | refine Wb ?_ | refine Wc ?_ | refine Wd ?_ | refine We ?_ | refine Wf ?_ | refine Wg ?_ | refine Wh ?_ | refine Wi ?_ | refine Wj ?_ | refine Wk (by decide) ?_ | refine Wl ?_ | refine Wm ?_ | refine Wn ?_) | ((with_reducible first | refine Wo (fun K hK => ?_) | refine Wp ?_ | refine Wq ?_ | refine Wr ?_); (try simp only [go_sem, List.forall_mem_nil, ↓guard_ite, ↓pick_ite, seval, encT_eq, inR_i64, he, e4, e5, s8, s10, decide_eq_true_eq, decide_eq_false_iff_not, Int.ofNat_lt]); (repeat with_reducible refine And.intro (by first | omega | (with_reducible first | exact lens_encT | exact lens_encL | exact lens_encB | exact lens_encP) | (simp; done) | (simp only [List.length_take, List.length_map, List.length_append, maxLen_eq]; omega)) ?_); (try (with_reducible refine hK _ ?_; clear hK K)); (try with_reducible refine ite_conj ?_)))
          refine ⟨_, [(500, rowBd s)], rows_one (by (simp only [go_sem, List.forall_mem_nil, ↓guard_ite, ↓pick_ite, seval, encT_eq, inR_i64, s500])), onc p.2 hc2, ?_⟩
          repeat' (first | (with_reducible first | refine Wa ?_ | refine Wb ?_ | refine Wc ?_ | refine Wd ?_ | refine We ?_ | refine Wf ?_ | refine Wg ?_ | refine Wh ?_ | refine Wi ?_ | refine Wj ?_ | refine Wk (by decide) ?_ | refine Wl ?_ | refine Wm ?_ | refine Wn ?_) | ((with_reducible first | refine Wo (fun K hK => ?_) | refine Wp ?_ | refine Wq ?_ | refine Wr ?_); (try simp only [go_sem, List.forall_mem_nil, ↓guard_ite, ↓pick_ite, seval, encT_eq, inR_i64, he, e4, e5, s8, s10, decide_eq_true_eq, decide_eq_false_iff_not, Int.ofNat_lt]); (repeat with_reducible refine And.intro (by first | omega | (with_reducible first | exact lens_encT | exact lens_encL | exact lens_encB | exact lens_encP) | (simp; done) | (simp only [List.length_take, List.length_map, List.length_append, maxLen_eq]; omega)) ?_); (try (with_reducible refine hK _ ?_; clear hK K)); (try with_reducible refine ite_conj ?_)))
          simp only [go_sem, List.forall_mem_nil, ↓guard_ite, ↓pick_ite, seval, FinQ, AS.result, resAll, resOne, tupV]
          rcases hinv with ⟨e, h1, rfl⟩ | ⟨s', ps, q, h1, _⟩
          · rw [hst] at h1
            cases h1
            rfl
          · rw [hst] at h1
            cases h1
        by_cases hb : (p.2.on s).size ≤ 2000
        case neg =>
          have he : onTo s p.1 = (p.1.on s, true) := by unfold onTo; rw [if_pos ha]
          have he2 : onTo s p.2 = (Tm.nil, false) := by unfold onTo; rw [if_neg hb]
          have hst : stepU s p = .err 8 := by unfold stepU; rw [if_pos (by omega)]
          repeat' (first | (with_reducible first | refine Wa ?_ | refine Wb ?_ | refine Wc ?_ | refine Wd ?_ | refine We ?_ | refine Wf ?_ | refine Wg ?_ | refine Wh ?_ | refine Wi ?_ | refine Wj ?_ | refine Wk (by decide) ?_ | refine Wl ?_ | refine Wm ?_ | refine Wn ?_) | ((with_reducible first | refine Wo (fun K hK => ?_) | refine Wp ?_ | refine Wq ?_ | refine Wr ?_); (try simp only [go_sem, List.forall_mem_nil, ↓guard_ite, ↓pick_ite, seval, encT_eq, inR_i64, e4, e5, s500, s501, s7, s8, s10, hl0, hl1, hl2, hl3, htop, encP, decide_eq_true_eq, decide_eq_false_iff_not, Int.ofNat_lt]); (repeat with_reducible refine And.intro (by first | omega | (with_reducible first | exact lens_encT | exact lens_encL | exact lens_encB | exact lens_encP) | (simp; done) | (simp only [List.length_take, List.length_map, List.length_append, maxLen_eq]; omega)) ?_); (try (with_reducible refine hK _ ?_; clear hK K)); (try with_reducible refine ite_conj ?_)))
          refine ⟨_, [(500, rowBd s)], rows_one (by (simp only [go_sem, List.forall_mem_nil, ↓guard_ite, ↓pick_ite, seval, encT_eq, inR_i64, s500])), onc p.1 hc1, ?_⟩
          repeat' (first | (with_reducible first | refine Wa ?_ | refine Wb ?_ | refine Wc ?_ | refine Wd ?_ | refine We ?_ | refine Wf ?_ | refine Wg ?_ | refine Wh ?_ | refine Wi ?_ | refine Wj ?_ | refine Wk (by decide) ?_ | refine Wl ?_ | refine Wm ?_ | refine Wn ?_) | ((with_reducible first | refine Wo (fun K hK => ?_) | refine Wp ?_ | refine Wq ?_ | refine Wr ?_); (try simp only [go_sem, List.forall_mem_nil, ↓guard_ite, ↓pick_ite, seval, encT_eq, inR_i64, he, e4, e5, s8, s10, decide_eq_true_eq, decide_eq_false_iff_not, Int.ofNat_lt]); (repeat with_reducible refine And.intro (by first | omega | (with_reducible first | exact lens_encT | exact lens_encL | exact lens_encB | exact lens_encP) | (simp; done) | (simp only [List.length_take, List.length_map, List.length_append, maxLen_eq]; omega)) ?_); (try (with_reducible refine hK _ ?_; clear hK K)); (try with_reducible refine ite_conj ?_)))
          refine ⟨_, [(500, rowBd s)], rows_one (by (simp only [go_sem, List.forall_mem_nil, ↓guard_ite, ↓pick_ite, seval, encT_eq, inR_i64, s500])), onc p.2 hc2, ?_⟩
          repeat' (first | (with_reducible first | refine Wa ?_ | refine Wb ?_ | refine Wc ?_ | refine Wd ?_ | refine We ?_ | refine Wf ?_ | refine Wg ?_ | refine Wh ?_ | refine Wi ?_ | refine Wj ?_ | refine Wk (by decide) ?_ | refine Wl ?_ | refine Wm ?_ | refine Wn ?_) | ((with_reducible first | refine Wo (fun K hK => ?_) | refine Wp ?_ | refine Wq ?_ | refine Wr ?_); (try simp only [go_sem, List.forall_mem_nil, ↓guard_ite, ↓pick_ite, seval, encT_eq, inR_i64, he, he2, e4, e5, s8, s10, decide_eq_true_eq, decide_eq_false_iff_not, Int.ofNat_lt]); (repeat with_reducible refine And.intro (by first | omega | (with_reducible first | exact lens_encT | exact lens_encL | exact lens_encB | exact lens_encP) | (simp; done) | (simp only [List.length_take, List.length_map, List.length_append, maxLen_eq]; omega)) ?_); (try (with_reducible refine hK _ ?_; clear hK K)); (try with_reducible refine ite_conj ?_)))
          simp only [go_sem, List.forall_mem_nil, ↓guard_ite, ↓pick_ite, seval, FinQ, AS.result, resAll, resOne, tupV]
          rcases hinv with ⟨e, h1, rfl⟩ | ⟨s', ps, q, h1, _⟩
          · rw [hst] at h1
            cases h1
            rfl
          · rw [hst] at h1
            cases h1
        have he : onTo s p.1 = (p.1.on s, true) := by unfold onTo; rw [if_pos ha]
        have he2 : onTo s p.2 = (p.2.on s, true) := by unfold onTo; rw [if_pos hb]
        have hta : TmOk U s (p.1.on s) := ⟨a1, ha, a2, a3⟩
        have htb : TmOk U s (p.2.on s) := ⟨b1, hb, b2, b3⟩
        repeat' (first | (with_reducible first | refine Wa ?_ | refine Wb ?_ | refine Wc ?_ | refine Wd ?_ | refine We ?_ | refine Wf ?_ | refine Wg ?_ | refine Wh ?_ | refine Wi ?_ | refine Wj ?_ | refine Wk (by decide) ?_ | refine Wl ?_ | refine Wm ?_ | refine Wn ?_) | ((with_reducible first | refine Wo (fun K hK => ?_) | refine Wp ?_ | refine Wq ?_ | refine Wr ?_); (try simp only [go_sem, List.forall_mem_nil, ↓guard_ite, ↓pick_ite, seval, encT_eq, inR_i64, e4, e5, s500, s501, s7, s8, s10, hl0, hl1, hl2, hl3, htop, encP, decide_eq_true_eq, decide_eq_false_iff_not, Int.ofNat_lt]); (repeat with_reducible refine And.intro (by first | omega | (with_reducible first | exact lens_encT | exact lens_encL | exact lens_encB | exact lens_encP) | (simp; done) | (simp only [List.length_take, List.length_map, List.length_append, maxLen_eq]; omega)) ?_); (try (with_reducible refine hK _ ?_; clear hK K)); (try with_reducible refine ite_conj ?_)))
        refine ⟨_, [(500, rowBd s)], rows_one (by (simp only [go_sem, List.forall_mem_nil, ↓guard_ite, ↓pick_ite, seval, encT_eq, inR_i64, s500])), onc p.1 hc1, ?_⟩
        repeat' (first | (with_reducible first | refine Wa ?_ | refine Wb ?_ | refine Wc ?_ | refine Wd ?_ | refine We ?_ | refine Wf ?_ | refine Wg ?_ | refine Wh ?_ | refine Wi ?_ | refine Wj ?_ | refine Wk (by decide) ?_ | refine Wl ?_ | refine Wm ?_ | refine Wn ?_) | ((with_reducible first | refine Wo (fun K hK => ?_) | refine Wp ?_ | refine Wq ?_ | refine Wr ?_); (try simp only [go_sem, List.forall_mem_nil, ↓guard_ite, ↓pick_ite, seval, encT_eq, inR_i64, he, e4, e5, s8, s10, decide_eq_true_eq, decide_eq_false_iff_not, Int.ofNat_lt]); (repeat with_reducible refine And.intro (by first | omega | (with_reducible first | exact lens_encT | exact lens_encL | exact lens_encB | exact lens_encP) | (simp; done) | (simp only [List.length_take, List.length_map, List.length_append, maxLen_eq]; omega)) ?_); (try (with_reducible refine hK _ ?_; clear hK K)); (try with_reducible refine ite_conj ?_)))
        refine ⟨_, [(500, rowBd s)], rows_one (by (simp only [go_sem, List.forall_mem_nil, ↓guard_ite, ↓pick_ite, seval, encT_eq, inR_i64, s500])), onc p.2 hc2, ?_⟩
        repeat' (first | (with_reducible first | refine Wa ?_ | refine Wb ?_ | refine Wc ?_ | refine Wd ?_ | refine We ?_ | refine Wf ?_ | refine Wg ?_ | refine Wh ?_ | refine Wi ?_ | refine Wj ?_ | refine Wk (by decide) ?_ | refine Wl ?_ | refine Wm ?_ | refine Wn ?_) | ((with_reducible first | refine Wo (fun K hK => ?_) | refine Wp ?_ | refine Wq ?_ | refine Wr ?_); (try simp only [go_sem, List.forall_mem_nil, ↓guard_ite, ↓pick_ite, seval, encT_eq, inR_i64, he, he2, e4, e5, s8, s10, decide_eq_true_eq, decide_eq_false_iff_not, Int.ofNat_lt]); (repeat with_reducible refine And.intro (by first | omega | (with_reducible first | exact lens_encT | exact lens_encL | exact lens_encB | exact lens_encP) | (simp; done) | (simp only [List.length_take, List.length_map, List.length_append, maxLen_eq]; omega)) ?_); (try (with_reducible refine hK _ ?_; clear hK K)); (try with_reducible refine ite_conj ?_)))
        refine ⟨_, variable_a _, ?_⟩
        by_cases hsame : isVar (p.1.on s).name = true ∧ (p.1.on s).name = (p.2.on s).name
        · have hst : stepU s p = .go s [] := by unfold stepU; rw [if_neg (by omega), if_pos hsame]
          have hsv : isVar (p.2.on s).name = true := by rw [← hsame.2]; exact hsame.1
          repeat' (first | (with_reducible first | refine Wa ?_ | refine Wb ?_ | refine Wc ?_ | refine Wd ?_ | refine We ?_ | refine Wf ?_ | refine Wg ?_ | refine Wh ?_ | refine Wi ?_ | refine Wj ?_ | refine Wk (by decide) ?_ | refine Wl ?_ | refine Wm ?_ | refine Wn ?_) | ((with_reducible first | refine Wo (fun K hK => ?_) | refine Wp ?_ | refine Wq ?_ | refine Wr ?_); (try simp only [go_sem, List.forall_mem_nil, ↓guard_ite, ↓pick_ite, seval, encT_eq, inR_i64, hsame.1, hsv, hsame.2, e4, e5, decide_eq_true_eq, decide_eq_false_iff_not, Int.ofNat_lt]); (repeat with_reducible refine And.intro (by first | omega | (with_reducible first | exact lens_encT | exact lens_encL | exact lens_encB | exact lens_encP) | (simp; done) | (simp only [List.length_take, List.length_map, List.length_append, maxLen_eq]; omega)) ?_); (try (with_reducible refine hK _ ?_; clear hK K)); (try with_reducible refine ite_conj ?_)))
          rcases hinv with ⟨e, h1, _⟩ | ⟨s', ps, q, h1, h2, h3⟩
          · rw [hst] at h1
            cases h1
          rw [hst] at h1
          cases h1
          refine then_normal ⟨q, h2, s, l, xs, h3, hg.tail, hstk', ?_⟩
          simp only [go_sem, List.forall_mem_nil, ↓guard_ite, ↓pick_ite, seval, AS.drop, dropS, AC.clears, AC.clear, AC.highs, AC.high, Bool.not_false, Bool.true_and, Bool.and_self, AV.purge, AV.purges, AC.purge, ABlk.purge, List.contains_cons, List.contains_nil, Nat.reduceBEq, Bool.or_self, Bool.or_false, Bool.false_or, Bool.or_true, encT_eq, inR_i64, e4, s500, s501]
        by_cases hvv : isVar (p.1.on s).name = true ∨ isVar (p.2.on s).name = true
        · apply once
          · intro rest
            cases hv : isVar (p.1.on s).name with
            | true =>
              have hne : ¬ (p.1.on s).name = (p.2.on s).name := fun h => hsame ⟨hv, h⟩
              repeat' (first | (with_reducible first | refine Wa ?_ | refine Wb ?_ | refine Wc ?_ | refine Wd ?_ | refine We ?_ | refine Wf ?_ | refine Wg ?_ | refine Wh ?_ | refine Wi ?_ | refine Wj ?_ | refine Wk (by decide) ?_ | refine Wl ?_ | refine Wm ?_ | refine Wn ?_) | ((with_reducible first | refine Wo (fun K hK => ?_) | refine Wp ?_ | refine Wq ?_ | refine Wr ?_); (try simp only [go_sem, List.forall_mem_nil, ↓guard_ite, ↓pick_ite, seval, encT_eq, inR_i64, hv, hne, decide_eq_true_eq, decide_eq_false_iff_not, Int.ofNat_lt]); (repeat with_reducible refine And.intro (by first | omega | (with_reducible first | exact lens_encT | exact lens_encL | exact lens_encB | exact lens_encP) | (simp; done) | (simp only [List.length_take, List.length_map, List.length_append, maxLen_eq]; omega)) ?_); (try (with_reducible refine hK _ ?_; skip)); (try with_reducible refine ite_conj ?_)))
              refine ⟨_, variable_a _, ?_⟩
              repeat' (first | (with_reducible first | refine Wa ?_ | refine Wb ?_ | refine Wc ?_ | refine Wd ?_ | refine We ?_ | refine Wf ?_ | refine Wg ?_ | refine Wh ?_ | refine Wi ?_ | refine Wj ?_ | refine Wk (by decide) ?_ | refine Wl ?_ | refine Wm ?_ | refine Wn ?_) | ((with_reducible first | refine Wo (fun K hK => ?_) | refine Wq ?_ | refine Wr ?_); (try simp only [go_sem, List.forall_mem_nil, ↓guard_ite, ↓pick_ite, seval, encT_eq, inR_i64, hv]); (repeat with_reducible refine And.intro (by first | omega | (with_reducible first | exact lens_encT | exact lens_encL | exact lens_encB | exact lens_encP) | (simp; done) | (simp only [List.length_take, List.length_map, List.length_append, maxLen_eq]; omega)) ?_); (try (with_reducible refine hK _ ?_; skip))))
              with_reducible refine Wp ?_
              simp only [go_sem, List.forall_mem_nil, ↓guard_ite, ↓pick_ite, seval, true_implies, false_implies, implies_true, decide_eq_true_eq, decide_eq_false_iff_not, Int.ofNat_lt]
              (try with_reducible refine ite_conj ?_)
              refine IWP.mid (fun x => ∃ u t, Turned U s p u t ∧ isVar u.name = true ∧ x.env 4 = .one (.row 500 s.length) ∧ x.env 5 = .one (.part 501 l.length xs.length) ∧ x.env 8 = .one (.ptr 8 1 0 0) ∧ x.env 10 = .one (.ptr 10 1 0 0) ∧ x.S 500 = some (rowBd s) ∧ x.S 501 = some (.mrow 51 4 xs) ∧ x.S 8 = some (boxT u) ∧ x.S 10 = some (boxT t)) ?_ rest
              repeat' (first | (with_reducible first | refine Wa ?_ | refine Wb ?_ | refine Wc ?_ | refine Wd ?_ | refine We ?_ | refine Wf ?_ | refine Wg ?_ | refine Wh ?_ | refine Wi ?_ | refine Wj ?_ | refine Wk (by decide) ?_ | refine Wl ?_ | refine Wm ?_ | refine Wn ?_) | ((with_reducible first | refine Wo (fun K hK => ?_) | refine Wp ?_ | refine Wq ?_ | refine Wr ?_); (try simp only [go_sem, List.forall_mem_nil, ↓guard_ite, ↓pick_ite, seval, encT_eq, inR_i64, decide_eq_true_eq, decide_eq_false_iff_not, Int.ofNat_lt]); (repeat with_reducible refine And.intro (by first | omega | (with_reducible first | exact lens_encT | exact lens_encL | exact lens_encB | exact lens_encP) | (simp; done) | (simp only [List.length_take, List.length_map, List.length_append, maxLen_eq]; omega)) ?_); (try (with_reducible refine hK _ ?_; skip)); (try with_reducible refine ite_conj ?_)))
              refine ⟨_, variable_a _, ?_⟩
              repeat' (first | (with_reducible first | refine Wa ?_ | refine Wb ?_ | refine Wc ?_ | refine Wd ?_ | refine We ?_ | refine Wf ?_ | refine Wg ?_ | refine Wh ?_ | refine Wi ?_ | refine Wj ?_ | refine Wk (by decide) ?_ | refine Wl ?_ | refine Wm ?_ | refine Wn ?_) | ((with_reducible first | refine Wo (fun K hK => ?_) | refine Wp ?_ | refine Wq ?_ | refine Wr ?_); (try simp only [go_sem, List.forall_mem_nil, ↓guard_ite, ↓pick_ite, seval, encT_eq, inR_i64, hv, decide_eq_true_eq, decide_eq_false_iff_not, Int.ofNat_lt]); (repeat with_reducible refine And.intro (by first | omega | (with_reducible first | exact lens_encT | exact lens_encL | exact lens_encB | exact lens_encP) | (simp; done) | (simp only [List.length_take, List.length_map, List.length_append, maxLen_eq]; omega)) ?_); (try (with_reducible refine hK _ ?_; skip)); (try with_reducible refine ite_conj ?_)))
              refine ⟨rfl, _, _, turned_a hta htb hsame (.inl hv), hv, ?_⟩
              simp only [go_sem, List.forall_mem_nil, ↓guard_ite, ↓pick_ite, seval, encT_eq, inR_i64, e4, s500, s501]
            | false =>
              have hw : isVar (p.2.on s).name = true := hvv.resolve_left (by rw [hv]; simp)
              repeat' (first | (with_reducible first | refine Wa ?_ | refine Wb ?_ | refine Wc ?_ | refine Wd ?_ | refine We ?_ | refine Wf ?_ | refine Wg ?_ | refine Wh ?_ | refine Wi ?_ | refine Wj ?_ | refine Wk (by decide) ?_ | refine Wl ?_ | refine Wm ?_ | refine Wn ?_) | ((with_reducible first | refine Wo (fun K hK => ?_) | refine Wp ?_ | refine Wq ?_ | refine Wr ?_); (try simp only [go_sem, List.forall_mem_nil, ↓guard_ite, ↓pick_ite, seval, encT_eq, inR_i64, hv, decide_eq_true_eq, decide_eq_false_iff_not, Int.ofNat_lt]); (repeat with_reducible refine And.intro (by first | omega | (with_reducible first | exact lens_encT | exact lens_encL | exact lens_encB | exact lens_encP) | (simp; done) | (simp only [List.length_take, List.length_map, List.length_append, maxLen_eq]; omega)) ?_); (try (with_reducible refine hK _ ?_; skip)); (try with_reducible refine ite_conj ?_)))
              refine ⟨_, variable_a _, ?_⟩
              repeat' (first | (with_reducible first | refine Wa ?_ | refine Wb ?_ | refine Wc ?_ | refine Wd ?_ | refine We ?_ | refine Wf ?_ | refine Wg ?_ | refine Wh ?_ | refine Wi ?_ | refine Wj ?_ | refine Wk (by decide) ?_ | refine Wl ?_ | refine Wm ?_ | refine Wn ?_) | ((with_reducible first | refine Wo (fun K hK => ?_) | refine Wp ?_ | refine Wq ?_ | refine Wr ?_); (try simp only [go_sem, List.forall_mem_nil, ↓guard_ite, ↓pick_ite, seval, encT_eq, inR_i64, hv, decide_eq_true_eq, decide_eq_false_iff_not, Int.ofNat_lt]); (repeat with_reducible refine And.intro (by first | omega | (with_reducible first | exact lens_encT | exact lens_encL | exact lens_encB | exact lens_encP) | (simp; done) | (simp only [List.length_take, List.length_map, List.length_append, maxLen_eq]; omega)) ?_); (try (with_reducible refine hK _ ?_; skip)); (try with_reducible refine ite_conj ?_)))
              refine ⟨_, variable_a _, ?_⟩
              repeat' (first | (with_reducible first | refine Wa ?_ | refine Wb ?_ | refine Wc ?_ | refine Wd ?_ | refine We ?_ | refine Wf ?_ | refine Wg ?_ | refine Wh ?_ | refine Wi ?_ | refine Wj ?_ | refine Wk (by decide) ?_ | refine Wl ?_ | refine Wm ?_ | refine Wn ?_) | ((with_reducible first | refine Wo (fun K hK => ?_) | refine Wq ?_ | refine Wr ?_); (try simp only [go_sem, List.forall_mem_nil, ↓guard_ite, ↓pick_ite, seval, encT_eq, inR_i64, hv, hw]); (repeat with_reducible refine And.intro (by first | omega | (with_reducible first | exact lens_encT | exact lens_encL | exact lens_encB | exact lens_encP) | (simp; done) | (simp only [List.length_take, List.length_map, List.length_append, maxLen_eq]; omega)) ?_); (try (with_reducible refine hK _ ?_; skip))))
              with_reducible refine Wp ?_
              simp only [go_sem, List.forall_mem_nil, ↓guard_ite, ↓pick_ite, seval, true_implies, false_implies, implies_true, decide_eq_true_eq, decide_eq_false_iff_not, Int.ofNat_lt]
              (try with_reducible refine ite_conj ?_)
              refine IWP.mid (fun x => ∃ u t, Turned U s p u t ∧ isVar u.name = true ∧ x.env 4 = .one (.row 500 s.length) ∧ x.env 5 = .one (.part 501 l.length xs.length) ∧ x.env 8 = .one (.ptr 8 1 0 0) ∧ x.env 10 = .one (.ptr 10 1 0 0) ∧ x.S 500 = some (rowBd s) ∧ x.S 501 = some (.mrow 51 4 xs) ∧ x.S 8 = some (boxT u) ∧ x.S 10 = some (boxT t)) ?_ rest
              repeat' (first | (with_reducible first | refine Wa ?_ | refine Wb ?_ | refine Wc ?_ | refine Wd ?_ | refine We ?_ | refine Wf ?_ | refine Wg ?_ | refine Wh ?_ | refine Wi ?_ | refine Wj ?_ | refine Wk (by decide) ?_ | refine Wl ?_ | refine Wm ?_ | refine Wn ?_) | ((with_reducible first | refine Wo (fun K hK => ?_) | refine Wp ?_ | refine Wq ?_ | refine Wr ?_); (try simp only [go_sem, List.forall_mem_nil, ↓guard_ite, ↓pick_ite, seval, encT_eq, inR_i64, decide_eq_true_eq, decide_eq_false_iff_not, Int.ofNat_lt]); (repeat with_reducible refine And.intro (by first | omega | (with_reducible first | exact lens_encT | exact lens_encL | exact lens_encB | exact lens_encP) | (simp; done) | (simp only [List.length_take, List.length_map, List.length_append, maxLen_eq]; omega)) ?_); (try (with_reducible refine hK _ ?_; skip)); (try with_reducible refine ite_conj ?_)))
              refine ⟨_, variable_a _, ?_⟩
              repeat' (first | (with_reducible first | refine Wa ?_ | refine Wb ?_ | refine Wc ?_ | refine Wd ?_ | refine We ?_ | refine Wf ?_ | refine Wg ?_ | refine Wh ?_ | refine Wi ?_ | refine Wj ?_ | refine Wk (by decide) ?_ | refine Wl ?_ | refine Wm ?_ | refine Wn ?_) | ((with_reducible first | refine Wo (fun K hK => ?_) | refine Wp ?_ | refine Wq ?_ | refine Wr ?_); (try simp only [go_sem, List.forall_mem_nil, ↓guard_ite, ↓pick_ite, seval, encT_eq, inR_i64, hv, decide_eq_true_eq, decide_eq_false_iff_not, Int.ofNat_lt]); (repeat with_reducible refine And.intro (by first | omega | (with_reducible first | exact lens_encT | exact lens_encL | exact lens_encB | exact lens_encP) | (simp; done) | (simp only [List.length_take, List.length_map, List.length_append, maxLen_eq]; omega)) ?_); (try (with_reducible refine hK _ ?_; skip)); (try with_reducible refine ite_conj ?_)))
              refine ⟨rfl, _, _, turned_b hta htb hv hw, hw, ?_⟩
              simp only [go_sem, List.forall_mem_nil, ↓guard_ite, ↓pick_ite, seval, encT_eq, inR_i64, e4, s500, s501]
          clear e4 e5 s500 s501 s7 s8 s10
          rintro ⟨env, S⟩ ⟨u, t, ⟨hu, ht, hst⟩, hv, e4, e5, e8, e10, s500, s501, s8, s10⟩
          simp only at e4 e5 e8 e10 s500 s501 s8 s10
          have hst : stepU s p = bindV s u.name t := by
            rcases hst with ⟨_, h⟩ | ⟨h, _⟩
            · exact h
            · rw [hv] at h; cases h
          rw [hst] at hinv
          repeat' (first | (with_reducible first | refine Wa ?_ | refine Wb ?_ | refine Wc ?_ | refine Wd ?_ | refine We ?_ | refine Wf ?_ | refine Wg ?_ | refine Wh ?_ | refine Wi ?_ | refine Wj ?_ | refine Wk (by decide) ?_ | refine Wl ?_ | refine Wm ?_ | refine Wn ?_) | ((with_reducible first | refine Wo (fun K hK => ?_) | refine Wp ?_ | refine Wq ?_ | refine Wr ?_); (try simp only [go_sem, List.forall_mem_nil, ↓guard_ite, ↓pick_ite, seval, encT_eq, inR_i64, e4, e5, e8, e10, s500, s501, s8, s10, decide_eq_true_eq, decide_eq_false_iff_not, Int.ofNat_lt]); (repeat with_reducible refine And.intro (by first | omega | (with_reducible first | exact lens_encT | exact lens_encL | exact lens_encB | exact lens_encP) | (simp; done) | (simp only [List.length_take, List.length_map, List.length_append, maxLen_eq]; omega)) ?_); (try (with_reducible refine hK _ ?_; clear hK K)); (try with_reducible refine ite_conj ?_)))
          refine ⟨_, occurs_a u.name t, ?_⟩
          cases ho : occ u.name t with
          | true =>
            have hbv : bindV s u.name t = .err 6 := by unfold bindV; rw [if_pos ho]
            repeat' (first | (with_reducible first | refine Wa ?_ | refine Wb ?_ | refine Wc ?_ | refine Wd ?_ | refine We ?_ | refine Wf ?_ | refine Wg ?_ | refine Wh ?_ | refine Wi ?_ | refine Wj ?_ | refine Wk (by decide) ?_ | refine Wl ?_ | refine Wm ?_ | refine Wn ?_) | ((with_reducible first | refine Wo (fun K hK => ?_) | refine Wp ?_ | refine Wq ?_ | refine Wr ?_); (try simp only [go_sem, List.forall_mem_nil, ↓guard_ite, ↓pick_ite, seval, encT_eq, inR_i64, ho, decide_eq_true_eq, decide_eq_false_iff_not, Int.ofNat_lt]); (repeat with_reducible refine And.intro (by first | omega | (with_reducible first | exact lens_encT | exact lens_encL | exact lens_encB | exact lens_encP) | (simp; done) | (simp only [List.length_take, List.length_map, List.length_append, maxLen_eq]; omega)) ?_); (try (with_reducible refine hK _ ?_; clear hK K)); (try with_reducible refine ite_conj ?_)))
            simp only [go_sem, List.forall_mem_nil, ↓guard_ite, ↓pick_ite, seval, FinQ, AS.result, resAll, resOne, tupV]
            rcases hinv with ⟨e, h1, rfl⟩ | ⟨s', ps, q, h1, _⟩
            · rw [hbv] at h1
              cases h1
              rfl
            · rw [hbv] at h1
              cases h1
          | false =>
            repeat' (first | (with_reducible first | refine Wa ?_ | refine Wb ?_ | refine Wc ?_ | refine Wd ?_ | refine We ?_ | refine Wf ?_ | refine Wg ?_ | refine Wh ?_ | refine Wi ?_ | refine Wj ?_ | refine Wk (by decide) ?_ | refine Wl ?_ | refine Wm ?_ | refine Wn ?_) | ((with_reducible first | refine Wo (fun K hK => ?_) | refine Wp ?_ | refine Wq ?_ | refine Wr ?_); (try simp only [go_sem, List.forall_mem_nil, ↓guard_ite, ↓pick_ite, seval, encT_eq, inR_i64, ho, e4, e5, e8, e10, s500, s501, s8, s10, decide_eq_true_eq, decide_eq_false_iff_not, Int.ofNat_lt]); (repeat with_reducible refine And.intro (by first | omega | (with_reducible first | exact lens_encT | exact lens_encL | exact lens_encB | exact lens_encP) | (simp; done) | (simp only [List.length_take, List.length_map, List.length_append, maxLen_eq]; omega)) ?_); (try (with_reducible refine hK _ ?_; clear hK K)); (try with_reducible refine ite_conj ?_)))
            refine IWP.loop (fun m x => ∃ i, i ≤ s.length ∧ m = s.length - i ∧ (∀ c ∈ s.take i, (c.2.on [(u.name, t)]).size ≤ 2000) ∧ x.env 4 = .one (.row 500 s.length) ∧ x.env 5 = .one (.part 501 l.length xs.length) ∧ x.env 12 = .one (.full [encB (u.name, t)]) ∧ x.env 121 = aInt s.length ∧ x.env 122 = aInt i ∧ x.S 500 = some (rowBd (halfOn s u.name t i)) ∧ x.S 501 = some (.mrow 51 4 xs)) s.length ⟨0, Nat.zero_le _, rfl, by simp, ?_⟩ ?_
            · simp only [go_sem, List.forall_mem_nil, ↓guard_ite, ↓pick_ite, seval, encT_eq, inR_i64, e4, e5, s500, s501, encB]
              rfl
            rintro mm ⟨env, S⟩ ⟨i, hi, rfl, h20, e4, e5, e12, e121, e122, s500, s501⟩
            simp only at e4 e5 e12 e121 e122 s500 s501
            have hhl := halfOn_len s u.name t i
            by_cases hlt : (i : Int) < s.length
            · have hlt' : i < s.length := by omega
              obtain ⟨b, hb⟩ := get_lt hlt'
              have hbz := hg.siz b (mem_of_get hb)
              have hbh := halfOn_get (x := u.name) (t := t) hb
              have hone : ∀ c ∈ ([(u.name, t)] : List Bd), isVar c.1 = true := by simp [hv]
              repeat' (first | (with_reducible first | refine Wa ?_ | refine Wb ?_ | refine Wc ?_ | refine Wd ?_ | refine We ?_ | refine Wf ?_ | refine Wg ?_ | refine Wh ?_ | refine Wi ?_ | refine Wj ?_ | refine Wk (by decide) ?_ | refine Wl ?_ | refine Wm ?_ | refine Wn ?_) | ((with_reducible first | refine Wo (fun K hK => ?_) | refine Wp ?_ | refine Wq ?_ | refine Wr ?_); (try simp only [go_sem, List.forall_mem_nil, ↓guard_ite, ↓pick_ite, seval, encT_eq, inR_i64, e4, e5, e12, e121, e122, s500, s501, hlt, hlt', hhl, hbh, encB, decide_eq_true_eq, decide_eq_false_iff_not, Int.ofNat_lt]); (repeat with_reducible refine And.intro (by first | omega | (with_reducible first | exact lens_encT | exact lens_encL | exact lens_encB | exact lens_encP) | (simp; done) | (simp only [List.length_take, List.length_map, List.length_append, maxLen_eq]; omega)) ?_); (try (with_reducible refine hK _ ?_; clear hK K)); (try with_reducible refine ite_conj ?_)))
              refine ⟨_, onP_a [(u.name, t)] (by simp) (List.pairwise_singleton _ _) b.2 hone (hg.chk b (mem_of_get hb)), ?_⟩
              by_cases hz : (b.2.on [(u.name, t)]).size ≤ 2000
              · have hon : onTo [(u.name, t)] b.2 = (b.2.on [(u.name, t)], true) := by unfold onTo; rw [if_pos hz]
                repeat' (first | (with_reducible first | refine Wa ?_ | refine Wb ?_ | refine Wc ?_ | refine Wd ?_ | refine We ?_ | refine Wf ?_ | refine Wg ?_ | refine Wh ?_ | refine Wi ?_ | refine Wj ?_ | refine Wk (by decide) ?_ | refine Wl ?_ | refine Wm ?_ | refine Wn ?_) | ((with_reducible first | refine Wo (fun K hK => ?_) | refine Wp ?_ | refine Wq ?_ | refine Wr ?_); (try simp only [go_sem, List.forall_mem_nil, ↓guard_ite, ↓pick_ite, seval, encT_eq, inR_i64, hon, e4, e5, e12, e121, e122, s500, s501, hlt, hlt', hhl, hbh, encB, decide_eq_true_eq, decide_eq_false_iff_not, Int.ofNat_lt]); (repeat with_reducible refine And.intro (by first | omega | (with_reducible first | exact lens_encT | exact lens_encL | exact lens_encB | exact lens_encP) | (simp; done) | (simp only [List.length_take, List.length_map, List.length_append, maxLen_eq]; omega)) ?_); (try (with_reducible refine hK _ ?_; clear hK K)); (try with_reducible refine ite_conj ?_)))
                refine then_normal ⟨s.length - (i + 1), by omega, i + 1, by omega, rfl, fun c hc => ?_, ?_⟩
                · rw [take_snoc hb] at hc
                  rcases List.mem_append.1 hc with hc | hc
                  · exact h20 c hc
                  · rw [List.mem_singleton.1 hc]; exact hz
                · simp only [go_sem, List.forall_mem_nil, ↓guard_ite, ↓pick_ite, seval, encT_eq, inR_i64, e4, e5, e12, e121, e122, s500, s501]
                  refine ⟨rfl, by congr 3, ?_⟩
                  show ABlk.mrow _ _ (((halfOn s u.name t i).map encB).set i (encB (b.1, b.2.on [(u.name, t)]))) = _
                  rw [← List.map_set, halfOn_set hb]
              · have hon : onTo [(u.name, t)] b.2 = (Tm.nil, false) := by unfold onTo; rw [if_neg hz]
                have hbv : bindV s u.name t = .err 8 := by
                  unfold bindV
                  rw [if_neg (by rw [ho]; simp), if_neg]
                  intro hall
                  have := List.all_eq_true.1 hall b (mem_of_get hb)
                  exact hz (by simpa using this)
                repeat' (first | (with_reducible first | refine Wa ?_ | refine Wb ?_ | refine Wc ?_ | refine Wd ?_ | refine We ?_ | refine Wf ?_ | refine Wg ?_ | refine Wh ?_ | refine Wi ?_ | refine Wj ?_ | refine Wk (by decide) ?_ | refine Wl ?_ | refine Wm ?_ | refine Wn ?_) | ((with_reducible first | refine Wo (fun K hK => ?_) | refine Wp ?_ | refine Wq ?_ | refine Wr ?_); (try simp only [go_sem, List.forall_mem_nil, ↓guard_ite, ↓pick_ite, seval, encT_eq, inR_i64, hon, e4, e5, e12, e121, e122, s500, s501, hlt, hlt', hhl, hbh, encB, decide_eq_true_eq, decide_eq_false_iff_not, Int.ofNat_lt]); (repeat with_reducible refine And.intro (by first | omega | (with_reducible first | exact lens_encT | exact lens_encL | exact lens_encB | exact lens_encP) | (simp; done) | (simp only [List.length_take, List.length_map, List.length_append, maxLen_eq]; omega)) ?_); (try (with_reducible refine hK _ ?_; clear hK K)); (try with_reducible refine ite_conj ?_)))
                simp only [go_sem, List.forall_mem_nil, ↓guard_ite, ↓pick_ite, seval, FinQ, AS.result, resAll, resOne, tupV]
                rcases hinv with ⟨e, h1, rfl⟩ | ⟨s', ps, q, h1, _⟩
                · rw [hbv] at h1
                  cases h1
                  rfl
                · rw [hbv] at h1
                  cases h1
            · obtain rfl : i = s.length := by omega
              rw [List.take_of_length_le (Nat.le_refl _)] at h20
              rw [halfOn_all] at s500
              have hbv : bindV s u.name t = .go (sortB (s.map (fun b => (b.1, b.2.on [(u.name, t)])) ++ [(u.name, t)])) [] := by
                unfold bindV
                rw [if_neg (by rw [ho]; simp), if_pos]
                exact List.all_eq_true.2 fun b hb => by simpa using h20 b hb
              obtain ⟨hg', _⟩ := step_good hg (hst.trans hbv)
              rcases hinv with ⟨e, h1, _⟩ | ⟨s', ps, q, h1, h2, h3⟩
              · rw [hbv] at h1
                cases h1
              rw [hbv] at h1
              cases h1
              have hnamed := named_perm (sortB_perm _) (ordered_named hg'.ord)
              have hL : (s.map (fun b => (b.1, b.2.on [(u.name, t)]))).map encB ++ [[SV.str u.name, SV.str t.name, SV.list (t.args.map encT)]] = (s.map (fun b => (b.1, b.2.on [(u.name, t)])) ++ [(u.name, t)]).map encB := by
                rw [List.map_append]
                rfl
              have hLl : (s.map (fun b => (b.1, b.2.on [(u.name, t)])) ++ [(u.name, t)]).length = s.length + 1 := by simp
              have hsort := fun S h => sort_M _ hnamed (by omega) (up1 500) (up1_le 500) S h
              have hsl2 := sortB_length (s.map (fun b => (b.1, b.2.on [(u.name, t)])) ++ [(u.name, t)])
              rw [hLl] at hsort hsl2
              repeat' (first | (with_reducible first | refine Wa ?_ | refine Wb ?_ | refine Wc ?_ | refine Wd ?_ | refine We ?_ | refine Wf ?_ | refine Wg ?_ | refine Wh ?_ | refine Wi ?_ | refine Wj ?_ | refine Wk (by decide) ?_ | refine Wl ?_ | refine Wm ?_ | refine Wn ?_) | ((with_reducible first | refine Wo (fun K hK => ?_) | refine Wp ?_ | refine Wq ?_ | refine Wr ?_); (try simp only [go_sem, List.forall_mem_nil, ↓guard_ite, ↓pick_ite, seval, encT_eq, inR_i64, e4, e5, e12, e121, e122, s500, s501, hlt, encB, decide_eq_true_eq, decide_eq_false_iff_not, Int.ofNat_lt]); (repeat with_reducible refine And.intro (by first | omega | (with_reducible first | exact lens_encT | exact lens_encL | exact lens_encB | exact lens_encP) | (simp; done) | (simp only [List.length_take, List.length_map, List.length_append, maxLen_eq]; omega)) ?_); (try (with_reducible refine hK _ ?_; clear hK K)); (try with_reducible refine ite_conj ?_)))
              rw [hL]
              refine ⟨_, _, hsort _ (by rw [upS_up, updE_same]; rfl), ?_⟩
              repeat' (first | (with_reducible first | refine Wa ?_ | refine Wb ?_ | refine Wc ?_ | refine Wd ?_ | refine We ?_ | refine Wf ?_ | refine Wg ?_ | refine Wh ?_ | refine Wi ?_ | refine Wj ?_ | refine Wk (by decide) ?_ | refine Wl ?_ | refine Wm ?_ | refine Wn ?_) | ((with_reducible first | refine Wo (fun K hK => ?_) | refine Wp ?_ | refine Wq ?_ | refine Wr ?_); (try simp only [go_sem, List.forall_mem_nil, ↓guard_ite, ↓pick_ite, seval, encT_eq, inR_i64, e5, s501, decide_eq_true_eq, decide_eq_false_iff_not, Int.ofNat_lt]); (repeat with_reducible refine And.intro (by first | omega | (with_reducible first | exact lens_encT | exact lens_encL | exact lens_encB | exact lens_encP) | (simp; done) | (simp only [List.length_take, List.length_map, List.length_append, maxLen_eq]; omega)) ?_); (try (with_reducible refine hK _ ?_; clear hK K)); (try with_reducible refine ite_conj ?_)))
              refine then_normal ⟨q, h2, _, l, xs, h3, hg', hstk', ?_⟩
              simp only [go_sem, List.forall_mem_nil, ↓guard_ite, ↓pick_ite, seval, AS.drop, dropS, AC.clears, AC.clear, AC.highs, AC.high, Bool.not_false, Bool.true_and, Bool.and_self, AV.purge, AV.purges, AC.purge, ABlk.purge, List.contains_cons, List.contains_nil, Nat.reduceBEq, Bool.or_self, Bool.or_false, Bool.false_or, Bool.or_true, encT_eq, inR_i64, e5, s501, hsl2]
        · -- two knots
          have hv : isVar (p.1.on s).name = false := by
            cases h : isVar (p.1.on s).name with
            | false => rfl
            | true => exact absurd (.inl h) hvv
          have hw : isVar (p.2.on s).name = false := by
            cases h : isVar (p.2.on s).name with
            | false => rfl
            | true => exact absurd (.inr h) hvv
          have hst : stepU s p = if (p.1.on s).name = (p.2.on s).name ∧ (p.1.on s).args.length = (p.2.on s).args.length then .go s ((p.1.on s).args.zip (p.2.on s).args) else .err 5 := by
            unfold stepU
            rw [if_neg (by omega), if_neg hsame, if_neg (by rw [hv]; simp), if_neg (by rw [hw]; simp)]
          rw [hst] at hinv
          have huk := Tm.length_le (p.1.on s).args
          have hus := Tm.size_eq (p.1.on s)
          have htk := Tm.length_le (p.2.on s).args
          have hts := Tm.size_eq (p.2.on s)
          by_cases hsame2 : (p.1.on s).name = (p.2.on s).name ∧ (p.1.on s).args.length = (p.2.on s).args.length
          · rw [if_pos hsame2] at hst hinv
            obtain ⟨hg', _⟩ := step_good hg hst
            rcases hinv with ⟨e, h1, _⟩ | ⟨s', ps, q, h1, h2, h3⟩
            · cases h1
            cases h1
            repeat' (first | (with_reducible first | refine Wa ?_ | refine Wb ?_ | refine Wc ?_ | refine Wd ?_ | refine We ?_ | refine Wf ?_ | refine Wg ?_ | refine Wh ?_ | refine Wi ?_ | refine Wj ?_ | refine Wk (by decide) ?_ | refine Wl ?_ | refine Wm ?_ | refine Wn ?_) | refine CallG.mk _ (variable_a _) ?_ | ((with_reducible first | refine Wo (fun K hK => ?_) | refine Wp ?_ | refine Wq ?_ | refine Wr ?_); (try simp only [go_sem, List.forall_mem_nil, ↓guard_ite, ↓pick_ite, seval, encT_eq, inR_i64, hv, hw, e4, e5, s500, s501, hsame2.1, hsame2.2, decide_eq_true_eq, decide_eq_false_iff_not, Int.ofNat_lt]); (repeat with_reducible refine And.intro (by first | omega | (with_reducible first | exact lens_encT | exact lens_encL | exact lens_encB | exact lens_encP) | (simp; done) | (simp only [List.length_take, List.length_map, List.length_append, maxLen_eq]; omega)) ?_); (try (with_reducible refine hK _ ?_; clear hK K)); (try with_reducible refine ite_conj ?_)))
            have hzl : ((p.1.on s).args.zip (p.2.on s).args).length = (p.2.on s).args.length := by rw [List.length_zip, hsame2.2, Nat.min_self]
            refine IWP.loop (fun m x => ∃ (k : Nat) (xs : List (List SV)) (n1 n2 : ByteArray), k ≤ (p.2.on s).args.length ∧ m = k ∧ Stk xs (((p.1.on s).args.zip (p.2.on s).args).drop k ++ l) ∧ x.env 4 = .one (.row 500 s.length) ∧ x.env 5 = .one (.part 501 (((p.1.on s).args.zip (p.2.on s).args).drop k ++ l).length xs.length) ∧ x.env 8 = .one (.ptr 8 1 0 0) ∧ x.env 10 = .one (.ptr 10 1 0 0) ∧ x.env 14 = .one (.st (.int .i64 ((k : Int) - 1))) ∧ x.S 500 = some (rowBd s) ∧ x.S 501 = some (.mrow 51 4 xs) ∧
                x.S 8 = some (.box 24 [.st (.str n1), .st (.list ((p.1.on s).args.map encT))]) ∧ x.S 10 = some (.box 24 [.st (.str n2), .st (.list ((p.2.on s).args.map encT))])) (p.2.on s).args.length ⟨(p.2.on s).args.length, xs, (p.2.on s).name, (p.2.on s).name, Nat.le_refl _, rfl, ?_⟩ ?_
            · rw [← hzl, List.drop_length, hzl]
              refine ⟨hstk', ?_⟩
              simp only [go_sem, List.forall_mem_nil, ↓guard_ite, ↓pick_ite, seval, encT_eq, inR_i64, e4, s500, s501, hsame2.1]
            rintro k ⟨env, S⟩ ⟨_, xs, n1, n2, hk, rfl, hstk, e4, e5, e8, e10, e14, s500, s501, s8, s10⟩
            simp only at e4 e5 e8 e10 e14 s500 s501 s8 s10
            by_cases hk0 : 0 ≤ (k : Int) - 1
            · obtain ⟨k, rfl⟩ : ∃ q, k = q + 1 := ⟨k - 1, by omega⟩
              obtain ⟨x, hx⟩ := get_lt (show k < (p.1.on s).args.length by omega)
              obtain ⟨y, hy⟩ := get_lt (show k < (p.2.on s).args.length by omega)
              have hxy : ((p.1.on s).args.zip (p.2.on s).args)[k]? = some (x, y) := List.getElem?_zip_eq_some.2 ⟨hx, hy⟩
              have hz : (((k + 1 : Nat) : Int) - 1).toNat = k := by omega
              have hdl : (((p.1.on s).args.zip (p.2.on s).args).drop (k + 1) ++ l).length ≤ 100000002000 := by rw [List.length_append, List.length_drop, hzl]; omega
              generalize hD : ((p.1.on s).args.zip (p.2.on s).args).drop (k + 1) ++ l = D at *
              repeat' (first | (with_reducible first | refine Wa ?_ | refine Wb ?_ | refine Wc ?_ | refine Wd ?_ | refine We ?_ | refine Wf ?_ | refine Wg ?_ | refine Wh ?_ | refine Wi ?_ | refine Wj ?_ | refine Wk (by decide) ?_ | refine Wl ?_ | refine Wm ?_ | refine Wn ?_) | ((with_reducible first | refine Wo (fun K hK => ?_) | refine Wp ?_ | refine Wq ?_ | refine Wr ?_); (try simp only [go_sem, List.forall_mem_nil, ↓guard_ite, ↓pick_ite, seval, encT_eq, inR_i64, e4, e5, e8, e10, e14, s500, s501, s8, s10, hk0, hz, hx, hy, decide_eq_true_eq, decide_eq_false_iff_not, Int.ofNat_lt]); (repeat with_reducible refine And.intro (by first | omega | (with_reducible first | exact lens_encT | exact lens_encL | exact lens_encB | exact lens_encP) | (simp; done) | (simp only [List.length_take, List.length_map, List.length_append, maxLen_eq]; omega)) ?_); (try (with_reducible refine hK _ ?_; clear hK K)); (try with_reducible refine ite_conj ?_)))
              have hcons : ((p.1.on s).args.zip (p.2.on s).args).drop k ++ l = (x, y) :: D := by rw [drop_get hxy, List.cons_append, hD]
              have hDl : (((p.1.on s).args.zip (p.2.on s).args).drop k).length + l.length = D.length + 1 := by rw [← List.length_append, hcons, List.length_cons]
              refine then_normal ⟨k, by omega, k, _, n1, n2, by omega, rfl, by rw [hcons]; exact hstk.push (x, y), ?_⟩
              have hpl : (List.take D.length xs).length + 1 + (List.drop (D.length + 1) xs).length = if xs.length ≤ D.length + 1 then D.length + 1 else xs.length := by
                have := hstk.pushLen (x, y)
                simpa only [List.length_append, List.length_cons, List.length_nil, Nat.zero_add] using this
              simp only [go_sem, List.forall_mem_nil, ↓guard_ite, ↓pick_ite, seval, encT_eq, inR_i64, e4, e5, e8, e10, e14, s500, s501, s8, s10, hDl, hpl]
              refine ⟨?_, rfl⟩
              congr 3
              omega
            · obtain rfl : k = 0 := by omega
              rw [List.drop_zero] at hstk e5
              repeat' (first | (with_reducible first | refine Wa ?_ | refine Wb ?_ | refine Wc ?_ | refine Wd ?_ | refine We ?_ | refine Wf ?_ | refine Wg ?_ | refine Wh ?_ | refine Wi ?_ | refine Wj ?_ | refine Wk (by decide) ?_ | refine Wl ?_ | refine Wm ?_ | refine Wn ?_) | ((with_reducible first | refine Wo (fun K hK => ?_) | refine Wp ?_ | refine Wq ?_ | refine Wr ?_); (try simp only [go_sem, List.forall_mem_nil, ↓guard_ite, ↓pick_ite, seval, encT_eq, inR_i64, e4, e5, e14, hk0, decide_eq_true_eq, decide_eq_false_iff_not, Int.ofNat_lt]); (repeat with_reducible refine And.intro (by first | omega | (with_reducible first | exact lens_encT | exact lens_encL | exact lens_encB | exact lens_encP) | (simp; done) | (simp only [List.length_take, List.length_map, List.length_append, maxLen_eq]; omega)) ?_); (try (with_reducible refine hK _ ?_; clear hK K)); (try with_reducible refine ite_conj ?_)))
              refine then_normal ⟨q, h2, s, _, xs, h3, hg', hstk, ?_⟩
              simp only [go_sem, List.forall_mem_nil, ↓guard_ite, ↓pick_ite, seval, AS.drop, dropS, AC.clears, AC.clear, AC.highs, AC.high, Bool.not_false, Bool.true_and, Bool.and_self, AV.purge, AV.purges, AC.purge, ABlk.purge, List.contains_cons, List.contains_nil, Nat.reduceBEq, Bool.or_self, Bool.or_false, Bool.false_or, Bool.or_true, encT_eq, inR_i64, e4, e5, s500, s501]
          · rw [if_neg hsame2] at hst hinv
            by_cases hn : (p.1.on s).name = (p.2.on s).name
            · have hl : ¬ ((p.1.on s).args.length : Int) = (p.2.on s).args.length := fun h => hsame2 ⟨hn, by omega⟩
              repeat' (first | (with_reducible first | refine Wa ?_ | refine Wb ?_ | refine Wc ?_ | refine Wd ?_ | refine We ?_ | refine Wf ?_ | refine Wg ?_ | refine Wh ?_ | refine Wi ?_ | refine Wj ?_ | refine Wk (by decide) ?_ | refine Wl ?_ | refine Wm ?_ | refine Wn ?_) | refine CallG.mk _ (variable_a _) ?_ | ((with_reducible first | refine Wo (fun K hK => ?_) | refine Wp ?_ | refine Wq ?_ | refine Wr ?_); (try simp only [go_sem, List.forall_mem_nil, ↓guard_ite, ↓pick_ite, seval, encT_eq, inR_i64, hv, hw, e4, e5, hn, hl, decide_eq_true_eq, decide_eq_false_iff_not, Int.ofNat_lt]); (repeat with_reducible refine And.intro (by first | omega | (with_reducible first | exact lens_encT | exact lens_encL | exact lens_encB | exact lens_encP) | (simp; done) | (simp only [List.length_take, List.length_map, List.length_append, maxLen_eq]; omega)) ?_); (try (with_reducible refine hK _ ?_; clear hK K)); (try with_reducible refine ite_conj ?_)))
              simp only [go_sem, List.forall_mem_nil, ↓guard_ite, ↓pick_ite, seval, FinQ, AS.result, resAll, resOne, tupV]
              rcases hinv with ⟨e, h1, rfl⟩ | ⟨s', ps, q, h1, _⟩
              · cases h1
                rfl
              · cases h1
            · repeat' (first | (with_reducible first | refine Wa ?_ | refine Wb ?_ | refine Wc ?_ | refine Wd ?_ | refine We ?_ | refine Wf ?_ | refine Wg ?_ | refine Wh ?_ | refine Wi ?_ | refine Wj ?_ | refine Wk (by decide) ?_ | refine Wl ?_ | refine Wm ?_ | refine Wn ?_) | refine CallG.mk _ (variable_a _) ?_ | ((with_reducible first | refine Wo (fun K hK => ?_) | refine Wp ?_ | refine Wq ?_ | refine Wr ?_); (try simp only [go_sem, List.forall_mem_nil, ↓guard_ite, ↓pick_ite, seval, encT_eq, inR_i64, hv, hw, e4, e5, hn, decide_eq_true_eq, decide_eq_false_iff_not, Int.ofNat_lt]); (repeat with_reducible refine And.intro (by first | omega | (with_reducible first | exact lens_encT | exact lens_encL | exact lens_encB | exact lens_encP) | (simp; done) | (simp only [List.length_take, List.length_map, List.length_append, maxLen_eq]; omega)) ?_); (try (with_reducible refine hK _ ?_; clear hK K)); (try with_reducible refine ite_conj ?_)))
              simp only [go_sem, List.forall_mem_nil, ↓guard_ite, ↓pick_ite, seval, FinQ, AS.result, resAll, resOne, tupV]
              rcases hinv with ⟨e, h1, rfl⟩ | ⟨s', ps, q, h1, _⟩
              · cases h1
                rfl
              · cases h1
end Go.Proofs.Ytohgkbgpcnmdpaa

namespace Go.Proofs.Ytohgkbgpcnmdpaa
open Go Go.RowKit
set_option linter.unusedVariables false
set_option linter.unusedSimpArgs false
set_option maxHeartbeats 800000
theorem uends_err {n : Nat} {s : List Bd} {l : List Pr} {r : List Bd × Int} (h : UEnds n s l r) : r.2 ≠ 0 → r.1 = [] := by
  induction h with
  | nil => intro h; exact absurd rfl h
  | err _ => intro _; rfl
  | go _ _ ih => exact ih
def namesOf (l : List Pr) : List ByteArray := l.flatMap fun p => (p.1.knots ++ p.2.knots).map (·.name)
theorem namesOf_len {l : List Pr} (h : ∀ p ∈ l, p.1.size ≤ 200 ∧ p.2.size ≤ 200) : (namesOf l).length ≤ 400 * l.length := by
  unfold namesOf
  induction l with
  | nil => simp
  | cons p l ih =>
    have := ih fun q hq => h q (by simp [hq])
    have h1 := h p (by simp)
    rw [List.flatMap_cons, List.length_append, List.length_map, List.length_append, Tm.knots_length, Tm.knots_length, List.length_cons]
    omega
theorem fits_start (v : Nat) (hv : v ≤ 16000) (s : List Bd) : ∀ (l : List Pr), l.length ≤ 40 → Fits 100000000000 v s l
  | [], _ => trivial
  | p :: l, h => by
    rw [List.length_cons] at h
    have := Nat.min_le_right (p.1.on s).size 2000
    exact ⟨by omega, fits_start v hv s l (by omega)⟩
theorem good_start {l : List Pr} (h : pairsMay l = 0) : (namesOf l).length ≤ 20000 ∧ UGood (namesOf l) 100000000000 [] l := by
  obtain ⟨h1, h2⟩ := pairsMay_zero h
  have hc : ∀ p ∈ l, (p.1.chk = 0 ∧ p.1.size ≤ 200) ∧ (p.2.chk = 0 ∧ p.2.size ≤ 200) := fun p hp => ⟨Tm.may_chk (h2 p hp).1, Tm.may_chk (h2 p hp).2⟩
  have hlen := namesOf_len fun p hp => ⟨(hc p hp).1.2, (hc p hp).2.2⟩
  refine ⟨by omega, ⟨List.Pairwise.nil, by simp, by simp, by simp, by simp, by simp, by simp, fun p hp => ⟨(hc p hp).1.1, (hc p hp).2.1⟩, fun p hp y => ⟨fun hy => ?_, fun hy => ?_⟩, fun p hp => ?_, fits_start _ (by simp; omega) [] l h1⟩⟩
  · unfold occ at hy
    obtain ⟨k, hk, e⟩ := List.any_eq_true.1 hy
    exact List.mem_flatMap.2 ⟨p, hp, List.mem_map.2 ⟨k, by simp [hk], by simpa using e⟩⟩
  · unfold occ at hy
    obtain ⟨k, hk, e⟩ := List.any_eq_true.1 hy
    exact List.mem_flatMap.2 ⟨p, hp, List.mem_map.2 ⟨k, by simp [hk], by simpa using e⟩⟩
  · have := hc p hp
    omega
theorem uends_start {l : List Pr} (h : pairsMay l = 0) : ∃ n r, UEnds n [] l r := uends_all _ _ [] l (good_start h).2 rfl rfl
theorem unify_yes {l : List Pr} (h : pairsMay l = 0) {n : Nat} {r : List Bd × Int} (hr : UEnds n [] l r) : ACalls Try.prog 18 [aPrs l] (.tup [aBds r.1, aInt r.2]) := by
  refine ac_unify_Unify (Nat.le_of_ble_eq_true rfl) fun C hC => ?_
  unfold ir_unify_Unify
  repeat' (first | (with_reducible first | refine Wa ?_ | refine Wb ?_ | refine Wc ?_ | refine Wd ?_ | refine We ?_ | refine Wf ?_ | refine Wg ?_ | refine Wh ?_ | refine Wi ?_ | refine Wj ?_ | refine Wk (by decide) ?_ | refine Wl ?_ | refine Wm ?_ | refine Wn ?_) | refine CallG.mk _ (pairsCheck_a l) ?_ | refine CallG.mk _ (solve_a _ (good_start h).1 _ (Nat.le_refl _) n l r hr (good_start h).2) ?_ | ((with_reducible first | refine Wo (fun K hK => ?_) | refine Wp ?_ | refine Wq ?_ | refine Wr ?_); (try simp only [go_sem, List.forall_mem_nil, ↓guard_ite, ↓pick_ite, seval, encT_eq, inR_i64, h, decide_eq_true_eq, decide_eq_false_iff_not, Int.ofNat_lt]); (repeat with_reducible refine And.intro (by first | omega | (with_reducible first | exact lens_encT | exact lens_encL | exact lens_encB | exact lens_encP) | (simp; done) | (simp only [List.length_take, List.length_map, List.length_append, maxLen_eq]; omega)) ?_); (try (with_reducible refine hK _ ?_; clear hK K)); (try with_reducible refine ite_conj ?_)))
  simp only [go_sem, List.forall_mem_nil, ↓guard_ite, ↓pick_ite, seval, FinQ, AS.result, resAll, resOne, tupV]
theorem unify_no {l : List Pr} (h : pairsMay l ≠ 0) : ACalls Try.prog 18 [aPrs l] (.tup [aBds [], aInt (pairsMay l)]) := by
  refine ac_unify_Unify (Nat.le_of_ble_eq_true rfl) fun C hC => ?_
  unfold ir_unify_Unify
  repeat' (first | (with_reducible first | refine Wa ?_ | refine Wb ?_ | refine Wc ?_ | refine Wd ?_ | refine We ?_ | refine Wf ?_ | refine Wg ?_ | refine Wh ?_ | refine Wi ?_ | refine Wj ?_ | refine Wk (by decide) ?_ | refine Wl ?_ | refine Wm ?_ | refine Wn ?_) | refine CallG.mk _ (pairsCheck_a l) ?_ | ((with_reducible first | refine Wo (fun K hK => ?_) | refine Wp ?_ | refine Wq ?_ | refine Wr ?_); (try simp only [go_sem, List.forall_mem_nil, ↓guard_ite, ↓pick_ite, seval, encT_eq, inR_i64, h, decide_eq_true_eq, decide_eq_false_iff_not, Int.ofNat_lt]); (repeat with_reducible refine And.intro (by first | omega | (with_reducible first | exact lens_encT | exact lens_encL | exact lens_encB | exact lens_encP) | (simp; done) | (simp only [List.length_take, List.length_map, List.length_append, maxLen_eq]; omega)) ?_); (try (with_reducible refine hK _ ?_; clear hK K)); (try with_reducible refine ite_conj ?_)))
  simp only [go_sem, List.forall_mem_nil, ↓guard_ite, ↓pick_ite, seval, FinQ, AS.result, resAll, resOne, tupV]
  rfl
end Go.Proofs.Ytohgkbgpcnmdpaa

namespace Go.Proofs.Ytohgkbgpcnmdpaa
open Go Go.RowKit
set_option linter.unusedVariables false
theorem step_err8 {U : List ByteArray} {C : Nat} {s : List Bd} {p : Pr} {l : List Pr} (h : UGood U C s (p :: l)) {θ : List Bd} (hθ : ∀ b ∈ θ, isVar b.1 = true) (hsol : Sol s θ) (hp : p.1.on θ = p.2.on θ) : ∀ e, stepU s p = .err e → e = 8 := by
  intro e hs
  obtain ⟨hc1, hc2⟩ := h.lchk p (by simp)
  have hU := h.lU p (by simp)
  obtain ⟨a1, a2, a3⟩ := onU h hc1 fun y => (hU y).1
  obtain ⟨b1, b2, b3⟩ := onU h hc2 fun y => (hU y).2
  have e1 := sol_on h.var hsol hc1
  have e2 := sol_on h.var hsol hc2
  have heq : (p.1.on s).on θ = (p.2.on s).on θ := by rw [e1, e2, hp]
  have bind : ∀ {x t : Tm}, isVar x.name = true → x.chk = 0 → t.chk = 0 → t.name ≠ x.name → x.on θ = t.on θ → bindV s x.name t = .err e → e = 8 := by
    intro x t hx hxc htc hne hxt hb
    have hxl := tm_leaf ((Tm.chk_args hxc).1 hx)
    rw [hxl] at hxt
    unfold bindV at hb
    split at hb
    · rename_i ho
      have := (occ_size (θ := θ) hx htc ho).2 hne
      rw [hxt] at this
      omega
    · split at hb
      · cases hb
      · cases hb; rfl
  unfold stepU at hs
  split at hs
  · cases hs; rfl
  split at hs
  · cases hs
  rename_i hsame
  split at hs
  · rename_i hv
    exact bind hv a1 b1 (fun e => hsame ⟨hv, e.symm⟩) heq hs
  rename_i hv1
  split at hs
  · rename_i hv
    exact bind hv b1 a1 (fun e => hv1 (by rw [e]; exact hv)) heq.symm hs
  rename_i hv2
  rw [name_on hθ hv1, name_on hθ hv2] at heq
  injection heq with q1 q2
  have q3 := congrArg List.length q2
  rw [List.length_map, List.length_map] at q3
  split at hs
  · cases hs
  · rename_i hno
    exact absurd ⟨q1, q3⟩ hno
theorem none_ok {K : List Tm} (hK : Knots K) {U : List ByteArray} {C : Nat} {θ : List Bd} (hθ : ∀ b ∈ θ, isVar b.1 = true) {n : Nat} {s : List Bd} {l : List Pr} {r : List Bd × Int} (hr : UEnds n s l r) : UGood U C s l → Shared K s l → Sol s θ → (∀ p ∈ l, p.1.on θ = p.2.on θ) → r.2 = 0 := by
  induction hr with
  | nil => exact fun _ _ _ _ => rfl
  | @err s p l e he =>
    intro g h hs hl
    have := step_err8 g hθ hs (hl p (by simp)) e he
    subst this
    exact absurd he (h.step hK g).1
  | @go s p l s' ps n r hst hr ih =>
    intro g h hs hl
    obtain ⟨q1, q2⟩ := (step_sol g hθ hst).1 ⟨hs, hl p (by simp)⟩
    exact ih (step_good g hst).1 ((h.step hK g).2 _ _ hst) q1 fun q hq => by
      rcases List.mem_append.1 hq with hq | hq
      · exact q2 q hq
      · exact hl q (by simp [hq])
theorem err_kinds {n : Nat} {s : List Bd} {l : List Pr} {r : List Bd × Int} (hr : UEnds n s l r) : r.2 = 0 ∨ r.2 = 5 ∨ r.2 = 6 ∨ r.2 = 8 := by
  induction hr with
  | nil => exact .inl rfl
  | go _ _ ih => exact ih
  | @err s p l e he =>
    have hb : ∀ {x : ByteArray} {t : Tm}, bindV s x t = .err e → e = 0 ∨ e = 5 ∨ e = 6 ∨ e = 8 := by
      intro x t hb
      unfold bindV at hb
      split at hb
      · cases hb; simp
      split at hb
      · cases hb
      · cases hb; simp
    unfold stepU at he
    split at he
    · cases he; simp
    split at he
    · cases he
    split at he
    · exact hb he
    split at he
    · exact hb he
    split at he
    · cases he
    · cases he; simp
theorem knot_of : ∀ (N : Nat) (a : Tm), SizeOf.sizeOf a < N → a.chk = 0 → ∀ k ∈ a.knots, k.chk = 0 ∧ k.size ≤ a.size ∧ k.lvs ≤ a.lvs ∧ ∀ x ∈ k.knots, x ∈ a.knots := by
  intro N
  induction N with
  | zero => intro a h; omega
  | succ N ih =>
    intro a hN hc k hk
    rw [Tm.knots_eq] at hk
    rcases List.mem_cons.1 hk with rfl | hk
    · exact ⟨hc, Nat.le_refl _, Nat.le_refl _, fun _ h => h⟩
    · obtain ⟨x, hx, hk⟩ := knL_mem hk
      obtain ⟨h1, h2, h3, h4⟩ := ih x (by have := Tm.lt_of_arg hx; omega) ((Tm.chk_args hc).2 x hx) k hk
      have hlv : ∀ xs : List Tm, x ∈ xs → x.lvs ≤ Tm.lvsL xs := by
        intro xs
        induction xs with
        | nil => intro h; cases h
        | cons y ys ihy =>
          intro h
          rw [Tm.lvsL]
          rcases List.mem_cons.1 h with rfl | h
          · omega
          · have := ihy h; omega
      have hlv2 : Tm.lvsL a.args ≤ a.lvs := by
        cases a with
        | mk n xs =>
          show Tm.lvsL xs ≤ _
          rw [Tm.lvs]
          omega
      have hsz := Tm.size_mem hx
      have hsa := Tm.size_eq a
      have hsub : ∀ z ∈ x.knots, z ∈ a.knots := fun z hz => by
        rw [Tm.knots_eq a]
        refine List.mem_cons_of_mem _ ?_
        have : ∀ xs : List Tm, x ∈ xs → z ∈ Tm.knotsL xs := by
          intro xs
          induction xs with
          | nil => intro h; cases h
          | cons y ys ihy =>
            intro h
            rw [Tm.knotsL, List.mem_append]
            rcases List.mem_cons.1 h with rfl | h
            · exact .inl hz
            · exact .inr (ihy h)
        exact this _ hx
      have := hlv _ hx
      exact ⟨h1, by omega, by omega, fun z hz => hsub z (h4 z hz)⟩
structure MadeN (a : Tm) : Prop where
  chk : a.chk = 0
  siz : a.size ≤ 17
  lvs : a.lvs ≤ 4
  nam : NamesIn 3 a
  noU : NoU a
theorem knots_of {a b : Tm} (ha : MadeN a) (hb : MadeN b) : Knots (a.knots ++ b.knots) := by
  have one : ∀ {c : Tm}, MadeN c → ∀ u ∈ c.knots, (∀ x ∈ u.args, x ∈ c.knots) ∧ u.chk = 0 ∧ u.size ≤ 17 ∧ u.lvs ≤ 4 ∧ ∀ y, occ y u = true → isVar y = true → y ∈ ([⟨#[88]⟩, ⟨#[89]⟩, ⟨#[90]⟩] : List ByteArray) := by
    intro c hc u hu
    obtain ⟨h1, h2, h3, h4⟩ := knot_of _ c (Nat.lt_succ_self _) hc.chk u hu
    have s1 := hc.siz
    have s2 := hc.lvs
    refine ⟨fun x hx => h4 x ?_, h1, by omega, by omega, fun y hy hv => ?_⟩
    · rw [Tm.knots_eq]
      refine List.mem_cons_of_mem _ ?_
      have : ∀ xs : List Tm, x ∈ xs → x ∈ Tm.knotsL xs := by
        intro xs
        induction xs with
        | nil => intro h; cases h
        | cons y ys ihy =>
          intro h
          rw [Tm.knotsL, List.mem_append]
          rcases List.mem_cons.1 h with rfl | h
          · exact .inl (by rw [Tm.knots_eq]; simp)
          · exact .inr (ihy h)
      exact this _ hx
    · unfold occ at hy
      obtain ⟨k, hk, e⟩ := List.any_eq_true.1 hy
      have e : k.name = y := by simpa using e
      subst e
      have k1 := (hc.nam k (h4 k hk)).1
      have k2 := hc.noU k (h4 k hk)
      revert k1 k2 hv
      generalize k.name = z
      intro hv k1 k2
      simp only [names11, List.mem_cons, List.not_mem_nil, or_false] at k1
      rcases k1 with rfl | rfl | rfl | rfl | rfl | rfl | rfl | rfl | rfl | rfl | rfl <;> first | (simp; done) | exact absurd rfl k2 | exact absurd hv (by decide)
  have both : ∀ u ∈ a.knots ++ b.knots, (∀ x ∈ u.args, x ∈ a.knots ++ b.knots) ∧ u.chk = 0 ∧ u.size ≤ 17 ∧ u.lvs ≤ 4 ∧ ∀ y, occ y u = true → isVar y = true → y ∈ ([⟨#[88]⟩, ⟨#[89]⟩, ⟨#[90]⟩] : List ByteArray) := fun u hu => by
    rcases List.mem_append.1 hu with hu | hu
    · obtain ⟨h1, h2⟩ := one ha u hu
      exact ⟨fun x hx => List.mem_append_left _ (h1 x hx), h2⟩
    · obtain ⟨h1, h2⟩ := one hb u hu
      exact ⟨fun x hx => List.mem_append_right _ (h1 x hx), h2⟩
  exact ⟨fun u hu => (both u hu).1, fun u hu => (both u hu).2.1, fun u hu => (both u hu).2.2.1, fun u hu => (both u hu).2.2.2.1, fun u hu => (both u hu).2.2.2.2⟩
theorem none_all {a b : Tm} (ha : MadeN a) (hb : MadeN b) : pairsMay [(a, b)] = 0 ∧ ∃ n r, UEnds n [] [(a, b)] r ∧ (r.2 = 0 ∨ r.2 = 5 ∨ r.2 = 6) ∧
    (r.2 ≠ 0 → ∀ s, OkB s → pairsMay [(a.on s, b.on s)] = 0 → ∀ n' r', UEnds n' [] [(a.on s, b.on s)] r' → r'.2 ≠ 0 ∧ r'.1 = []) := by
  have may : ∀ {c : Tm}, MadeN c → c.may = 0 := fun {c} hc => by
    unfold Tm.may
    rw [if_neg (by have := hc.siz; omega), hc.chk]
  have hpm : pairsMay [(a, b)] = 0 := by
    unfold pairsMay
    rw [if_neg (by simp)]
    simp [pairsErr, twoMay, may ha, may hb]
  refine ⟨hpm, ?_⟩
  obtain ⟨n, r, hr⟩ := uends_start hpm
  have hg := (good_start hpm).2
  have hK := knots_of ha hb
  have hsh : Shared (a.knots ++ b.knots) [] [(a, b)] := ⟨by simp, fun p hp => by
    rw [List.mem_singleton] at hp
    subst hp
    exact ⟨⟨a, List.mem_append_left _ (by rw [Tm.knots_eq]; simp), rfl⟩, b, List.mem_append_right _ (by rw [Tm.knots_eq]; simp), rfl⟩, by simp⟩
  have h8 := none_full hK hr hg hsh
  refine ⟨n, r, hr, by have := err_kinds hr; omega, fun hne s hs hpm2 n' r' hr' => ?_⟩
  have hg2 := (good_start hpm2).2
  have hz : r'.2 ≠ 0 := fun h0 => by
    obtain ⟨g, _, hu⟩ := robin_unifies hr' hg2 h0
    have hu := hu (a.on s, b.on s) (by simp)
    change (a.on s).on r'.1 = (b.on s).on r'.1 at hu
    have hok : OkB r'.1 := ⟨g.ord, g.var, fun c hc => ?_, g.chk⟩
    · rw [← on_composed hs hok ha.chk, ← on_composed hs hok hb.chk] at hu
      have := none_ok hK (composed_ok hs hok).var hr hg hsh (fun b hb => by cases hb) fun p hp => by
        rw [List.mem_singleton] at hp
        subst hp
        exact hu
      exact hne this
    · have := g.inU c hc
      unfold namesOf at this
      obtain ⟨p, hp, hm⟩ := List.mem_flatMap.1 this
      obtain ⟨k, hk, e⟩ := List.mem_map.1 hm
      rw [List.mem_singleton] at hp
      subst hp
      have hkc : k.chk = 0 := by
        rcases List.mem_append.1 hk with hk | hk
        · exact (knot_of _ _ (Nat.lt_succ_self _) (chk_on hs.chk ha.chk) k hk).1
        · exact (knot_of _ _ (Nat.lt_succ_self _) (chk_on hs.chk hb.chk) k hk).1
      have := chk_one hkc
      unfold chkOne at this
      split at this
      · rename_i h1
        rw [← e]
        exact h1
      · cases this
  exact ⟨hz, uends_err hr' hz⟩
end Go.Proofs.Ytohgkbgpcnmdpaa
