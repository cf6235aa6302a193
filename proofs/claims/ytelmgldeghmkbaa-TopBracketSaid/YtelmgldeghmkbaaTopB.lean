/-
  Terms without what is bound, made of raw numbers; the walk of the law TopBracket.
  Conditions: none.
-/
import Derived.Test.YtelmgldeghmkbaaIrTop
import Derived.Test.YtelmgldeghmkbaaBCombLaw
import Derived.Test.YtelmgldeghmkbaaBSubst2
import Derived.Test.YtelmgldeghmkbaaPTop
namespace Go.Proofs.Ytelmgldeghmkbaa
open Go Go.RowKit
set_option linter.unusedVariables false
set_option linter.unusedSimpArgs false
set_option maxHeartbeats 1000000

def pickI (c n : Int) : Int := (if c < 0 then -(c + 1) else c) % n
theorem pickI_range (c n : Int) (hn : 1 ≤ n) : 0 ≤ pickI c n ∧ pickI c n < n := ⟨Int.emod_nonneg _ (by omega), Int.emod_lt_of_pos _ (by omega)⟩
theorem tmod_range {x n : Int} (hx : 0 ≤ x) (hn : 1 ≤ n) : x.tmod n = x % n ∧ 0 ≤ x % n ∧ x % n < n ∧ x % n ≤ x := by
  rw [Int.tmod_eq_emod_of_nonneg hx]
  refine ⟨rfl, Int.emod_nonneg _ (by omega), Int.emod_lt_of_pos _ (by omega), ?_⟩
  by_cases h : x < n
  · rw [Int.emod_eq_of_lt hx h]; exact Int.le_refl _
  · have := Int.emod_lt_of_pos x (show 0 < n by omega); omega
theorem tdiv_range {x n : Int} (hx : 0 ≤ x) (hn : 1 ≤ n) : x.tdiv n = x / n ∧ 0 ≤ x / n ∧ x / n ≤ x := by
  rw [Int.tdiv_eq_ediv_of_nonneg hx]
  exact ⟨rfl, Int.ediv_nonneg hx (by omega), Int.ediv_le_self _ hx⟩
theorem pick_a (c n : Int) (hc : inR .i64 c) (hn : 1 ≤ n) : ACalls Try.prog 5 [aInt c, aInt n] (aInt (pickI c n)) := by
  rw [inR_i64] at hc
  refine ac_R_Pick (Nat.le_of_ble_eq_true rfl) fun C hC => ?_
  unfold ir_R_Pick
  repeat' (first | (with_reducible first | refine Wa ?_ | refine Wb ?_ | refine Wc ?_ | refine Wd ?_ | refine We ?_ | refine Wf ?_ | refine Wg ?_ | refine Wh ?_ | refine Wi ?_ | refine Wj ?_ | refine Wk (by decide) ?_ | refine Wl ?_ | refine Wm ?_ | refine Wn ?_) | ((with_reducible first | refine Wo (fun K hK => ?_) | refine Wq ?_ | refine Wr ?_); (try simp only [go_sem, List.forall_mem_nil, ↓guard_ite, ↓pick_ite, seval, encT_eq, inR_i64]); (repeat with_reducible refine And.intro (by first | omega | with_reducible exact lens_encT | with_reducible exact lens_encL | (simp; done) | (simp only [List.length_take, List.length_map, List.length_append, maxLen_eq]; omega)) ?_); (try (with_reducible refine hK _ ?_; clear hK K))))
  with_reducible refine Wp ?_
  simp only [go_sem, List.forall_mem_nil, ↓guard_ite, ↓pick_ite, seval, true_implies, false_implies, implies_true, decide_eq_true_eq, decide_eq_false_iff_not, Int.ofNat_lt]
  (try with_reducible refine ite_conj ?_)
  refine ⟨fun h0 => ?_, fun h0 => ?_⟩
  · have h1 := tmod_range (x := 0 - (c + 1)) (n := n) (by omega) hn
    repeat' (first | (with_reducible first | refine Wa ?_ | refine Wb ?_ | refine Wc ?_ | refine Wd ?_ | refine We ?_ | refine Wf ?_ | refine Wg ?_ | refine Wh ?_ | refine Wi ?_ | refine Wj ?_ | refine Wk (by decide) ?_ | refine Wl ?_ | refine Wm ?_ | refine Wn ?_) | ((with_reducible first | refine Wo (fun K hK => ?_) | refine Wq ?_ | refine Wr ?_); (try simp only [go_sem, List.forall_mem_nil, ↓guard_ite, ↓pick_ite, seval, encT_eq, inR_i64, h1.1]); (repeat with_reducible refine And.intro (by first | omega | with_reducible exact lens_encT | with_reducible exact lens_encL | (simp; done) | (simp only [List.length_take, List.length_map, List.length_append, maxLen_eq]; omega)) ?_); (try (with_reducible refine hK _ ?_; clear hK K))))
    simp only [go_sem, List.forall_mem_nil, ↓guard_ite, ↓pick_ite, seval, FinQ, AS.result, resAll, resOne, tupV]
    unfold pickI
    rw [if_pos h0]
    congr 5
    omega
  · have h1 := tmod_range (x := c) (n := n) (by omega) hn
    repeat' (first | (with_reducible first | refine Wa ?_ | refine Wb ?_ | refine Wc ?_ | refine Wd ?_ | refine We ?_ | refine Wf ?_ | refine Wg ?_ | refine Wh ?_ | refine Wi ?_ | refine Wj ?_ | refine Wk (by decide) ?_ | refine Wl ?_ | refine Wm ?_ | refine Wn ?_) | ((with_reducible first | refine Wo (fun K hK => ?_) | refine Wq ?_ | refine Wr ?_); (try simp only [go_sem, List.forall_mem_nil, ↓guard_ite, ↓pick_ite, seval, encT_eq, inR_i64, h1.1]); (repeat with_reducible refine And.intro (by first | omega | with_reducible exact lens_encT | with_reducible exact lens_encL | (simp; done) | (simp only [List.length_take, List.length_map, List.length_append, maxLen_eq]; omega)) ?_); (try (with_reducible refine hK _ ?_; clear hK K))))
    simp only [go_sem, List.forall_mem_nil, ↓guard_ite, ↓pick_ite, seval, FinQ, AS.result, resAll, resOne, tupV]
    unfold pickI
    rw [if_neg h0]

def rawI (l : List Int) (i : Nat) : Int := if l.length = 0 then i * 31 else pickI (l.getD (i % l.length) 0) 1000003 + ((i / l.length : Nat) : Int) * 7919
theorem rawI_range (l : List Int) (i : Nat) : 0 ≤ rawI l i ∧ rawI l i ≤ 1000003 + i * 7919 := by
  unfold rawI
  split
  · omega
  · have := pickI_range (l.getD (i % l.length) 0) 1000003 (by omega)
    have h2 : i / l.length ≤ i := Nat.div_le_self _ _
    generalize i / l.length = q at *
    omega
theorem raw_a (l : List Int) (i : Nat) (hi : i ≤ 1000000) (hl : ∀ n ∈ l, inR .i64 n) (hm : l.length ≤ maxLen) : ACalls Try.prog 25 [aInts l, aInt i] (aInt (rawI l i)) := by
  rw [maxLen_eq] at hm
  refine ac_R_Raw (Nat.le_of_ble_eq_true rfl) fun C hC => ?_
  unfold ir_R_Raw
  repeat' (first | (with_reducible first | refine Wa ?_ | refine Wb ?_ | refine Wc ?_ | refine Wd ?_ | refine We ?_ | refine Wf ?_ | refine Wg ?_ | refine Wh ?_ | refine Wi ?_ | refine Wj ?_ | refine Wk (by decide) ?_ | refine Wl ?_ | refine Wm ?_ | refine Wn ?_) | ((with_reducible first | refine Wo (fun K hK => ?_) | refine Wq ?_ | refine Wr ?_); (try simp only [go_sem, List.forall_mem_nil, ↓guard_ite, ↓pick_ite, seval, encT_eq, inR_i64]); (repeat with_reducible refine And.intro (by first | omega | with_reducible exact lens_encT | with_reducible exact lens_encL | (simp; done) | (simp only [List.length_take, List.length_map, List.length_append, maxLen_eq]; omega)) ?_); (try (with_reducible refine hK _ ?_; clear hK K))))
  with_reducible refine Wp ?_
  simp only [go_sem, List.forall_mem_nil, ↓guard_ite, ↓pick_ite, seval, true_implies, false_implies, implies_true, decide_eq_true_eq, decide_eq_false_iff_not, Int.ofNat_lt]
  (try with_reducible refine ite_conj ?_)
  refine ⟨fun h0 => ?_, fun h0 => ?_⟩
  · repeat' (first | (with_reducible first | refine Wa ?_ | refine Wb ?_ | refine Wc ?_ | refine Wd ?_ | refine We ?_ | refine Wf ?_ | refine Wg ?_ | refine Wh ?_ | refine Wi ?_ | refine Wj ?_ | refine Wk (by decide) ?_ | refine Wl ?_ | refine Wm ?_ | refine Wn ?_) | ((with_reducible first | refine Wo (fun K hK => ?_) | refine Wq ?_ | refine Wr ?_); (try simp only [go_sem, List.forall_mem_nil, ↓guard_ite, ↓pick_ite, seval, encT_eq, inR_i64]); (repeat with_reducible refine And.intro (by first | omega | with_reducible exact lens_encT | with_reducible exact lens_encL | (simp; done) | (simp only [List.length_take, List.length_map, List.length_append, maxLen_eq]; omega)) ?_); (try (with_reducible refine hK _ ?_; clear hK K))))
    simp only [go_sem, List.forall_mem_nil, ↓guard_ite, ↓pick_ite, seval, FinQ, AS.result, resAll, resOne, tupV]
    unfold rawI
    rw [if_pos (by omega)]
  · have h1 := tmod_range (x := (i : Int)) (n := (l.length : Int)) (by omega) (by omega)
    have h2 := tdiv_range (x := (i : Int)) (n := (l.length : Int)) (by omega) (by omega)
    have hlt : i % l.length < l.length := Nat.mod_lt _ (by omega)
    obtain ⟨a, ha⟩ := get_lt hlt
    have e1 : ((i : Int) % (l.length : Int)) = ((i % l.length : Nat) : Int) := by omega
    have e2 : ((i : Int) / (l.length : Int)) = ((i / l.length : Nat) : Int) := by omega
    have h3 : i / l.length ≤ i := Nat.div_le_self _ _
    repeat' (first | (with_reducible first | refine Wa ?_ | refine Wb ?_ | refine Wc ?_ | refine Wd ?_ | refine We ?_ | refine Wf ?_ | refine Wg ?_ | refine Wh ?_ | refine Wi ?_ | refine Wj ?_ | refine Wk (by decide) ?_ | refine Wl ?_ | refine Wm ?_ | refine Wn ?_) | ((with_reducible first | refine Wo (fun K hK => ?_) | refine Wq ?_ | refine Wr ?_); (try simp only [go_sem, List.forall_mem_nil, ↓guard_ite, ↓pick_ite, seval, encT_eq, inR_i64, h1.1, h2.1, e1, e2, ha]); (repeat with_reducible refine And.intro (by first | omega | with_reducible exact lens_encT | with_reducible exact lens_encL | (simp; done) | (simp only [List.length_take, List.length_map, List.length_append, maxLen_eq]; omega)) ?_); (try (with_reducible refine hK _ ?_; clear hK K))))
    refine ⟨_, pick_a a 1000003 (hl a (mem_of_get ha)) (by omega), ?_⟩
    have hp := pickI_range a 1000003 (by omega)
    repeat' (first | (with_reducible first | refine Wa ?_ | refine Wb ?_ | refine Wc ?_ | refine Wd ?_ | refine We ?_ | refine Wf ?_ | refine Wg ?_ | refine Wh ?_ | refine Wi ?_ | refine Wj ?_ | refine Wk (by decide) ?_ | refine Wl ?_ | refine Wm ?_ | refine Wn ?_) | ((with_reducible first | refine Wo (fun K hK => ?_) | refine Wq ?_ | refine Wr ?_); (try simp only [go_sem, List.forall_mem_nil, ↓guard_ite, ↓pick_ite, seval, encT_eq, inR_i64, h1.1, h2.1, e1, e2]); (repeat with_reducible refine And.intro (by first | omega | with_reducible exact lens_encT | with_reducible exact lens_encL | (simp; done) | (simp only [List.length_take, List.length_map, List.length_append, maxLen_eq]; omega)) ?_); (try (with_reducible refine hK _ ?_; clear hK K))))
    simp only [go_sem, List.forall_mem_nil, ↓guard_ite, ↓pick_ite, seval, FinQ, AS.result, resAll, resOne, tupV]
    unfold rawI
    rw [if_neg (by omega), List.getD_eq_getElem?_getD, ha]
    rfl

theorem often_a (t : Tm) (v : ByteArray) (hz : t.size ≤ 1000000) : ACalls Try.prog 7 [aTm t, aStr v] (aInt (oftenL v t.knots)) := by
  have hkl := Tm.knots_length t
  have hKn := knots_a t hz
  generalize t.knots = l at *
  refine ac_R_Often (Nat.le_of_ble_eq_true rfl) fun C hC => ?_
  unfold ir_R_Often
  repeat' (first | (with_reducible first | refine Wa ?_ | refine Wb ?_ | refine Wc ?_ | refine Wd ?_ | refine We ?_ | refine Wf ?_ | refine Wg ?_ | refine Wh ?_ | refine Wi ?_ | refine Wj ?_ | refine Wk (by decide) ?_ | refine Wl ?_ | refine Wm ?_ | refine Wn ?_) | refine CallG.mk _ (hKn) ?_ | ((with_reducible first | refine Wo (fun K hK => ?_) | refine Wp ?_ | refine Wq ?_ | refine Wr ?_); (try simp only [go_sem, List.forall_mem_nil, ↓guard_ite, ↓pick_ite, seval, encT_eq, inR_i64, decide_eq_true_eq, decide_eq_false_iff_not, Int.ofNat_lt]); (repeat with_reducible refine And.intro (by first | omega | with_reducible exact lens_encT | with_reducible exact lens_encL | (simp; done) | (simp only [List.length_take, List.length_map, List.length_append, maxLen_eq]; omega)) ?_); (try (with_reducible refine hK _ ?_; clear hK K)); (try with_reducible refine ite_conj ?_)))
  refine IWP.loop (fun n s => ∃ k, k ≤ l.length ∧ n = l.length - k ∧ s.env 1 = aStr v ∧ s.env 5 = aTms l ∧ s.env 6 = aInt (oftenL v (l.take k)) ∧ s.env 7 = aInt k) l.length ⟨0, Nat.zero_le _, rfl, rfl, rfl, rfl, rfl⟩ ?_
  rintro n ⟨env, S⟩ ⟨k, hk, rfl, e1, e5, e6, e7⟩
  simp only at e1 e5 e6 e7
  by_cases hlt : (k : Int) < l.length
  · obtain ⟨a, ha⟩ := get_lt (show k < l.length by omega)
    have hle := oftenL_le v (l.take k)
    rw [List.length_take] at hle
    have hst := oftenL_take (v := v) ha
    by_cases hn : a.name = v
    · rw [if_pos hn] at hst
      repeat' (first | (with_reducible first | refine Wa ?_ | refine Wb ?_ | refine Wc ?_ | refine Wd ?_ | refine We ?_ | refine Wf ?_ | refine Wg ?_ | refine Wh ?_ | refine Wi ?_ | refine Wj ?_ | refine Wk (by decide) ?_ | refine Wl ?_ | refine Wm ?_ | refine Wn ?_) | ((with_reducible first | refine Wo (fun K hK => ?_) | refine Wp ?_ | refine Wq ?_ | refine Wr ?_); (try simp only [go_sem, List.forall_mem_nil, ↓guard_ite, ↓pick_ite, seval, encT_eq, inR_i64, e1, e5, e6, e7, ha, hlt, hn, decide_eq_true_eq, decide_eq_false_iff_not, Int.ofNat_lt]); (repeat with_reducible refine And.intro (by first | omega | with_reducible exact lens_encT | with_reducible exact lens_encL | (simp; done) | (simp only [List.length_take, List.length_map, List.length_append, maxLen_eq]; omega)) ?_); (try (with_reducible refine hK _ ?_; clear hK K)); (try with_reducible refine ite_conj ?_)))
      refine then_normal ⟨l.length - (k + 1), by omega, k + 1, by omega, rfl, ?_⟩
      simp only [go_sem, List.forall_mem_nil, ↓guard_ite, ↓pick_ite, seval, encT_eq, inR_i64, e1, e5, e6, e7]
      exact ⟨by rw [hst]; congr 3, by congr 3⟩
    · rw [if_neg hn] at hst
      repeat' (first | (with_reducible first | refine Wa ?_ | refine Wb ?_ | refine Wc ?_ | refine Wd ?_ | refine We ?_ | refine Wf ?_ | refine Wg ?_ | refine Wh ?_ | refine Wi ?_ | refine Wj ?_ | refine Wk (by decide) ?_ | refine Wl ?_ | refine Wm ?_ | refine Wn ?_) | ((with_reducible first | refine Wo (fun K hK => ?_) | refine Wp ?_ | refine Wq ?_ | refine Wr ?_); (try simp only [go_sem, List.forall_mem_nil, ↓guard_ite, ↓pick_ite, seval, encT_eq, inR_i64, e1, e5, e6, e7, ha, hlt, hn, decide_eq_true_eq, decide_eq_false_iff_not, Int.ofNat_lt]); (repeat with_reducible refine And.intro (by first | omega | with_reducible exact lens_encT | with_reducible exact lens_encL | (simp; done) | (simp only [List.length_take, List.length_map, List.length_append, maxLen_eq]; omega)) ?_); (try (with_reducible refine hK _ ?_; clear hK K)); (try with_reducible refine ite_conj ?_)))
      refine then_normal ⟨l.length - (k + 1), by omega, k + 1, by omega, rfl, ?_⟩
      simp only [go_sem, List.forall_mem_nil, ↓guard_ite, ↓pick_ite, seval, encT_eq, inR_i64, e1, e5, e6, e7]
      exact ⟨by rw [hst]; congr 3, by congr 3⟩
  · rw [List.take_of_length_le (by omega)] at e6
    repeat' (first | (with_reducible first | refine Wa ?_ | refine Wb ?_ | refine Wc ?_ | refine Wd ?_ | refine We ?_ | refine Wf ?_ | refine Wg ?_ | refine Wh ?_ | refine Wi ?_ | refine Wj ?_ | refine Wk (by decide) ?_ | refine Wl ?_ | refine Wm ?_ | refine Wn ?_) | ((with_reducible first | refine Wo (fun K hK => ?_) | refine Wp ?_ | refine Wq ?_ | refine Wr ?_); (try simp only [go_sem, List.forall_mem_nil, ↓guard_ite, ↓pick_ite, seval, encT_eq, inR_i64, e1, e5, e6, e7, hlt, decide_eq_true_eq, decide_eq_false_iff_not, Int.ofNat_lt]); (repeat with_reducible refine And.intro (by first | omega | with_reducible exact lens_encT | with_reducible exact lens_encL | (simp; done) | (simp only [List.length_take, List.length_map, List.length_append, maxLen_eq]; omega)) ?_); (try (with_reducible refine hK _ ?_; clear hK K)); (try with_reducible refine ite_conj ?_)))
    simp only [go_sem, List.forall_mem_nil, ↓guard_ite, ↓pick_ite, seval, FinQ, AS.result, resAll, resOne, tupV, e6]
theorem often_yes {t : Tm} {v : ByteArray} (h : t.hasN v = true) : ¬ ((oftenL v t.knots : Nat) : Int) = 0 := by
  rw [Tm.often_has] at h
  have : 0 < oftenL v t.knots := by simpa using h
  omega
theorem often_no {t : Tm} {v : ByteArray} (h : t.hasN v = false) : ((oftenL v t.knots : Nat) : Int) = 0 := by
  rw [Tm.often_has] at h
  have : ¬ 0 < oftenL v t.knots := by simpa using h
  omega
theorem combMay_fm {t : Tm} (h : combMay t = 0) : t.fm = true ∧ t.chk = 0 ∧ t.size ≤ 200 := by
  unfold combMay at h
  split at h
  · rename_i h1
    have h2 := may_size h1
    unfold Tm.may at h1
    rw [if_neg (by omega)] at h1
    refine ⟨?_, h1, h2⟩
    unfold formE at h
    split at h
    · assumption
    · cases h
  · contradiction
/-- Without a variable: what is left, or what is wrong. -/
def brErr (v : ByteArray) (t : Tm) : Int := if nameOk v = true ∧ isVar v = true then combMay t else 1
def brR (v : ByteArray) (t : Tm) : Tm × Int := if brErr v t = 0 then (t.br v, 0) else (Tm.nil, brErr v t)
theorem Bracket_a (v : ByteArray) (t : Tm) : ACalls Try.prog 6 [aStr v, aTm t] (.tup [aTm (brR v t).1, aInt (brR v t).2]) := by
  unfold brR
  by_cases h1 : nameOk v = true
  case neg =>
    have e : brErr v t = 1 := if_neg (fun h => h1 h.1)
    rw [e, if_neg (by decide)]
    refine ac_comb_Bracket (Nat.le_of_ble_eq_true rfl) fun C hC => ?_
    unfold ir_comb_Bracket
    repeat' (first | (with_reducible first | refine Wa ?_ | refine Wb ?_ | refine Wc ?_ | refine Wd ?_ | refine We ?_ | refine Wf ?_ | refine Wg ?_ | refine Wh ?_ | refine Wi ?_ | refine Wj ?_ | refine Wk (by decide) ?_ | refine Wl ?_ | refine Wm ?_ | refine Wn ?_) | refine CallG.mk _ (name_a v) ?_ | ((with_reducible first | refine Wo (fun K hK => ?_) | refine Wp ?_ | refine Wq ?_ | refine Wr ?_); (try simp only [go_sem, List.forall_mem_nil, ↓guard_ite, ↓pick_ite, seval, encT_eq, inR_i64, h1, decide_eq_true_eq, decide_eq_false_iff_not, Int.ofNat_lt]); (repeat with_reducible refine And.intro (by first | omega | with_reducible exact lens_encT | with_reducible exact lens_encL | (simp; done) | (simp only [List.length_take, List.length_map, List.length_append, maxLen_eq]; omega)) ?_); (try (with_reducible refine hK _ ?_; clear hK K)); (try with_reducible refine ite_conj ?_)))
    simp only [go_sem, List.forall_mem_nil, ↓guard_ite, ↓pick_ite, seval, FinQ, AS.result, resAll, resOne, tupV]
    rfl
  by_cases h2 : isVar v = true
  case neg =>
    have e : brErr v t = 1 := if_neg (fun h => h2 h.2)
    rw [e, if_neg (by decide)]
    refine ac_comb_Bracket (Nat.le_of_ble_eq_true rfl) fun C hC => ?_
    unfold ir_comb_Bracket
    repeat' (first | (with_reducible first | refine Wa ?_ | refine Wb ?_ | refine Wc ?_ | refine Wd ?_ | refine We ?_ | refine Wf ?_ | refine Wg ?_ | refine Wh ?_ | refine Wi ?_ | refine Wj ?_ | refine Wk (by decide) ?_ | refine Wl ?_ | refine Wm ?_ | refine Wn ?_) | refine CallG.mk _ (name_a v) ?_ | refine CallG.mk _ (variable_a v) ?_ | ((with_reducible first | refine Wo (fun K hK => ?_) | refine Wp ?_ | refine Wq ?_ | refine Wr ?_); (try simp only [go_sem, List.forall_mem_nil, ↓guard_ite, ↓pick_ite, seval, encT_eq, inR_i64, h1, h2, decide_eq_true_eq, decide_eq_false_iff_not, Int.ofNat_lt]); (repeat with_reducible refine And.intro (by first | omega | with_reducible exact lens_encT | with_reducible exact lens_encL | (simp; done) | (simp only [List.length_take, List.length_map, List.length_append, maxLen_eq]; omega)) ?_); (try (with_reducible refine hK _ ?_; clear hK K)); (try with_reducible refine ite_conj ?_)))
    simp only [go_sem, List.forall_mem_nil, ↓guard_ite, ↓pick_ite, seval, FinQ, AS.result, resAll, resOne, tupV]
    rfl
  have e : brErr v t = combMay t := if_pos ⟨h1, h2⟩
  rw [e]
  by_cases h : combMay t = 0
  · obtain ⟨hf, hc, hz⟩ := combMay_fm h
    obtain ⟨b1, b2⟩ := Tm.br_all _ v t (Nat.lt_succ_self _) hf
    have hF := fit_a (t.br v) (by omega)
    have e2 : fitR (t.br v) = (t.br v, 0) := if_neg (by omega)
    rw [e2] at hF
    rw [if_pos h]
    refine ac_comb_Bracket (Nat.le_of_ble_eq_true rfl) fun C hC => ?_
    unfold ir_comb_Bracket
    repeat' (first | (with_reducible first | refine Wa ?_ | refine Wb ?_ | refine Wc ?_ | refine Wd ?_ | refine We ?_ | refine Wf ?_ | refine Wg ?_ | refine Wh ?_ | refine Wi ?_ | refine Wj ?_ | refine Wk (by decide) ?_ | refine Wl ?_ | refine Wm ?_ | refine Wn ?_) | refine CallG.mk _ (name_a v) ?_ | refine CallG.mk _ (variable_a v) ?_ | refine CallG.mk _ (combCheck_a t) ?_ | refine CallG.mk _ (without_a v t hf (by omega)) ?_ | refine CallG.mk _ (hF) ?_ | ((with_reducible first | refine Wo (fun K hK => ?_) | refine Wp ?_ | refine Wq ?_ | refine Wr ?_); (try simp only [go_sem, List.forall_mem_nil, ↓guard_ite, ↓pick_ite, seval, encT_eq, inR_i64, h1, h2, h, decide_eq_true_eq, decide_eq_false_iff_not, Int.ofNat_lt]); (repeat with_reducible refine And.intro (by first | omega | with_reducible exact lens_encT | with_reducible exact lens_encL | (simp; done) | (simp only [List.length_take, List.length_map, List.length_append, maxLen_eq]; omega)) ?_); (try (with_reducible refine hK _ ?_; clear hK K)); (try with_reducible refine ite_conj ?_)))
    simp only [go_sem, List.forall_mem_nil, ↓guard_ite, ↓pick_ite, seval, FinQ, AS.result, resAll, resOne, tupV]
  · rw [if_neg h]
    refine ac_comb_Bracket (Nat.le_of_ble_eq_true rfl) fun C hC => ?_
    unfold ir_comb_Bracket
    repeat' (first | (with_reducible first | refine Wa ?_ | refine Wb ?_ | refine Wc ?_ | refine Wd ?_ | refine We ?_ | refine Wf ?_ | refine Wg ?_ | refine Wh ?_ | refine Wi ?_ | refine Wj ?_ | refine Wk (by decide) ?_ | refine Wl ?_ | refine Wm ?_ | refine Wn ?_) | refine CallG.mk _ (name_a v) ?_ | refine CallG.mk _ (variable_a v) ?_ | refine CallG.mk _ (combCheck_a t) ?_ | ((with_reducible first | refine Wo (fun K hK => ?_) | refine Wp ?_ | refine Wq ?_ | refine Wr ?_); (try simp only [go_sem, List.forall_mem_nil, ↓guard_ite, ↓pick_ite, seval, encT_eq, inR_i64, h1, h2, h, decide_eq_true_eq, decide_eq_false_iff_not, Int.ofNat_lt]); (repeat with_reducible refine And.intro (by first | omega | with_reducible exact lens_encT | with_reducible exact lens_encL | (simp; done) | (simp only [List.length_take, List.length_map, List.length_append, maxLen_eq]; omega)) ?_); (try (with_reducible refine hK _ ?_; clear hK K)); (try with_reducible refine ite_conj ?_)))
    simp only [go_sem, List.forall_mem_nil, ↓guard_ite, ↓pick_ite, seval, FinQ, AS.result, resAll, resOne, tupV]
    rfl

/-! ### terms made of raw numbers -/
theorem ap2_chk {f x : Tm} (hf : f.chk = 0) (hx : x.chk = 0) : (ap2 f x).chk = 0 := by
  have h1 : chkOne (ap2 f x) = 0 := by
    unfold chkOne
    have a1 : nameOk (ap2 f x).name = true := by show nameOk apS = true; decide
    have a2 : ¬ isVar (ap2 f x).name = true := by show ¬ isVar apS = true; decide
    rw [if_pos a1, if_neg (fun h => a2 h.1)]
  rw [Tm.chk_eq, if_pos h1]
  show Tm.chkL [f, x] = 0
  simp [Tm.chkL, hf, hx]
def CombAt (l : List Int) (at_ : Nat) (most : Int) (t : Tm) (n : Nat) : Prop :=
  ACalls Try.prog 13 [aInts l, aInt at_, aInt most] (.tup [aTm t, aInt n])
theorem combGrow_a (l : List Int) (hl : ∀ n ∈ l, inR .i64 n) (hm : l.length ≤ maxLen) : ∀ (most : Nat) (at_ : Nat), 1 ≤ most → most ≤ 1000 → at_ + 2 * most ≤ 900000 →
    ∃ (t : Tm) (n : Nat), CombAt l at_ most t n ∧ t.size + 1 ≤ 2 * most ∧ n ≤ at_ + t.size ∧ t.fm = true ∧ t.chk = 0 := by
  intro most
  induction most using Nat.strongRecOn with
  | _ most ih =>
  intro at_ h1 h1000 hat
  have hraw := raw_a l at_ (by omega) hl hm
  have hr := rawI_range l at_
  generalize rawI l at_ = c at hraw hr
  have d5 := tdiv_range (x := c) (n := 5) (by omega) (by omega)
  have p5 := pick_a c 5 (by rw [inR_i64]; omega) (by omega)
  have q5 := pickI_range c 5 (by omega)
  have p57 := pick_a (c / 5) 7 (by rw [inR_i64]; omega) (by omega)
  have q57 := pickI_range (c / 5) 7 (by omega)
  generalize pickI c 5 = x5 at *
  generalize pickI (c / 5) 7 = x7 at *
  by_cases hleaf : (most : Int) < 3 ∨ x5 = 0
  · obtain ⟨nm, hnm, hch⟩ : ∃ nm, [([.str ⟨#[115]⟩] : List SV), [.str ⟨#[107]⟩], [.str ⟨#[105]⟩], [.str ⟨#[88]⟩], [.str ⟨#[88]⟩], [.str ⟨#[99, 49]⟩], [.str ⟨#[88]⟩]][x7.toNat]? = some [.str nm] ∧ (leafOf nm).chk = 0 := by
      have : x7.toNat = 0 ∨ x7.toNat = 1 ∨ x7.toNat = 2 ∨ x7.toNat = 3 ∨ x7.toNat = 4 ∨ x7.toNat = 5 ∨ x7.toNat = 6 := by omega
      rcases this with h | h | h | h | h | h | h <;> rw [h] <;> exact ⟨_, rfl, by decide⟩
    refine ⟨leafOf nm, at_ + 1, ?_, by rw [leafOf_size]; omega, by rw [leafOf_size]; omega, leafOf_fm nm, hch⟩
    unfold CombAt
    by_cases hm3 : (most : Int) < 3
    · refine ac_metaprunetop_combGrow (Nat.le_of_ble_eq_true rfl) fun C hC => ?_
      unfold ir_metaprunetop_combGrow
      repeat' (first | (with_reducible first | refine Wa ?_ | refine Wb ?_ | refine Wc ?_ | refine Wd ?_ | refine We ?_ | refine Wf ?_ | refine Wg ?_ | refine Wh ?_ | refine Wi ?_ | refine Wj ?_ | refine Wk (by decide) ?_ | refine Wl ?_ | refine Wm ?_ | refine Wn ?_) | refine CallG.mk _ (hraw) ?_ | refine CallG.mk _ (p57) ?_ | refine CallG.mk _ (leafR_a nm) ?_ | ((with_reducible first | refine Wo (fun K hK => ?_) | refine Wp ?_ | refine Wq ?_ | refine Wr ?_); (try simp only [go_sem, List.forall_mem_nil, ↓guard_ite, ↓pick_ite, seval, encT_eq, inR_i64, hm3, d5.1, hnm, decide_eq_true_eq, decide_eq_false_iff_not, Int.ofNat_lt]); (repeat with_reducible refine And.intro (by first | omega | with_reducible exact lens_encT | with_reducible exact lens_encL | (simp; done) | (simp only [List.length_take, List.length_map, List.length_append, maxLen_eq]; omega)) ?_); (try (with_reducible refine hK _ ?_; clear hK K)); (try with_reducible refine ite_conj ?_)))
      simp only [go_sem, List.forall_mem_nil, ↓guard_ite, ↓pick_ite, seval, FinQ, AS.result, resAll, resOne, tupV]
      rfl
    · have h5 : x5 = 0 := by omega
      subst h5
      refine ac_metaprunetop_combGrow (Nat.le_of_ble_eq_true rfl) fun C hC => ?_
      unfold ir_metaprunetop_combGrow
      repeat' (first | (with_reducible first | refine Wa ?_ | refine Wb ?_ | refine Wc ?_ | refine Wd ?_ | refine We ?_ | refine Wf ?_ | refine Wg ?_ | refine Wh ?_ | refine Wi ?_ | refine Wj ?_ | refine Wk (by decide) ?_ | refine Wl ?_ | refine Wm ?_ | refine Wn ?_) | refine CallG.mk _ (hraw) ?_ | refine CallG.mk _ (p5) ?_ | refine CallG.mk _ (p57) ?_ | refine CallG.mk _ (leafR_a nm) ?_ | ((with_reducible first | refine Wo (fun K hK => ?_) | refine Wp ?_ | refine Wq ?_ | refine Wr ?_); (try simp only [go_sem, List.forall_mem_nil, ↓guard_ite, ↓pick_ite, seval, encT_eq, inR_i64, hm3, d5.1, hnm, decide_eq_true_eq, decide_eq_false_iff_not, Int.ofNat_lt]); (repeat with_reducible refine And.intro (by first | omega | with_reducible exact lens_encT | with_reducible exact lens_encL | (simp; done) | (simp only [List.length_take, List.length_map, List.length_append, maxLen_eq]; omega)) ?_); (try (with_reducible refine hK _ ?_; clear hK K)); (try with_reducible refine ite_conj ?_)))
      simp only [go_sem, List.forall_mem_nil, ↓guard_ite, ↓pick_ite, seval, FinQ, AS.result, resAll, resOne, tupV]
      rfl
  · have hm3 : ¬ (most : Int) < 3 := by omega
    have h5 : ¬ x5 = 0 := by omega
    have d2 := tdiv_range (x := (most : Int)) (n := 2) (by omega) (by omega)
    have e2 : (most : Int) / 2 = ((most / 2 : Nat) : Int) := by omega
    obtain ⟨t, n, ht, hs, hn, hf, hk⟩ := ih (most / 2) (by omega) (at_ + 1) (by omega) (by omega) (by omega)
    obtain ⟨u, n2, hu, hs2, hn2, hf2, hk2⟩ := ih (most / 2) (by omega) n (by omega) (by omega) (by omega)
    unfold CombAt at ht hu
    rw [show (((at_ + 1 : Nat) : Int)) = (at_ : Int) + 1 by omega] at ht
    refine ⟨ap2 t u, n2, ?_, by rw [ap2_size]; omega, by rw [ap2_size]; omega, ap2_fm hf hf2, ap2_chk hk hk2⟩
    unfold CombAt
    refine ac_metaprunetop_combGrow (Nat.le_of_ble_eq_true rfl) fun C hC => ?_
    unfold ir_metaprunetop_combGrow
    repeat' (first | (with_reducible first | refine Wa ?_ | refine Wb ?_ | refine Wc ?_ | refine Wd ?_ | refine We ?_ | refine Wf ?_ | refine Wg ?_ | refine Wh ?_ | refine Wi ?_ | refine Wj ?_ | refine Wk (by decide) ?_ | refine Wl ?_ | refine Wm ?_ | refine Wn ?_) | refine CallG.mk _ (hraw) ?_ | refine CallG.mk _ (p5) ?_ | refine CallG.mk _ (ht) ?_ | refine CallG.mk _ (hu) ?_ | refine CallG.mk _ (put2_a t u) ?_ | ((with_reducible first | refine Wo (fun K hK => ?_) | refine Wp ?_ | refine Wq ?_ | refine Wr ?_); (try simp only [go_sem, List.forall_mem_nil, ↓guard_ite, ↓pick_ite, seval, encT_eq, inR_i64, hm3, h5, d2.1, e2, decide_eq_true_eq, decide_eq_false_iff_not, Int.ofNat_lt]); (repeat with_reducible refine And.intro (by first | omega | with_reducible exact lens_encT | with_reducible exact lens_encL | (simp; done) | (simp only [List.length_take, List.length_map, List.length_append, maxLen_eq]; omega)) ?_); (try (with_reducible refine hK _ ?_; clear hK K)); (try with_reducible refine ite_conj ?_)))
    simp only [go_sem, List.forall_mem_nil, ↓guard_ite, ↓pick_ite, seval, FinQ, AS.result, resAll, resOne, tupV]
theorem combFrom_a (l : List Int) (hl : ∀ n ∈ l, inR .i64 n) (hm : l.length ≤ maxLen) (at_ most : Nat) (h1 : 1 ≤ most) (h2 : most ≤ 1000) (h3 : at_ ≤ 1000) :
    ∃ t : Tm, ACalls Try.prog 4 [aInts l, aInt at_, aInt most] (aTm t) ∧ t.size + 1 ≤ 2 * most ∧ t.fm = true ∧ t.chk = 0 := by
  obtain ⟨t, n, ht, hs, _, hf, hk⟩ := combGrow_a l hl hm most at_ h1 h2 (by omega)
  refine ⟨t, ?_, hs, hf, hk⟩
  unfold CombAt at ht
  refine ac_metaprunetop_combFrom (Nat.le_of_ble_eq_true rfl) fun C hC => ?_
  unfold ir_metaprunetop_combFrom
  repeat' (first | (with_reducible first | refine Wa ?_ | refine Wb ?_ | refine Wc ?_ | refine Wd ?_ | refine We ?_ | refine Wf ?_ | refine Wg ?_ | refine Wh ?_ | refine Wi ?_ | refine Wj ?_ | refine Wk (by decide) ?_ | refine Wl ?_ | refine Wm ?_ | refine Wn ?_) | refine CallG.mk _ (ht) ?_ | ((with_reducible first | refine Wo (fun K hK => ?_) | refine Wp ?_ | refine Wq ?_ | refine Wr ?_); (try simp only [go_sem, List.forall_mem_nil, ↓guard_ite, ↓pick_ite, seval, encT_eq, inR_i64, decide_eq_true_eq, decide_eq_false_iff_not, Int.ofNat_lt]); (repeat with_reducible refine And.intro (by first | omega | with_reducible exact lens_encT | with_reducible exact lens_encL | (simp; done) | (simp only [List.length_take, List.length_map, List.length_append, maxLen_eq]; omega)) ?_); (try (with_reducible refine hK _ ?_; clear hK K)); (try with_reducible refine ite_conj ?_)))
  simp only [go_sem, List.forall_mem_nil, ↓guard_ite, ↓pick_ite, seval, FinQ, AS.result, resAll, resOne, tupV]
/-! ### checks never find fault with the form -/
theorem fm_chk : ∀ (N : Nat) (t : Tm), t.size < N → t.fm = true → t.chk = 0 ∨ t.chk = 1 := by
  intro N
  induction N with
  | zero => intro t h; omega
  | succ N ih =>
    intro t hN hf
    have hs := Tm.size_eq t
    rw [Tm.chk_eq]
    by_cases h : chkOne t = 0
    · rw [if_pos h]
      rcases Tm.fm_cases hf with ha | ⟨f, x, hn, ha, hf1, hx1⟩
      · rw [ha]
        exact .inl rfl
      · rw [ha] at hs ⊢
        simp only [Tm.sizes] at hs
        have a1 := ih f (by omega) hf1
        have a2 := ih x (by omega) hx1
        simp only [Tm.chkL]
        rcases a1 with a1 | a1 <;> rcases a2 with a2 | a2 <;> simp [a1, a2]
    · rw [if_neg h]
      right
      unfold chkOne at h ⊢
      by_cases h1 : nameOk t.name = true
      · rw [if_pos h1] at h ⊢
        by_cases h2 : isVar t.name = true ∧ 0 < t.args.length
        · exfalso
          rcases Tm.fm_cases hf with ha | ⟨f, x, hn, ha, _, _⟩
          · rw [ha] at h2
            exact absurd h2.2 (by decide)
          · rw [hn] at h2
            exact absurd h2.1 (by decide)
        · rw [if_neg h2] at h
          exact absurd rfl h
      · rw [if_neg h1]
theorem combMay_form {t : Tm} (hf : t.fm = true) : combMay t ≠ 2 := by
  have e : formE t.fm = 0 := by simp [formE, hf]
  unfold combMay Tm.may
  rw [e]
  rcases fm_chk _ t (Nat.lt_succ_self _) hf with h | h <;> rw [h] <;> by_cases h2 : 200 < t.size <;> simp [h2]
theorem cRun_form {t : Tm} (hf : t.fm = true) : (cRun t 60).2.2 ≠ 2 := by
  unfold cRun
  by_cases h : cErr t 60 = 0
  · rw [if_pos h]
    have key : ∀ (left : Nat) (n : Int) (t : Tm), (Tm.run left n t).2.2 ≠ 2 := by
      intro left
      induction left with
      | zero =>
        intro n t
        rw [Tm.run]
        split <;> simp
      | succ left ih =>
        intro n t
        rw [Tm.run]
        split
        · simp
        · simp only
          split
          · simp
          · exact ih _ _
    exact key _ _ _
  · rw [if_neg h]
    unfold cErr
    split
    · decide
    · exact combMay_form hf
theorem cRun_nf {t : Tm} (hf : t.fm = true) (h : (cRun t 60).2.2 = 0) : Pars t (cRun t 60).1 ∧ Nf (cRun t 60).1 := by
  unfold cRun at h ⊢
  by_cases h0 : cErr t 60 = 0
  · rw [if_pos h0] at h ⊢
    exact Tm.run_nf _ _ t hf h
  · rw [if_neg h0] at h
    exact absurd h h0
/-! ### the law -/
theorem on_fm {v : ByteArray} {x : Tm} (hx : x.fm = true) : ∀ (N : Nat) (t : Tm), t.size < N → t.fm = true → (t.on [(v, x)]).fm = true := by
  intro N
  induction N with
  | zero => intro t h; omega
  | succ N ih =>
    intro t hN hf
    have hs := Tm.size_eq t
    rcases Tm.fm_cases hf with ha | ⟨f, y, hn, ha, hf1, hy1⟩
    · by_cases hv : t.name = v
      · rw [on_self ha hv]
        exact hx
      · have h0 : t.hasN v = false := by
          rw [Tm.hasN_eq, ha]
          simp [Tm.hasNs, hv]
        rw [on_free _ t (Nat.lt_succ_self _) hf h0]
        exact hf
    · rw [ha] at hs
      simp only [Tm.sizes] at hs
      rw [on_ap hn ha]
      exact ap2_fm (ih f (by omega) hf1) (ih y (by omega) hy1)
theorem chk_name {t : Tm} (h : t.chk = 0) : t.name ≠ ⟨#[]⟩ := by
  intro e
  rw [Tm.chk_eq] at h
  have h1 : chkOne t = 1 := by
    unfold chkOne
    rw [e, if_neg (by decide)]
  rw [if_neg (by rw [h1]; decide), h1] at h
  exact absurd h (by decide)
theorem chk_left {f x : Tm} (h : Tm.chkL [f, x] = 0) : f.chk = 0 := by
  simp only [Tm.chkL] at h
  split at h
  · assumption
  · exact h
theorem br_name {v : ByteArray} {t : Tm} (hf : t.fm = true) (hk : t.chk = 0) : ¬ (t.br v).name = ⟨#[]⟩ := by
  by_cases h0 : t.hasN v = true
  · by_cases hn : t.name = v
    · rw [Tm.br_self h0 hn]
      show ¬ iS = _
      decide
    · rcases Tm.fm_cases hf with ha | ⟨f, y, hna, ha, hf1, hy1⟩
      · exact absurd ha (leaf_has h0 hn)
      · rw [Tm.br_ap h0 hn ha]
        split
        · refine chk_name ?_
          rw [Tm.chk_eq, ha] at hk
          split at hk
          · exact chk_left hk
          · contradiction
        · show ¬ apS = _
          decide
  · have h0' : t.hasN v = false := by simpa using h0
    rw [Tm.br_none h0']
    show ¬ apS = _
    decide
abbrev xS : ByteArray := ⟨#[88]⟩
theorem topBracket_a (l : List Int) (most fuel : Int) (hl : ∀ n ∈ l, inR .i64 n) (hm : l.length ≤ maxLen) (hmost : inR .i64 most) :
    ACalls Try.prog 3 [aInts l, aInt most, aInt fuel] (aBool true) := by
  by_cases h256 : (256 : Int) < l.length
  case pos =>
    refine ac_metaprunetop_TopBracket (Nat.le_of_ble_eq_true rfl) fun C hC => ?_
    unfold ir_metaprunetop_TopBracket
    repeat' (first | (with_reducible first | refine Wa ?_ | refine Wb ?_ | refine Wc ?_ | refine Wd ?_ | refine We ?_ | refine Wf ?_ | refine Wg ?_ | refine Wh ?_ | refine Wi ?_ | refine Wj ?_ | refine Wk (by decide) ?_ | refine Wl ?_ | refine Wm ?_ | refine Wn ?_) | ((with_reducible first | refine Wo (fun K hK => ?_) | refine Wp ?_ | refine Wq ?_ | refine Wr ?_); (try simp only [go_sem, List.forall_mem_nil, ↓guard_ite, ↓pick_ite, seval, encT_eq, inR_i64, h256, decide_eq_true_eq, decide_eq_false_iff_not, Int.ofNat_lt]); (repeat with_reducible refine And.intro (by first | omega | with_reducible exact lens_encT | with_reducible exact lens_encL | (simp; done) | (simp only [List.length_take, List.length_map, List.length_append, maxLen_eq]; omega)) ?_); (try (with_reducible refine hK _ ?_; clear hK K)); (try with_reducible refine ite_conj ?_)))
    simp only [go_sem, List.forall_mem_nil, ↓guard_ite, ↓pick_ite, seval, FinQ, AS.result, resAll, resOne, tupV]
  have p12 := pick_a most 12 hmost (by omega)
  have q12 := pickI_range most 12 (by omega)
  generalize pickI most 12 = k at *
  obtain ⟨t, ht, hts, htf, htc⟩ := combFrom_a l hl hm 0 (1 + k).toNat (by omega) (by omega) (by omega)
  obtain ⟨x, hx, hxs, hxf, hxc⟩ := combFrom_a l hl hm 60 5 (by omega) (by omega) (by omega)
  rw [show (((1 + k).toNat : Nat) : Int) = 1 + k by omega] at ht
  have hbr := Bracket_a xS t
  have e1 : brR xS t = (t.br xS, 0) := by
    have : brErr xS t = 0 := by
      unfold brErr
      rw [if_pos (by decide)]
      have hmay : t.may = 0 := by
        unfold Tm.may
        rw [if_neg (by omega), htc]
      unfold combMay
      rw [if_pos hmay, htf]
      rfl
    unfold brR
    rw [if_pos this]
  rw [e1] at hbr
  obtain ⟨hbf, hbs⟩ := Tm.br_all _ xS t (Nat.lt_succ_self _) htf
  have hbn := br_name (v := xS) htf htc
  have hof := often_a (t.br xS) xS (by omega)
  rw [show ((oftenL xS (t.br xS).knots : Nat) : Int) = 0 from often_no (br_free (by decide) (by decide) (by decide) (by decide) _ t (Nat.lt_succ_self _) htf)] at hof
  have hon := onRef_a [(xS, x)] t (by omega)
  have hof2 := on_fm hxf (v := xS) _ t (Nat.lt_succ_self _) htf
  have hp := br_pars (v := xS) (x := x) (by decide) _ t (Nat.lt_succ_self _) htf
  have hsb := sizeR_a (t.br xS) 150 (by omega) (by omega)
  generalize t.br xS = b at *
  have hon2 : onTo [(xS, x)] t = (Tm.nil, false) ∨ onTo [(xS, x)] t = (t.on [(xS, x)], true) := by
    unfold onTo
    split
    · exact .inr rfl
    · exact .inl rfl
  generalize t.on [(xS, x)] = y at *
  rcases hon2 with h2 | h2
  · rw [h2] at hon
    refine ac_metaprunetop_TopBracket (Nat.le_of_ble_eq_true rfl) fun C hC => ?_
    unfold ir_metaprunetop_TopBracket
    repeat' (first | (with_reducible first | refine Wa ?_ | refine Wb ?_ | refine Wc ?_ | refine Wd ?_ | refine We ?_ | refine Wf ?_ | refine Wg ?_ | refine Wh ?_ | refine Wi ?_ | refine Wj ?_ | refine Wk (by decide) ?_ | refine Wl ?_ | refine Wm ?_ | refine Wn ?_) | refine CallG.mk _ (p12) ?_ | refine CallG.mk _ (ht) ?_ | refine CallG.mk _ (hx) ?_ | refine CallG.mk _ (hbr) ?_ | refine CallG.mk _ (hof) ?_ | refine CallG.mk _ (hon) ?_ | ((with_reducible first | refine Wo (fun K hK => ?_) | refine Wp ?_ | refine Wq ?_ | refine Wr ?_); (try simp only [go_sem, List.forall_mem_nil, ↓guard_ite, ↓pick_ite, seval, encT_eq, inR_i64, h256, hbn, decide_eq_true_eq, decide_eq_false_iff_not, Int.ofNat_lt]); (repeat with_reducible refine And.intro (by first | omega | with_reducible exact lens_encT | with_reducible exact lens_encL | (simp; done) | (simp only [List.length_take, List.length_map, List.length_append, maxLen_eq]; omega)) ?_); (try (with_reducible refine hK _ ?_; clear hK K)); (try with_reducible refine ite_conj ?_)))
    simp only [go_sem, List.forall_mem_nil, ↓guard_ite, ↓pick_ite, seval, FinQ, AS.result, resAll, resOne, tupV]
  rw [h2] at hon
  have hsy := sizeR_a y 200 (by omega) (by omega)
  by_cases c1 : (200 : Int) < capTo y.size 200
  · refine ac_metaprunetop_TopBracket (Nat.le_of_ble_eq_true rfl) fun C hC => ?_
    unfold ir_metaprunetop_TopBracket
    repeat' (first | (with_reducible first | refine Wa ?_ | refine Wb ?_ | refine Wc ?_ | refine Wd ?_ | refine We ?_ | refine Wf ?_ | refine Wg ?_ | refine Wh ?_ | refine Wi ?_ | refine Wj ?_ | refine Wk (by decide) ?_ | refine Wl ?_ | refine Wm ?_ | refine Wn ?_) | refine CallG.mk _ (p12) ?_ | refine CallG.mk _ (ht) ?_ | refine CallG.mk _ (hx) ?_ | refine CallG.mk _ (hbr) ?_ | refine CallG.mk _ (hof) ?_ | refine CallG.mk _ (hon) ?_ | refine CallG.mk _ (hsy) ?_ | ((with_reducible first | refine Wo (fun K hK => ?_) | refine Wp ?_ | refine Wq ?_ | refine Wr ?_); (try simp only [go_sem, List.forall_mem_nil, ↓guard_ite, ↓pick_ite, seval, encT_eq, inR_i64, h256, hbn, c1, decide_eq_true_eq, decide_eq_false_iff_not, Int.ofNat_lt]); (repeat with_reducible refine And.intro (by first | omega | with_reducible exact lens_encT | with_reducible exact lens_encL | (simp; done) | (simp only [List.length_take, List.length_map, List.length_append, maxLen_eq]; omega)) ?_); (try (with_reducible refine hK _ ?_; clear hK K)); (try with_reducible refine ite_conj ?_)))
    simp only [go_sem, List.forall_mem_nil, ↓guard_ite, ↓pick_ite, seval, FinQ, AS.result, resAll, resOne, tupV]
  by_cases c2 : (150 : Int) < capTo b.size 150
  · refine ac_metaprunetop_TopBracket (Nat.le_of_ble_eq_true rfl) fun C hC => ?_
    unfold ir_metaprunetop_TopBracket
    repeat' (first | (with_reducible first | refine Wa ?_ | refine Wb ?_ | refine Wc ?_ | refine Wd ?_ | refine We ?_ | refine Wf ?_ | refine Wg ?_ | refine Wh ?_ | refine Wi ?_ | refine Wj ?_ | refine Wk (by decide) ?_ | refine Wl ?_ | refine Wm ?_ | refine Wn ?_) | refine CallG.mk _ (p12) ?_ | refine CallG.mk _ (ht) ?_ | refine CallG.mk _ (hx) ?_ | refine CallG.mk _ (hbr) ?_ | refine CallG.mk _ (hof) ?_ | refine CallG.mk _ (hon) ?_ | refine CallG.mk _ (hsy) ?_ | refine CallG.mk _ (hsb) ?_ | ((with_reducible first | refine Wo (fun K hK => ?_) | refine Wp ?_ | refine Wq ?_ | refine Wr ?_); (try simp only [go_sem, List.forall_mem_nil, ↓guard_ite, ↓pick_ite, seval, encT_eq, inR_i64, h256, hbn, c1, c2, decide_eq_true_eq, decide_eq_false_iff_not, Int.ofNat_lt]); (repeat with_reducible refine And.intro (by first | omega | with_reducible exact lens_encT | with_reducible exact lens_encL | (simp; done) | (simp only [List.length_take, List.length_map, List.length_append, maxLen_eq]; omega)) ?_); (try (with_reducible refine hK _ ?_; clear hK K)); (try with_reducible refine ite_conj ?_)))
    simp only [go_sem, List.forall_mem_nil, ↓guard_ite, ↓pick_ite, seval, FinQ, AS.result, resAll, resOne, tupV]
  have hr1 := combRun_a (ap2 b x) 60
  have hr2 := combRun_a y 60
  have f1 := cRun_form (ap2_fm hbf hxf)
  have f2 := cRun_form hof2
  have n1 := cRun_nf (ap2_fm hbf hxf)
  have n2 := cRun_nf hof2
  generalize cRun (ap2 b x) 60 = r1 at *
  generalize cRun y 60 = r2 at *
  obtain ⟨p, m1, e⟩ := r1
  obtain ⟨q, m2, f⟩ := r2
  simp only at f1 f2 n1 n2 hr1 hr2
  by_cases he : e = 0
  · by_cases hf : f = 0
    · subst he hf
      obtain ⟨a1, a2⟩ := n1 rfl
      obtain ⟨b1, b2⟩ := n2 rfl
      have : p = q := nf_unique hp a1 b1 a2 b2
      subst this
      have hs := sameR_a p p
      rw [(Tm.beq_iff p p).2 rfl] at hs
      refine ac_metaprunetop_TopBracket (Nat.le_of_ble_eq_true rfl) fun C hC => ?_
      unfold ir_metaprunetop_TopBracket
      repeat' (first | (with_reducible first | refine Wa ?_ | refine Wb ?_ | refine Wc ?_ | refine Wd ?_ | refine We ?_ | refine Wf ?_ | refine Wg ?_ | refine Wh ?_ | refine Wi ?_ | refine Wj ?_ | refine Wk (by decide) ?_ | refine Wl ?_ | refine Wm ?_ | refine Wn ?_) | refine CallG.mk _ (p12) ?_ | refine CallG.mk _ (ht) ?_ | refine CallG.mk _ (hx) ?_ | refine CallG.mk _ (hbr) ?_ | refine CallG.mk _ (hof) ?_ | refine CallG.mk _ (hon) ?_ | refine CallG.mk _ (hsy) ?_ | refine CallG.mk _ (hsb) ?_ | refine CallG.mk _ (put2_a b x) ?_ | refine CallG.mk _ (hr1) ?_ | refine CallG.mk _ (hr2) ?_ | refine CallG.mk _ (hs) ?_ | ((with_reducible first | refine Wo (fun K hK => ?_) | refine Wp ?_ | refine Wq ?_ | refine Wr ?_); (try simp only [go_sem, List.forall_mem_nil, ↓guard_ite, ↓pick_ite, seval, encT_eq, inR_i64, h256, hbn, c1, c2, decide_eq_true_eq, decide_eq_false_iff_not, Int.ofNat_lt]); (repeat with_reducible refine And.intro (by first | omega | with_reducible exact lens_encT | with_reducible exact lens_encL | (simp; done) | (simp only [List.length_take, List.length_map, List.length_append, maxLen_eq]; omega)) ?_); (try (with_reducible refine hK _ ?_; clear hK K)); (try with_reducible refine ite_conj ?_)))
      simp only [go_sem, List.forall_mem_nil, ↓guard_ite, ↓pick_ite, seval, FinQ, AS.result, resAll, resOne, tupV]
    · subst he
      refine ac_metaprunetop_TopBracket (Nat.le_of_ble_eq_true rfl) fun C hC => ?_
      unfold ir_metaprunetop_TopBracket
      repeat' (first | (with_reducible first | refine Wa ?_ | refine Wb ?_ | refine Wc ?_ | refine Wd ?_ | refine We ?_ | refine Wf ?_ | refine Wg ?_ | refine Wh ?_ | refine Wi ?_ | refine Wj ?_ | refine Wk (by decide) ?_ | refine Wl ?_ | refine Wm ?_ | refine Wn ?_) | refine CallG.mk _ (p12) ?_ | refine CallG.mk _ (ht) ?_ | refine CallG.mk _ (hx) ?_ | refine CallG.mk _ (hbr) ?_ | refine CallG.mk _ (hof) ?_ | refine CallG.mk _ (hon) ?_ | refine CallG.mk _ (hsy) ?_ | refine CallG.mk _ (hsb) ?_ | refine CallG.mk _ (put2_a b x) ?_ | refine CallG.mk _ (hr1) ?_ | refine CallG.mk _ (hr2) ?_ | ((with_reducible first | refine Wo (fun K hK => ?_) | refine Wp ?_ | refine Wq ?_ | refine Wr ?_); (try simp only [go_sem, List.forall_mem_nil, ↓guard_ite, ↓pick_ite, seval, encT_eq, inR_i64, h256, hbn, c1, c2, hf, f2, decide_eq_true_eq, decide_eq_false_iff_not, Int.ofNat_lt]); (repeat with_reducible refine And.intro (by first | omega | with_reducible exact lens_encT | with_reducible exact lens_encL | (simp; done) | (simp only [List.length_take, List.length_map, List.length_append, maxLen_eq]; omega)) ?_); (try (with_reducible refine hK _ ?_; clear hK K)); (try with_reducible refine ite_conj ?_)))
      simp only [go_sem, List.forall_mem_nil, ↓guard_ite, ↓pick_ite, seval, FinQ, AS.result, resAll, resOne, tupV]
  · refine ac_metaprunetop_TopBracket (Nat.le_of_ble_eq_true rfl) fun C hC => ?_
    unfold ir_metaprunetop_TopBracket
    repeat' (first | (with_reducible first | refine Wa ?_ | refine Wb ?_ | refine Wc ?_ | refine Wd ?_ | refine We ?_ | refine Wf ?_ | refine Wg ?_ | refine Wh ?_ | refine Wi ?_ | refine Wj ?_ | refine Wk (by decide) ?_ | refine Wl ?_ | refine Wm ?_ | refine Wn ?_) | refine CallG.mk _ (p12) ?_ | refine CallG.mk _ (ht) ?_ | refine CallG.mk _ (hx) ?_ | refine CallG.mk _ (hbr) ?_ | refine CallG.mk _ (hof) ?_ | refine CallG.mk _ (hon) ?_ | refine CallG.mk _ (hsy) ?_ | refine CallG.mk _ (hsb) ?_ | refine CallG.mk _ (put2_a b x) ?_ | refine CallG.mk _ (hr1) ?_ | refine CallG.mk _ (hr2) ?_ | ((with_reducible first | refine Wo (fun K hK => ?_) | refine Wp ?_ | refine Wq ?_ | refine Wr ?_); (try simp only [go_sem, List.forall_mem_nil, ↓guard_ite, ↓pick_ite, seval, encT_eq, inR_i64, h256, hbn, c1, c2, he, f1, f2, decide_eq_true_eq, decide_eq_false_iff_not, Int.ofNat_lt]); (repeat with_reducible refine And.intro (by first | omega | with_reducible exact lens_encT | with_reducible exact lens_encL | (simp; done) | (simp only [List.length_take, List.length_map, List.length_append, maxLen_eq]; omega)) ?_); (try (with_reducible refine hK _ ?_; clear hK K)); (try with_reducible refine ite_conj ?_)))
    simp only [go_sem, List.forall_mem_nil, ↓guard_ite, ↓pick_ite, seval, FinQ, AS.result, resAll, resOne, tupV]
end Go.Proofs.Ytelmgldeghmkbaa
