/-
  Part 10 of the texts: BRead; BEndsP; BParse. Conditions: none.
-/
import Derived.Test.YtohgkbgpcnmdpaaPrs9
namespace Go.Proofs.Ytohgkbgpcnmdpaa
open Go Go.RowKit
set_option linter.unusedVariables false
set_option linter.unusedSimpArgs false
set_option maxHeartbeats 1000000

/-- Code that is left by one exit alone. -/
theorem IWP.cut {P : Program} {C : Ctx} {mu : List Nat} {Q : AX → AS → Prop} {s : AS} {x : IR} (id : Nat) (M : AS → Prop) (h1 : IWP P C mu x (fun e s => e = .exit id ∧ M s) s) (h2 : ∀ s, M s → Q (.exit id) s) : IWP P C mu x Q s :=
  h1.mono fun e s h => by
    obtain ⟨rfl, hm⟩ := h
    exact h2 s hm
abbrev boxT0r : ABlk := .box 24 [.st (.str ⟨#[]⟩), .full []]
def rdV (r : Rd) : AV := .tup [aTm r.t, aInt r.i, aInt r.k, aInt r.e]
theorem rd_zero {s : ByteArray} {f i k : Nat} (h0 : lendA s i = i) : rd s (f + 1) i k = ⟨.mk ⟨#[]⟩ [], i, k, if i = s.size then 13 else 12⟩ := by rw [rd, if_pos h0]
theorem rd_name {s : ByteArray} {f i k : Nat} (h0 : ¬ lendA s i = i) (h1 : ¬ nameOk (s.extract i (lendA s i)) = true) : rd s (f + 1) i k = ⟨.mk (s.extract i (lendA s i)) [], lendA s i, k, 1⟩ := by rw [rd, if_neg h0, if_neg h1]
theorem rd_limit {s : ByteArray} {f i k : Nat} (h0 : ¬ lendA s i = i) (h1 : nameOk (s.extract i (lendA s i)) = true) (h2 : 200 < k + 1) : rd s (f + 1) i k = ⟨.mk (s.extract i (lendA s i)) [], lendA s i, k + 1, 3⟩ := by rw [rd, if_neg h0, if_pos h1, if_pos h2]
theorem rd_leaf {s : ByteArray} {f i k : Nat} (h0 : ¬ lendA s i = i) (h1 : nameOk (s.extract i (lendA s i)) = true) (h2 : ¬ 200 < k + 1) (h3 : lendA s i = s.size ∨ byteAt s (lendA s i) ≠ 40) : rd s (f + 1) i k = ⟨.mk (s.extract i (lendA s i)) [], lendA s i, k + 1, 0⟩ := by rw [rd, if_neg h0, if_pos h1, if_neg h2, if_pos h3]
theorem rd_form {s : ByteArray} {f i k : Nat} (h0 : ¬ lendA s i = i) (h1 : nameOk (s.extract i (lendA s i)) = true) (h2 : ¬ 200 < k + 1) (h3 : ¬ (lendA s i = s.size ∨ byteAt s (lendA s i) ≠ 40)) (h4 : isVar (s.extract i (lendA s i)) = true) : rd s (f + 1) i k = ⟨.mk (s.extract i (lendA s i)) [], lendA s i, k + 1, 2⟩ := by rw [rd, if_neg h0, if_pos h1, if_neg h2, if_neg h3, if_pos h4]
theorem rd_args {s : ByteArray} {f i k : Nat} (h0 : ¬ lendA s i = i) (h1 : nameOk (s.extract i (lendA s i)) = true) (h2 : ¬ 200 < k + 1) (h3 : ¬ (lendA s i = s.size ∨ byteAt s (lendA s i) ≠ 40)) (h4 : ¬ isVar (s.extract i (lendA s i)) = true) : rd s (f + 1) i k = rdA s f (s.extract i (lendA s i)) [] (lendA s i) (k + 1) := by rw [rd, if_neg h0, if_pos h1, if_neg h2, if_neg h3, if_neg h4]
theorem rdA_bad {s : ByteArray} {f : Nat} {n : ByteArray} {acc : List Tm} {i k : Nat} (h : ¬ (rd s f (i + 1) k).e = 0) : rdA s (f + 1) n acc i k = ⟨.mk n acc, (rd s f (i + 1) k).i, (rd s f (i + 1) k).k, (rd s f (i + 1) k).e⟩ := by rw [rdA, if_neg h]
theorem rdA_short {s : ByteArray} {f : Nat} {n : ByteArray} {acc : List Tm} {i k : Nat} (h : (rd s f (i + 1) k).e = 0) (h1 : (rd s f (i + 1) k).i = s.size) : rdA s (f + 1) n acc i k = ⟨.mk n (acc ++ [(rd s f (i + 1) k).t]), (rd s f (i + 1) k).i, (rd s f (i + 1) k).k, 13⟩ := by rw [rdA, if_pos h, if_pos h1]
theorem rdA_close {s : ByteArray} {f : Nat} {n : ByteArray} {acc : List Tm} {i k : Nat} (h : (rd s f (i + 1) k).e = 0) (h1 : ¬ (rd s f (i + 1) k).i = s.size) (h2 : byteAt s (rd s f (i + 1) k).i = 41) : rdA s (f + 1) n acc i k = ⟨.mk n (acc ++ [(rd s f (i + 1) k).t]), (rd s f (i + 1) k).i + 1, (rd s f (i + 1) k).k, 0⟩ := by rw [rdA, if_pos h, if_neg h1, if_pos h2]
theorem rdA_on {s : ByteArray} {f : Nat} {n : ByteArray} {acc : List Tm} {i k : Nat} (h : (rd s f (i + 1) k).e = 0) (h1 : ¬ (rd s f (i + 1) k).i = s.size) (h2 : ¬ byteAt s (rd s f (i + 1) k).i = 41) (h3 : byteAt s (rd s f (i + 1) k).i = 44) : rdA s (f + 1) n acc i k = rdA s f n (acc ++ [(rd s f (i + 1) k).t]) (rd s f (i + 1) k).i (rd s f (i + 1) k).k := by rw [rdA, if_pos h, if_neg h1, if_neg h2, if_pos h3]
theorem rdA_word {s : ByteArray} {f : Nat} {n : ByteArray} {acc : List Tm} {i k : Nat} (h : (rd s f (i + 1) k).e = 0) (h1 : ¬ (rd s f (i + 1) k).i = s.size) (h2 : ¬ byteAt s (rd s f (i + 1) k).i = 41) (h3 : ¬ byteAt s (rd s f (i + 1) k).i = 44) : rdA s (f + 1) n acc i k = ⟨.mk n (acc ++ [(rd s f (i + 1) k).t]), (rd s f (i + 1) k).i, (rd s f (i + 1) k).k, 12⟩ := by rw [rdA, if_pos h, if_neg h1, if_neg h2, if_neg h3]

theorem encT_snoc (acc : List Tm) (a : Tm) : (acc ++ [a]).map encT = acc.map encT ++ [[.str a.name, .list (a.args.map encT)]] := by
  rw [List.map_append, List.map_cons, List.map_nil, encT_eq a]
theorem read_a (s : ByteArray) (hs : s.size ≤ 100000) : ∀ f i k : Nat, i ≤ s.size → k ≤ 200 → 2 * (s.size - i) < f → ACalls Try.prog 28 [aStr s, aInt i, aInt k] (rdV (rd s f i k)) := by
  intro f
  induction f using Nat.strongRecOn with
  | _ f ih =>
  intro i k hi hk hf
  obtain ⟨f, rfl⟩ : ∃ g, f = g + 1 := ⟨f - 1, by omega⟩
  obtain ⟨l1, l2⟩ := lendA_le hi
  refine ac_R_read (Nat.le_of_ble_eq_true rfl) fun C hC => ?_
  unfold ir_R_read
  repeat' (first | (with_reducible first | refine Wa ?_ | refine Wb ?_ | refine Wc ?_ | refine Wd ?_ | refine We ?_ | refine Wf ?_ | refine Wg ?_ | refine Wh ?_ | refine Wi ?_ | refine Wj ?_ | refine Wk (by decide) ?_ | refine Wl ?_ | refine Wm ?_ | refine Wn ?_) | ((with_reducible first | refine Wo (fun K hK => ?_) | refine Wp ?_ | refine Wq ?_ | refine Wr ?_); (try simp only [go_sem, List.forall_mem_nil, ↓guard_ite, ↓pick_ite, seval, encT_eq, inR_i64, decide_eq_true_eq, decide_eq_false_iff_not, Int.ofNat_lt]); (repeat with_reducible refine And.intro (by first | omega | (with_reducible first | exact lens_encT | exact lens_encL | exact lens_encB | exact lens_encP) | (simp; done) | (simp only [List.length_take, List.length_map, List.length_append, maxLen_eq]; omega)) ?_); (try (with_reducible refine hK _ ?_; clear hK K)); (try with_reducible refine ite_conj ?_)))
  refine IWP.cut 0 (fun x => x.env 0 = aStr s ∧ x.env 1 = aInt (lendA s i) ∧ x.env 2 = aInt k ∧ x.env 10 = aInt i ∧ x.env 6 = .one (.ptr 6 1 0 0) ∧ x.S 6 = some boxT0r ∧ x.S 11 = none ∧ x.S 12 = none ∧ x.S 900 = none) ?_ ?_
  · refine IWP.loop (fun m x => ∃ j, i ≤ j ∧ j ≤ s.size ∧ m = s.size - j ∧ lendA s i = lendA s j ∧ x.env 0 = aStr s ∧ x.env 1 = aInt j ∧ x.env 2 = aInt k ∧ x.env 10 = aInt i ∧ x.env 6 = .one (.ptr 6 1 0 0) ∧ x.S 6 = some boxT0r ∧ x.S 11 = none ∧ x.S 12 = none ∧ x.S 900 = none) (s.size - i) ⟨i, Nat.le_refl _, hi, rfl, rfl, rfl, rfl, rfl, rfl, rfl, rfl, rfl, rfl, rfl⟩ ?_
    rintro m ⟨env, S⟩ ⟨j, hij, hj, rfl, hl, e0, e1, e2, e10, e6, s6, s11, s12, s900⟩
    simp only at e0 e1 e2 e10 e6 s6 s11 s12 s900
    by_cases hlt : (j : Int) < s.size
    · have hb := byteAt_range s j
      by_cases hlet : letterI (byteN s j) = true
      · repeat' (first | (with_reducible first | refine Wa ?_ | refine Wb ?_ | refine Wc ?_ | refine Wd ?_ | refine We ?_ | refine Wf ?_ | refine Wg ?_ | refine Wh ?_ | refine Wi ?_ | refine Wj ?_ | refine Wk (by decide) ?_ | refine Wl ?_ | refine Wm ?_ | refine Wn ?_) | refine CallG.mk _ (isLetter_a (byteN s j) hb.1) ?_ | ((with_reducible first | refine Wo (fun K hK => ?_) | refine Wp ?_ | refine Wq ?_ | refine Wr ?_); (try simp only [go_sem, List.forall_mem_nil, ↓guard_ite, ↓pick_ite, seval, encT_eq, inR_i64, e0, e1, e2, e10, e6, s6, hlt, hlet, decide_eq_true_eq, decide_eq_false_iff_not, Int.ofNat_lt]); (repeat with_reducible refine And.intro (by first | omega | (with_reducible first | exact lens_encT | exact lens_encL | exact lens_encB | exact lens_encP) | (simp; done) | (simp only [List.length_take, List.length_map, List.length_append, maxLen_eq]; omega)) ?_); (try (with_reducible refine hK _ ?_; clear hK K)); (try with_reducible refine ite_conj ?_)))
        refine then_normal ⟨s.size - (j + 1), by omega, j + 1, by omega, by omega, rfl, ?_, ?_⟩
        · rw [hl]
          exact lendA_on (by omega) hlet
        · simp only [go_sem, List.forall_mem_nil, ↓guard_ite, ↓pick_ite, seval, encT_eq, inR_i64, e0, e1, e2, e10, e6, s6, s11, s12, s900]
          congr 3
      · have hst : lendA s j = j := lendA_stop (by omega) hlet
        repeat' (first | (with_reducible first | refine Wa ?_ | refine Wb ?_ | refine Wc ?_ | refine Wd ?_ | refine We ?_ | refine Wf ?_ | refine Wg ?_ | refine Wh ?_ | refine Wi ?_ | refine Wj ?_ | refine Wk (by decide) ?_ | refine Wl ?_ | refine Wm ?_ | refine Wn ?_) | refine CallG.mk _ (isLetter_a (byteN s j) hb.1) ?_ | ((with_reducible first | refine Wo (fun K hK => ?_) | refine Wp ?_ | refine Wq ?_ | refine Wr ?_); (try simp only [go_sem, List.forall_mem_nil, ↓guard_ite, ↓pick_ite, seval, encT_eq, inR_i64, e0, e1, e2, e10, e6, s6, hlt, hlet, decide_eq_true_eq, decide_eq_false_iff_not, Int.ofNat_lt]); (repeat with_reducible refine And.intro (by first | omega | (with_reducible first | exact lens_encT | exact lens_encL | exact lens_encB | exact lens_encP) | (simp; done) | (simp only [List.length_take, List.length_map, List.length_append, maxLen_eq]; omega)) ?_); (try (with_reducible refine hK _ ?_; clear hK K)); (try with_reducible refine ite_conj ?_)))
        refine ⟨rfl, ?_⟩
        simp only [go_sem, List.forall_mem_nil, ↓guard_ite, ↓pick_ite, seval, encT_eq, inR_i64, e0, e1, e2, e10, e6, s6, s11, s12, s900]
        rw [hl, hst]
    · have hst : lendA s j = j := lendA_end (by omega)
      repeat' (first | (with_reducible first | refine Wa ?_ | refine Wb ?_ | refine Wc ?_ | refine Wd ?_ | refine We ?_ | refine Wf ?_ | refine Wg ?_ | refine Wh ?_ | refine Wi ?_ | refine Wj ?_ | refine Wk (by decide) ?_ | refine Wl ?_ | refine Wm ?_ | refine Wn ?_) | ((with_reducible first | refine Wo (fun K hK => ?_) | refine Wp ?_ | refine Wq ?_ | refine Wr ?_); (try simp only [go_sem, List.forall_mem_nil, ↓guard_ite, ↓pick_ite, seval, encT_eq, inR_i64, e0, e1, e2, e10, e6, s6, hlt, decide_eq_true_eq, decide_eq_false_iff_not, Int.ofNat_lt]); (repeat with_reducible refine And.intro (by first | omega | (with_reducible first | exact lens_encT | exact lens_encL | exact lens_encB | exact lens_encP) | (simp; done) | (simp only [List.length_take, List.length_map, List.length_append, maxLen_eq]; omega)) ?_); (try (with_reducible refine hK _ ?_; clear hK K)); (try with_reducible refine ite_conj ?_)))
      refine ⟨rfl, ?_⟩
      simp only [go_sem, List.forall_mem_nil, ↓guard_ite, ↓pick_ite, seval, encT_eq, inR_i64, e0, e1, e2, e10, e6, s6, s11, s12, s900]
      rw [hl, hst]
  rintro ⟨env, S⟩ ⟨e0, e1, e2, e10, e6, s6, s11, s12, s900⟩
  simp only at e0 e1 e2 e10 e6 s6 s11 s12 s900
  by_cases h0 : lendA s i = i
  · rw [rd_zero h0]
    rw [h0] at e1
    unfold rdV
    by_cases hsz : i = s.size
    · have hszi : (i : Int) = s.size := by omega
      rw [if_pos hsz]
      repeat' (first | (with_reducible first | refine Wa ?_ | refine Wb ?_ | refine Wc ?_ | refine Wd ?_ | refine We ?_ | refine Wf ?_ | refine Wg ?_ | refine Wh ?_ | refine Wi ?_ | refine Wj ?_ | refine Wk (by decide) ?_ | refine Wl ?_ | refine Wm ?_ | refine Wn ?_) | ((with_reducible first | refine Wo (fun K hK => ?_) | refine Wp ?_ | refine Wq ?_ | refine Wr ?_); (try simp only [go_sem, List.forall_mem_nil, ↓guard_ite, ↓pick_ite, seval, encT_eq, inR_i64, e0, e1, e2, e10, e6, s6, hszi, decide_eq_true_eq, decide_eq_false_iff_not, Int.ofNat_lt]); (repeat with_reducible refine And.intro (by first | omega | (with_reducible first | exact lens_encT | exact lens_encL | exact lens_encB | exact lens_encP) | (simp; done) | (simp only [List.length_take, List.length_map, List.length_append, maxLen_eq]; omega)) ?_); (try (with_reducible refine hK _ ?_; clear hK K)); (try with_reducible refine ite_conj ?_)))
      simp only [go_sem, List.forall_mem_nil, ↓guard_ite, ↓pick_ite, seval, FinQ, AS.result, resAll, resOne, tupV, e6, s6]
      rfl
    · have hszi : ¬ (i : Int) = s.size := by omega
      rw [if_neg hsz]
      repeat' (first | (with_reducible first | refine Wa ?_ | refine Wb ?_ | refine Wc ?_ | refine Wd ?_ | refine We ?_ | refine Wf ?_ | refine Wg ?_ | refine Wh ?_ | refine Wi ?_ | refine Wj ?_ | refine Wk (by decide) ?_ | refine Wl ?_ | refine Wm ?_ | refine Wn ?_) | ((with_reducible first | refine Wo (fun K hK => ?_) | refine Wp ?_ | refine Wq ?_ | refine Wr ?_); (try simp only [go_sem, List.forall_mem_nil, ↓guard_ite, ↓pick_ite, seval, encT_eq, inR_i64, e0, e1, e2, e10, e6, s6, hszi, decide_eq_true_eq, decide_eq_false_iff_not, Int.ofNat_lt]); (repeat with_reducible refine And.intro (by first | omega | (with_reducible first | exact lens_encT | exact lens_encL | exact lens_encB | exact lens_encP) | (simp; done) | (simp only [List.length_take, List.length_map, List.length_append, maxLen_eq]; omega)) ?_); (try (with_reducible refine hK _ ?_; clear hK K)); (try with_reducible refine ite_conj ?_)))
      simp only [go_sem, List.forall_mem_nil, ↓guard_ite, ↓pick_ite, seval, FinQ, AS.result, resAll, resOne, tupV, e6, s6]
      rfl
  have h0i : ¬ ((lendA s i : Nat) : Int) = i := by omega
  by_cases h1 : nameOk (s.extract i (lendA s i)) = true
  case neg =>
    rw [rd_name h0 h1]
    unfold rdV
    repeat' (first | (with_reducible first | refine Wa ?_ | refine Wb ?_ | refine Wc ?_ | refine Wd ?_ | refine We ?_ | refine Wf ?_ | refine Wg ?_ | refine Wh ?_ | refine Wi ?_ | refine Wj ?_ | refine Wk (by decide) ?_ | refine Wl ?_ | refine Wm ?_ | refine Wn ?_) | refine CallG.mk _ (isName_a (s.extract i (lendA s i))) ?_ | ((with_reducible first | refine Wo (fun K hK => ?_) | refine Wp ?_ | refine Wq ?_ | refine Wr ?_); (try simp only [go_sem, List.forall_mem_nil, ↓guard_ite, ↓pick_ite, seval, encT_eq, inR_i64, e0, e1, e2, e10, e6, s6, s11, h0i, h1, decide_eq_true_eq, decide_eq_false_iff_not, Int.ofNat_lt]); (repeat with_reducible refine And.intro (by first | omega | (with_reducible first | exact lens_encT | exact lens_encL | exact lens_encB | exact lens_encP) | (simp; done) | (simp only [List.length_take, List.length_map, List.length_append, maxLen_eq]; omega)) ?_); (try (with_reducible refine hK _ ?_; clear hK K)); (try with_reducible refine ite_conj ?_)))
    simp only [go_sem, List.forall_mem_nil, ↓guard_ite, ↓pick_ite, seval, FinQ, AS.result, resAll, resOne, tupV, e6, s6]
    rfl
  case pos =>
  by_cases h2 : 200 < k + 1
  · have h2i : (200 : Int) < k + 1 := by omega
    rw [rd_limit h0 h1 h2]
    unfold rdV
    repeat' (first | (with_reducible first | refine Wa ?_ | refine Wb ?_ | refine Wc ?_ | refine Wd ?_ | refine We ?_ | refine Wf ?_ | refine Wg ?_ | refine Wh ?_ | refine Wi ?_ | refine Wj ?_ | refine Wk (by decide) ?_ | refine Wl ?_ | refine Wm ?_ | refine Wn ?_) | refine CallG.mk _ (isName_a (s.extract i (lendA s i))) ?_ | ((with_reducible first | refine Wo (fun K hK => ?_) | refine Wp ?_ | refine Wq ?_ | refine Wr ?_); (try simp only [go_sem, List.forall_mem_nil, ↓guard_ite, ↓pick_ite, seval, encT_eq, inR_i64, e0, e1, e2, e10, e6, s6, s11, h0i, h1, h2i, decide_eq_true_eq, decide_eq_false_iff_not, Int.ofNat_lt]); (repeat with_reducible refine And.intro (by first | omega | (with_reducible first | exact lens_encT | exact lens_encL | exact lens_encB | exact lens_encP) | (simp; done) | (simp only [List.length_take, List.length_map, List.length_append, maxLen_eq]; omega)) ?_); (try (with_reducible refine hK _ ?_; clear hK K)); (try with_reducible refine ite_conj ?_)))
    simp only [go_sem, List.forall_mem_nil, ↓guard_ite, ↓pick_ite, seval, FinQ, AS.result, resAll, resOne, tupV, e6, s6]
    rfl
  have h2i : ¬ (200 : Int) < k + 1 := by omega
  by_cases h3 : lendA s i = s.size
  · have h3i : ((lendA s i : Nat) : Int) = s.size := by omega
    have h0s : ¬ (s.size : Int) = i := by omega
    rw [rd_leaf h0 h1 h2 (.inl h3)]
    unfold rdV
    rw [h3] at h1 e1
    rw [h3]
    repeat' (first | (with_reducible first | refine Wa ?_ | refine Wb ?_ | refine Wc ?_ | refine Wd ?_ | refine We ?_ | refine Wf ?_ | refine Wg ?_ | refine Wh ?_ | refine Wi ?_ | refine Wj ?_ | refine Wk (by decide) ?_ | refine Wl ?_ | refine Wm ?_ | refine Wn ?_) | refine CallG.mk _ (isName_a (s.extract i s.size)) ?_ | ((with_reducible first | refine Wo (fun K hK => ?_) | refine Wp ?_ | refine Wq ?_ | refine Wr ?_); (try simp only [go_sem, List.forall_mem_nil, ↓guard_ite, ↓pick_ite, seval, encT_eq, inR_i64, e0, e1, e2, e10, e6, s6, s11, h0s, h1, h2i, decide_eq_true_eq, decide_eq_false_iff_not, Int.ofNat_lt]); (repeat with_reducible refine And.intro (by first | omega | (with_reducible first | exact lens_encT | exact lens_encL | exact lens_encB | exact lens_encP) | (simp; done) | (simp only [List.length_take, List.length_map, List.length_append, maxLen_eq]; omega)) ?_); (try (with_reducible refine hK _ ?_; clear hK K)); (try with_reducible refine ite_conj ?_)))
    simp only [go_sem, List.forall_mem_nil, ↓guard_ite, ↓pick_ite, seval, FinQ, AS.result, resAll, resOne, tupV, e6, s6]
    rfl
  have h3i : ¬ ((lendA s i : Nat) : Int) = s.size := by omega
  by_cases h3' : byteN s (lendA s i) = 40
  case neg =>
    rw [rd_leaf h0 h1 h2 (.inr h3')]
    unfold rdV
    repeat' (first | (with_reducible first | refine Wa ?_ | refine Wb ?_ | refine Wc ?_ | refine Wd ?_ | refine We ?_ | refine Wf ?_ | refine Wg ?_ | refine Wh ?_ | refine Wi ?_ | refine Wj ?_ | refine Wk (by decide) ?_ | refine Wl ?_ | refine Wm ?_ | refine Wn ?_) | refine CallG.mk _ (isName_a (s.extract i (lendA s i))) ?_ | ((with_reducible first | refine Wo (fun K hK => ?_) | refine Wp ?_ | refine Wq ?_ | refine Wr ?_); (try simp only [go_sem, List.forall_mem_nil, ↓guard_ite, ↓pick_ite, seval, encT_eq, inR_i64, e0, e1, e2, e10, e6, s6, s11, h0i, h1, h2i, h3i, h3', decide_eq_true_eq, decide_eq_false_iff_not, Int.ofNat_lt]); (repeat with_reducible refine And.intro (by first | omega | (with_reducible first | exact lens_encT | exact lens_encL | exact lens_encB | exact lens_encP) | (simp; done) | (simp only [List.length_take, List.length_map, List.length_append, maxLen_eq]; omega)) ?_); (try (with_reducible refine hK _ ?_; clear hK K)); (try with_reducible refine ite_conj ?_)))
    simp only [go_sem, List.forall_mem_nil, ↓guard_ite, ↓pick_ite, seval, FinQ, AS.result, resAll, resOne, tupV, e6, s6]
    rfl
  case pos =>
  have h3n : ¬ (lendA s i = s.size ∨ byteAt s (lendA s i) ≠ 40) := fun h => h.elim h3 (fun h => h h3')
  by_cases h4 : isVar (s.extract i (lendA s i)) = true
  · rw [rd_form h0 h1 h2 h3n h4]
    unfold rdV
    repeat' (first | (with_reducible first | refine Wa ?_ | refine Wb ?_ | refine Wc ?_ | refine Wd ?_ | refine We ?_ | refine Wf ?_ | refine Wg ?_ | refine Wh ?_ | refine Wi ?_ | refine Wj ?_ | refine Wk (by decide) ?_ | refine Wl ?_ | refine Wm ?_ | refine Wn ?_) | refine CallG.mk _ (isName_a (s.extract i (lendA s i))) ?_ | refine CallG.mk _ (isVar_a (s.extract i (lendA s i))) ?_ | ((with_reducible first | refine Wo (fun K hK => ?_) | refine Wp ?_ | refine Wq ?_ | refine Wr ?_); (try simp only [go_sem, List.forall_mem_nil, ↓guard_ite, ↓pick_ite, seval, encT_eq, inR_i64, e0, e1, e2, e10, e6, s6, s11, h0i, h1, h2i, h3i, h3', h4, decide_eq_true_eq, decide_eq_false_iff_not, Int.ofNat_lt]); (repeat with_reducible refine And.intro (by first | omega | (with_reducible first | exact lens_encT | exact lens_encL | exact lens_encB | exact lens_encP) | (simp; done) | (simp only [List.length_take, List.length_map, List.length_append, maxLen_eq]; omega)) ?_); (try (with_reducible refine hK _ ?_; clear hK K)); (try with_reducible refine ite_conj ?_)))
    simp only [go_sem, List.forall_mem_nil, ↓guard_ite, ↓pick_ite, seval, FinQ, AS.result, resAll, resOne, tupV, e6, s6]
    rfl
  rw [rd_args h0 h1 h2 h3n h4]
  have hlt0 : lendA s i < s.size := by omega
  have hf0 : 2 * (s.size - lendA s i) ≤ f := by omega
  clear h0
  obtain ⟨n, hn⟩ : ∃ n, s.extract i (lendA s i) = n := ⟨_, rfl⟩
  rw [hn] at h1 h4 ⊢
  generalize lendA s i = to at *
  repeat' (first | (with_reducible first | refine Wa ?_ | refine Wb ?_ | refine Wc ?_ | refine Wd ?_ | refine We ?_ | refine Wf ?_ | refine Wg ?_ | refine Wh ?_ | refine Wi ?_ | refine Wj ?_ | refine Wk (by decide) ?_ | refine Wl ?_ | refine Wm ?_ | refine Wn ?_) | refine CallG.mk _ (isName_a n) ?_ | refine CallG.mk _ (isVar_a n) ?_ | ((with_reducible first | refine Wo (fun K hK => ?_) | refine Wp ?_ | refine Wq ?_ | refine Wr ?_); (try simp only [go_sem, List.forall_mem_nil, ↓guard_ite, ↓pick_ite, seval, encT_eq, inR_i64, e0, e1, e2, e10, e6, s6, s11, h0i, h1, h2i, h3i, h3', h4, hn, decide_eq_true_eq, decide_eq_false_iff_not, Int.ofNat_lt]); (repeat with_reducible refine And.intro (by first | omega | (with_reducible first | exact lens_encT | exact lens_encL | exact lens_encB | exact lens_encP) | (simp; done) | (simp only [List.length_take, List.length_map, List.length_append, maxLen_eq]; omega)) ?_); (try (with_reducible refine hK _ ?_; clear hK K)); (try with_reducible refine ite_conj ?_)))
  refine IWP.ghost (Ghost.ownC 11 1 900 24 2 (xs := ([] : List Tm).map encT) rfl rfl (by simp only [go_sem, List.forall_mem_nil, ↓guard_ite, ↓pick_ite, seval, encT_eq, inR_i64, s900, s11]) lens_encT) ?_
  refine IWP.loopD [12] (fun m x => ∃ (g : Nat) (acc : List Tm) (j c : Nat), rdA s f n [] to (k + 1) = rdA s g n acc j c ∧ m = s.size - j ∧ 2 * (s.size - j) ≤ g ∧ g ≤ f ∧ j < s.size ∧ c ≤ 200 ∧ acc.length ≤ c ∧ x.env 0 = aStr s ∧ x.env 1 = aInt j ∧ x.env 2 = aInt c ∧ x.env 6 = .one (.ptr 6 1 0 0) ∧ x.env 11 = .one (.ptr 11 1 0 0) ∧ x.S 6 = some boxT0r ∧ x.S 11 = some (.box 24 [.st (.str n), .row 900 acc.length]) ∧ x.S 900 = some (.arow 24 2 (acc.map encT)) ∧ x.S 12 = none)
    (s.size - to) ⟨f, [], to, k + 1, rfl, rfl, hf0, Nat.le_refl _, hlt0, by omega, by simp, ?_⟩ ?_
  · simp only [go_sem, List.forall_mem_nil, ↓guard_ite, ↓pick_ite, seval, encT_eq, inR_i64, e0, e1, e2, e10, e6, s6, s11, s12, s900]
    exact ⟨by congr 3, rfl⟩
  rintro m ⟨env, S⟩ ⟨g, acc, j, c, hrd, rfl, hg, hgf, hj, hc, hac, e0, e1, e2, e6, e11, s6, s11, s900, s12⟩
  simp only at e0 e1 e2 e6 e11 s6 s11 s900 s12
  rw [hrd]
  obtain ⟨g, rfl⟩ : ∃ g', g = g' + 1 := ⟨g - 1, by omega⟩
  have hcall := ih g (by omega) (j + 1) c (by omega) hc (by omega)
  have hok := rd_ok s g (j + 1) c (by omega) hc (by omega)
  rw [show ((j + 1 : Nat) : Int) = (j : Int) + 1 by omega] at hcall
  have hle := hok.le
  have hin := hok.in_
  have hal : (acc.map encT).length = acc.length := List.length_map _
  by_cases q0 : (rd s g (j + 1) c).e = 0
  case neg =>
    rw [rdA_bad q0]
    unfold rdV at hcall ⊢
    repeat' (first | (with_reducible first | refine Wa ?_ | refine Wb ?_ | refine Wc ?_ | refine Wd ?_ | refine We ?_ | refine Wf ?_ | refine Wg ?_ | refine Wh ?_ | refine Wi ?_ | refine Wj ?_ | refine Wk (by decide) ?_ | refine Wl ?_ | refine Wm ?_ | refine Wn ?_) | refine CallG.mk _ (hcall) ?_ | ((with_reducible first | refine Wo (fun K hK => ?_) | refine Wp ?_ | refine Wq ?_ | refine Wr ?_); (try simp only [go_sem, List.forall_mem_nil, ↓guard_ite, ↓pick_ite, seval, encT_eq, inR_i64, e0, e1, e2, e6, e11, s6, s11, s900, s12, q0, decide_eq_true_eq, decide_eq_false_iff_not, Int.ofNat_lt]); (repeat with_reducible refine And.intro (by first | omega | (with_reducible first | exact lens_encT | exact lens_encL | exact lens_encB | exact lens_encP) | (simp; done) | (simp only [List.length_take, List.length_map, List.length_append, maxLen_eq]; omega)) ?_); (try (with_reducible refine hK _ ?_; clear hK K)); (try with_reducible refine ite_conj ?_)))
    simp only [go_sem, List.forall_mem_nil, ↓guard_ite, ↓pick_ite, seval, FinQ, AS.result, resAll, resOne, tupV, e6, s6, s11, s900]
    rfl
  case pos =>
  obtain ⟨o1, o2, o3, o4⟩ := hok.ok q0
  by_cases q1 : (rd s g (j + 1) c).i = s.size
  · have q1i : (((rd s g (j + 1) c).i : Nat) : Int) = s.size := by omega
    rw [rdA_short q0 q1]
    unfold rdV at hcall ⊢
    repeat' (first | (with_reducible first | refine Wa ?_ | refine Wb ?_ | refine Wc ?_ | refine Wd ?_ | refine We ?_ | refine Wf ?_ | refine Wg ?_ | refine Wh ?_ | refine Wi ?_ | refine Wj ?_ | refine Wk (by decide) ?_ | refine Wl ?_ | refine Wm ?_ | refine Wn ?_) | refine CallG.mk _ (hcall) ?_ | ((with_reducible first | refine Wo (fun K hK => ?_) | refine Wp ?_ | refine Wq ?_ | refine Wr ?_); (try simp only [go_sem, List.forall_mem_nil, ↓guard_ite, ↓pick_ite, seval, encT_eq, inR_i64, e0, e1, e2, e6, e11, s6, s11, s900, s12, q0, q1i, decide_eq_true_eq, decide_eq_false_iff_not, Int.ofNat_lt]); (repeat with_reducible refine And.intro (by first | omega | (with_reducible first | exact lens_encT | exact lens_encL | exact lens_encB | exact lens_encP) | (simp; done) | (simp only [List.length_take, List.length_map, List.length_append, maxLen_eq]; omega)) ?_); (try (with_reducible refine hK _ ?_; clear hK K)); (try with_reducible refine ite_conj ?_)))
    simp only [go_sem, List.forall_mem_nil, ↓guard_ite, ↓pick_ite, seval, FinQ, AS.result, resAll, resOne, tupV, e6, s6, s11, s900]
    rw [← encT_snoc]
    rfl
  have q1i : ¬ (((rd s g (j + 1) c).i : Nat) : Int) = s.size := by omega
  by_cases q2 : byteN s (rd s g (j + 1) c).i = 41
  · rw [rdA_close q0 q1 q2]
    unfold rdV at hcall ⊢
    repeat' (first | (with_reducible first | refine Wa ?_ | refine Wb ?_ | refine Wc ?_ | refine Wd ?_ | refine We ?_ | refine Wf ?_ | refine Wg ?_ | refine Wh ?_ | refine Wi ?_ | refine Wj ?_ | refine Wk (by decide) ?_ | refine Wl ?_ | refine Wm ?_ | refine Wn ?_) | refine CallG.mk _ (hcall) ?_ | ((with_reducible first | refine Wo (fun K hK => ?_) | refine Wp ?_ | refine Wq ?_ | refine Wr ?_); (try simp only [go_sem, List.forall_mem_nil, ↓guard_ite, ↓pick_ite, seval, encT_eq, inR_i64, e0, e1, e2, e6, e11, s6, s11, s900, s12, q0, q1i, q2, decide_eq_true_eq, decide_eq_false_iff_not, Int.ofNat_lt]); (repeat with_reducible refine And.intro (by first | omega | (with_reducible first | exact lens_encT | exact lens_encL | exact lens_encB | exact lens_encP) | (simp; done) | (simp only [List.length_take, List.length_map, List.length_append, maxLen_eq]; omega)) ?_); (try (with_reducible refine hK _ ?_; clear hK K)); (try with_reducible refine ite_conj ?_)))
    simp only [go_sem, List.forall_mem_nil, ↓guard_ite, ↓pick_ite, seval, FinQ, AS.result, resAll, resOne, tupV, e6, s6, s11, s900]
    rw [← encT_snoc]
    rfl
  by_cases q3 : byteN s (rd s g (j + 1) c).i = 44
  · rw [rdA_on q0 q1 q2 q3]
    unfold rdV at hcall
    repeat' (first | (with_reducible first | refine Wa ?_ | refine Wb ?_ | refine Wc ?_ | refine Wd ?_ | refine We ?_ | refine Wf ?_ | refine Wg ?_ | refine Wh ?_ | refine Wi ?_ | refine Wj ?_ | refine Wk (by decide) ?_ | refine Wl ?_ | refine Wm ?_ | refine Wn ?_) | refine CallG.mk _ (hcall) ?_ | ((with_reducible first | refine Wo (fun K hK => ?_) | refine Wp ?_ | refine Wq ?_ | refine Wr ?_); (try simp only [go_sem, List.forall_mem_nil, ↓guard_ite, ↓pick_ite, seval, encT_eq, inR_i64, e0, e1, e2, e6, e11, s6, s11, s900, s12, q0, q1i, q2, q3, decide_eq_true_eq, decide_eq_false_iff_not, Int.ofNat_lt]); (repeat with_reducible refine And.intro (by first | omega | (with_reducible first | exact lens_encT | exact lens_encL | exact lens_encB | exact lens_encP) | (simp; done) | (simp only [List.length_take, List.length_map, List.length_append, maxLen_eq]; omega)) ?_); (try (with_reducible refine hK _ ?_; clear hK K)); (try with_reducible refine ite_conj ?_)))
    refine then_normal ⟨s.size - (rd s g (j + 1) c).i, by omega, g, acc ++ [(rd s g (j + 1) c).t], (rd s g (j + 1) c).i, (rd s g (j + 1) c).k, rfl, rfl, by omega, by omega, by omega, o2, by simp; omega, ?_⟩
    simp only [go_sem, List.forall_mem_nil, ↓guard_ite, ↓pick_ite, seval, AS.drop, dropS, AC.clears, AC.clear, AC.highs, AC.high, Bool.not_false, Bool.true_and, Bool.and_self, AV.purge, AV.purges, AC.purge, ABlk.purge, List.contains_cons, List.contains_nil, Nat.reduceBEq, Bool.or_self, Bool.or_false, Bool.false_or, Bool.or_true, encT_eq, inR_i64, e0, e1, e2, e6, e11, s6, s11, s900, s12]
    rw [encT_snoc]
  · rw [rdA_word q0 q1 q2 q3]
    unfold rdV at hcall ⊢
    repeat' (first | (with_reducible first | refine Wa ?_ | refine Wb ?_ | refine Wc ?_ | refine Wd ?_ | refine We ?_ | refine Wf ?_ | refine Wg ?_ | refine Wh ?_ | refine Wi ?_ | refine Wj ?_ | refine Wk (by decide) ?_ | refine Wl ?_ | refine Wm ?_ | refine Wn ?_) | refine CallG.mk _ (hcall) ?_ | ((with_reducible first | refine Wo (fun K hK => ?_) | refine Wp ?_ | refine Wq ?_ | refine Wr ?_); (try simp only [go_sem, List.forall_mem_nil, ↓guard_ite, ↓pick_ite, seval, encT_eq, inR_i64, e0, e1, e2, e6, e11, s6, s11, s900, s12, q0, q1i, q2, q3, decide_eq_true_eq, decide_eq_false_iff_not, Int.ofNat_lt]); (repeat with_reducible refine And.intro (by first | omega | (with_reducible first | exact lens_encT | exact lens_encL | exact lens_encB | exact lens_encP) | (simp; done) | (simp only [List.length_take, List.length_map, List.length_append, maxLen_eq]; omega)) ?_); (try (with_reducible refine hK _ ?_; clear hK K)); (try with_reducible refine ite_conj ?_)))
    simp only [go_sem, List.forall_mem_nil, ↓guard_ite, ↓pick_ite, seval, FinQ, AS.result, resAll, resOne, tupV, e6, s6, s11, s900]
    rw [← encT_snoc]
    rfl
def readV (r : Tm × Int) : AV := .tup [aTm r.1, aInt r.2]
theorem readR_a (s : ByteArray) : ACalls Try.prog 8 [aStr s] (readV (readOf s)) := by
  have hro : readOf s = if 4000 < s.size then (.mk ⟨#[]⟩ [], 3) else if (rdS s).e = 0 then (if (rdS s).i < s.size then (.mk ⟨#[]⟩ [], 12) else ((rdS s).t, 0)) else (.mk ⟨#[]⟩ [], (rdS s).e) := rfl
  refine ac_R_Read (Nat.le_of_ble_eq_true rfl) fun C hC => ?_
  unfold ir_R_Read
  by_cases h0 : (4000 : Int) < s.size
  · rw [hro, if_pos (by omega)]
    unfold readV
    repeat' (first | (with_reducible first | refine Wa ?_ | refine Wb ?_ | refine Wc ?_ | refine Wd ?_ | refine We ?_ | refine Wf ?_ | refine Wg ?_ | refine Wh ?_ | refine Wi ?_ | refine Wj ?_ | refine Wk (by decide) ?_ | refine Wl ?_ | refine Wm ?_ | refine Wn ?_) | ((with_reducible first | refine Wo (fun K hK => ?_) | refine Wp ?_ | refine Wq ?_ | refine Wr ?_); (try simp only [go_sem, List.forall_mem_nil, ↓guard_ite, ↓pick_ite, seval, encT_eq, inR_i64, h0, decide_eq_true_eq, decide_eq_false_iff_not, Int.ofNat_lt]); (repeat with_reducible refine And.intro (by first | omega | (with_reducible first | exact lens_encT | exact lens_encL | exact lens_encB | exact lens_encP) | (simp; done) | (simp only [List.length_take, List.length_map, List.length_append, maxLen_eq]; omega)) ?_); (try (with_reducible refine hK _ ?_; clear hK K)); (try with_reducible refine ite_conj ?_)))
    simp only [go_sem, List.forall_mem_nil, ↓guard_ite, ↓pick_ite, seval, FinQ, AS.result, resAll, resOne, tupV]
    rfl
  rw [hro, if_neg (by omega)]
  have hcall := read_a s (by omega) (2 * s.size + 1) 0 0 (by omega) (by omega) (by omega)
  have hr : rd s (2 * s.size + 1) 0 0 = rdS s := rfl
  rw [hr] at hcall
  unfold rdV at hcall
  by_cases h1 : (rdS s).e = 0
  · rw [if_pos h1]
    by_cases h2 : (rdS s).i < s.size
    · have h2i : ((rdS s).i : Int) < s.size := by omega
      rw [if_pos h2]
      unfold readV
      repeat' (first | (with_reducible first | refine Wa ?_ | refine Wb ?_ | refine Wc ?_ | refine Wd ?_ | refine We ?_ | refine Wf ?_ | refine Wg ?_ | refine Wh ?_ | refine Wi ?_ | refine Wj ?_ | refine Wk (by decide) ?_ | refine Wl ?_ | refine Wm ?_ | refine Wn ?_) | refine CallG.mk _ (hcall) ?_ | ((with_reducible first | refine Wo (fun K hK => ?_) | refine Wp ?_ | refine Wq ?_ | refine Wr ?_); (try simp only [go_sem, List.forall_mem_nil, ↓guard_ite, ↓pick_ite, seval, encT_eq, inR_i64, h0, h1, h2i, decide_eq_true_eq, decide_eq_false_iff_not, Int.ofNat_lt]); (repeat with_reducible refine And.intro (by first | omega | (with_reducible first | exact lens_encT | exact lens_encL | exact lens_encB | exact lens_encP) | (simp; done) | (simp only [List.length_take, List.length_map, List.length_append, maxLen_eq]; omega)) ?_); (try (with_reducible refine hK _ ?_; clear hK K)); (try with_reducible refine ite_conj ?_)))
      simp only [go_sem, List.forall_mem_nil, ↓guard_ite, ↓pick_ite, seval, FinQ, AS.result, resAll, resOne, tupV]
      rfl
    · have h2i : ¬ ((rdS s).i : Int) < s.size := by omega
      rw [if_neg h2]
      unfold readV
      repeat' (first | (with_reducible first | refine Wa ?_ | refine Wb ?_ | refine Wc ?_ | refine Wd ?_ | refine We ?_ | refine Wf ?_ | refine Wg ?_ | refine Wh ?_ | refine Wi ?_ | refine Wj ?_ | refine Wk (by decide) ?_ | refine Wl ?_ | refine Wm ?_ | refine Wn ?_) | refine CallG.mk _ (hcall) ?_ | ((with_reducible first | refine Wo (fun K hK => ?_) | refine Wp ?_ | refine Wq ?_ | refine Wr ?_); (try simp only [go_sem, List.forall_mem_nil, ↓guard_ite, ↓pick_ite, seval, encT_eq, inR_i64, h0, h1, h2i, decide_eq_true_eq, decide_eq_false_iff_not, Int.ofNat_lt]); (repeat with_reducible refine And.intro (by first | omega | (with_reducible first | exact lens_encT | exact lens_encL | exact lens_encB | exact lens_encP) | (simp; done) | (simp only [List.length_take, List.length_map, List.length_append, maxLen_eq]; omega)) ?_); (try (with_reducible refine hK _ ?_; clear hK K)); (try with_reducible refine ite_conj ?_)))
      simp only [go_sem, List.forall_mem_nil, ↓guard_ite, ↓pick_ite, seval, FinQ, AS.result, resAll, resOne, tupV]
  · rw [if_neg h1]
    unfold readV
    repeat' (first | (with_reducible first | refine Wa ?_ | refine Wb ?_ | refine Wc ?_ | refine Wd ?_ | refine We ?_ | refine Wf ?_ | refine Wg ?_ | refine Wh ?_ | refine Wi ?_ | refine Wj ?_ | refine Wk (by decide) ?_ | refine Wl ?_ | refine Wm ?_ | refine Wn ?_) | refine CallG.mk _ (hcall) ?_ | ((with_reducible first | refine Wo (fun K hK => ?_) | refine Wp ?_ | refine Wq ?_ | refine Wr ?_); (try simp only [go_sem, List.forall_mem_nil, ↓guard_ite, ↓pick_ite, seval, encT_eq, inR_i64, h0, h1, decide_eq_true_eq, decide_eq_false_iff_not, Int.ofNat_lt]); (repeat with_reducible refine And.intro (by first | omega | (with_reducible first | exact lens_encT | exact lens_encL | exact lens_encB | exact lens_encP) | (simp; done) | (simp only [List.length_take, List.length_map, List.length_append, maxLen_eq]; omega)) ?_); (try (with_reducible refine hK _ ?_; clear hK K)); (try with_reducible refine ite_conj ?_)))
    simp only [go_sem, List.forall_mem_nil, ↓guard_ite, ↓pick_ite, seval, FinQ, AS.result, resAll, resOne, tupV]
    rfl
end Go.Proofs.Ytohgkbgpcnmdpaa

namespace Go.Proofs.Ytohgkbgpcnmdpaa
open Go Go.RowKit
set_option linter.unusedVariables false
set_option maxHeartbeats 400000

/-- A box of which nothing is known any more. -/
theorem Ghost.kill {C : Ctx} {s : AS} (id : Nat) {ty : TypeId} {xs : List AC} (hS : s.S id = some (.box ty xs)) : Ghost C s (s.set id (.dead 1 0)) := fun a w ⟨σ, ι, R⟩ => by
  have hb := R.blk _ _ hS
  cases hb with
  | @box _ _ g vs h1 h2 h3 h4 h5 =>
    obtain ⟨hu, R'⟩ := R.turn (w' := w) hS (.dead 1 0) (ι id) (σ' := σ) (fun _ _ h => h) (fun _ _ _ => rfl) R.fit (Nat.le_refl _) (fun _ => ⟨rfl, rfl⟩) ⟨rfl, rfl, rfl⟩ (Nat.le_refl _) (fun _ _ _ => rfl) (fun g h => .inl h)
      (fun hu => .dead fun g' hg' => by rw [h1] at hg'; cases hg'; exact (Array.getElem?_eq_some_iff.1 h3).1)
    exact ⟨σ, _, R'⟩
/-- The end of a call that panics; what its caller knew of one block is lost. -/
theorem finP_at {C : Ctx} {v : Value} {s : AS} {S : AStore} {a0 : Nat} (hS : Clean S) (ha : 1000 ≤ a0) (h3 : s.S a0 = some (.dead 1 0)) (h4 : ∀ i, 1000 ≤ i → i ≠ a0 → s.S i = S i) : FinP C v (updE S a0 (some (.dead 1 0))) (.pan v) s :=
  ⟨rfl, _, Ghost.low (highs_is hS rfl h3 h4), lowS_is hS ha h3 h4, clean_upd hS ha rfl⟩
theorem finP_box {C : Ctx} {v : Value} {s : AS} {S : AStore} {a0 : Nat} {ty : TypeId} {xs : List AC} (hS : Clean S) (ha : 1000 ≤ a0) (h3 : s.S a0 = some (.box ty xs)) (h4 : ∀ i, 1000 ≤ i → i ≠ a0 → s.S i = S i) : FinP C v (updE S a0 (some (.dead 1 0))) (.pan v) s := by
  obtain ⟨h1, s2, hg, h5, h6⟩ := finP_at (C := C) (v := v) (s := s.set a0 (.dead 1 0)) hS ha (updE_same _ _ _) (fun i hi hne => (updE_ne _ hne _).trans (h4 i hi hne))
  exact ⟨h1, s2, (Ghost.kill a0 h3).trans hg, h5, h6⟩
end Go.Proofs.Ytohgkbgpcnmdpaa

namespace Go.Proofs.Ytohgkbgpcnmdpaa
open Go Go.RowKit
set_option linter.unusedVariables false
set_option linter.unusedSimpArgs false
set_option maxHeartbeats 1600000

def bracket (u : ByteArray) : Bool := decide (0 < u.size) && decide (byteN u 0 = 40)
theorem extract_one {u : ByteArray} (h : 0 < u.size) : u.extract 0 1 = ⟨#[40]⟩ ↔ byteN u 0 = 40 := by
  have e1 : (u.extract 0 1).data.toList = u.data.toList.take 1 := by
    rw [ByteArray.data_extract, Array.toList_extract, List.extract_eq_take_drop]
    rfl
  have hl : 0 < u.data.toList.length := h
  unfold byteN
  obtain ⟨c, l, hc⟩ : ∃ c l, u.data.toList = c :: l := by
    cases hu : u.data.toList with
    | nil => rw [hu] at hl; cases hl
    | cons c l => exact ⟨c, l, rfl⟩
  rw [hc] at e1 ⊢
  constructor
  · intro he
    rw [he] at e1
    have : c = 40 := by
      have h2 : [40] = [c] := e1
      injection h2 with h3
      exact h3.symm
    subst this
    rfl
  · intro he
    have hc40 : c = 40 := by
      have : c.toNat = 40 := by
        have h' : ((c.toNat : Nat) : Int) = 40 := he
        omega
      exact UInt8.toNat_inj.1 this
    subst hc40
    apply ByteArray.ext
    apply Array.toList_inj.1
    rw [e1]
    rfl
theorem hasPrefixI_a (u : ByteArray) : ACalls Try.prog 66 [aStr u, aStr ⟨#[40]⟩] (aBool (bracket u)) := by
  have h40i : ((#[(40 : UInt8)].size : Nat) : Int) = 1 := rfl
  by_cases h0 : u.size = 0
  · have hb : bracket u = false := by unfold bracket; rw [h0]; rfl
    rw [hb]
    have h0i : ¬ (1 : Int) ≤ u.size := by omega
    refine ac_internal_stringslite_HasPrefix (Nat.le_of_ble_eq_true rfl) fun C hC => ?_
    unfold ir_internal_stringslite_HasPrefix
    repeat' (first | (with_reducible first | refine Wa ?_ | refine Wb ?_ | refine Wc ?_ | refine Wd ?_ | refine We ?_ | refine Wf ?_ | refine Wg ?_ | refine Wh ?_ | refine Wi ?_ | refine Wj ?_ | refine Wk (by decide) ?_ | refine Wl ?_ | refine Wm ?_ | refine Wn ?_) | ((with_reducible first | refine Wo (fun K hK => ?_) | refine Wp ?_ | refine Wq ?_ | refine Wr ?_); (try simp only [go_sem, List.forall_mem_nil, ↓guard_ite, ↓pick_ite, seval, encT_eq, inR_i64, h0i, h40i, decide_eq_true_eq, decide_eq_false_iff_not, Int.ofNat_lt]); (repeat with_reducible refine And.intro (by first | omega | (with_reducible first | exact lens_encT | exact lens_encL | exact lens_encB | exact lens_encP) | (simp; done) | (simp only [List.length_take, List.length_map, List.length_append, maxLen_eq]; omega)) ?_); (try (with_reducible refine hK _ ?_; clear hK K)); (try with_reducible refine ite_conj ?_)))
    simp only [go_sem, List.forall_mem_nil, ↓guard_ite, ↓pick_ite, seval, FinQ, AS.result, resAll, resOne, tupV]
  · have h0i : (1 : Int) ≤ u.size := by omega
    have he := extract_one (u := u) (by omega)
    have hb : bracket u = decide (u.extract 0 1 = ⟨#[40]⟩) := by
      unfold bracket
      rw [decide_eq_true (by omega : 0 < u.size), Bool.true_and]
      exact decide_eq_decide.2 he.symm
    rw [hb]
    refine ac_internal_stringslite_HasPrefix (Nat.le_of_ble_eq_true rfl) fun C hC => ?_
    unfold ir_internal_stringslite_HasPrefix
    repeat' (first | (with_reducible first | refine Wa ?_ | refine Wb ?_ | refine Wc ?_ | refine Wd ?_ | refine We ?_ | refine Wf ?_ | refine Wg ?_ | refine Wh ?_ | refine Wi ?_ | refine Wj ?_ | refine Wk (by decide) ?_ | refine Wl ?_ | refine Wm ?_ | refine Wn ?_) | ((with_reducible first | refine Wo (fun K hK => ?_) | refine Wp ?_ | refine Wq ?_ | refine Wr ?_); (try simp only [go_sem, List.forall_mem_nil, ↓guard_ite, ↓pick_ite, seval, encT_eq, inR_i64, h0i, h40i, decide_eq_true_eq, decide_eq_false_iff_not, Int.ofNat_lt]); (repeat with_reducible refine And.intro (by first | omega | (with_reducible first | exact lens_encT | exact lens_encL | exact lens_encB | exact lens_encP) | (simp; done) | (simp only [List.length_take, List.length_map, List.length_append, maxLen_eq]; omega)) ?_); (try (with_reducible refine hK _ ?_; clear hK K)); (try with_reducible refine ite_conj ?_)))
    simp only [go_sem, List.forall_mem_nil, ↓guard_ite, ↓pick_ite, seval, FinQ, AS.result, resAll, resOne, tupV]
theorem hasPrefix_a (u : ByteArray) : ACalls Try.prog 49 [aStr u, aStr ⟨#[40]⟩] (aBool (bracket u)) := by
  refine ac_strings_HasPrefix (Nat.le_of_ble_eq_true rfl) fun C hC => ?_
  unfold ir_strings_HasPrefix
  repeat' (first | (with_reducible first | refine Wa ?_ | refine Wb ?_ | refine Wc ?_ | refine Wd ?_ | refine We ?_ | refine Wf ?_ | refine Wg ?_ | refine Wh ?_ | refine Wi ?_ | refine Wj ?_ | refine Wk (by decide) ?_ | refine Wl ?_ | refine Wm ?_ | refine Wn ?_) | refine CallG.mk _ (hasPrefixI_a u) ?_ | ((with_reducible first | refine Wo (fun K hK => ?_) | refine Wp ?_ | refine Wq ?_ | refine Wr ?_); (try simp only [go_sem, List.forall_mem_nil, ↓guard_ite, ↓pick_ite, seval, encT_eq, inR_i64, decide_eq_true_eq, decide_eq_false_iff_not, Int.ofNat_lt]); (repeat with_reducible refine And.intro (by first | omega | (with_reducible first | exact lens_encT | exact lens_encL | exact lens_encB | exact lens_encP) | (simp; done) | (simp only [List.length_take, List.length_map, List.length_append, maxLen_eq]; omega)) ?_); (try (with_reducible refine hK _ ?_; clear hK K)); (try with_reducible refine ite_conj ?_)))
  simp only [go_sem, List.forall_mem_nil, ↓guard_ite, ↓pick_ite, seval, FinQ, AS.result, resAll, resOne, tupV]
abbrev boxR (u : ByteArray) (l : Int) : ABlk := .box 66 [.st (.str u), .st (.int .i64 l)]
abbrev fault (e : Int) : Value := .iface 62 (.int .i64 e)
theorem tail_nil {s : ByteArray} {i : Nat} (hi : i ≤ s.size) : tailS s i = ⟨#[]⟩ ↔ i = s.size := by
  constructor
  · intro h
    have := tail_size s i
    rw [h] at this
    have h0 : (⟨#[]⟩ : ByteArray).size = 0 := rfl
    omega
  · intro h
    have := tail_size s i
    exact ByteArray.size_eq_zero_iff.1 (by omega)
def OkEnd (s : ByteArray) (r : Rd) (b : Nat) (S : AStore) (x : AS) : Prop := ∃ r0, (resAll x [RV.cell 2 true 2]).map tupV = some r0 ∧ outV x.S r0 = some (aTm r.t) ∧ x.S b = some (boxR (tailS s r.i) (200 - r.k)) ∧ ∀ i, 1000 ≤ i → i ≠ b → x.S i = S i
def PanEnd (b : Nat) (S : AStore) (x : AS) : Prop := ((∃ ty xs, x.S b = some (.box ty xs)) ∨ x.S b = some (.dead 1 0)) ∧ ∀ i, 1000 ≤ i → i ≠ b → x.S i = S i
theorem panEnd_box {b : Nat} {S : AStore} {x : AS} {u : ByteArray} {l : Int} (h : x.S b = some (boxR u l)) (h2 : ∀ i, 1000 ≤ i → i ≠ b → x.S i = S i) : PanEnd b S x := ⟨.inl ⟨_, _, h⟩, h2⟩
/-- What a walk of reading shows. -/
def ReadS (s : ByteArray) (r : Rd) (b : Nat) (S : AStore) : Prop :=
  (r.e = 0 → ACallsS Try.prog 27 [.one (.ptr b 1 0 0)] S (aTm r.t) (updE S b (some (boxR (tailS s r.i) (200 - r.k))))) ∧
  (r.e ≠ 0 → APan Try.prog 27 [.one (.ptr b 1 0 0)] S (fault r.e) (updE S b (some (.dead 1 0))))
theorem readS_of {s : ByteArray} {r : Rd} {b : Nat} {S : AStore} (hb : 1000 ≤ b) (h : Clean S → ∀ (C : Ctx) (Q : AX → AS → Prop), C.n = 125 → (r.e = 0 → ∀ x, OkEnd s r b S x → Q .ret x) → (r.e ≠ 0 → ∀ x, PanEnd b S x → Q (.pan (fault r.e)) x) → IWP Try.prog C [90] ir_metaprune_term_reader_term Q (AS.startS [.one (.ptr b 1 0 0)] S)) : ReadS s r b S := by
  refine ⟨fun he => ?_, fun he => ?_⟩
  · refine acS_metaprune_term_reader_term (Nat.le_of_ble_eq_true rfl) fun hS C hC => h hS C _ hC (fun _ x hx => ?_) (fun hne => absurd he hne)
    obtain ⟨r0, h1, h2, h3, h4⟩ := hx
    exact finS_one r0 hS hb rfl trivial h1 h2 h3 h4
  · refine acP_metaprune_term_reader_term (Nat.le_of_ble_eq_true rfl) fun hS C hC => h hS C _ hC (fun h0 => absurd h0 he) (fun _ x hx => ?_)
    obtain ⟨⟨ty, xs, h1⟩ | h1, h2⟩ := hx
    · exact finP_box hS hb h1 h2
    · exact finP_at hS hb h1 h2
/-- What is known ahead of each round behind an opening bracket. -/
def TInv (s : ByteArray) (r : Rd) (f : Nat) (nm : ByteArray) (acc : List Tm) (j c : Nat) (more : Bool) : Prop :=
  (more = true ∧ ∃ g, r = rdA s g nm acc j c ∧ 2 * (s.size - j) ≤ g ∧ g ≤ f ∧ j < s.size) ∨ (more = false ∧ r = ⟨.mk nm acc, j + 1, c, 0⟩ ∧ j < s.size)
theorem rterm_S (s : ByteArray) (hs : s.size ≤ 100000) : ∀ f i k : Nat, i ≤ s.size → k ≤ 200 → 2 * (s.size - i) < f → ∀ (b : Nat) (S : AStore), 1000 ≤ b → S b = some (boxR (tailS s i) (200 - k)) → ReadS s (rd s f i k) b S := by
  intro f
  induction f using Nat.strongRecOn with
  | _ f ih =>
  intro i k hi hk hf b S hb sb
  obtain ⟨f, rfl⟩ : ∃ g, f = g + 1 := ⟨f - 1, by omega⟩
  obtain ⟨l1, l2⟩ := lendA_le hi
  have hus := tail_size s i
  refine readS_of hb fun hS C Q hC hok hpan => ?_
  have n2 : S 2 = none := clean_none hS (by omega)
  have n4 : S 4 = none := clean_none hS (by omega)
  have n900 : S 900 = none := clean_none hS (by omega)
  have e2 : ¬ b = 2 := by omega
  have e4 : ¬ b = 4 := by omega
  have e900 : ¬ b = 900 := by omega
  have d2 : ¬ 2 = b := by omega
  have d4 : ¬ 4 = b := by omega
  have d900 : ¬ 900 = b := by omega
  unfold ir_metaprune_term_reader_term
  repeat' (first | (with_reducible first | refine Wa ?_ | refine Wb ?_ | refine Wc ?_ | refine Wd ?_ | refine We ?_ | refine Wf ?_ | refine Wg ?_ | refine Wh ?_ | refine Wi ?_ | refine Wj ?_ | refine Wk (by decide) ?_ | refine Wl ?_ | refine Wm ?_ | refine Wn ?_) | ((with_reducible first | refine Wx rfl (fun K hK => ?_) | refine Wp ?_ | refine Wq ?_ | refine Wr ?_); (try simp only [go_sem, List.forall_mem_nil, ↓guard_ite, ↓pick_ite, seval, encT_eq, inR_i64, n2, e2, d2, decide_eq_true_eq, decide_eq_false_iff_not, Int.ofNat_lt]); (repeat with_reducible refine And.intro (by first | omega | (with_reducible first | exact lens_encT | exact lens_encL | exact lens_encB | exact lens_encP) | (simp; done) | (simp only [List.length_take, List.length_map, List.length_append, maxLen_eq]; omega)) ?_); (try (with_reducible refine hK _ ?_; clear hK K)); (try with_reducible refine ite_conj ?_)))
  refine IWP.cut 0 (fun x => x.env 0 = .one (.ptr b 1 0 0) ∧ x.env 2 = .one (.ptr 2 1 0 0) ∧ x.env 3 = aInt ((lendA s i - i : Nat) : Int) ∧ x.S 2 = some boxT0r ∧ x.S 4 = none ∧ x.S 900 = none ∧ x.S b = some (boxR (tailS s i) (200 - k)) ∧ ∀ i, 1000 ≤ i → i ≠ b → x.S i = S i) ?_ ?_
  · refine IWP.loop (fun m x => ∃ j, i + j ≤ s.size ∧ m = s.size - i - j ∧ lendA s i = lendA s (i + j) ∧ x.env 0 = .one (.ptr b 1 0 0) ∧ x.env 2 = .one (.ptr 2 1 0 0) ∧ x.env 3 = aInt j ∧ x.S 2 = some boxT0r ∧ x.S 4 = none ∧ x.S 900 = none ∧ x.S b = some (boxR (tailS s i) (200 - k)) ∧ ∀ i, 1000 ≤ i → i ≠ b → x.S i = S i) (s.size - i) ⟨0, hi, rfl, rfl, rfl, rfl, rfl, by simp only [go_sem, List.forall_mem_nil, ↓guard_ite, ↓pick_ite, seval, encT_eq, inR_i64], by simp only [go_sem, List.forall_mem_nil, ↓guard_ite, ↓pick_ite, seval, encT_eq, inR_i64, n4], by simp only [go_sem, List.forall_mem_nil, ↓guard_ite, ↓pick_ite, seval, encT_eq, inR_i64, n900], by simp only [go_sem, List.forall_mem_nil, ↓guard_ite, ↓pick_ite, seval, encT_eq, inR_i64, e2, sb], fun i hi hne => ?_⟩ ?_
    · have i2 : ¬ i = 2 := by omega
      simp only [go_sem, List.forall_mem_nil, ↓guard_ite, ↓pick_ite, seval, encT_eq, inR_i64, i2]
    rintro m ⟨env, S1⟩ ⟨j, hj, rfl, hl, v0, v2, v3, t2, t4, t900, tb, hrest⟩
    simp only at v0 v2 v3 t2 t4 t900 tb hrest
    by_cases hlt : (j : Int) < (tailS s i).size
    · have hbt := byteN_tail (s := s) (i := i) (k := j) (by omega)
      have hbr := byteAt_range s (i + j)
      rw [← hbt] at hbr
      by_cases hlet : letterI (byteN (tailS s i) j) = true
      · repeat' (first | (with_reducible first | refine Wa ?_ | refine Wb ?_ | refine Wc ?_ | refine Wd ?_ | refine We ?_ | refine Wf ?_ | refine Wg ?_ | refine Wh ?_ | refine Wi ?_ | refine Wj ?_ | refine Wk (by decide) ?_ | refine Wl ?_ | refine Wm ?_ | refine Wn ?_) | refine CallG.mk _ (letter_a (byteN (tailS s i) j) hbr.1) ?_ | ((with_reducible first | refine Wx rfl (fun K hK => ?_) | refine Wp ?_ | refine Wq ?_ | refine Wr ?_); (try simp only [go_sem, List.forall_mem_nil, ↓guard_ite, ↓pick_ite, seval, encT_eq, inR_i64, v0, v2, v3, t2, t4, t900, tb, hlt, hlet, decide_eq_true_eq, decide_eq_false_iff_not, Int.ofNat_lt]); (repeat with_reducible refine And.intro (by first | omega | (with_reducible first | exact lens_encT | exact lens_encL | exact lens_encB | exact lens_encP) | (simp; done) | (simp only [List.length_take, List.length_map, List.length_append, maxLen_eq]; omega)) ?_); (try (with_reducible refine hK _ ?_; clear hK K)); (try with_reducible refine ite_conj ?_)))
        refine then_normal ⟨s.size - i - (j + 1), by omega, j + 1, by omega, rfl, ?_, ?_⟩
        · rw [hl]
          exact lendA_on (by omega) (by rw [← hbt]; exact hlet)
        · simp only [go_sem, List.forall_mem_nil, ↓guard_ite, ↓pick_ite, seval, encT_eq, inR_i64, v0, v2, v3, t2, t4, t900, tb]
          exact ⟨by congr 3, hrest⟩
      · have hst : lendA s (i + j) = i + j := lendA_stop (by omega) (by rw [← hbt]; exact hlet)
        repeat' (first | (with_reducible first | refine Wa ?_ | refine Wb ?_ | refine Wc ?_ | refine Wd ?_ | refine We ?_ | refine Wf ?_ | refine Wg ?_ | refine Wh ?_ | refine Wi ?_ | refine Wj ?_ | refine Wk (by decide) ?_ | refine Wl ?_ | refine Wm ?_ | refine Wn ?_) | refine CallG.mk _ (letter_a (byteN (tailS s i) j) hbr.1) ?_ | ((with_reducible first | refine Wx rfl (fun K hK => ?_) | refine Wp ?_ | refine Wq ?_ | refine Wr ?_); (try simp only [go_sem, List.forall_mem_nil, ↓guard_ite, ↓pick_ite, seval, encT_eq, inR_i64, v0, v2, v3, t2, t4, t900, tb, hlt, hlet, decide_eq_true_eq, decide_eq_false_iff_not, Int.ofNat_lt]); (repeat with_reducible refine And.intro (by first | omega | (with_reducible first | exact lens_encT | exact lens_encL | exact lens_encB | exact lens_encP) | (simp; done) | (simp only [List.length_take, List.length_map, List.length_append, maxLen_eq]; omega)) ?_); (try (with_reducible refine hK _ ?_; clear hK K)); (try with_reducible refine ite_conj ?_)))
        refine ⟨rfl, ?_⟩
        simp only [go_sem, List.forall_mem_nil, ↓guard_ite, ↓pick_ite, seval, encT_eq, inR_i64, v0, v2, v3, t2, t4, t900, tb]
        refine ⟨?_, hrest⟩
        rw [hl, hst]
        congr 4
        omega
    · have hst : lendA s (i + j) = i + j := lendA_end (by omega)
      repeat' (first | (with_reducible first | refine Wa ?_ | refine Wb ?_ | refine Wc ?_ | refine Wd ?_ | refine We ?_ | refine Wf ?_ | refine Wg ?_ | refine Wh ?_ | refine Wi ?_ | refine Wj ?_ | refine Wk (by decide) ?_ | refine Wl ?_ | refine Wm ?_ | refine Wn ?_) | ((with_reducible first | refine Wx rfl (fun K hK => ?_) | refine Wp ?_ | refine Wq ?_ | refine Wr ?_); (try simp only [go_sem, List.forall_mem_nil, ↓guard_ite, ↓pick_ite, seval, encT_eq, inR_i64, v0, v2, v3, t2, t4, t900, tb, hlt, decide_eq_true_eq, decide_eq_false_iff_not, Int.ofNat_lt]); (repeat with_reducible refine And.intro (by first | omega | (with_reducible first | exact lens_encT | exact lens_encL | exact lens_encB | exact lens_encP) | (simp; done) | (simp only [List.length_take, List.length_map, List.length_append, maxLen_eq]; omega)) ?_); (try (with_reducible refine hK _ ?_; clear hK K)); (try with_reducible refine ite_conj ?_)))
      refine ⟨rfl, ?_⟩
      simp only [go_sem, List.forall_mem_nil, ↓guard_ite, ↓pick_ite, seval, encT_eq, inR_i64, v0, v2, v3, t2, t4, t900, tb]
      refine ⟨?_, hrest⟩
      rw [hl, hst]
      congr 4
      omega
  rintro ⟨env, S1⟩ ⟨v0, v2, v3, t2, t4, t900, tb, hrest⟩
  simp only at v0 v2 v3 t2 t4 t900 tb hrest
  have htn := tail_nil hi
  by_cases h0 : lendA s i = i
  · rw [rd_zero h0] at hok hpan
    have hz : ((lendA s i - i : Nat) : Int) = 0 := by omega
    rw [hz] at v3
    by_cases h1 : i = s.size
    · have ht := htn.2 h1
      rw [if_pos h1] at hpan
      repeat' (first | (with_reducible first | refine Wa ?_ | refine Wb ?_ | refine Wc ?_ | refine Wd ?_ | refine We ?_ | refine Wf ?_ | refine Wg ?_ | refine Wh ?_ | refine Wi ?_ | refine Wj ?_ | refine Wk (by decide) ?_ | refine Wl ?_ | refine Wm ?_ | refine Wn ?_) | ((with_reducible first | refine Wx rfl (fun K hK => ?_) | refine Wp ?_ | refine Wq ?_ | refine Wr ?_); (try simp only [go_sem, List.forall_mem_nil, ↓guard_ite, ↓pick_ite, seval, encT_eq, inR_i64, v0, v2, v3, t2, t4, t900, tb, ht, decide_eq_true_eq, decide_eq_false_iff_not, Int.ofNat_lt]); (repeat with_reducible refine And.intro (by first | omega | (with_reducible first | exact lens_encT | exact lens_encL | exact lens_encB | exact lens_encP) | (simp; done) | (simp only [List.length_take, List.length_map, List.length_append, maxLen_eq]; omega)) ?_); (try (with_reducible refine hK _ ?_; clear hK K)); (try with_reducible refine ite_conj ?_)))
      refine IWP.opsPan 1 _ rfl (by kernel_rfl) ?_
      simp only [go_sem, List.forall_mem_nil, ↓guard_ite, ↓pick_ite, seval, encT_eq, inR_i64, PanAt, List.take_succ_cons, List.take_zero]
      intro envP
      repeat' (with_reducible first | refine Wy ?_ | refine Wz ?_ | refine Wv ?_)
      exact hpan (by show ¬ (13 : Int) = 0; decide) _ (panEnd_box tb hrest)
    · have ht : ¬ tailS s i = ⟨#[]⟩ := fun h => h1 (htn.1 h)
      rw [if_neg h1] at hpan
      repeat' (first | (with_reducible first | refine Wa ?_ | refine Wb ?_ | refine Wc ?_ | refine Wd ?_ | refine We ?_ | refine Wf ?_ | refine Wg ?_ | refine Wh ?_ | refine Wi ?_ | refine Wj ?_ | refine Wk (by decide) ?_ | refine Wl ?_ | refine Wm ?_ | refine Wn ?_) | ((with_reducible first | refine Wx rfl (fun K hK => ?_) | refine Wp ?_ | refine Wq ?_ | refine Wr ?_); (try simp only [go_sem, List.forall_mem_nil, ↓guard_ite, ↓pick_ite, seval, encT_eq, inR_i64, v0, v2, v3, t2, t4, t900, tb, ht, decide_eq_true_eq, decide_eq_false_iff_not, Int.ofNat_lt]); (repeat with_reducible refine And.intro (by first | omega | (with_reducible first | exact lens_encT | exact lens_encL | exact lens_encB | exact lens_encP) | (simp; done) | (simp only [List.length_take, List.length_map, List.length_append, maxLen_eq]; omega)) ?_); (try (with_reducible refine hK _ ?_; clear hK K)); (try with_reducible refine ite_conj ?_)))
      refine IWP.opsPan 1 _ rfl (by kernel_rfl) ?_
      simp only [go_sem, List.forall_mem_nil, ↓guard_ite, ↓pick_ite, seval, encT_eq, inR_i64, PanAt, List.take_succ_cons, List.take_zero]
      intro envP
      repeat' (with_reducible first | refine Wy ?_ | refine Wz ?_ | refine Wv ?_)
      exact hpan (by show ¬ (12 : Int) = 0; decide) _ (panEnd_box tb hrest)
  obtain ⟨n0, hn0⟩ : ∃ n0, lendA s i = i + n0 := ⟨lendA s i - i, by omega⟩
  have hq : lendA s i - i = n0 := by omega
  rw [hq] at v3
  have q1 : ¬ (n0 : Int) = 0 := by omega
  have hin0 : i + n0 ≤ s.size := by omega
  obtain ⟨nm, hnm⟩ : ∃ nm, s.extract i (i + n0) = nm := ⟨_, rfl⟩
  have hext : (tailS s i).extract 0 n0 = nm := (tail_take hin0).trans hnm
  have hdr := tail_drop (s := s) (i := i) (n := n0) hin0
  by_cases h1 : nameOk nm = true
  case neg =>
    rw [rd_name h0 (by rw [hn0, hnm]; exact h1)] at hok hpan
    repeat' (first | (with_reducible first | refine Wa ?_ | refine Wb ?_ | refine Wc ?_ | refine Wd ?_ | refine We ?_ | refine Wf ?_ | refine Wg ?_ | refine Wh ?_ | refine Wi ?_ | refine Wj ?_ | refine Wk (by decide) ?_ | refine Wl ?_ | refine Wm ?_ | refine Wn ?_) | refine CallG.mk _ (name_a nm) ?_ | ((with_reducible first | refine Wx rfl (fun K hK => ?_) | refine Wp ?_ | refine Wq ?_ | refine Wr ?_); (try simp only [go_sem, List.forall_mem_nil, ↓guard_ite, ↓pick_ite, seval, encT_eq, inR_i64, v0, v2, v3, t2, t4, t900, tb, q1, hext, h1, decide_eq_true_eq, decide_eq_false_iff_not, Int.ofNat_lt]); (repeat with_reducible refine And.intro (by first | omega | (with_reducible first | exact lens_encT | exact lens_encL | exact lens_encB | exact lens_encP) | (simp; done) | (simp only [List.length_take, List.length_map, List.length_append, maxLen_eq]; omega)) ?_); (try (with_reducible refine hK _ ?_; clear hK K)); (try with_reducible refine ite_conj ?_)))
    refine IWP.opsPan 1 _ rfl (by kernel_rfl) ?_
    simp only [go_sem, List.forall_mem_nil, ↓guard_ite, ↓pick_ite, seval, encT_eq, inR_i64, PanAt, List.take_succ_cons, List.take_zero]
    intro envP
    repeat' (with_reducible first | refine Wy ?_ | refine Wz ?_ | refine Wv ?_)
    refine hpan (by show ¬ (1 : Int) = 0; decide) _ (panEnd_box (u := tailS s i) (l := 200 - k) ?_ fun i hi hne => ?_)
    · simp only [go_sem, List.forall_mem_nil, ↓guard_ite, ↓pick_ite, seval, encT_eq, inR_i64, tb, e4]
    · have i4 : ¬ i = 4 := by omega
      simp only [go_sem, List.forall_mem_nil, ↓guard_ite, ↓pick_ite, seval, encT_eq, inR_i64, i4]
      exact hrest i hi hne
  case pos =>
  have hk1 : ((200 : Int) - k - 1 < 0) ↔ 200 < k + 1 := by omega
  by_cases h2 : 200 < k + 1
  · have h2i : (200 : Int) - k - 1 < 0 := hk1.2 h2
    rw [rd_limit h0 (by rw [hn0, hnm]; exact h1) h2] at hok hpan
    repeat' (first | (with_reducible first | refine Wa ?_ | refine Wb ?_ | refine Wc ?_ | refine Wd ?_ | refine We ?_ | refine Wf ?_ | refine Wg ?_ | refine Wh ?_ | refine Wi ?_ | refine Wj ?_ | refine Wk (by decide) ?_ | refine Wl ?_ | refine Wm ?_ | refine Wn ?_) | refine CallG.mk _ (name_a nm) ?_ | ((with_reducible first | refine Wx rfl (fun K hK => ?_) | refine Wp ?_ | refine Wq ?_ | refine Wr ?_); (try simp only [go_sem, List.forall_mem_nil, ↓guard_ite, ↓pick_ite, seval, encT_eq, inR_i64, v0, v2, v3, t2, t4, t900, tb, q1, hext, h1, h2i, e4, decide_eq_true_eq, decide_eq_false_iff_not, Int.ofNat_lt]); (repeat with_reducible refine And.intro (by first | omega | (with_reducible first | exact lens_encT | exact lens_encL | exact lens_encB | exact lens_encP) | (simp; done) | (simp only [List.length_take, List.length_map, List.length_append, maxLen_eq]; omega)) ?_); (try (with_reducible refine hK _ ?_; clear hK K)); (try with_reducible refine ite_conj ?_)))
    refine IWP.opsPan 1 _ rfl (by kernel_rfl) ?_
    simp only [go_sem, List.forall_mem_nil, ↓guard_ite, ↓pick_ite, seval, encT_eq, inR_i64, PanAt, List.take_succ_cons, List.take_zero]
    intro envP
    repeat' (with_reducible first | refine Wy ?_ | refine Wz ?_ | refine Wv ?_)
    refine hpan (by show ¬ (3 : Int) = 0; decide) _ (panEnd_box (u := tailS s i) (l := 200 - k - 1) ?_ fun i hi hne => ?_)
    · simp only [go_sem, List.forall_mem_nil, ↓guard_ite, ↓pick_ite, seval, encT_eq, inR_i64, tb, e4]
    · have i4 : ¬ i = 4 := by omega
      simp only [go_sem, List.forall_mem_nil, ↓guard_ite, ↓pick_ite, seval, encT_eq, inR_i64, i4, hne]
      exact hrest i hi hne
  have h2i : ¬ (200 : Int) - k - 1 < 0 := fun h => h2 (hk1.1 h)
  have hus2 := tail_size s (i + n0)
  by_cases h3 : bracket (tailS s (i + n0)) = true
  case neg =>
    have h3' : lendA s i = s.size ∨ byteAt s (lendA s i) ≠ 40 := by
      rw [hn0]
      by_cases hz : i + n0 = s.size
      · exact .inl hz
      · refine .inr fun h40 => h3 ?_
        have hbt := byteN_tail (s := s) (i := i + n0) (k := 0) (by omega)
        rw [Nat.add_zero, h40] at hbt
        unfold bracket
        rw [hbt, hus2]
        simp
        omega
    rw [rd_leaf h0 (by rw [hn0, hnm]; exact h1) h2 h3', hn0, hnm] at hok hpan
    repeat' (first | (with_reducible first | refine Wa ?_ | refine Wb ?_ | refine Wc ?_ | refine Wd ?_ | refine We ?_ | refine Wf ?_ | refine Wg ?_ | refine Wh ?_ | refine Wi ?_ | refine Wj ?_ | refine Wk (by decide) ?_ | refine Wl ?_ | refine Wm ?_ | refine Wn ?_) | refine CallG.mk _ (name_a nm) ?_ | refine CallG.mk _ (hasPrefix_a (tailS s (i + n0))) ?_ | ((with_reducible first | refine Wx rfl (fun K hK => ?_) | refine Wp ?_ | refine Wq ?_ | refine Wr ?_); (try simp only [go_sem, List.forall_mem_nil, ↓guard_ite, ↓pick_ite, seval, encT_eq, inR_i64, v0, v2, v3, t2, t4, t900, tb, q1, hext, hdr, h1, h2i, h3, e4, d4, e2, d2, decide_eq_true_eq, decide_eq_false_iff_not, Int.ofNat_lt]); (repeat with_reducible refine And.intro (by first | omega | (with_reducible first | exact lens_encT | exact lens_encL | exact lens_encB | exact lens_encP) | (simp; done) | (simp only [List.length_take, List.length_map, List.length_append, maxLen_eq]; omega)) ?_); (try (with_reducible refine hK _ ?_; clear hK K)); (try with_reducible refine ite_conj ?_)))
    refine hok rfl _ ⟨.agg [.st (.str nm), .full []], ?_, ?_, ?_, fun i hi hne => ?_⟩
    · simp only [go_sem, List.forall_mem_nil, ↓guard_ite, ↓pick_ite, seval, encT_eq, inR_i64, resAll, resOne, tupV, v0, v2, v3, t2, t4, t900, tb, e4, d4, e2, d2]
    · simp only [go_sem, List.forall_mem_nil, ↓guard_ite, ↓pick_ite, seval, encT_eq, inR_i64]
      rfl
    · simp only [go_sem, List.forall_mem_nil, ↓guard_ite, ↓pick_ite, seval, encT_eq, inR_i64, tb, e4, e2, hdr]
      rw [show (200 : Int) - ((k + 1 : Nat) : Int) = 200 - k - 1 by omega]
    · have i4 : ¬ i = 4 := by omega
      have i2 : ¬ i = 2 := by omega
      simp only [go_sem, List.forall_mem_nil, ↓guard_ite, ↓pick_ite, seval, encT_eq, inR_i64, i4, i2, hne]
      exact hrest i hi hne
  case pos =>
  have h3n : ¬ (lendA s i = s.size ∨ byteAt s (lendA s i) ≠ 40) := by
    unfold bracket at h3
    rw [Bool.and_eq_true, decide_eq_true_eq, decide_eq_true_eq, hus2] at h3
    have hbt := byteN_tail (s := s) (i := i + n0) (k := 0) (by omega)
    rw [hn0]
    intro h
    rcases h with h | h
    · omega
    · exact h (by rw [Nat.add_zero] at hbt; rw [← hbt]; exact h3.2)
  by_cases h4 : isVar nm = true
  · rw [rd_form h0 (by rw [hn0, hnm]; exact h1) h2 h3n (by rw [hn0, hnm]; exact h4)] at hok hpan
    repeat' (first | (with_reducible first | refine Wa ?_ | refine Wb ?_ | refine Wc ?_ | refine Wd ?_ | refine We ?_ | refine Wf ?_ | refine Wg ?_ | refine Wh ?_ | refine Wi ?_ | refine Wj ?_ | refine Wk (by decide) ?_ | refine Wl ?_ | refine Wm ?_ | refine Wn ?_) | refine CallG.mk _ (name_a nm) ?_ | refine CallG.mk _ (hasPrefix_a (tailS s (i + n0))) ?_ | refine CallG.mk _ (variable_a nm) ?_ | ((with_reducible first | refine Wx rfl (fun K hK => ?_) | refine Wp ?_ | refine Wq ?_ | refine Wr ?_); (try simp only [go_sem, List.forall_mem_nil, ↓guard_ite, ↓pick_ite, seval, encT_eq, inR_i64, v0, v2, v3, t2, t4, t900, tb, q1, hext, hdr, h1, h2i, h3, h4, e4, d4, e2, d2, decide_eq_true_eq, decide_eq_false_iff_not, Int.ofNat_lt]); (repeat with_reducible refine And.intro (by first | omega | (with_reducible first | exact lens_encT | exact lens_encL | exact lens_encB | exact lens_encP) | (simp; done) | (simp only [List.length_take, List.length_map, List.length_append, maxLen_eq]; omega)) ?_); (try (with_reducible refine hK _ ?_; clear hK K)); (try with_reducible refine ite_conj ?_)))
    refine IWP.opsPan 1 _ rfl (by kernel_rfl) ?_
    simp only [go_sem, List.forall_mem_nil, ↓guard_ite, ↓pick_ite, seval, encT_eq, inR_i64, PanAt, List.take_succ_cons, List.take_zero]
    intro envP
    repeat' (with_reducible first | refine Wy ?_ | refine Wz ?_ | refine Wv ?_)
    refine hpan (by show ¬ (2 : Int) = 0; decide) _ (panEnd_box (u := tailS s (i + n0)) (l := 200 - k - 1) ?_ fun i hi hne => ?_)
    · simp only [go_sem, List.forall_mem_nil, ↓guard_ite, ↓pick_ite, seval, encT_eq, inR_i64, tb, e4, hdr]
    · have i4 : ¬ i = 4 := by omega
      simp only [go_sem, List.forall_mem_nil, ↓guard_ite, ↓pick_ite, seval, encT_eq, inR_i64, i4, hne]
      exact hrest i hi hne
  rw [rd_args h0 (by rw [hn0, hnm]; exact h1) h2 h3n (by rw [hn0, hnm]; exact h4), hn0, hnm] at hok hpan
  have hlt0 : i + n0 < s.size := by
    have : lendA s i ≠ s.size := fun h => h3n (.inl h)
    omega
  have hf0 : 2 * (s.size - (i + n0)) ≤ f := by omega
  generalize i + n0 = to at *
  repeat' (first | (with_reducible first | refine Wa ?_ | refine Wb ?_ | refine Wc ?_ | refine Wd ?_ | refine We ?_ | refine Wf ?_ | refine Wg ?_ | refine Wh ?_ | refine Wi ?_ | refine Wj ?_ | refine Wk (by decide) ?_ | refine Wl ?_ | refine Wm ?_ | refine Wn ?_) | refine CallG.mk _ (name_a nm) ?_ | refine CallG.mk _ (hasPrefix_a (tailS s to)) ?_ | refine CallG.mk _ (variable_a nm) ?_ | ((with_reducible first | refine Wx rfl (fun K hK => ?_) | refine Wp ?_ | refine Wq ?_ | refine Wr ?_); (try simp only [go_sem, List.forall_mem_nil, ↓guard_ite, ↓pick_ite, seval, encT_eq, inR_i64, v0, v2, v3, t2, t4, t900, tb, q1, hext, hdr, h1, h2i, h3, h4, e4, d4, e2, d2, decide_eq_true_eq, decide_eq_false_iff_not, Int.ofNat_lt]); (repeat with_reducible refine And.intro (by first | omega | (with_reducible first | exact lens_encT | exact lens_encL | exact lens_encB | exact lens_encP) | (simp; done) | (simp only [List.length_take, List.length_map, List.length_append, maxLen_eq]; omega)) ?_); (try (with_reducible refine hK _ ?_; clear hK K)); (try with_reducible refine ite_conj ?_)))
  generalize hr : rdA s f nm [] to (k + 1) = r at hok hpan
  refine IWP.ghost (Ghost.ownC 4 1 900 24 2 (xs := ([] : List Tm).map encT) (by simp only [go_sem, List.forall_mem_nil, ↓guard_ite, ↓pick_ite, seval, encT_eq, inR_i64, e4, d4, e2, d2, t4]; rfl) rfl (by simp only [go_sem, List.forall_mem_nil, ↓guard_ite, ↓pick_ite, seval, encT_eq, inR_i64, t900, d900, e900]) lens_encT) ?_
  refine IWP.loop (fun m x => ∃ (acc : List Tm) (j c : Nat) (more : Bool), TInv s r f nm acc j c more ∧ m = s.size - j ∧ c ≤ 200 ∧ acc.length ≤ c ∧ x.env 0 = .one (.ptr b 1 0 0) ∧ x.env 2 = .one (.ptr 2 1 0 0) ∧ x.env 4 = .one (.ptr 4 1 0 0) ∧ x.env 5 = aBool more ∧ x.S 2 = some boxT0r ∧ x.S 4 = some (.box 24 [.st (.str nm), .row 900 acc.length]) ∧ x.S 900 = some (.arow 24 2 (acc.map encT)) ∧ x.S b = some (boxR (tailS s j) (200 - c)) ∧ ∀ i, 1000 ≤ i → i ≠ b → x.S i = S i)
    (s.size - to) ⟨[], to, k + 1, true, .inl ⟨rfl, f, hr.symm, hf0, Nat.le_refl _, hlt0⟩, rfl, by omega, by simp, ?_⟩ ?_
  · simp only [go_sem, List.forall_mem_nil, ↓guard_ite, ↓pick_ite, seval, encT_eq, inR_i64, v0, v2, v3, t2, t4, t900, tb, e4, d4, e2, d2, e900, d900]
    refine ⟨rfl, by rw [show (200 : Int) - ((k + 1 : Nat) : Int) = 200 - k - 1 by omega], fun i' hi' hne' => ?_⟩
    have i4 : ¬ i' = 4 := by omega
    have i900 : ¬ i' = 900 := by omega
    simp only [go_sem, List.forall_mem_nil, ↓guard_ite, ↓pick_ite, seval, encT_eq, inR_i64, i4, i900, hne']
    exact hrest i' hi' hne'
  clear hr hf0 hlt0 v0 v2 v3 t2 t4 t900 tb hrest hext hdr hnm h3 h3n hus2 hin0 hq
  rintro m ⟨env, S2⟩ ⟨acc, j, c, more, hinv, rfl, hc, hac, v0, v2, v4, v5, t2, t4, t900, tb, hrest⟩
  simp only at v0 v2 v4 v5 t2 t4 t900 tb hrest
  have hal : (acc.map encT).length = acc.length := List.length_map _
  have husj := tail_size s j
  rcases hinv with ⟨rfl, g, hr, hg, hgf, hj⟩ | ⟨rfl, hr, hj⟩
  · have hdr := tail_drop (s := s) (i := j) (n := 1) (by omega)
    obtain ⟨g, rfl⟩ : ∃ g', g = g' + 1 := ⟨g - 1, by omega⟩
    have hcall := fun S' (h : S' (up1 b) = some (boxR (tailS s (j + 1)) (200 - c))) => ih g (by omega) (j + 1) c (by omega) hc (by omega) (up1 b) S' (up1_le b) h
    have hq := rd_ok s g (j + 1) c (by omega) hc (by omega)
    have hqle := hq.le
    have hqin := hq.in_
    by_cases he : (rd s g (j + 1) c).e = 0
    case neg =>
      rw [rdA_bad he] at hr
      repeat' (first | (with_reducible first | refine Wa ?_ | refine Wb ?_ | refine Wc ?_ | refine Wd ?_ | refine We ?_ | refine Wf ?_ | refine Wg ?_ | refine Wh ?_ | refine Wi ?_ | refine Wj ?_ | refine Wk (by decide) ?_ | refine Wl ?_ | refine Wm ?_ | refine Wn ?_) | (first | refine IWP.opsPan 3 ⟨some 90, none, .callS 27 [.t 89], .keeps [4, 4]⟩ rfl (by kernel_rfl) ?_) | ((with_reducible first | refine Wx rfl (fun K hK => ?_) | refine Wp ?_ | refine Wq ?_ | refine Wr ?_); (try simp only [go_sem, List.forall_mem_nil, ↓guard_ite, ↓pick_ite, seval, encT_eq, inR_i64, v0, v2, v4, v5, t2, t4, t900, tb, hdr, e4, d4, e2, d2, e900, d900, decide_eq_true_eq, decide_eq_false_iff_not, Int.ofNat_lt]); (repeat with_reducible refine And.intro (by first | omega | (with_reducible first | exact lens_encT | exact lens_encL | exact lens_encB | exact lens_encP) | (simp; done) | (simp only [List.length_take, List.length_map, List.length_append, maxLen_eq]; omega)) ?_); (try (with_reducible refine hK _ ?_; clear hK K)); (try with_reducible refine ite_conj ?_)))
      simp only [go_sem, List.forall_mem_nil, ↓guard_ite, ↓pick_ite, seval, encT_eq, inR_i64, PanAt, List.take_succ_cons, List.take_zero, v0, v2, v4, v5, t2, t4, t900, tb, hdr, e4, d4, e2, d2, e900, d900]
      subst hr
      refine ⟨_, _, (hcall _ (by rw [upS_up, updE_same]; rfl)).2 he, fun envP => ?_⟩
      repeat' (with_reducible first | refine Wy ?_ | refine Wz ?_ | refine Wv ?_)
      refine hpan he _ ⟨.inr ?_, fun i hi hne => ?_⟩
      · simp only [go_sem, List.forall_mem_nil, ↓guard_ite, ↓pick_ite, seval, encT_eq, inR_i64]
      · simp only [go_sem, List.forall_mem_nil, ↓guard_ite, ↓pick_ite, seval, encT_eq, inR_i64, hne]
        exact hrest i hi hne
    case pos =>
    obtain ⟨o1, o2, o3, o4⟩ := hq.ok he
    have husq := tail_size s (rd s g (j + 1) c).i
    have hnq := tail_nil hqin
    repeat' (first | (with_reducible first | refine Wa ?_ | refine Wb ?_ | refine Wc ?_ | refine Wd ?_ | refine We ?_ | refine Wf ?_ | refine Wg ?_ | refine Wh ?_ | refine Wi ?_ | refine Wj ?_ | refine Wk (by decide) ?_ | refine Wl ?_ | refine Wm ?_ | refine Wn ?_) | ((with_reducible first | refine Wx rfl (fun K hK => ?_) | refine Wp ?_ | refine Wq ?_ | refine Wr ?_); (try simp only [go_sem, List.forall_mem_nil, ↓guard_ite, ↓pick_ite, seval, encT_eq, inR_i64, v0, v2, v4, v5, t2, t4, t900, tb, hdr, e4, d4, e2, d2, e900, d900, decide_eq_true_eq, decide_eq_false_iff_not, Int.ofNat_lt]); (repeat with_reducible refine And.intro (by first | omega | (with_reducible first | exact lens_encT | exact lens_encL | exact lens_encB | exact lens_encP) | (simp; done) | (simp only [List.length_take, List.length_map, List.length_append, maxLen_eq]; omega)) ?_); (try (with_reducible refine hK _ ?_; clear hK K)); (try with_reducible refine ite_conj ?_)))
    refine ⟨_, _, (hcall _ (by rw [upS_up, updE_same]; rfl)).1 he, ?_⟩
    have c1 := fun h => hr.trans (rdA_short (n := nm) (acc := acc) he h)
    have c2 := fun h h' => hr.trans (rdA_close (n := nm) (acc := acc) he h h')
    have c3 := fun h h' h'' => hr.trans (rdA_on (n := nm) (acc := acc) he h h' h'')
    have c4 := fun h h' h'' => hr.trans (rdA_word (n := nm) (acc := acc) he h h' h'')
    clear hcall ih hr
    generalize rd s g (j + 1) c = q at *
    have hal2 : acc.length + 1 ≤ 1000000 := by omega
    by_cases q1 : q.i = s.size
    · have hq1 := hnq.2 q1
      rw [c1 q1] at hpan
      repeat' (first | (with_reducible first | refine Wa ?_ | refine Wb ?_ | refine Wc ?_ | refine Wd ?_ | refine We ?_ | refine Wf ?_ | refine Wg ?_ | refine Wh ?_ | refine Wi ?_ | refine Wj ?_ | refine Wk (by decide) ?_ | refine Wl ?_ | refine Wm ?_ | refine Wn ?_) | ((with_reducible first | refine Wx rfl (fun K hK => ?_) | refine Wp ?_ | refine Wq ?_ | refine Wr ?_); (try simp only [go_sem, List.forall_mem_nil, ↓guard_ite, ↓pick_ite, seval, encT_eq, inR_i64, v0, v2, v4, v5, t2, t4, t900, tb, hdr, e4, d4, e2, d2, e900, d900, hal, hq1, decide_eq_true_eq, decide_eq_false_iff_not, Int.ofNat_lt]); (repeat with_reducible refine And.intro (by first | omega | (with_reducible first | exact lens_encT | exact lens_encL | exact lens_encB | exact lens_encP) | (simp; done) | (simp only [List.length_take, List.length_map, List.length_append, maxLen_eq]; omega)) ?_); (try (with_reducible refine hK _ ?_; clear hK K)); (try with_reducible refine ite_conj ?_)))
      refine IWP.opsPan 1 _ rfl (by kernel_rfl) ?_
      simp only [go_sem, List.forall_mem_nil, ↓guard_ite, ↓pick_ite, seval, encT_eq, inR_i64, PanAt, List.take_succ_cons, List.take_zero]
      intro envP
      repeat' (with_reducible first | refine Wy ?_ | refine Wz ?_ | refine Wv ?_)
      refine hpan (by show ¬ (13 : Int) = 0; decide) _ (panEnd_box (u := tailS s q.i) (l := 200 - q.k) ?_ fun i hi hne => ?_)
      · simp only [go_sem, List.forall_mem_nil, ↓guard_ite, ↓pick_ite, seval, encT_eq, inR_i64, e4, e900, hq1]
      · have i4 : ¬ i = 4 := by omega
        have i900 : ¬ i = 900 := by omega
        simp only [go_sem, List.forall_mem_nil, ↓guard_ite, ↓pick_ite, seval, encT_eq, inR_i64, i4, i900, hne]
        exact hrest i hi hne
    have hq1 : ¬ tailS s q.i = ⟨#[]⟩ := fun h => q1 (hnq.1 h)
    have hbt := byteN_tail (s := s) (i := q.i) (k := 0) (by omega)
    rw [Nat.add_zero] at hbt
    by_cases q2 : byteN (tailS s q.i) 0 = 41
    · have hr := c2 q1 (by rw [← hbt]; exact q2)
      repeat' (first | (with_reducible first | refine Wa ?_ | refine Wb ?_ | refine Wc ?_ | refine Wd ?_ | refine We ?_ | refine Wf ?_ | refine Wg ?_ | refine Wh ?_ | refine Wi ?_ | refine Wj ?_ | refine Wk (by decide) ?_ | refine Wl ?_ | refine Wm ?_ | refine Wn ?_) | ((with_reducible first | refine Wx rfl (fun K hK => ?_) | refine Wp ?_ | refine Wq ?_ | refine Wr ?_); (try simp only [go_sem, List.forall_mem_nil, ↓guard_ite, ↓pick_ite, seval, encT_eq, inR_i64, v0, v2, v4, v5, t2, t4, t900, tb, hdr, e4, d4, e2, d2, e900, d900, hal, hq1, q2, decide_eq_true_eq, decide_eq_false_iff_not, Int.ofNat_lt]); (repeat with_reducible refine And.intro (by first | omega | (with_reducible first | exact lens_encT | exact lens_encL | exact lens_encB | exact lens_encP) | (simp; done) | (simp only [List.length_take, List.length_map, List.length_append, maxLen_eq]; omega)) ?_); (try (with_reducible refine hK _ ?_; clear hK K)); (try with_reducible refine ite_conj ?_)))
      refine then_normal ⟨s.size - q.i, by omega, acc ++ [q.t], q.i, q.k, false, .inr ⟨rfl, hr, by omega⟩, rfl, o2, by simp; omega, ?_⟩
      simp only [go_sem, List.forall_mem_nil, ↓guard_ite, ↓pick_ite, seval, encT_eq, inR_i64, v0, v2, v4, v5, t2, t4, t900, tb, e4, d4, e2, d2, e900, d900, hal]
      refine ⟨by rw [encT_snoc], fun i hi hne => ?_⟩
      have i4 : ¬ i = 4 := by omega
      have i900 : ¬ i = 900 := by omega
      simp only [go_sem, List.forall_mem_nil, ↓guard_ite, ↓pick_ite, seval, encT_eq, inR_i64, i4, i900, hne]
      exact hrest i hi hne
    by_cases q3 : byteN (tailS s q.i) 0 = 44
    · have hr := c3 q1 (by rw [← hbt]; exact q2) (by rw [← hbt]; exact q3)
      repeat' (first | (with_reducible first | refine Wa ?_ | refine Wb ?_ | refine Wc ?_ | refine Wd ?_ | refine We ?_ | refine Wf ?_ | refine Wg ?_ | refine Wh ?_ | refine Wi ?_ | refine Wj ?_ | refine Wk (by decide) ?_ | refine Wl ?_ | refine Wm ?_ | refine Wn ?_) | ((with_reducible first | refine Wx rfl (fun K hK => ?_) | refine Wp ?_ | refine Wq ?_ | refine Wr ?_); (try simp only [go_sem, List.forall_mem_nil, ↓guard_ite, ↓pick_ite, seval, encT_eq, inR_i64, v0, v2, v4, v5, t2, t4, t900, tb, hdr, e4, d4, e2, d2, e900, d900, hal, hq1, q2, q3, decide_eq_true_eq, decide_eq_false_iff_not, Int.ofNat_lt]); (repeat with_reducible refine And.intro (by first | omega | (with_reducible first | exact lens_encT | exact lens_encL | exact lens_encB | exact lens_encP) | (simp; done) | (simp only [List.length_take, List.length_map, List.length_append, maxLen_eq]; omega)) ?_); (try (with_reducible refine hK _ ?_; clear hK K)); (try with_reducible refine ite_conj ?_)))
      refine then_normal ⟨s.size - q.i, by omega, acc ++ [q.t], q.i, q.k, true, .inl ⟨rfl, g, hr, by omega, by omega, by omega⟩, rfl, o2, by simp; omega, ?_⟩
      simp only [go_sem, List.forall_mem_nil, ↓guard_ite, ↓pick_ite, seval, encT_eq, inR_i64, v0, v2, v4, v5, t2, t4, t900, tb, e4, d4, e2, d2, e900, d900, hal]
      refine ⟨by rw [encT_snoc], fun i hi hne => ?_⟩
      have i4 : ¬ i = 4 := by omega
      have i900 : ¬ i = 900 := by omega
      simp only [go_sem, List.forall_mem_nil, ↓guard_ite, ↓pick_ite, seval, encT_eq, inR_i64, i4, i900, hne]
      exact hrest i hi hne
    · rw [c4 q1 (by rw [← hbt]; exact q2) (by rw [← hbt]; exact q3)] at hpan
      repeat' (first | (with_reducible first | refine Wa ?_ | refine Wb ?_ | refine Wc ?_ | refine Wd ?_ | refine We ?_ | refine Wf ?_ | refine Wg ?_ | refine Wh ?_ | refine Wi ?_ | refine Wj ?_ | refine Wk (by decide) ?_ | refine Wl ?_ | refine Wm ?_ | refine Wn ?_) | ((with_reducible first | refine Wx rfl (fun K hK => ?_) | refine Wp ?_ | refine Wq ?_ | refine Wr ?_); (try simp only [go_sem, List.forall_mem_nil, ↓guard_ite, ↓pick_ite, seval, encT_eq, inR_i64, v0, v2, v4, v5, t2, t4, t900, tb, hdr, e4, d4, e2, d2, e900, d900, hal, hq1, q2, q3, decide_eq_true_eq, decide_eq_false_iff_not, Int.ofNat_lt]); (repeat with_reducible refine And.intro (by first | omega | (with_reducible first | exact lens_encT | exact lens_encL | exact lens_encB | exact lens_encP) | (simp; done) | (simp only [List.length_take, List.length_map, List.length_append, maxLen_eq]; omega)) ?_); (try (with_reducible refine hK _ ?_; clear hK K)); (try with_reducible refine ite_conj ?_)))
      refine IWP.opsPan 1 _ rfl (by kernel_rfl) ?_
      simp only [go_sem, List.forall_mem_nil, ↓guard_ite, ↓pick_ite, seval, encT_eq, inR_i64, PanAt, List.take_succ_cons, List.take_zero]
      intro envP
      repeat' (with_reducible first | refine Wy ?_ | refine Wz ?_ | refine Wv ?_)
      refine hpan (by show ¬ (12 : Int) = 0; decide) _ (panEnd_box (u := tailS s q.i) (l := 200 - q.k) ?_ fun i hi hne => ?_)
      · simp only [go_sem, List.forall_mem_nil, ↓guard_ite, ↓pick_ite, seval, encT_eq, inR_i64, e4, e900]
      · have i4 : ¬ i = 4 := by omega
        have i900 : ¬ i = 900 := by omega
        simp only [go_sem, List.forall_mem_nil, ↓guard_ite, ↓pick_ite, seval, encT_eq, inR_i64, i4, i900, hne]
        exact hrest i hi hne
  · have hdr := tail_drop (s := s) (i := j) (n := 1) (by omega)
    subst hr
    repeat' (first | (with_reducible first | refine Wa ?_ | refine Wb ?_ | refine Wc ?_ | refine Wd ?_ | refine We ?_ | refine Wf ?_ | refine Wg ?_ | refine Wh ?_ | refine Wi ?_ | refine Wj ?_ | refine Wk (by decide) ?_ | refine Wl ?_ | refine Wm ?_ | refine Wn ?_) | ((with_reducible first | refine Wx rfl (fun K hK => ?_) | refine Wp ?_ | refine Wq ?_ | refine Wr ?_); (try simp only [go_sem, List.forall_mem_nil, ↓guard_ite, ↓pick_ite, seval, encT_eq, inR_i64, v0, v2, v4, v5, t2, t4, t900, tb, hdr, e4, d4, e2, d2, e900, d900, decide_eq_true_eq, decide_eq_false_iff_not, Int.ofNat_lt]); (repeat with_reducible refine And.intro (by first | omega | (with_reducible first | exact lens_encT | exact lens_encL | exact lens_encB | exact lens_encP) | (simp; done) | (simp only [List.length_take, List.length_map, List.length_append, maxLen_eq]; omega)) ?_); (try (with_reducible refine hK _ ?_; clear hK K)); (try with_reducible refine ite_conj ?_)))
    refine hok rfl _ ⟨.agg [.st (.str nm), .row 900 acc.length], ?_, ?_, ?_, fun i hi hne => ?_⟩
    · simp only [go_sem, List.forall_mem_nil, ↓guard_ite, ↓pick_ite, seval, encT_eq, inR_i64, resAll, resOne, tupV, v0, v2, v4, t2, t4, t900, tb, e4, d4, e2, d2, e900, d900]
    · simp only [go_sem, List.forall_mem_nil, ↓guard_ite, ↓pick_ite, seval, encT_eq, inR_i64, t900, e900, d900, hal]
      rfl
    · simp only [go_sem, List.forall_mem_nil, ↓guard_ite, ↓pick_ite, seval, encT_eq, inR_i64, tb, e4, e2, e900, hdr]
    · have i2 : ¬ i = 2 := by omega
      simp only [go_sem, List.forall_mem_nil, ↓guard_ite, ↓pick_ite, seval, encT_eq, inR_i64, i2, hne]
      exact hrest i hi hne
end Go.Proofs.Ytohgkbgpcnmdpaa
