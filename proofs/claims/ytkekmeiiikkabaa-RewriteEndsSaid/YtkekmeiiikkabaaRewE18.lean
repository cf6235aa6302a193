/-
  Part 18 of the texts: BPlaceN; BMatch2. Conditions: none.
-/
import Derived.Test.YtkekmeiiikkabaaRewE17
namespace Go.Proofs.Ytkekmeiiikkabaa
open Go Go.RowKit
set_option linter.unusedVariables false
set_option linter.unusedSimpArgs false
set_option maxHeartbeats 800000

theorem atOf_a (p : List Int) : ∀ t : Tm, ACalls Try.prog 27 [aTm t, aInts p] (.tup [aTm ((t.atP p).getD Tm.nil), aBool (t.atP p).isSome]) := by
  induction p with
  | nil =>
    intro t
    rw [Tm.atP_nil]
    refine ac_R_AtOf (Nat.le_of_ble_eq_true rfl) fun C hC => ?_
    unfold ir_R_AtOf
    repeat' (first | (with_reducible first | refine Wa ?_ | refine Wb ?_ | refine Wc ?_ | refine Wd ?_ | refine We ?_ | refine Wf ?_ | refine Wg ?_ | refine Wh ?_ | refine Wi ?_ | refine Wj ?_ | refine Wk (by decide) ?_ | refine Wl ?_ | refine Wm ?_ | refine Wn ?_) | ((with_reducible first | refine Wo (fun K hK => ?_) | refine Wp ?_ | refine Wq ?_ | refine Wr ?_); (try simp only [go_sem, List.forall_mem_nil, ↓guard_ite, ↓pick_ite, seval, encT_eq, inR_i64, decide_eq_true_eq, decide_eq_false_iff_not, Int.ofNat_lt]); (repeat with_reducible refine And.intro (by first | omega | (with_reducible first | exact lens_encT | exact lens_encL | exact lens_encB | exact lens_encP) | (simp; done) | (simp only [List.length_take, List.length_map, List.length_append, maxLen_eq]; omega)) ?_); (try (with_reducible refine hK _ ?_; clear hK K)); (try with_reducible refine ite_conj ?_)))
    simp only [go_sem, List.forall_mem_nil, ↓guard_ite, ↓pick_ite, seval, FinQ, AS.result, resAll, resOne, tupV]
  | cons i p ih =>
    intro t
    rw [Tm.atP_cons]
    have htk : List.take p.length (List.map encI p) = List.map encI p := by rw [List.take_of_length_le (by simp)]
    have hl1 : ¬ ((p.length + 1 : Nat) : Int) = 0 := by omega
    refine ac_R_AtOf (Nat.le_of_ble_eq_true rfl) fun C hC => ?_
    unfold ir_R_AtOf
    by_cases h0 : i < 0
    · rw [if_pos h0]
      repeat' (first | (with_reducible first | refine Wa ?_ | refine Wb ?_ | refine Wc ?_ | refine Wd ?_ | refine We ?_ | refine Wf ?_ | refine Wg ?_ | refine Wh ?_ | refine Wi ?_ | refine Wj ?_ | refine Wk (by decide) ?_ | refine Wl ?_ | refine Wm ?_ | refine Wn ?_) | ((with_reducible first | refine Wo (fun K hK => ?_) | refine Wp ?_ | refine Wq ?_ | refine Wr ?_); (try simp only [go_sem, List.forall_mem_nil, ↓guard_ite, ↓pick_ite, seval, encT_eq, inR_i64, h0, hl1, decide_eq_true_eq, decide_eq_false_iff_not, Int.ofNat_lt]); (repeat with_reducible refine And.intro (by first | omega | (with_reducible first | exact lens_encT | exact lens_encL | exact lens_encB | exact lens_encP) | (simp; done) | (simp only [List.length_take, List.length_map, List.length_append, maxLen_eq]; omega)) ?_); (try (with_reducible refine hK _ ?_; clear hK K)); (try with_reducible refine ite_conj ?_)))
      simp only [go_sem, List.forall_mem_nil, ↓guard_ite, ↓pick_ite, seval, FinQ, AS.result, resAll, resOne, tupV]
      rfl
    · rw [if_neg h0]
      obtain ⟨k, rfl⟩ : ∃ k : Nat, i = k := ⟨i.toNat, by omega⟩
      rw [Int.toNat_natCast]
      by_cases h1 : (t.args.length : Int) ≤ k
      · rw [List.getElem?_eq_none (by omega)]
        repeat' (first | (with_reducible first | refine Wa ?_ | refine Wb ?_ | refine Wc ?_ | refine Wd ?_ | refine We ?_ | refine Wf ?_ | refine Wg ?_ | refine Wh ?_ | refine Wi ?_ | refine Wj ?_ | refine Wk (by decide) ?_ | refine Wl ?_ | refine Wm ?_ | refine Wn ?_) | ((with_reducible first | refine Wo (fun K hK => ?_) | refine Wp ?_ | refine Wq ?_ | refine Wr ?_); (try simp only [go_sem, List.forall_mem_nil, ↓guard_ite, ↓pick_ite, seval, encT_eq, inR_i64, h0, h1, hl1, decide_eq_true_eq, decide_eq_false_iff_not, Int.ofNat_lt]); (repeat with_reducible refine And.intro (by first | omega | (with_reducible first | exact lens_encT | exact lens_encL | exact lens_encB | exact lens_encP) | (simp; done) | (simp only [List.length_take, List.length_map, List.length_append, maxLen_eq]; omega)) ?_); (try (with_reducible refine hK _ ?_; clear hK K)); (try with_reducible refine ite_conj ?_)))
        simp only [go_sem, List.forall_mem_nil, ↓guard_ite, ↓pick_ite, seval, FinQ, AS.result, resAll, resOne, tupV]
        rfl
      · obtain ⟨a, ha⟩ := get_lt (show k < t.args.length by omega)
        rw [ha]
        repeat' (first | (with_reducible first | refine Wa ?_ | refine Wb ?_ | refine Wc ?_ | refine Wd ?_ | refine We ?_ | refine Wf ?_ | refine Wg ?_ | refine Wh ?_ | refine Wi ?_ | refine Wj ?_ | refine Wk (by decide) ?_ | refine Wl ?_ | refine Wm ?_ | refine Wn ?_) | refine CallG.mk _ (ih a) ?_ | ((with_reducible first | refine Wo (fun K hK => ?_) | refine Wp ?_ | refine Wq ?_ | refine Wr ?_); (try simp only [go_sem, List.forall_mem_nil, ↓guard_ite, ↓pick_ite, seval, encT_eq, inR_i64, h0, h1, ha, hl1, htk, decide_eq_true_eq, decide_eq_false_iff_not, Int.ofNat_lt]); (repeat with_reducible refine And.intro (by first | omega | (with_reducible first | exact lens_encT | exact lens_encL | exact lens_encB | exact lens_encP) | (simp; done) | (simp only [List.length_take, List.length_map, List.length_append, maxLen_eq]; omega)) ?_); (try (with_reducible refine hK _ ?_; clear hK K)); (try with_reducible refine ite_conj ?_)))
        simp only [go_sem, List.forall_mem_nil, ↓guard_ite, ↓pick_ite, seval, FinQ, AS.result, resAll, resOne, tupV]
theorem putOf_a (p : List Int) : ∀ t : Tm, t.size ≤ 1000000 → ∀ x : Tm, (t.atP p).isSome = true → ACalls Try.prog 29 [aTm t, aInts p, aTm x] (aTm (t.putP p x)) := by
  induction p with
  | nil =>
    intro t hz x hat
    rw [Tm.putP_nil]
    refine ac_R_PutOf (Nat.le_of_ble_eq_true rfl) fun C hC => ?_
    unfold ir_R_PutOf
    repeat' (first | (with_reducible first | refine Wa ?_ | refine Wb ?_ | refine Wc ?_ | refine Wd ?_ | refine We ?_ | refine Wf ?_ | refine Wg ?_ | refine Wh ?_ | refine Wi ?_ | refine Wj ?_ | refine Wk (by decide) ?_ | refine Wl ?_ | refine Wm ?_ | refine Wn ?_) | ((with_reducible first | refine Wo (fun K hK => ?_) | refine Wp ?_ | refine Wq ?_ | refine Wr ?_); (try simp only [go_sem, List.forall_mem_nil, ↓guard_ite, ↓pick_ite, seval, encT_eq, inR_i64, decide_eq_true_eq, decide_eq_false_iff_not, Int.ofNat_lt]); (repeat with_reducible refine And.intro (by first | omega | (with_reducible first | exact lens_encT | exact lens_encL | exact lens_encB | exact lens_encP) | (simp; done) | (simp only [List.length_take, List.length_map, List.length_append, maxLen_eq]; omega)) ?_); (try (with_reducible refine hK _ ?_; clear hK K)); (try with_reducible refine ite_conj ?_)))
    simp only [go_sem, List.forall_mem_nil, ↓guard_ite, ↓pick_ite, seval, FinQ, AS.result, resAll, resOne, tupV]
  | cons i p ih =>
    intro t hz x hat
    have hs := Tm.size_eq t
    have hkn := Tm.length_le t.args
    rw [Tm.atP_cons] at hat
    have h0 : ¬ i < 0 := fun h => by rw [if_pos h] at hat; cases hat
    rw [if_neg h0] at hat
    obtain ⟨j, rfl⟩ : ∃ k : Nat, i = k := ⟨i.toNat, by omega⟩
    rw [Int.toNat_natCast] at hat
    obtain ⟨b, hb⟩ : ∃ b, t.args[j]? = some b := by
      cases h : t.args[j]? with
      | none => rw [h] at hat; cases hat
      | some b => exact ⟨b, rfl⟩
    rw [hb] at hat
    dsimp only at hat
    have hjl := lt_of_get hb
    rw [Tm.putP_at hb]
    have htk : List.take p.length (List.map encI p) = List.map encI p := by rw [List.take_of_length_le (by simp)]
    have hl1 : ¬ ((p.length + 1 : Nat) : Int) = 0 := by omega
    refine ac_R_PutOf (Nat.le_of_ble_eq_true rfl) fun C hC => ?_
    unfold ir_R_PutOf
    repeat' (first | (with_reducible first | refine Wa ?_ | refine Wb ?_ | refine Wc ?_ | refine Wd ?_ | refine We ?_ | refine Wf ?_ | refine Wg ?_ | refine Wh ?_ | refine Wi ?_ | refine Wj ?_ | refine Wk (by decide) ?_ | refine Wl ?_ | refine Wm ?_ | refine Wn ?_) | ((with_reducible first | refine Wo (fun K hK => ?_) | refine Wp ?_ | refine Wq ?_ | refine Wr ?_); (try simp only [go_sem, List.forall_mem_nil, ↓guard_ite, ↓pick_ite, seval, encT_eq, inR_i64, hl1, decide_eq_true_eq, decide_eq_false_iff_not, Int.ofNat_lt]); (repeat with_reducible refine And.intro (by first | omega | (with_reducible first | exact lens_encT | exact lens_encL | exact lens_encB | exact lens_encP) | (simp; done) | (simp only [List.length_take, List.length_map, List.length_append, maxLen_eq]; omega)) ?_); (try (with_reducible refine hK _ ?_; clear hK K)); (try with_reducible refine ite_conj ?_)))
    refine IWP.ghost (Ghost.ownC 7 1 60 25 2 (xs := ([] : List Tm).map encT) rfl rfl rfl lens_encT) ?_
    refine IWP.loop (fun m s => ∃ k, k ≤ t.args.length ∧ m = t.args.length - k ∧ s.env 1 = aInts ((j : Int) :: p) ∧ s.env 3 = .one (.ptr 3 1 0 0) ∧ s.env 5 = .one (.ptr 5 1 0 0) ∧ s.env 6 = .one (.ptr 6 1 0 0) ∧ s.env 7 = .one (.ptr 7 1 0 0) ∧ s.S 3 = some (.box 25 [.st (.str t.name), .st (.list (t.args.map encT))]) ∧ s.S 5 = some (.box 25 [.st (.str x.name), .st (.list (x.args.map encT))]) ∧ s.S 6 = some (.box 25 [.st (.str ⟨#[]⟩), .full []]) ∧ s.S 7 = some (.box 25 [.st (.str t.name), .row 60 k]) ∧ s.S 60 = some (.arow 25 2 (((t.args.set j (b.putP p x)).take k).map encT)) ∧ s.env 8 = aInt k)
      t.args.length ⟨0, Nat.zero_le _, rfl, rfl, rfl, rfl, rfl, rfl, rfl, rfl, rfl, rfl, rfl, rfl⟩ ?_
    rintro m ⟨env, S⟩ ⟨k, hk, rfl, e1, e3, e5, e6, e7, s3, s5, s6, s7, s60, e8⟩
    simp only at e1 e3 e5 e6 e7 s3 s5 s6 s7 s60 e8
    have hlk : ((t.args.set j (b.putP p x)).take k).length = k := by rw [List.length_take, List.length_set]; omega
    by_cases hlt : (k : Int) < t.args.length
    · obtain ⟨a, ha⟩ := get_lt (show k < t.args.length by omega)
      by_cases hkj : (k : Int) = j
      · have hkj' : k = j := by omega
        subst hkj'
        have hset : (t.args.set k (b.putP p x))[k]? = some (b.putP p x) := by rw [List.getElem?_set_self hjl]
        repeat' (first | (with_reducible first | refine Wa ?_ | refine Wb ?_ | refine Wc ?_ | refine Wd ?_ | refine We ?_ | refine Wf ?_ | refine Wg ?_ | refine Wh ?_ | refine Wi ?_ | refine Wj ?_ | refine Wk (by decide) ?_ | refine Wl ?_ | refine Wm ?_ | refine Wn ?_) | refine CallG.mk _ (ih b (by have := Tm.size_mem (mem_of_get hb); omega) x hat) ?_ | ((with_reducible first | refine Wo (fun K hK => ?_) | refine Wp ?_ | refine Wq ?_ | refine Wr ?_); (try simp only [go_sem, List.forall_mem_nil, ↓guard_ite, ↓pick_ite, seval, encT_eq, inR_i64, e1, e3, e5, e6, e7, s3, s5, s6, s7, s60, e8, hlt, hb, htk, hlk, decide_eq_true_eq, decide_eq_false_iff_not, Int.ofNat_lt]); (repeat with_reducible refine And.intro (by first | omega | (with_reducible first | exact lens_encT | exact lens_encL | exact lens_encB | exact lens_encP) | (simp; done) | (simp only [List.length_take, List.length_map, List.length_append, maxLen_eq]; omega)) ?_); (try (with_reducible refine hK _ ?_; clear hK K)); (try with_reducible refine ite_conj ?_)))
        refine then_normal ⟨t.args.length - (k + 1), by omega, k + 1, by omega, rfl, ?_⟩
        simp only [go_sem, List.forall_mem_nil, ↓guard_ite, ↓pick_ite, seval, encT_eq, inR_i64, e1, e3, e5, e6, e7, s3, s5, s6, s7, s60, e8]
        exact ⟨by rw [take_snoc hset]; simp [encT_eq], by congr 3⟩
      · have hkj' : j ≠ k := by omega
        have hset : (t.args.set j (b.putP p x))[k]? = some a := by rw [List.getElem?_set_ne hkj', ha]
        repeat' (first | (with_reducible first | refine Wa ?_ | refine Wb ?_ | refine Wc ?_ | refine Wd ?_ | refine We ?_ | refine Wf ?_ | refine Wg ?_ | refine Wh ?_ | refine Wi ?_ | refine Wj ?_ | refine Wk (by decide) ?_ | refine Wl ?_ | refine Wm ?_ | refine Wn ?_) | ((with_reducible first | refine Wo (fun K hK => ?_) | refine Wp ?_ | refine Wq ?_ | refine Wr ?_); (try simp only [go_sem, List.forall_mem_nil, ↓guard_ite, ↓pick_ite, seval, encT_eq, inR_i64, e1, e3, e5, e6, e7, s3, s5, s6, s7, s60, e8, hlt, hkj, ha, hlk, decide_eq_true_eq, decide_eq_false_iff_not, Int.ofNat_lt]); (repeat with_reducible refine And.intro (by first | omega | (with_reducible first | exact lens_encT | exact lens_encL | exact lens_encB | exact lens_encP) | (simp; done) | (simp only [List.length_take, List.length_map, List.length_append, maxLen_eq]; omega)) ?_); (try (with_reducible refine hK _ ?_; clear hK K)); (try with_reducible refine ite_conj ?_)))
        refine then_normal ⟨t.args.length - (k + 1), by omega, k + 1, by omega, rfl, ?_⟩
        simp only [go_sem, List.forall_mem_nil, ↓guard_ite, ↓pick_ite, seval, encT_eq, inR_i64, e1, e3, e5, e6, e7, s3, s5, s6, s7, s60, e8]
        exact ⟨by rw [take_snoc hset]; simp [encT_eq], by congr 3⟩
    · have hall : (t.args.set j (b.putP p x)).take k = t.args.set j (b.putP p x) := List.take_of_length_le (by rw [List.length_set]; omega)
      rw [hall] at hlk s60
      repeat' (first | (with_reducible first | refine Wa ?_ | refine Wb ?_ | refine Wc ?_ | refine Wd ?_ | refine We ?_ | refine Wf ?_ | refine Wg ?_ | refine Wh ?_ | refine Wi ?_ | refine Wj ?_ | refine Wk (by decide) ?_ | refine Wl ?_ | refine Wm ?_ | refine Wn ?_) | ((with_reducible first | refine Wo (fun K hK => ?_) | refine Wp ?_ | refine Wq ?_ | refine Wr ?_); (try simp only [go_sem, List.forall_mem_nil, ↓guard_ite, ↓pick_ite, seval, encT_eq, inR_i64, e1, e3, e5, e6, e7, s3, s5, s6, s7, s60, e8, hlt, hlk, decide_eq_true_eq, decide_eq_false_iff_not, Int.ofNat_lt]); (repeat with_reducible refine And.intro (by first | omega | (with_reducible first | exact lens_encT | exact lens_encL | exact lens_encB | exact lens_encP) | (simp; done) | (simp only [List.length_take, List.length_map, List.length_append, maxLen_eq]; omega)) ?_); (try (with_reducible refine hK _ ?_; clear hK K)); (try with_reducible refine ite_conj ?_)))
      simp only [go_sem, List.forall_mem_nil, ↓guard_ite, ↓pick_ite, seval, FinQ, AS.result, resAll, resOne, tupV, e6, s60, hlk]
      rfl
theorem placesN_a (t : Tm) (hz : t.size ≤ 1000000) : ACalls Try.prog 26 [aTm t] (aIss t.places) := by
  induction h : SizeOf.sizeOf t using Nat.strongRecOn generalizing t with
  | _ N ih =>
  subst h
  have hs := Tm.size_eq t
  have hkn := Tm.length_le t.args
  refine ac_R_PlacesOf (Nat.le_of_ble_eq_true rfl) fun C hC => ?_
  unfold ir_R_PlacesOf
  repeat' (first | (with_reducible first | refine Wa ?_ | refine Wb ?_ | refine Wc ?_ | refine Wd ?_ | refine We ?_ | refine Wf ?_ | refine Wg ?_ | refine Wh ?_ | refine Wi ?_ | refine Wj ?_ | refine Wk (by decide) ?_ | refine Wl ?_ | refine Wm ?_ | refine Wn ?_) | ((with_reducible first | refine Wo (fun K hK => ?_) | refine Wp ?_ | refine Wq ?_ | refine Wr ?_); (try simp only [go_sem, List.forall_mem_nil, ↓guard_ite, ↓pick_ite, seval, encT_eq, inR_i64, decide_eq_true_eq, decide_eq_false_iff_not, Int.ofNat_lt]); (repeat with_reducible refine And.intro (by first | omega | (with_reducible first | exact lens_encT | exact lens_encL | exact lens_encB | exact lens_encP) | (simp; done) | (simp only [List.length_take, List.length_map, List.length_append, maxLen_eq]; omega)) ?_); (try (with_reducible refine hK _ ?_; clear hK K)); (try with_reducible refine ite_conj ?_)))
  refine IWP.ghost (Ghost.own 3 60 55 1 (xs := ([[]] : List (List Int)).map encIs) (by simp only [go_sem, List.forall_mem_nil, ↓guard_ite, ↓pick_ite, seval, encT_eq, inR_i64]; rfl) rfl (by simp) (by omega)) ?_
  refine IWP.loop (fun m s => ∃ k, k ≤ t.args.length ∧ m = t.args.length - k ∧ s.env 1 = .one (.ptr 1 1 0 0) ∧ s.S 1 = some (.box 25 [.st (.str t.name), .st (.list (t.args.map encT))]) ∧ s.env 3 = .one (.row 60 (t.placesTo k).length) ∧ s.S 60 = some (.arow 55 1 ((t.placesTo k).map encIs)) ∧ s.env 4 = aInt k ∧ s.S 34 = none)
    t.args.length ⟨0, Nat.zero_le _, rfl, rfl, rfl, rfl, rfl, rfl, rfl⟩ ?_
  rintro m ⟨env, S⟩ ⟨k, hk, rfl, e1, s1, e3, s60, e4, s34⟩
  simp only at e1 s1 e3 s60 e4 s34
  by_cases hlt : (k : Int) < t.args.length
  · obtain ⟨a, ha⟩ := get_lt (show k < t.args.length by omega)
    have hsz := Tm.size_mem (mem_of_get ha)
    have hpl := Tm.places_length a
    have hto := Tm.placesTo_length t k
    have hst := Tm.sizes_take ha
    have hst2 := Tm.sizes_take_le t.args (k + 1)
    repeat' (first | (with_reducible first | refine Wa ?_ | refine Wb ?_ | refine Wc ?_ | refine Wd ?_ | refine We ?_ | refine Wf ?_ | refine Wg ?_ | refine Wh ?_ | refine Wi ?_ | refine Wj ?_ | refine Wk (by decide) ?_ | refine Wl ?_ | refine Wm ?_ | refine Wn ?_) | refine CallG.mk _ (ih _ (Tm.lt_of_arg (mem_of_get ha)) a (by omega) rfl) ?_ | ((with_reducible first | refine Wo (fun K hK => ?_) | refine Wp ?_ | refine Wq ?_ | refine Wr ?_); (try simp only [go_sem, List.forall_mem_nil, ↓guard_ite, ↓pick_ite, seval, encT_eq, inR_i64, e1, s1, e3, s60, e4, hlt, ha, decide_eq_true_eq, decide_eq_false_iff_not, Int.ofNat_lt]); (repeat with_reducible refine And.intro (by first | omega | (with_reducible first | exact lens_encT | exact lens_encL | exact lens_encB | exact lens_encP) | (simp; done) | (simp only [List.length_take, List.length_map, List.length_append, maxLen_eq]; omega)) ?_); (try (with_reducible refine hK _ ?_; clear hK K)); (try with_reducible refine ite_conj ?_)))
    refine IWP.loopD [34] (fun m s => ∃ i, i ≤ a.places.length ∧ m = a.places.length - i ∧ s.env 1 = .one (.ptr 1 1 0 0) ∧ s.S 1 = some (.box 25 [.st (.str t.name), .st (.list (t.args.map encT))]) ∧ s.env 3 = .one (.row 60 (t.placesTo k ++ (a.places.take i).map fun p => (k : Int) :: p).length) ∧ s.S 60 = some (.arow 55 1 ((t.placesTo k ++ (a.places.take i).map fun p => (k : Int) :: p).map encIs)) ∧ s.env 4 = aInt k ∧ s.env 5 = aIss a.places ∧ s.env 6 = aInt i ∧ s.S 34 = none)
      a.places.length ⟨0, Nat.zero_le _, rfl, ?_⟩ ?_
    · simp only [go_sem, List.forall_mem_nil, ↓guard_ite, ↓pick_ite, seval, encT_eq, inR_i64, e1, s1, e3, s60, e4, s34]
    rintro m ⟨env, S⟩ ⟨i, hi, rfl, e1, s1, e3, s60, e4, e5, e6, s34⟩
    simp only at e1 s1 e3 s60 e4 e5 e6 s34
    have hlen : (t.placesTo k ++ (a.places.take i).map fun p => (k : Int) :: p).length ≤ 1000000 := by
      rw [List.length_append, List.length_map, List.length_take]
      omega
    by_cases hli : (i : Int) < a.places.length
    · obtain ⟨p, hp⟩ := get_lt (show i < a.places.length by omega)
      have hd := Tm.places_deep a p (mem_of_get hp)
      repeat' (first | (with_reducible first | refine Wa ?_ | refine Wb ?_ | refine Wc ?_ | refine Wd ?_ | refine We ?_ | refine Wf ?_ | refine Wg ?_ | refine Wh ?_ | refine Wi ?_ | refine Wj ?_ | refine Wk (by decide) ?_ | refine Wl ?_ | refine Wm ?_ | refine Wn ?_) | ((with_reducible first | refine Wo (fun K hK => ?_) | refine Wp ?_ | refine Wq ?_ | refine Wr ?_); (try simp only [go_sem, List.forall_mem_nil, ↓guard_ite, ↓pick_ite, seval, encT_eq, inR_i64, e1, s1, e3, s60, e4, e5, e6, s34, hli, hp, decide_eq_true_eq, decide_eq_false_iff_not, Int.ofNat_lt]); (repeat with_reducible refine And.intro (by first | omega | (with_reducible first | exact lens_encT | exact lens_encL | exact lens_encB | exact lens_encP) | (simp; done) | (simp only [List.length_take, List.length_map, List.length_append, maxLen_eq]; omega)) ?_); (try (with_reducible refine hK _ ?_; clear hK K)); (try with_reducible refine ite_conj ?_)))
      refine then_normal ⟨a.places.length - (i + 1), by omega, i + 1, by omega, rfl, ?_⟩
      simp only [go_sem, List.forall_mem_nil, ↓guard_ite, ↓pick_ite, seval, AS.drop, dropS, AC.clears, AC.clear, AC.highs, AC.high, Bool.not_false, Bool.true_and, Bool.and_self, AV.purge, AV.purges, AC.purge, ABlk.purge, List.contains_cons, List.contains_nil, Nat.reduceBEq, Bool.or_self, Bool.or_false, Bool.false_or, Bool.or_true, encT_eq, inR_i64, e1, s1, e3, s60, e4, e5, e6, s34]
      rw [take_snoc hp]
      refine ⟨?_, ?_, rfl⟩
      · simp
        omega
      · simp
    · repeat' (first | (with_reducible first | refine Wa ?_ | refine Wb ?_ | refine Wc ?_ | refine Wd ?_ | refine We ?_ | refine Wf ?_ | refine Wg ?_ | refine Wh ?_ | refine Wi ?_ | refine Wj ?_ | refine Wk (by decide) ?_ | refine Wl ?_ | refine Wm ?_ | refine Wn ?_) | ((with_reducible first | refine Wo (fun K hK => ?_) | refine Wp ?_ | refine Wq ?_ | refine Wr ?_); (try simp only [go_sem, List.forall_mem_nil, ↓guard_ite, ↓pick_ite, seval, encT_eq, inR_i64, e1, s1, e3, s60, e4, e5, e6, s34, hli, decide_eq_true_eq, decide_eq_false_iff_not, Int.ofNat_lt]); (repeat with_reducible refine And.intro (by first | omega | (with_reducible first | exact lens_encT | exact lens_encL | exact lens_encB | exact lens_encP) | (simp; done) | (simp only [List.length_take, List.length_map, List.length_append, maxLen_eq]; omega)) ?_); (try (with_reducible refine hK _ ?_; clear hK K)); (try with_reducible refine ite_conj ?_)))
      refine then_normal ⟨t.args.length - (k + 1), by omega, k + 1, by omega, rfl, ?_⟩
      have e9 : (t.placesTo k ++ (a.places.take i).map fun p => (k : Int) :: p) = t.placesTo (k + 1) := by
        rw [List.take_of_length_le (by omega), Tm.placesTo_succ ha]
      rw [e9] at e3 s60
      exact ⟨e1, s1, e3, s60, rfl, s34⟩
  · repeat' (first | (with_reducible first | refine Wa ?_ | refine Wb ?_ | refine Wc ?_ | refine Wd ?_ | refine We ?_ | refine Wf ?_ | refine Wg ?_ | refine Wh ?_ | refine Wi ?_ | refine Wj ?_ | refine Wk (by decide) ?_ | refine Wl ?_ | refine Wm ?_ | refine Wn ?_) | ((with_reducible first | refine Wo (fun K hK => ?_) | refine Wp ?_ | refine Wq ?_ | refine Wr ?_); (try simp only [go_sem, List.forall_mem_nil, ↓guard_ite, ↓pick_ite, seval, encT_eq, inR_i64, e1, s1, e3, s60, e4, hlt, decide_eq_true_eq, decide_eq_false_iff_not, Int.ofNat_lt]); (repeat with_reducible refine And.intro (by first | omega | (with_reducible first | exact lens_encT | exact lens_encL | exact lens_encB | exact lens_encP) | (simp; done) | (simp only [List.length_take, List.length_map, List.length_append, maxLen_eq]; omega)) ?_); (try (with_reducible refine hK _ ?_; clear hK K)); (try with_reducible refine ite_conj ?_)))
    simp only [go_sem, List.forall_mem_nil, ↓guard_ite, ↓pick_ite, seval, FinQ, AS.result, resAll, resOne, tupV, e3, s60]
    rw [Tm.placesTo_all (by omega)]
end Go.Proofs.Ytkekmeiiikkabaa

namespace Go.Proofs.Ytkekmeiiikkabaa
open Go Go.RowKit
set_option linter.unusedVariables false
set_option linter.unusedSimpArgs false
set_option maxHeartbeats 1000000

abbrev arowB (l : List Bd) : ABlk := .arow 89 3 (l.map encB)
/-- What the document's matching hands back, where its row is the block i. -/
def mtV (i : Nat) (p t : Tm) (l : List Bd) : AV := if (isVar p.name || (p.mt t l).2) = true then .one (.row i (p.mt t l).1.length) else .one (.full [])
theorem mtV_yes {i : Nat} {p t : Tm} {l : List Bd} (h : (p.mt t l).2 = true) : mtV i p t l = .one (.row i (p.mt t l).1.length) := by unfold mtV; rw [h, Bool.or_true, if_pos rfl]
theorem mtV_var {i : Nat} {p t : Tm} {l : List Bd} (h : isVar p.name = true) : mtV i p t l = .one (.row i (p.mt t l).1.length) := by unfold mtV; rw [h, Bool.true_or, if_pos rfl]
theorem mtV_no {i : Nat} {p t : Tm} {l : List Bd} (hv : isVar p.name = false) (h : (p.mt t l).2 = false) : mtV i p t l = .one (.full []) := by unfold mtV; rw [h, hv]; rfl
theorem matched_core (p : Tm) (hz : p.size ≤ 1000000)
    (ih : ∀ a ∈ p.args, ∀ (t : Tm) (i : Nat) (l : List Bd) (S : AStore), 1000 ≤ i → l.length + a.size ≤ 2000000 → S i = some (arowB l) →
      ACallsS Try.prog 61 [aTm a, aTm t, .one (.row i l.length)] S (.tup [mtV i a t l, aBool (a.mt t l).2]) (updE S i (some (arowB (a.mt t l).1))))
    (C : Ctx) (hC : C.n = 75) (t : Tm) (i : Nat) (hi : 100 < i) (l : List Bd) (hl : l.length + p.size ≤ 2000000) (S : AStore) (hS : ∀ j, j < 100 → S j = none) (si : S i = some (arowB l)) (env : Nat → AV) (e0 : env 0 = aTm p) (e1 : env 1 = aTm t) (e2 : env 2 = .one (.row i l.length))
    (Q : AX → AS → Prop) (hQ : ∀ env' S', env' 6 = mtV i p t l → env' 7 = aBool (p.mt t l).2 → S' i = some (arowB (p.mt t l).1) → (∀ j, 100 ≤ j → j ≠ i → S' j = S j) → Q .ret ⟨env', S'⟩) :
    IWP Try.prog C [68] ir_R_matched Q ⟨env, S⟩ := by
  have hs := Tm.size_eq p
  have hln := Tm.length_le p.args
  have n3 : S 3 = none := hS 3 (by omega)
  have n4 : S 4 = none := hS 4 (by omega)
  have n8 : S 8 = none := hS 8 (by omega)
  have d3 : ¬ 3 = i := by omega
  have d4 : ¬ 4 = i := by omega
  have d8 : ¬ 8 = i := by omega
  have f3 : ¬ i = 3 := by omega
  have f4 : ¬ i = 4 := by omega
  have f8 : ¬ i = 8 := by omega
  unfold ir_R_matched
  repeat' (first | (with_reducible first | refine Wa ?_ | refine Wb ?_ | refine Wc ?_ | refine Wd ?_ | refine We ?_ | refine Wf ?_ | refine Wg ?_ | refine Wh ?_ | refine Wi ?_ | refine Wj ?_ | refine Wk (by decide) ?_ | refine Wl ?_ | refine Wm ?_ | refine Wn ?_) | ((with_reducible first | refine Wo (fun K hK => ?_) | refine Wp ?_ | refine Wq ?_ | refine Wr ?_); (try simp only [go_sem, List.forall_mem_nil, ↓guard_ite, ↓pick_ite, seval, encT_eq, inR_i64, n3, n4, e0, e1, e2, decide_eq_true_eq, decide_eq_false_iff_not, Int.ofNat_lt]); (repeat with_reducible refine And.intro (by first | omega | (with_reducible first | exact lens_encT | exact lens_encL | exact lens_encB | exact lens_encP) | (simp; done) | (simp only [List.length_take, List.length_map, List.length_append, maxLen_eq]; omega)) ?_); (try (with_reducible refine hK _ ?_; clear hK K)); (try with_reducible refine ite_conj ?_)))
  refine ⟨_, isVar_a _, ?_⟩
  cases hv : isVar p.name with
  | true =>
    repeat' (first | (with_reducible first | refine Wa ?_ | refine Wb ?_ | refine Wc ?_ | refine Wd ?_ | refine We ?_ | refine Wf ?_ | refine Wg ?_ | refine Wh ?_ | refine Wi ?_ | refine Wj ?_ | refine Wk (by decide) ?_ | refine Wl ?_ | refine Wm ?_ | refine Wn ?_) | ((with_reducible first | refine Wo (fun K hK => ?_) | refine Wp ?_ | refine Wq ?_ | refine Wr ?_); (try simp only [go_sem, List.forall_mem_nil, ↓guard_ite, ↓pick_ite, seval, encT_eq, inR_i64, hv, n3, n4, n8, d3, d4, d8, f3, f4, f8, e0, e1, e2, si, decide_eq_true_eq, decide_eq_false_iff_not, Int.ofNat_lt]); (repeat with_reducible refine And.intro (by first | omega | (with_reducible first | exact lens_encT | exact lens_encL | exact lens_encB | exact lens_encP) | (simp; done) | (simp only [List.length_take, List.length_map, List.length_append, maxLen_eq]; omega)) ?_); (try (with_reducible refine hK _ ?_; clear hK K)); (try with_reducible refine ite_conj ?_)))
    refine ⟨_, for_a l p.name, ?_⟩
    cases hlk : lookup l p.name with
    | some x =>
      repeat' (first | (with_reducible first | refine Wa ?_ | refine Wb ?_ | refine Wc ?_ | refine Wd ?_ | refine We ?_ | refine Wf ?_ | refine Wg ?_ | refine Wh ?_ | refine Wi ?_ | refine Wj ?_ | refine Wk (by decide) ?_ | refine Wl ?_ | refine Wm ?_ | refine Wn ?_) | refine CallG.mk _ (sameR_a _ _) ?_ | ((with_reducible first | refine Wo (fun K hK => ?_) | refine Wp ?_ | refine Wq ?_ | refine Wr ?_); (try simp only [go_sem, List.forall_mem_nil, ↓guard_ite, ↓pick_ite, seval, encT_eq, inR_i64, hlk, n3, n4, n8, d3, d4, d8, f3, f4, f8, e0, e1, e2, si, Option.getD_some, Option.isSome_some, decide_eq_true_eq, decide_eq_false_iff_not, Int.ofNat_lt]); (repeat with_reducible refine And.intro (by first | omega | (with_reducible first | exact lens_encT | exact lens_encL | exact lens_encB | exact lens_encP) | (simp; done) | (simp only [List.length_take, List.length_map, List.length_append, maxLen_eq]; omega)) ?_); (try (with_reducible refine hK _ ?_; clear hK K)); (try with_reducible refine ite_conj ?_)))
      have hm := Tm.mt_old (t := t) hv hlk
      refine hQ _ _ ?_ ?_ ?_ fun j hj hne => ?_
      · rw [mtV_var hv, hm]
        simp only [go_sem, List.forall_mem_nil, ↓guard_ite, ↓pick_ite, seval, encT_eq, inR_i64]
      · rw [hm]
        simp only [go_sem, List.forall_mem_nil, ↓guard_ite, ↓pick_ite, seval, encT_eq, inR_i64]
      · rw [hm]
        simp only [go_sem, List.forall_mem_nil, ↓guard_ite, ↓pick_ite, seval, encT_eq, inR_i64, f3, f4, f8, si]
      · have j3 : ¬ j = 3 := by omega
        have j4 : ¬ j = 4 := by omega
        have j8 : ¬ j = 8 := by omega
        simp only [go_sem, List.forall_mem_nil, ↓guard_ite, ↓pick_ite, seval, encT_eq, inR_i64, j3, j4, j8]
    | none =>
      repeat' (first | (with_reducible first | refine Wa ?_ | refine Wb ?_ | refine Wc ?_ | refine Wd ?_ | refine We ?_ | refine Wf ?_ | refine Wg ?_ | refine Wh ?_ | refine Wi ?_ | refine Wj ?_ | refine Wk (by decide) ?_ | refine Wl ?_ | refine Wm ?_ | refine Wn ?_) | ((with_reducible first | refine Wo (fun K hK => ?_) | refine Wp ?_ | refine Wq ?_ | refine Wr ?_); (try simp only [go_sem, List.forall_mem_nil, ↓guard_ite, ↓pick_ite, seval, encT_eq, inR_i64, hlk, n3, n4, n8, d3, d4, d8, f3, f4, f8, e0, e1, e2, si, Option.getD_none, Option.isSome_none, encB, decide_eq_true_eq, decide_eq_false_iff_not, Int.ofNat_lt]); (repeat with_reducible refine And.intro (by first | omega | (with_reducible first | exact lens_encT | exact lens_encL | exact lens_encB | exact lens_encP) | (simp; done) | (simp only [List.length_take, List.length_map, List.length_append, maxLen_eq]; omega)) ?_); (try (with_reducible refine hK _ ?_; clear hK K)); (try with_reducible refine ite_conj ?_)))
      have hm := Tm.mt_new (t := t) hv hlk
      refine hQ _ _ ?_ ?_ ?_ fun j hj hne => ?_
      · rw [mtV_var hv, hm, List.length_append]
        simp only [go_sem, List.forall_mem_nil, ↓guard_ite, ↓pick_ite, seval, encT_eq, inR_i64]
      · rw [hm]
        simp only [go_sem, List.forall_mem_nil, ↓guard_ite, ↓pick_ite, seval, encT_eq, inR_i64]
      · rw [hm]
        simp only [go_sem, List.forall_mem_nil, ↓guard_ite, ↓pick_ite, seval, encT_eq, inR_i64, f3, f4, f8, si]
        rw [arowB, List.map_append]
        rfl
      · have j3 : ¬ j = 3 := by omega
        have j4 : ¬ j = 4 := by omega
        have j8 : ¬ j = 8 := by omega
        simp only [go_sem, List.forall_mem_nil, ↓guard_ite, ↓pick_ite, seval, encT_eq, inR_i64, j3, j4, j8, hne]
  | false =>
    by_cases hn : p.name = t.name
    case neg =>
      have hc : ¬ (p.name = t.name ∧ p.args.length = t.args.length) := fun h => hn h.1
      have hm := Tm.mt_clash (l := l) hv hc
      repeat' (first | (with_reducible first | refine Wa ?_ | refine Wb ?_ | refine Wc ?_ | refine Wd ?_ | refine We ?_ | refine Wf ?_ | refine Wg ?_ | refine Wh ?_ | refine Wi ?_ | refine Wj ?_ | refine Wk (by decide) ?_ | refine Wl ?_ | refine Wm ?_ | refine Wn ?_) | ((with_reducible first | refine Wo (fun K hK => ?_) | refine Wp ?_ | refine Wq ?_ | refine Wr ?_); (try simp only [go_sem, List.forall_mem_nil, ↓guard_ite, ↓pick_ite, seval, encT_eq, inR_i64, hv, n3, n4, n8, d3, d4, d8, f3, f4, f8, e0, e1, e2, si, hn, decide_eq_true_eq, decide_eq_false_iff_not, Int.ofNat_lt]); (repeat with_reducible refine And.intro (by first | omega | (with_reducible first | exact lens_encT | exact lens_encL | exact lens_encB | exact lens_encP) | (simp; done) | (simp only [List.length_take, List.length_map, List.length_append, maxLen_eq]; omega)) ?_); (try (with_reducible refine hK _ ?_; clear hK K)); (try with_reducible refine ite_conj ?_)))
      refine hQ _ _ ?_ ?_ ?_ fun j hj hne => ?_
      · rw [mtV_no hv (by rw [hm])]
        simp only [go_sem, List.forall_mem_nil, ↓guard_ite, ↓pick_ite, seval, encT_eq, inR_i64]
      · rw [hm]
        simp only [go_sem, List.forall_mem_nil, ↓guard_ite, ↓pick_ite, seval, encT_eq, inR_i64]
      · rw [hm]
        simp only [go_sem, List.forall_mem_nil, ↓guard_ite, ↓pick_ite, seval, encT_eq, inR_i64, f3, f4, si]
      · have j3 : ¬ j = 3 := by omega
        have j4 : ¬ j = 4 := by omega
        simp only [go_sem, List.forall_mem_nil, ↓guard_ite, ↓pick_ite, seval, encT_eq, inR_i64, j3, j4]
    by_cases hlen : p.args.length = t.args.length
    case neg =>
      have hc : ¬ (p.name = t.name ∧ p.args.length = t.args.length) := fun h => hlen h.2
      have hlen' : ¬ (p.args.length : Int) = t.args.length := by omega
      have hm := Tm.mt_clash (l := l) hv hc
      repeat' (first | (with_reducible first | refine Wa ?_ | refine Wb ?_ | refine Wc ?_ | refine Wd ?_ | refine We ?_ | refine Wf ?_ | refine Wg ?_ | refine Wh ?_ | refine Wi ?_ | refine Wj ?_ | refine Wk (by decide) ?_ | refine Wl ?_ | refine Wm ?_ | refine Wn ?_) | ((with_reducible first | refine Wo (fun K hK => ?_) | refine Wp ?_ | refine Wq ?_ | refine Wr ?_); (try simp only [go_sem, List.forall_mem_nil, ↓guard_ite, ↓pick_ite, seval, encT_eq, inR_i64, hv, n3, n4, n8, d3, d4, d8, f3, f4, f8, e0, e1, e2, si, hn, hlen', decide_eq_true_eq, decide_eq_false_iff_not, Int.ofNat_lt]); (repeat with_reducible refine And.intro (by first | omega | (with_reducible first | exact lens_encT | exact lens_encL | exact lens_encB | exact lens_encP) | (simp; done) | (simp only [List.length_take, List.length_map, List.length_append, maxLen_eq]; omega)) ?_); (try (with_reducible refine hK _ ?_; clear hK K)); (try with_reducible refine ite_conj ?_)))
      refine hQ _ _ ?_ ?_ ?_ fun j hj hne => ?_
      · rw [mtV_no hv (by rw [hm])]
        simp only [go_sem, List.forall_mem_nil, ↓guard_ite, ↓pick_ite, seval, encT_eq, inR_i64]
      · rw [hm]
        simp only [go_sem, List.forall_mem_nil, ↓guard_ite, ↓pick_ite, seval, encT_eq, inR_i64]
      · rw [hm]
        simp only [go_sem, List.forall_mem_nil, ↓guard_ite, ↓pick_ite, seval, encT_eq, inR_i64, f3, f4, si]
      · have j3 : ¬ j = 3 := by omega
        have j4 : ¬ j = 4 := by omega
        simp only [go_sem, List.forall_mem_nil, ↓guard_ite, ↓pick_ite, seval, encT_eq, inR_i64, j3, j4]
    have hlen' : (p.args.length : Int) = t.args.length := by omega
    have hknot : p.mt t l = Tm.mtL p.args t.args l := Tm.mt_knot hv hn hlen
    repeat' (first | (with_reducible first | refine Wa ?_ | refine Wb ?_ | refine Wc ?_ | refine Wd ?_ | refine We ?_ | refine Wf ?_ | refine Wg ?_ | refine Wh ?_ | refine Wi ?_ | refine Wj ?_ | refine Wk (by decide) ?_ | refine Wl ?_ | refine Wm ?_ | refine Wn ?_) | ((with_reducible first | refine Wo (fun K hK => ?_) | refine Wp ?_ | refine Wq ?_ | refine Wr ?_); (try simp only [go_sem, List.forall_mem_nil, ↓guard_ite, ↓pick_ite, seval, encT_eq, inR_i64, hv, n3, n4, n8, d3, d4, d8, f3, f4, f8, e0, e1, e2, si, hn, hlen', decide_eq_true_eq, decide_eq_false_iff_not, Int.ofNat_lt]); (repeat with_reducible refine And.intro (by first | omega | (with_reducible first | exact lens_encT | exact lens_encL | exact lens_encB | exact lens_encP) | (simp; done) | (simp only [List.length_take, List.length_map, List.length_append, maxLen_eq]; omega)) ?_); (try (with_reducible refine hK _ ?_; clear hK K)); (try with_reducible refine ite_conj ?_)))
    refine IWP.loop (fun m x => ∃ k, k ≤ p.args.length ∧ m = p.args.length - k ∧ (Tm.mtL (p.args.take k) (t.args.take k) l).2 = true ∧ x.env 2 = .one (.row i (Tm.mtL (p.args.take k) (t.args.take k) l).1.length) ∧ x.env 3 = .one (.ptr 3 1 0 0) ∧ x.env 4 = .one (.ptr 4 1 0 0) ∧ x.env 10 = aInt k ∧
        x.S 3 = some (.box 25 [.st (.str t.name), .st (.list (p.args.map encT))]) ∧ x.S 4 = some (.box 25 [.st (.str t.name), .st (.list (t.args.map encT))]) ∧ x.S i = some (arowB (Tm.mtL (p.args.take k) (t.args.take k) l).1) ∧ ∀ j, 100 ≤ j → j ≠ i → x.S j = S j)
      p.args.length ⟨0, Nat.zero_le _, rfl, by simp [Tm.mtL], by (simp only [go_sem, List.forall_mem_nil, ↓guard_ite, ↓pick_ite, seval, encT_eq, inR_i64, e2]); simp [Tm.mtL], rfl, rfl, rfl, by simp only [go_sem, List.forall_mem_nil, ↓guard_ite, ↓pick_ite, seval, encT_eq, inR_i64, hn], rfl, by (simp only [go_sem, List.forall_mem_nil, ↓guard_ite, ↓pick_ite, seval, encT_eq, inR_i64, f3, f4, si]); simp [Tm.mtL], fun j hj hne => ?_⟩ ?_
    · have j3 : ¬ j = 3 := by omega
      have j4 : ¬ j = 4 := by omega
      simp only [go_sem, List.forall_mem_nil, ↓guard_ite, ↓pick_ite, seval, encT_eq, inR_i64, j3, j4]
    rintro m ⟨env, S1⟩ ⟨k, hk, rfl, hok, e2, e3', e4', e10, s3, s4, si, hrest⟩
    simp only at e2 e3' e4' e10 s3 s4 si hrest
    by_cases hlt : (k : Int) < p.args.length
    · obtain ⟨a, ha⟩ := get_lt (show k < p.args.length by omega)
      obtain ⟨c, hc⟩ := get_lt (show k < t.args.length by omega)
      have hstep := Tm.mtL_take hlen ha hc hok
      have hb1 := (Tm.mtL_ok (p.args.take k) (t.args.take k) l).len
      have z1 := Tm.sizes_take ha
      have z2 := Tm.sizes_take_le p.args (k + 1)
      repeat' (first | (with_reducible first | refine Wa ?_ | refine Wb ?_ | refine Wc ?_ | refine Wd ?_ | refine We ?_ | refine Wf ?_ | refine Wg ?_ | refine Wh ?_ | refine Wi ?_ | refine Wj ?_ | refine Wk (by decide) ?_ | refine Wl ?_ | refine Wm ?_ | refine Wn ?_) | ((with_reducible first | refine Wo (fun K hK => ?_) | refine Wp ?_ | refine Wq ?_ | refine Wr ?_); (try simp only [go_sem, List.forall_mem_nil, ↓guard_ite, ↓pick_ite, seval, encT_eq, inR_i64, e2, e3', e4', e10, s3, s4, si, hlt, ha, hc, decide_eq_true_eq, decide_eq_false_iff_not, Int.ofNat_lt]); (repeat with_reducible refine And.intro (by first | omega | (with_reducible first | exact lens_encT | exact lens_encL | exact lens_encB | exact lens_encP) | (simp; done) | (simp only [List.length_take, List.length_map, List.length_append, maxLen_eq]; omega)) ?_); (try (with_reducible refine hK _ ?_; clear hK K)); (try with_reducible refine ite_conj ?_)))
      have hcall := ih a (mem_of_get ha) c (up1 i) (Tm.mtL (p.args.take k) (t.args.take k) l).1 (upS S1) (up1_le i) (by omega) (by rw [upS_up, si]; rfl)
      rw [← hstep] at hcall
      cases hb : (Tm.mtL (p.args.take (k + 1)) (t.args.take (k + 1)) l).2 with
      | true =>
        rw [mtV_yes (by rw [← hstep]; exact hb), ← hstep, hb] at hcall
        refine ⟨_, _, hcall, ?_⟩
        repeat' (first | (with_reducible first | refine Wa ?_ | refine Wb ?_ | refine Wc ?_ | refine Wd ?_ | refine We ?_ | refine Wf ?_ | refine Wg ?_ | refine Wh ?_ | refine Wi ?_ | refine Wj ?_ | refine Wk (by decide) ?_ | refine Wl ?_ | refine Wm ?_ | refine Wn ?_) | ((with_reducible first | refine Wo (fun K hK => ?_) | refine Wp ?_ | refine Wq ?_ | refine Wr ?_); (try simp only [go_sem, List.forall_mem_nil, ↓guard_ite, ↓pick_ite, seval, encT_eq, inR_i64, e2, e3', e4', e10, s3, s4, d3, d4, decide_eq_true_eq, decide_eq_false_iff_not, Int.ofNat_lt]); (repeat with_reducible refine And.intro (by first | omega | (with_reducible first | exact lens_encT | exact lens_encL | exact lens_encB | exact lens_encP) | (simp; done) | (simp only [List.length_take, List.length_map, List.length_append, maxLen_eq]; omega)) ?_); (try (with_reducible refine hK _ ?_; clear hK K)); (try with_reducible refine ite_conj ?_)))
        refine then_normal ⟨p.args.length - (k + 1), by omega, k + 1, by omega, rfl, hb, ?_⟩
        simp only [go_sem, List.forall_mem_nil, ↓guard_ite, ↓pick_ite, seval, encT_eq, inR_i64, e2, e3', e4', e10, s3, s4, d3, d4]
        refine ⟨by congr 3, fun j hj hne => ?_⟩
        simp only [go_sem, List.forall_mem_nil, ↓guard_ite, ↓pick_ite, seval, encT_eq, inR_i64, hne]
        exact hrest j hj hne
      | false =>
        have hno := Tm.mtL_no hlen hb
        rw [hb] at hcall
        refine ⟨_, _, hcall, ?_⟩
        repeat' (first | (with_reducible first | refine Wa ?_ | refine Wb ?_ | refine Wc ?_ | refine Wd ?_ | refine We ?_ | refine Wf ?_ | refine Wg ?_ | refine Wh ?_ | refine Wi ?_ | refine Wj ?_ | refine Wk (by decide) ?_ | refine Wl ?_ | refine Wm ?_ | refine Wn ?_) | ((with_reducible first | refine Wo (fun K hK => ?_) | refine Wp ?_ | refine Wq ?_ | refine Wr ?_); (try simp only [go_sem, List.forall_mem_nil, ↓guard_ite, ↓pick_ite, seval, encT_eq, inR_i64, hb, e2, e3', e4', e10, s3, s4, decide_eq_true_eq, decide_eq_false_iff_not, Int.ofNat_lt]); (repeat with_reducible refine And.intro (by first | omega | (with_reducible first | exact lens_encT | exact lens_encL | exact lens_encB | exact lens_encP) | (simp; done) | (simp only [List.length_take, List.length_map, List.length_append, maxLen_eq]; omega)) ?_); (try (with_reducible refine hK _ ?_; clear hK K)); (try with_reducible refine ite_conj ?_)))
        refine hQ _ _ ?_ ?_ ?_ fun j hj hne => ?_
        · rw [mtV_no hv (by rw [hknot, hno])]
          simp only [go_sem, List.forall_mem_nil, ↓guard_ite, ↓pick_ite, seval, encT_eq, inR_i64]
        · rw [hknot, hno]
          simp only [go_sem, List.forall_mem_nil, ↓guard_ite, ↓pick_ite, seval, encT_eq, inR_i64]
        · rw [hknot, hno]
          simp only [go_sem, List.forall_mem_nil, ↓guard_ite, ↓pick_ite, seval, encT_eq, inR_i64]
        · simp only [go_sem, List.forall_mem_nil, ↓guard_ite, ↓pick_ite, seval, encT_eq, inR_i64, hne]
          exact hrest j hj hne
    · rw [List.take_of_length_le (by omega), List.take_of_length_le (by omega)] at hok si e2
      rw [← hlen'] at *
      repeat' (first | (with_reducible first | refine Wa ?_ | refine Wb ?_ | refine Wc ?_ | refine Wd ?_ | refine We ?_ | refine Wf ?_ | refine Wg ?_ | refine Wh ?_ | refine Wi ?_ | refine Wj ?_ | refine Wk (by decide) ?_ | refine Wl ?_ | refine Wm ?_ | refine Wn ?_) | ((with_reducible first | refine Wo (fun K hK => ?_) | refine Wp ?_ | refine Wq ?_ | refine Wr ?_); (try simp only [go_sem, List.forall_mem_nil, ↓guard_ite, ↓pick_ite, seval, encT_eq, inR_i64, e2, e3', e10, s3, hlt, decide_eq_true_eq, decide_eq_false_iff_not, Int.ofNat_lt]); (repeat with_reducible refine And.intro (by first | omega | (with_reducible first | exact lens_encT | exact lens_encL | exact lens_encB | exact lens_encP) | (simp; done) | (simp only [List.length_take, List.length_map, List.length_append, maxLen_eq]; omega)) ?_); (try (with_reducible refine hK _ ?_; clear hK K)); (try with_reducible refine ite_conj ?_)))
      refine hQ _ _ ?_ ?_ ?_ hrest
      · rw [mtV_yes (by rw [hknot]; exact hok), hknot]
        simp only [go_sem, List.forall_mem_nil, ↓guard_ite, ↓pick_ite, seval, encT_eq, inR_i64, e2]
      · rw [hknot, hok]
        simp only [go_sem, List.forall_mem_nil, ↓guard_ite, ↓pick_ite, seval, encT_eq, inR_i64]
      · rw [hknot]
        exact si
theorem lowS_one {S S1 : AStore} {a0 : Nat} {b : ABlk} (hS : Clean S) (ha : 1000 ≤ a0) (h1 : S1 a0 = some b) (h2 : ∀ i, 100 ≤ i → i ≠ a0 → S1 i = S i) : lowS S1 = updE S a0 (some b) := lowS_is hS ha h1 fun i hi hne => h2 i (by omega) hne
/-- With a row of the caller's. -/
theorem matched_row (p : Tm) (hz : p.size ≤ 1000000) : ∀ (t : Tm) (i : Nat) (l : List Bd) (S : AStore), 1000 ≤ i → l.length + p.size ≤ 2000000 → S i = some (arowB l) →
      ACallsS Try.prog 61 [aTm p, aTm t, .one (.row i l.length)] S (.tup [mtV i p t l, aBool (p.mt t l).2]) (updE S i (some (arowB (p.mt t l).1))) := by
  induction h : SizeOf.sizeOf p using Nat.strongRecOn generalizing p with
  | _ N ih =>
  subst h
  have hs := Tm.size_eq p
  intro t i l S hi hl hSi
  refine acS_R_matched (Nat.le_of_ble_eq_true rfl) fun hS C hC => ?_
  refine matched_core p hz (fun a ha => ih _ (Tm.lt_of_arg ha) a (by have := Tm.size_mem ha; omega) rfl) C hC t i (by omega) l hl S (fun j hj => clean_none hS (by omega)) hSi _ rfl rfl rfl _ ?_
  intro env' S' h6 h7 si hrest
  refine finS_high trivial (by simp only [resAll, resOne, tupV, h6, h7, Option.map_some]) ?_ (highs_is hS rfl si fun k hk hne => hrest k (by omega) hne) (lowS_one hS hi si hrest) (clean_upd hS hi rfl)
  unfold mtV
  split
  · exact Bool.and_eq_true_iff.2 ⟨high_row (n := (p.mt t l).1.length) hi, rfl⟩
  · rfl
/-- With nothing in hand; the row is given to the caller under the name a0. -/
theorem matched_nil (p t : Tm) (hz : p.size ≤ 1000000) (a0 : Nat) (S : AStore) (ha : 1000 ≤ a0) (hSa : S a0 = none) :
      ACallsS Try.prog 61 [aTm p, aTm t, .one (.full [])] S (.tup [mtV a0 p t [], aBool (p.mt t []).2]) (updE S a0 (some (arowB (p.mt t []).1))) := by
  refine acS_R_matched (Nat.le_of_ble_eq_true rfl) fun hS C hC => ?_
  refine IWP.ghost (Ghost.own 2 900 89 3 (xs := ([] : List Bd).map encB) rfl (clean_none hS (by omega)) lens_encB (by omega)) ?_
  refine matched_core p hz (fun a ha => matched_row a (by have := Tm.size_mem ha; have := Tm.size_eq p; omega)) C hC t 900 (by omega) [] (by simp; omega) _ (fun j hj => by
    show updE S 900 _ j = none
    rw [updE_ne _ (by omega)]
    exact clean_none hS (by omega)) (updE_same _ _ _) _ rfl rfl rfl _ ?_
  intro env' S' h6 h7 si hrest
  have hrest' : ∀ j, 1000 ≤ j → S' j = S j := fun j hj => by
    rw [hrest j (by omega) (by omega)]
    exact updE_ne _ (by omega) _
  have e : (AV.tup [mtV a0 p t [], aBool (p.mt t []).2]) = (AV.tup [mtV 900 p t [], aBool (p.mt t []).2]).ren (oneTo 900 a0) := by
    unfold mtV
    split
    · simp only [AV.ren, AV.rens, AC.ren, oneTo_same]
    · simp only [AV.ren, AV.rens, AC.ren]
  rw [e]
  refine finS_hand trivial 900 a0 _ (by omega) ha (by show S' a0 = none; rw [hrest' a0 ha, hSa]) si rfl (fun j b hj hb => (hS j b (by rw [← hrest' j hj]; exact hb)).2) (by simp only [resAll, resOne, tupV, h6, h7, Option.map_some]) ?_ ?_ (clean_upd hS ha rfl)
  · rw [← e]
    unfold mtV
    split
    · exact Bool.and_eq_true_iff.2 ⟨high_row (n := (p.mt t []).1.length) ha, rfl⟩
    · rfl
  · congr 1
    funext j
    show (if j < 1000 then none else S' j) = S j
    by_cases hj : j < 1000
    · rw [if_pos hj, clean_none hS hj]
    · rw [if_neg hj, hrest' j (by omega)]

theorem matchOf_a (p t : Tm) (hp : p.size ≤ 100000) (ht : t.size ≤ 1000000) : ACalls Try.prog 47 [aTm p, aTm t] (.tup [aBds (caseOf p t), aBool (isCase p t)]) := by
  have hnm := mt_named p t
  have hml := mt_len p t
  refine ac_R_MatchOf (Nat.le_of_ble_eq_true rfl) fun C hC => ?_
  unfold ir_R_MatchOf
  repeat' (first | (with_reducible first | refine Wa ?_ | refine Wb ?_ | refine Wc ?_ | refine Wd ?_ | refine We ?_ | refine Wf ?_ | refine Wg ?_ | refine Wh ?_ | refine Wi ?_ | refine Wj ?_ | refine Wk (by decide) ?_ | refine Wl ?_ | refine Wm ?_ | refine Wn ?_) | ((with_reducible first | refine Wo (fun K hK => ?_) | refine Wp ?_ | refine Wq ?_ | refine Wr ?_); (try simp only [go_sem, List.forall_mem_nil, ↓guard_ite, ↓pick_ite, seval, encT_eq, inR_i64, decide_eq_true_eq, decide_eq_false_iff_not, Int.ofNat_lt]); (repeat with_reducible refine And.intro (by first | omega | (with_reducible first | exact lens_encT | exact lens_encL | exact lens_encB | exact lens_encP) | (simp; done) | (simp only [List.length_take, List.length_map, List.length_append, maxLen_eq]; omega)) ?_); (try (with_reducible refine hK _ ?_; clear hK K)); (try with_reducible refine ite_conj ?_)))
  refine ⟨_, _, matched_nil p t (by omega) (up1 900) _ (up1_le 900) (by rw [upS_up]; rfl), ?_⟩
  cases hc : (p.mt t []).2 with
  | false =>
    repeat' (first | (with_reducible first | refine Wa ?_ | refine Wb ?_ | refine Wc ?_ | refine Wd ?_ | refine We ?_ | refine Wf ?_ | refine Wg ?_ | refine Wh ?_ | refine Wi ?_ | refine Wj ?_ | refine Wk (by decide) ?_ | refine Wl ?_ | refine Wm ?_ | refine Wn ?_) | ((with_reducible first | refine Wo (fun K hK => ?_) | refine Wp ?_ | refine Wq ?_ | refine Wr ?_); (try simp only [go_sem, List.forall_mem_nil, ↓guard_ite, ↓pick_ite, seval, encT_eq, inR_i64, hc, decide_eq_true_eq, decide_eq_false_iff_not, Int.ofNat_lt]); (repeat with_reducible refine And.intro (by first | omega | (with_reducible first | exact lens_encT | exact lens_encL | exact lens_encB | exact lens_encP) | (simp; done) | (simp only [List.length_take, List.length_map, List.length_append, maxLen_eq]; omega)) ?_); (try (with_reducible refine hK _ ?_; clear hK K)); (try with_reducible refine ite_conj ?_)))
    simp only [go_sem, List.forall_mem_nil, ↓guard_ite, ↓pick_ite, seval, FinQ, AS.result, resAll, resOne, tupV]
    unfold caseOf isCase
    rw [hc]
    rfl
  | true =>
    have hca : caseOf p t = sortB (p.mt t []).1 := by unfold caseOf; rw [if_pos hc]
    have his : isCase p t = true := hc
    rw [mtV_yes hc]
    repeat' (first | (with_reducible first | refine Wa ?_ | refine Wb ?_ | refine Wc ?_ | refine Wd ?_ | refine We ?_ | refine Wf ?_ | refine Wg ?_ | refine Wh ?_ | refine Wi ?_ | refine Wj ?_ | refine Wk (by decide) ?_ | refine Wl ?_ | refine Wm ?_ | refine Wn ?_) | refine CallG.mk _ (sortedR_a _ hnm (by omega)) ?_ | ((with_reducible first | refine Wo (fun K hK => ?_) | refine Wp ?_ | refine Wq ?_ | refine Wr ?_); (try simp only [go_sem, List.forall_mem_nil, ↓guard_ite, ↓pick_ite, seval, encT_eq, inR_i64, hc, decide_eq_true_eq, decide_eq_false_iff_not, Int.ofNat_lt]); (repeat with_reducible refine And.intro (by first | omega | (with_reducible first | exact lens_encT | exact lens_encL | exact lens_encB | exact lens_encP) | (simp; done) | (simp only [List.length_take, List.length_map, List.length_append, maxLen_eq]; omega)) ?_); (try (with_reducible refine hK _ ?_; clear hK K)); (try with_reducible refine ite_conj ?_)))
    simp only [go_sem, List.forall_mem_nil, ↓guard_ite, ↓pick_ite, seval, FinQ, AS.result, resAll, resOne, tupV, hca, his]
end Go.Proofs.Ytkekmeiiikkabaa
