/-
  Part 15 of the texts: BOnM; IrSortM; BSort; IrSorted; BSorted. Conditions: none.
-/
import Derived.Test.YtehnjhkndbcmgaaGreatDoorInM14
namespace Go.Proofs.YtehnjhkndbcmgaaGreatDoor
open Go Go.RowKit
set_option linter.unusedVariables false
set_option linter.unusedSimpArgs false
set_option maxHeartbeats 800000
theorem search_M (l : List Bd) (n : ByteArray) (i0 : Nat) (hi0 : i0 ≤ l.length) (h40 : l.length ≤ 100000) (hlo : ∀ k b, l[k]? = some b → k < i0 → sLt b.1 n = true) (hhi : ∀ k b, l[k]? = some b → i0 ≤ k → sLt b.1 n = false) (r : Nat) (hr : 1000 ≤ r) (S : AStore) (sr : S r = some (rowBd l)) :
    ACallsS Tryz.prog 124 [.one (.row r l.length), aStr n, .one (.fn 125 [])] S (.tup [aInt i0, aBool (foundAt l n i0)]) S := by
  have hplain : plainF Tryz.prog 125 = true := by kernel_rfl
  refine acS_slices_BinarySearchFunc_metaprune_api_Bind_metaprune_api_Bind_stringM (Nat.le_of_ble_eq_true rfl) fun hS C hC => ?_
  unfold ir_slices_BinarySearchFunc_metaprune_api_Bind_metaprune_api_Bind_stringM
  repeat' (first | (with_reducible first | refine W ?_ | refine Wk (by decide) ?_) | ((with_reducible first | refine Wo (fun K hK => ?_) | refine Wq ?_ | refine Wr ?_); (try simp only [go_sem, fN, ↓gI, ↓pI, seval, eT, iR, sr]); (repeat with_reducible refine And.intro (by first | omega | exact lens | (simp [maxLen_eq] <;> omega)) ?_); (try (refine hK _ ?_; clear hK K))))
  refine IWP.loop (fun m s => ∃ i j : Nat, i ≤ i0 ∧ i0 ≤ j ∧ j ≤ l.length ∧ m = j - i ∧ s.env 0 = .one (.row r l.length) ∧ s.env 1 = aStr n ∧ s.env 2 = .one (.fn 125 []) ∧ s.env 8 = aInt l.length ∧ s.env 9 = aInt i ∧ s.env 10 = aInt j ∧ s.S = S) l.length ⟨0, l.length, Nat.zero_le _, hi0, Nat.le_refl _, rfl, rfl, rfl, rfl, rfl, rfl, rfl, rfl⟩ ?_
  rintro m ⟨env, S1⟩ ⟨i, j, hi, hj, hjl, rfl, e0, e1, e2, e8, e9, e10, hS1⟩
  simp only at e0 e1 e2 e8 e9 e10 hS1
  subst hS1
  by_cases hlt : (i : Int) < j
  · obtain ⟨z1, z2, z3⟩ := half (show i < j by omega)
    obtain ⟨b, hb⟩ := get_lt (show (i + j) / 2 < l.length by omega)
    repeat' (first | (with_reducible first | refine W ?_ | refine Wk (by decide) ?_) | ((with_reducible first | refine Wo (fun K hK => ?_) | refine Wq ?_ | refine Wr ?_); (try simp only [go_sem, fN, ↓gI, ↓pI, seval, eT, iR, e0, e1, e2, e8, e9, e10, hlt, sr]); (repeat with_reducible refine And.intro (by first | omega | exact lens | (simp [maxLen_eq] <;> omega)) ?_); (try (refine hK _ ?_; clear hK K))))
    with_reducible refine Wp ?_
    simp only [go_sem, fN, ↓gI, ↓pI, seval, true_implies, false_implies, implies_true, dT, dF, nL, hlt]
    (try with_reducible refine iC ?_)
    have hbits : (1 : Nat) ≤ IntKind.u64.bits := by show 1 ≤ 64; omega
    have hz0 : (0 : Int) ≤ (((i + j) / 2 : Nat) : Int) := Int.natCast_nonneg _
    repeat' (first | (with_reducible first | refine W ?_ | refine Wk (by decide) ?_) | ((with_reducible first | refine Wo (fun K hK => ?_) | refine Wq ?_ | refine Wr ?_); (try simp only [go_sem, fN, ↓gI, ↓pI, seval, eT, iR, e0, e1, e2, e8, e9, e10, hlt, z1, z3, inR_u64, hbits, hb, encB, hplain, sr]); (repeat with_reducible refine And.intro (by first | omega | exact lens | (simp [maxLen_eq] <;> omega)) ?_); (try (refine hK _ ?_; clear hK K))))
    refine ⟨_, _, find1_S b n _, ?_⟩
    cases hc : sLt b.1 n with
    | true =>
      have hneg : cmpI b.1 n < 0 := cmpI_neg.2 hc
      repeat' (first | (with_reducible first | refine W ?_ | refine Wk (by decide) ?_) | ((with_reducible first | refine Wo (fun K hK => ?_) | refine Wq ?_ | refine Wr ?_); (try simp only [go_sem, fN, ↓gI, ↓pI, seval, eT, iR, hneg]); (repeat with_reducible refine And.intro (by first | omega | exact lens | (simp [maxLen_eq] <;> omega)) ?_); (try (refine hK _ ?_; clear hK K))))
      with_reducible refine Wp ?_
      simp only [go_sem, fN, ↓gI, ↓pI, seval, true_implies, false_implies, implies_true, dT, dF, nL, hneg]
      (try with_reducible refine iC ?_)
      repeat' (first | (with_reducible first | refine W ?_ | refine Wk (by decide) ?_) | ((with_reducible first | refine Wo (fun K hK => ?_) | refine Wq ?_ | refine Wr ?_); (try simp only [go_sem, fN, ↓gI, ↓pI, seval, eT, iR, e0, e1, e2, e8, e9, e10]); (repeat with_reducible refine And.intro (by first | omega | exact lens | (simp [maxLen_eq] <;> omega)) ?_); (try (refine hK _ ?_; clear hK K))))
      refine then_normal ⟨j - ((i + j) / 2 + 1), by omega, (i + j) / 2 + 1, j, ?_, hj, hjl, rfl, ?_⟩
      · rcases Nat.lt_or_ge ((i + j) / 2) i0 with h | h
        · omega
        · rw [hhi _ b hb h] at hc; cases hc
      · simp only [go_sem, fN, ↓gI, ↓pI, seval, eT, iR, e0, e1, e2, e8, e9, e10]
        congr 3
    | false =>
      have hneg : ¬ cmpI b.1 n < 0 := fun h => by rw [cmpI_neg.1 h] at hc; cases hc
      repeat' (first | (with_reducible first | refine W ?_ | refine Wk (by decide) ?_) | ((with_reducible first | refine Wo (fun K hK => ?_) | refine Wq ?_ | refine Wr ?_); (try simp only [go_sem, fN, ↓gI, ↓pI, seval, eT, iR, hneg]); (repeat with_reducible refine And.intro (by first | omega | exact lens | (simp [maxLen_eq] <;> omega)) ?_); (try (refine hK _ ?_; clear hK K))))
      with_reducible refine Wp ?_
      simp only [go_sem, fN, ↓gI, ↓pI, seval, true_implies, false_implies, implies_true, dT, dF, nL, hneg]
      (try with_reducible refine iC ?_)
      repeat' (first | (with_reducible first | refine W ?_ | refine Wk (by decide) ?_) | ((with_reducible first | refine Wo (fun K hK => ?_) | refine Wq ?_ | refine Wr ?_); (try simp only [go_sem, fN, ↓gI, ↓pI, seval, eT, iR, e0, e1, e2, e8, e9, e10]); (repeat with_reducible refine And.intro (by first | omega | exact lens | (simp [maxLen_eq] <;> omega)) ?_); (try (refine hK _ ?_; clear hK K))))
      refine then_normal ⟨(i + j) / 2 - i, by omega, i, (i + j) / 2, hi, ?_, by omega, rfl, ?_⟩
      · rcases Nat.lt_or_ge ((i + j) / 2) i0 with h | h
        · rw [hlo _ b hb h] at hc; cases hc
        · omega
      · simp only [go_sem, fN, ↓gI, ↓pI, seval, eT, iR, e0, e1, e2, e8, e9, e10]
  · have hii : i = i0 := by omega
    subst hii
    have hjj : j = i := by omega
    subst hjj
    repeat' (first | (with_reducible first | refine W ?_ | refine Wk (by decide) ?_) | ((with_reducible first | refine Wo (fun K hK => ?_) | refine Wq ?_ | refine Wr ?_); (try simp only [go_sem, fN, ↓gI, ↓pI, seval, eT, iR, e0, e1, e2, e8, e9, e10, hlt, sr]); (repeat with_reducible refine And.intro (by first | omega | exact lens | (simp [maxLen_eq] <;> omega)) ?_); (try (refine hK _ ?_; clear hK K))))
    with_reducible refine Wp ?_
    simp only [go_sem, fN, ↓gI, ↓pI, seval, true_implies, false_implies, implies_true, dT, dF, nL, hlt]
    (try with_reducible refine iC ?_)
    by_cases hil : (j : Int) < l.length
    · have hil' : j < l.length := by omega
      obtain ⟨b, hb⟩ := get_lt hil'
      repeat' (first | (with_reducible first | refine W ?_ | refine Wk (by decide) ?_) | ((with_reducible first | refine Wo (fun K hK => ?_) | refine Wq ?_ | refine Wr ?_); (try simp only [go_sem, fN, ↓gI, ↓pI, seval, eT, iR, e0, e1, e2, e8, e9, e10, hil, hil', hb, encB, hplain, sr]); (repeat with_reducible refine And.intro (by first | omega | exact lens | (simp [maxLen_eq] <;> omega)) ?_); (try (refine hK _ ?_; clear hK K))))
      refine ⟨_, _, find1_S b n _, ?_⟩
      repeat' (first | (with_reducible first | refine W ?_ | refine Wk (by decide) ?_) | ((with_reducible first | refine Wo (fun K hK => ?_) | refine Wq ?_ | refine Wr ?_); (try simp only [go_sem, fN, ↓gI, ↓pI, seval, eT, iR]); (repeat with_reducible refine And.intro (by first | omega | exact lens | (simp [maxLen_eq] <;> omega)) ?_); (try (refine hK _ ?_; clear hK K))))
      refine finS_same (.tup [aInt j, aBool (foundAt l n j)]) hS trivial ?_ ?_ fun _ _ => rfl
      · simp only [go_sem, fN, ↓gI, ↓pI, seval, eT, iR, resAll, resOne, tupV, e9, e10]
        unfold foundAt
        rw [hb]
        simp only [cmpI_zero]
      · rfl
    · repeat' (first | (with_reducible first | refine W ?_ | refine Wk (by decide) ?_) | ((with_reducible first | refine Wo (fun K hK => ?_) | refine Wq ?_ | refine Wr ?_); (try simp only [go_sem, fN, ↓gI, ↓pI, seval, eT, iR, e0, e1, e2, e8, e9, e10, hil]); (repeat with_reducible refine And.intro (by first | omega | exact lens | (simp [maxLen_eq] <;> omega)) ?_); (try (refine hK _ ?_; clear hK K))))
      refine finS_same (.tup [aInt j, aBool (foundAt l n j)]) hS trivial ?_ ?_ fun _ _ => rfl
      · simp only [go_sem, fN, ↓gI, ↓pI, seval, eT, iR, resAll, resOne, tupV, e9, e10]
        unfold foundAt
        rw [List.getElem?_eq_none (by omega)]
      · rfl
theorem find_M (l : List Bd) (h40 : l.length ≤ 100000) (ho : Ordered l) (n : ByteArray) (r : Nat) (hr : 1000 ≤ r) (S : AStore) (sr : S r = some (rowBd l)) : ACallsS Tryz.prog 112 [.one (.row r l.length), aStr n] S (.tup [aTm ((lookup l n).getD Tm.nil), aBool (lookup l n).isSome]) S := by
  obtain ⟨i, hi, hlo, hhi, _⟩ := search_a l h40 ho n
  refine acS_subst_FindM (Nat.le_of_ble_eq_true rfl) fun hS C hC => ?_
  unfold ir_subst_FindM
  have n4 : S 4 = none := clean_none hS (by omega)
  have r4 : ¬ r = 4 := by omega
  repeat' (first | (with_reducible first | refine W ?_ | refine Wk (by decide) ?_) | ((with_reducible first | refine Wo (fun K hK => ?_) | refine Wq ?_ | refine Wr ?_); (try simp only [go_sem, fN, ↓gI, ↓pI, seval, eT, iR, n4]); (repeat with_reducible refine And.intro (by first | omega | exact lens | (simp [maxLen_eq] <;> omega)) ?_); (try (refine hK _ ?_; clear hK K))))
  refine ⟨_, [(r, rowBd l)], rows_one (by (simp only [go_sem, fN, ↓gI, ↓pI, seval, eT, iR, r4, sr])), fun T hT => search_M l n i hi h40 hlo hhi (up1 r) (up1_le r) (upS T) (by rw [upS_up, hT _ (List.mem_singleton.2 rfl)]; rfl), ?_⟩
  rcases found_lookup hlo hhi ho with ⟨b, hb, he, hl⟩ | ⟨hf, hl⟩
  · have hf : foundAt l n i = true := by unfold foundAt; rw [hb]; exact decide_eq_true he
    have hil := lt_of_get hb
    repeat' (first | (with_reducible first | refine W ?_ | refine Wk (by decide) ?_) | ((with_reducible first | refine Wo (fun K hK => ?_) | refine Wq ?_ | refine Wr ?_); (try simp only [go_sem, fN, ↓gI, ↓pI, seval, eT, iR, hf]); (repeat with_reducible refine And.intro (by first | omega | exact lens | (simp [maxLen_eq] <;> omega)) ?_); (try (refine hK _ ?_; clear hK K))))
    with_reducible refine Wp ?_
    simp only [go_sem, fN, ↓gI, ↓pI, seval, true_implies, false_implies, implies_true, dT, dF, nL, hf]
    (try with_reducible refine iC ?_)
    repeat' (first | (with_reducible first | refine W ?_ | refine Wk (by decide) ?_) | ((with_reducible first | refine Wo (fun K hK => ?_) | refine Wq ?_ | refine Wr ?_); (try simp only [go_sem, fN, ↓gI, ↓pI, seval, eT, iR, hb, encB, sr, r4, hil]); (repeat with_reducible refine And.intro (by first | omega | exact lens | (simp [maxLen_eq] <;> omega)) ?_); (try (refine hK _ ?_; clear hK K))))
    refine finS_same (.tup [aTm b.2, aBool true]) hS trivial ?_ ?_ fun k hk => ?_
    · simp only [go_sem, fN, ↓gI, ↓pI, seval, eT, iR, resAll, resOne, tupV]
    · simp only [go_sem, fN, ↓gI, ↓pI, seval, eT, iR]
      rw [hl]
      rfl
    · have k4 : ¬ k = 4 := by omega
      simp only [go_sem, fN, ↓gI, ↓pI, seval, eT, iR, k4]
  · repeat' (first | (with_reducible first | refine W ?_ | refine Wk (by decide) ?_) | ((with_reducible first | refine Wo (fun K hK => ?_) | refine Wq ?_ | refine Wr ?_); (try simp only [go_sem, fN, ↓gI, ↓pI, seval, eT, iR, hf]); (repeat with_reducible refine And.intro (by first | omega | exact lens | (simp [maxLen_eq] <;> omega)) ?_); (try (refine hK _ ?_; clear hK K))))
    with_reducible refine Wp ?_
    simp only [go_sem, fN, ↓gI, ↓pI, seval, true_implies, false_implies, implies_true, dT, dF, nL, hf]
    (try with_reducible refine iC ?_)
    repeat' (first | (with_reducible first | refine W ?_ | refine Wk (by decide) ?_) | ((with_reducible first | refine Wo (fun K hK => ?_) | refine Wq ?_ | refine Wr ?_); (try simp only [go_sem, fN, ↓gI, ↓pI, seval, eT, iR]); (repeat with_reducible refine And.intro (by first | omega | exact lens | (simp [maxLen_eq] <;> omega)) ?_); (try (refine hK _ ?_; clear hK K))))
    refine finS_same (.tup [.agg [.st (.str ⟨#[]⟩), .full []], aBool false]) hS trivial ?_ ?_ fun k hk => ?_
    · simp only [go_sem, fN, ↓gI, ↓pI, seval, eT, iR, resAll, resOne, tupV]
    · simp only [go_sem, fN, ↓gI, ↓pI, seval, eT, iR]
      rw [hl]
      rfl
    · have k4 : ¬ k = 4 := by omega
      simp only [go_sem, fN, ↓gI, ↓pI, seval, eT, iR, k4]
abbrev mkBlkR (r n : Nat) (left : Int) : ABlk := .box 128 [.row r n, .st (.int .i64 left)]
theorem copy_coreM (s : List Bd) (h40 : s.length ≤ 100000) (ho : Ordered s) (turn : Bool) (f : Tm → Tm) (t : Tm) (hl : turn = true → lookup s t.name = none)
    (ih : ∀ a ∈ t.args, ∀ (a0 r : Nat) (left : Int) (S : AStore), 1000 ≤ a0 → 1000 ≤ r → ¬ r = a0 → 0 ≤ left → left ≤ 1000000 → S a0 = some (mkBlkR r s.length left) → S r = some (rowBd s) →
      ACallsS Tryz.prog 84 [.one (.ptr a0 1 0 0), aTm a, aBool turn] S (aTm (fitIn (f a) left).1) (updE S a0 (some (mkBlkR r s.length (fitIn (f a) left).2))))
    (a0 r : Nat) (left : Int) (S : AStore) (ha0 : 1000 ≤ a0) (hr0 : 1000 ≤ r) (hra : ¬ r = a0) (h0 : 0 ≤ left) (h1 : left ≤ 1000000) (hSa : S a0 = some (mkBlkR r s.length left)) (hSr : S r = some (rowBd s)) :
    ACallsS Tryz.prog 84 [.one (.ptr a0 1 0 0), aTm t, aBool turn] S (aTm (fitIn (.mk t.name (t.args.map f)) left).1) (updE S a0 (some (mkBlkR r s.length (fitIn (.mk t.name (t.args.map f)) left).2))) := by
  refine acS_metaprune_subst_maker_copyM (Nat.le_of_ble_eq_true rfl) fun hS C hC => ?_
  have hu : (Tm.mk t.name (t.args.map f)).size = 1 + Tm.sizes (t.args.map f) := rfl
  have hlen := Tm.length_le (t.args.map f)
  rw [List.length_map] at hlen
  have hhigh : ∀ left, (mkBlkR r s.length left).high = true := fun left => by
    show ((AC.row r s.length).high && AC.highs [.st (.int .i64 left)]) = true
    rw [high_row hr0]
    rfl
  have n4 : S 4 = none := clean_none hS (by omega)
  have n6 : S 6 = none := clean_none hS (by omega)
  have n7 : S 7 = none := clean_none hS (by omega)
  have n9 : S 9 = none := clean_none hS (by omega)
  have n11 : S 11 = none := clean_none hS (by omega)
  have n900 : S 900 = none := clean_none hS (by omega)
  have d4 : ¬ 4 = a0 := by omega
  have d6 : ¬ 6 = a0 := by omega
  have d7 : ¬ 7 = a0 := by omega
  have d9 : ¬ 9 = a0 := by omega
  have d11 : ¬ 11 = a0 := by omega
  have d900 : ¬ 900 = a0 := by omega
  have e4 : ¬ a0 = 4 := by omega
  have e6 : ¬ a0 = 6 := by omega
  have e7 : ¬ a0 = 7 := by omega
  have e9 : ¬ a0 = 9 := by omega
  have e11 : ¬ a0 = 11 := by omega
  have e900 : ¬ a0 = 900 := by omega
  have f4 : ¬ r = 4 := by omega
  have f6 : ¬ r = 6 := by omega
  have f7 : ¬ r = 7 := by omega
  have f9 : ¬ r = 9 := by omega
  have f11 : ¬ r = 11 := by omega
  have f900 : ¬ r = 900 := by omega
  unfold ir_metaprune_subst_maker_copyM
  cases turn
  case' false =>
    repeat' (first | (with_reducible first | refine W ?_ | refine Wk (by decide) ?_) | ((with_reducible first | refine Wo (fun K hK => ?_) | refine Wq ?_ | refine Wr ?_); (try simp only [go_sem, fN, ↓gI, ↓pI, seval, eT, iR, hSa, n4, n6, n7, d4, d6, d7, e4, e6, e7]); (repeat with_reducible refine And.intro (by first | omega | exact lens | (simp [maxLen_eq] <;> omega)) ?_); (try (refine hK _ ?_; clear hK K))))
    with_reducible refine Wp ?_
    simp only [go_sem, fN, ↓gI, ↓pI, seval, true_implies, false_implies, implies_true, dT, dF, nL]
    (try with_reducible refine iC ?_)
    repeat' (first | (with_reducible first | refine W ?_ | refine Wk (by decide) ?_) | ((with_reducible first | refine Wo (fun K hK => ?_) | refine Wq ?_ | refine Wr ?_); (try simp only [go_sem, fN, ↓gI, ↓pI, seval, eT, iR, hSa, n4, n6, n7, n9, d4, d6, d7, d9, e4, e6, e7, e9]); (repeat with_reducible refine And.intro (by first | omega | exact lens | (simp [maxLen_eq] <;> omega)) ?_); (try (refine hK _ ?_; clear hK K))))
  case' true =>
    have hln := hl rfl
    repeat' (first | (with_reducible first | refine W ?_ | refine Wk (by decide) ?_) | ((with_reducible first | refine Wo (fun K hK => ?_) | refine Wq ?_ | refine Wr ?_); (try simp only [go_sem, fN, ↓gI, ↓pI, seval, eT, iR, hSa, n4, n6, n7, d4, d6, d7, e4, e6, e7]); (repeat with_reducible refine And.intro (by first | omega | exact lens | (simp [maxLen_eq] <;> omega)) ?_); (try (refine hK _ ?_; clear hK K))))
    with_reducible refine Wp ?_
    simp only [go_sem, fN, ↓gI, ↓pI, seval, true_implies, false_implies, implies_true, dT, dF, nL]
    (try with_reducible refine iC ?_)
    repeat' (first | (with_reducible first | refine W ?_ | refine Wk (by decide) ?_) | ((with_reducible first | refine Wo (fun K hK => ?_) | refine Wq ?_ | refine Wr ?_); (try simp only [go_sem, fN, ↓gI, ↓pI, seval, eT, iR, hSa, n4, n6, n7, d4, d6, d7, e4, e6, e7]); (repeat with_reducible refine And.intro (by first | omega | exact lens | (simp [maxLen_eq] <;> omega)) ?_); (try (refine hK _ ?_; clear hK K))))
    refine ⟨_, [(r, rowBd s)], rows_one (by (simp only [go_sem, fN, ↓gI, ↓pI, seval, eT, iR, f4, f6, f7, hSr])), fun T hT => find_M s h40 ho t.name (up1 r) (up1_le r) (upS T) (by rw [upS_up, hT _ (List.mem_singleton.2 rfl)]; rfl), ?_⟩
    repeat' (first | (with_reducible first | refine W ?_ | refine Wk (by decide) ?_) | ((with_reducible first | refine Wo (fun K hK => ?_) | refine Wq ?_ | refine Wr ?_); (try simp only [go_sem, fN, ↓gI, ↓pI, seval, eT, iR, hln, n7]); (repeat with_reducible refine And.intro (by first | omega | exact lens | (simp [maxLen_eq] <;> omega)) ?_); (try (refine hK _ ?_; clear hK K))))
    with_reducible refine Wp ?_
    simp only [go_sem, fN, ↓gI, ↓pI, seval, true_implies, false_implies, implies_true, dT, dF, nL]
    (try with_reducible refine iC ?_)
    repeat' (first | (with_reducible first | refine W ?_ | refine Wk (by decide) ?_) | ((with_reducible first | refine Wo (fun K hK => ?_) | refine Wq ?_ | refine Wr ?_); (try simp only [go_sem, fN, ↓gI, ↓pI, seval, eT, iR, hSa, n4, n6, n7, n9, d4, d6, d7, d9, e4, e6, e7, e9]); (repeat with_reducible refine And.intro (by first | omega | exact lens | (simp [maxLen_eq] <;> omega)) ?_); (try (refine hK _ ?_; clear hK K))))
  all_goals
    by_cases hz : left = 0
    · subst hz
      have hno : ¬ ((Tm.mk t.name (t.args.map f)).size : Int) ≤ 0 := by rw [hu]; omega
      rw [fitIn_no hno]
      with_reducible refine Wp ?_
      simp only [go_sem, fN, ↓gI, ↓pI, seval, true_implies, false_implies, implies_true, dT, dF, nL]
      (try with_reducible refine iC ?_)
      repeat' (first | (with_reducible first | refine W ?_ | refine Wk (by decide) ?_) | ((with_reducible first | refine Wo (fun K hK => ?_) | refine Wq ?_ | refine Wr ?_); (try simp only [go_sem, fN, ↓gI, ↓pI, seval, eT, iR, hSa, n4, n6, n7, n9, d4, d6, d7, d9, e4, e6, e7, e9]); (repeat with_reducible refine And.intro (by first | omega | exact lens | (simp [maxLen_eq] <;> omega)) ?_); (try (refine hK _ ?_; clear hK K))))
      refine finS_one (.agg [.st (.str ⟨#[]⟩), .full []]) hS ha0 (hhigh _) trivial ?_ ?_ ?_ fun i hi hne => ?_
      · simp only [go_sem, fN, ↓gI, ↓pI, seval, eT, iR, resAll, resOne, tupV, e4, e6, e7, e9, d4, d6, d7, d9]
      · simp only [go_sem, fN, ↓gI, ↓pI, seval, eT, iR, Tm.nil]
        rfl
      · simp only [go_sem, fN, ↓gI, ↓pI, seval, eT, iR, e4, e6, e7, e9]
      · have i4 : ¬ i = 4 := by omega
        have i6 : ¬ i = 6 := by omega
        have i7 : ¬ i = 7 := by omega
        simp only [go_sem, fN, ↓gI, ↓pI, seval, eT, iR, i4, i6, i7, hne]
    have hz' : ¬ left - 1 < 0 := by omega
    with_reducible refine Wp ?_
    simp only [go_sem, fN, ↓gI, ↓pI, seval, true_implies, false_implies, implies_true, dT, dF, nL, hz']
    (try with_reducible refine iC ?_)
    repeat' (first | (with_reducible first | refine W ?_ | refine Wk (by decide) ?_) | ((with_reducible first | refine Wo (fun K hK => ?_) | refine Wq ?_ | refine Wr ?_); (try simp only [go_sem, fN, ↓gI, ↓pI, seval, eT, iR, hSa, n4, n6, n7, n9, d4, d6, d7, d9, e4, e6, e7, e9]); (repeat with_reducible refine And.intro (by first | omega | exact lens | (simp [maxLen_eq] <;> omega)) ?_); (try (refine hK _ ?_; clear hK K))))
    refine IWP.ghost (Ghost.ownC 9 1 900 69 2 (xs := ([] : List Tm).map encT) (by simp only [go_sem, fN, ↓gI, ↓pI, seval, eT, iR, d9, d4, d6, d7, e9]; rfl) rfl (by simp only [go_sem, fN, ↓gI, ↓pI, seval, eT, iR, n900, d900]) lens_encT) ?_
    refine IWP.loopD [11] (fun m x => ∃ k, k ≤ t.args.length ∧ m = t.args.length - k ∧ (Tm.sizes ((t.args.take k).map f) : Int) ≤ left - 1 ∧ x.env 0 = .one (.ptr a0 1 0 0) ∧ x.env 2 = aBool _ ∧ x.env 6 = .one (.ptr 6 1 0 0) ∧ x.env 9 = .one (.ptr 9 1 0 0) ∧ x.env 44 = .one (.st (.list (t.args.map encT))) ∧ x.env 45 = aInt t.args.length ∧ x.env 46 = aInt k ∧
        x.S 6 = some (.box 69 [.st (.str ⟨#[]⟩), .full []]) ∧ x.S 9 = some (.box 69 [.st (.str t.name), .row 900 k]) ∧ x.S 900 = some (.arow 69 2 (((t.args.take k).map f).map encT)) ∧ x.S 11 = none ∧ x.S a0 = some (mkBlkR r s.length (left - 1 - Tm.sizes ((t.args.take k).map f))) ∧ ∀ i, 1000 ≤ i → i ≠ a0 → x.S i = S i)
      t.args.length ⟨0, Nat.zero_le _, rfl, by show (0 : Int) ≤ _; omega, rfl, rfl, rfl, rfl, rfl, rfl, rfl, by simp only [go_sem, fN, ↓gI, ↓pI, seval, eT, iR, d6, d4, d7, d9, e6], by (simp only [go_sem, fN, ↓gI, ↓pI, seval, eT, iR, d9]); rfl, by simp only [go_sem, fN, ↓gI, ↓pI, seval, eT, iR, e9], by simp only [go_sem, fN, ↓gI, ↓pI, seval, eT, iR, n11, d11], by (simp only [go_sem, fN, ↓gI, ↓pI, seval, eT, iR, e9, e900]); simp [Tm.sizes], fun i hi hne => ?_⟩ ?_
    · have i4 : ¬ i = 4 := by omega
      have i6 : ¬ i = 6 := by omega
      have i7 : ¬ i = 7 := by omega
      have i9 : ¬ i = 9 := by omega
      have i900 : ¬ i = 900 := by omega
      simp only [go_sem, fN, ↓gI, ↓pI, seval, eT, iR, i4, i6, i7, i9, i900, hne]
    rintro m ⟨env, S1⟩ ⟨k, hk, rfl, hsz, e0, e2, e6', e9', e44, e45, e46, s6, s9, s900, s11, sa, hrest⟩
    simp only at e0 e2 e6' e9' e44 e45 e46 s6 s9 s900 s11 sa hrest
    have hlk : (t.args.take k).length = k := by rw [List.length_take]; omega
    have hle := Tm.sizes_take_le (t.args.map f) k
    rw [← List.map_take] at hle
    have hkl := Tm.length_le ((t.args.take k).map f)
    rw [List.length_map, hlk] at hkl
    have hSr1 : S1 r = some (rowBd s) := (hrest r hr0 hra).trans hSr
    by_cases hlt : (k : Int) < t.args.length
    · obtain ⟨a, ha⟩ := get_lt (show k < t.args.length by omega)
      have ha' : (t.args.map f)[k]? = some (f a) := by rw [List.getElem?_map, ha]; rfl
      have z1 := Tm.sizes_take ha'
      have z2 := Tm.sizes_take_le (t.args.map f) (k + 1)
      rw [← List.map_take, ← List.map_take] at z1
      rw [← List.map_take] at z2
      repeat' (first | (with_reducible first | refine W ?_ | refine Wk (by decide) ?_) | ((with_reducible first | refine Wo (fun K hK => ?_) | refine Wq ?_ | refine Wr ?_); (try simp only [go_sem, fN, ↓gI, ↓pI, seval, eT, iR, e0, e2, e6', e9', e44, e45, e46, s6, s9, s900, s11, sa, hlt]); (repeat with_reducible refine And.intro (by first | omega | exact lens | (simp [maxLen_eq] <;> omega)) ?_); (try (refine hK _ ?_; clear hK K))))
      with_reducible refine Wp ?_
      simp only [go_sem, fN, ↓gI, ↓pI, seval, true_implies, false_implies, implies_true, dT, dF, nL, hlt]
      (try with_reducible refine iC ?_)
      repeat' (first | (with_reducible first | refine W ?_ | refine Wk (by decide) ?_) | ((with_reducible first | refine Wo (fun K hK => ?_) | refine Wq ?_ | refine Wr ?_); (try simp only [go_sem, fN, ↓gI, ↓pI, seval, eT, iR, e0, e2, e6', e9', e44, e45, e46, s6, s9, s900, s11, sa, d11, d9, e11, ha]); (repeat with_reducible refine And.intro (by first | omega | exact lens | (simp [maxLen_eq] <;> omega)) ?_); (try (refine hK _ ?_; clear hK K))))
      have hcall := ih a (mem_of_get ha) (up1 a0) (up1 r) (left - 1 - Tm.sizes ((t.args.take k).map f)) (upS (updE (updE S1 11 (some (.box 69 [.st (.str ⟨#[]⟩), .full []]))) 11 (some (.box 69 [.st (.str a.name), .st (.list (a.args.map encT))])))) (up1_le a0) (up1_le r) (by unfold up1; omega) (by omega) (by omega) (by rw [upS_up, updE_ne _ e11, updE_ne _ e11, sa]; rfl) (by rw [upS_up, updE_ne _ f11, updE_ne _ f11, hSr1]; rfl)
      by_cases hfit : ((f a).size : Int) ≤ left - 1 - Tm.sizes ((t.args.take k).map f)
      · rw [fitIn_yes hfit] at hcall
        refine ⟨_, _, hcall, ?_⟩
        have hge : ¬ left - 1 - Tm.sizes ((t.args.take k).map f) - (f a).size < 0 := by omega
        repeat' (first | (with_reducible first | refine W ?_ | refine Wk (by decide) ?_) | ((with_reducible first | refine Wo (fun K hK => ?_) | refine Wq ?_ | refine Wr ?_); (try simp only [go_sem, fN, ↓gI, ↓pI, seval, eT, iR, e0, e2, e6', e9', e44, e45, e46, s6, s9, s900, s11, d11, d9, e11, e9, e900, d900, hlk]); (repeat with_reducible refine And.intro (by first | omega | exact lens | (simp [maxLen_eq] <;> omega)) ?_); (try (refine hK _ ?_; clear hK K))))
        with_reducible refine Wp ?_
        simp only [go_sem, fN, ↓gI, ↓pI, seval, true_implies, false_implies, implies_true, dT, dF, nL, hge]
        (try with_reducible refine iC ?_)
        repeat' (first | (with_reducible first | refine W ?_ | refine Wk (by decide) ?_) | ((with_reducible first | refine Wo (fun K hK => ?_) | refine Wq ?_ | refine Wr ?_); (try simp only [go_sem, fN, ↓gI, ↓pI, seval, eT, iR, e0, e2, e6', e9', e44, e45, e46, s6, s9, s900, s11, d11, d9, e11]); (repeat with_reducible refine And.intro (by first | omega | exact lens | (simp [maxLen_eq] <;> omega)) ?_); (try (refine hK _ ?_; clear hK K))))
        refine then_normal ⟨t.args.length - (k + 1), by omega, k + 1, by omega, rfl, ?_⟩
        have hib : (a0 == 11) = false := by simp; omega
        have hrb : (r == 11) = false := by simp; omega
        have hzz : ((Tm.sizes ((t.args.take (k + 1)).map f) : Nat) : Int) = Tm.sizes ((t.args.take k).map f) + (f a).size := by omega
        refine ⟨by omega, ?_⟩
        simp only [go_sem, fN, ↓gI, ↓pI, seval, AS.drop, dropS, AC.clears, AC.clear, AC.highs, AC.high, Bool.not_false, Bool.true_and, Bool.and_self, AV.purge, AV.purges, AC.purge, ABlk.purge, List.contains_cons, List.contains_nil, Nat.reduceBEq, Bool.or_self, Bool.or_false, Bool.false_or, Bool.or_true, eT, iR, e0, e2, e6', e9', e44, e45, s6, s9, s900, d11, d9, e11, e9, e900, d900, d6, hib, hrb]
        refine ⟨by congr 3, by rw [take_snoc ha, List.map_append, List.map_append, List.map_cons, List.map_nil, List.map_cons, List.map_nil, encT_eq], ?_, fun i hi hne => ?_⟩
        · congr 5
          omega
        · have i9 : ¬ i = 9 := by omega
          have i11 : ¬ i = 11 := by omega
          have i900 : ¬ i = 900 := by omega
          have i11b : (i == 11) = false := by simp; omega
          simp only [go_sem, fN, ↓gI, ↓pI, seval, AS.drop, dropS, AC.clears, AC.clear, AC.highs, AC.high, Bool.not_false, Bool.true_and, Bool.and_self, AV.purge, AV.purges, AC.purge, ABlk.purge, List.contains_cons, List.contains_nil, Nat.reduceBEq, Bool.or_self, Bool.or_false, Bool.false_or, Bool.or_true, eT, iR, i9, i11, i11b, i900, hne]
          rw [hrest i hi hne]
          exact purgeS (by decide) fun b hb => (hS i b hb).2
      · have hno : ¬ ((Tm.mk t.name (t.args.map f)).size : Int) ≤ left := by rw [hu]; omega
        rw [fitIn_no hfit] at hcall
        refine ⟨_, _, hcall, ?_⟩
        repeat' (first | (with_reducible first | refine W ?_ | refine Wk (by decide) ?_) | ((with_reducible first | refine Wo (fun K hK => ?_) | refine Wq ?_ | refine Wr ?_); (try simp only [go_sem, fN, ↓gI, ↓pI, seval, eT, iR, e0, e2, e6', e9', e44, e45, e46, s6, s9, s900, s11, d11, d9, e11, e9, e900, d900, hlk]); (repeat with_reducible refine And.intro (by first | omega | exact lens | (simp [maxLen_eq] <;> omega)) ?_); (try (refine hK _ ?_; clear hK K))))
        with_reducible refine Wp ?_
        simp only [go_sem, fN, ↓gI, ↓pI, seval, true_implies, false_implies, implies_true, dT, dF, nL]
        (try with_reducible refine iC ?_)
        repeat' (first | (with_reducible first | refine W ?_ | refine Wk (by decide) ?_) | ((with_reducible first | refine Wo (fun K hK => ?_) | refine Wq ?_ | refine Wr ?_); (try simp only [go_sem, fN, ↓gI, ↓pI, seval, eT, iR, e0, e2, e6', e9', e44, e45, e46, s6, s9, s900, s11, d11, d9, e11, e6, d6, d900, e900]); (repeat with_reducible refine And.intro (by first | omega | exact lens | (simp [maxLen_eq] <;> omega)) ?_); (try (refine hK _ ?_; clear hK K))))
        rw [fitIn_no hno]
        refine finS_one (.agg [.st (.str ⟨#[]⟩), .full []]) hS ha0 (hhigh _) trivial ?_ ?_ ?_ fun i hi hne => ?_
        · simp only [go_sem, fN, ↓gI, ↓pI, seval, eT, iR, resAll, resOne, tupV, e6', s6, e6, e9, e11, e900, d6, d9, d11, d900]
        · simp only [go_sem, fN, ↓gI, ↓pI, seval, eT, iR, Tm.nil]
          rfl
        · simp only [go_sem, fN, ↓gI, ↓pI, seval, eT, iR, e6, e9, e11, e900]
        · have i6 : ¬ i = 6 := by omega
          have i9 : ¬ i = 9 := by omega
          have i11 : ¬ i = 11 := by omega
          have i900 : ¬ i = 900 := by omega
          simp only [go_sem, fN, ↓gI, ↓pI, seval, eT, iR, i6, i9, i11, i900, hne]
          exact hrest i hi hne
    · have hall : t.args.take k = t.args := List.take_of_length_le (by omega)
      rw [hall] at hlk s900 hsz sa
      have hyes : ((Tm.mk t.name (t.args.map f)).size : Int) ≤ left := by rw [hu]; omega
      repeat' (first | (with_reducible first | refine W ?_ | refine Wk (by decide) ?_) | ((with_reducible first | refine Wo (fun K hK => ?_) | refine Wq ?_ | refine Wr ?_); (try simp only [go_sem, fN, ↓gI, ↓pI, seval, eT, iR, e0, e2, e6', e9', e44, e45, e46, s6, s9, s900, s11, sa, hlt]); (repeat with_reducible refine And.intro (by first | omega | exact lens | (simp [maxLen_eq] <;> omega)) ?_); (try (refine hK _ ?_; clear hK K))))
      with_reducible refine Wp ?_
      simp only [go_sem, fN, ↓gI, ↓pI, seval, true_implies, false_implies, implies_true, dT, dF, nL, hlt]
      (try with_reducible refine iC ?_)
      repeat' (first | (with_reducible first | refine W ?_ | refine Wk (by decide) ?_) | ((with_reducible first | refine Wo (fun K hK => ?_) | refine Wq ?_ | refine Wr ?_); (try simp only [go_sem, fN, ↓gI, ↓pI, seval, eT, iR, e0, e2, e6', e9', e44, e45, e46, s6, s9, s900, s11, sa, d6]); (repeat with_reducible refine And.intro (by first | omega | exact lens | (simp [maxLen_eq] <;> omega)) ?_); (try (refine hK _ ?_; clear hK K))))
      rw [fitIn_yes hyes]
      refine finS_one (.agg [.st (.str t.name), .row 900 k]) hS ha0 (hhigh _) trivial ?_ ?_ ?_ fun i hi hne => ?_
      · simp only [go_sem, fN, ↓gI, ↓pI, seval, eT, iR, resAll, resOne, tupV, e6', s6]
      · simp only [go_sem, fN, ↓gI, ↓pI, seval, eT, iR, s900, hlk]
        rfl
      · simp only [go_sem, fN, ↓gI, ↓pI, seval, eT, iR, e6, sa, hu]
        rw [show left - 1 - (Tm.sizes (t.args.map f) : Int) = left - ((1 + Tm.sizes (t.args.map f) : Nat) : Int) by omega]
      · have i6 : ¬ i = 6 := by omega
        simp only [go_sem, fN, ↓gI, ↓pI, seval, eT, iR, i6]
        exact hrest i hi hne
theorem copyF_M (s : List Bd) (h40 : s.length ≤ 100000) (ho : Ordered s) (t : Tm) : ∀ (a0 r : Nat) (left : Int) (S : AStore), 1000 ≤ a0 → 1000 ≤ r → ¬ r = a0 → 0 ≤ left → left ≤ 1000000 → S a0 = some (mkBlkR r s.length left) → S r = some (rowBd s) →
    ACallsS Tryz.prog 84 [.one (.ptr a0 1 0 0), aTm t, aBool false] S (aTm (fitIn t left).1) (updE S a0 (some (mkBlkR r s.length (fitIn t left).2))) := by
  induction h : SizeOf.sizeOf t using Nat.strongRecOn generalizing t with
  | _ N ih =>
  subst h
  intro a0 r left S h1 h1' h1'' h2 h3 h4 h5
  have := copy_coreM s h40 ho false id t (fun h => by cases h) (fun a ha => ih _ (Tm.lt_of_arg ha) a rfl) a0 r left S h1 h1' h1'' h2 h3 h4 h5
  rw [List.map_id, Tm.eta] at this
  exact this
theorem copyT_M (s : List Bd) (h40 : s.length ≤ 100000) (ho : Ordered s) (t : Tm) (hv : ∀ b ∈ s, isVar b.1 = true) (hchk : t.chk = 0) : ∀ (a0 r : Nat) (left : Int) (S : AStore), 1000 ≤ a0 → 1000 ≤ r → ¬ r = a0 → 0 ≤ left → left ≤ 1000000 → S a0 = some (mkBlkR r s.length left) → S r = some (rowBd s) →
    ACallsS Tryz.prog 84 [.one (.ptr a0 1 0 0), aTm t, aBool true] S (aTm (fitIn (t.on s) left).1) (updE S a0 (some (mkBlkR r s.length (fitIn (t.on s) left).2))) := by
  induction h : SizeOf.sizeOf t using Nat.strongRecOn generalizing t with
  | _ N ih =>
  subst h
  intro a0 r left S ha0 hr0 hra h0 h1 hSa hSr
  obtain ⟨c1, c2⟩ := Tm.chk_args hchk
  cases hl : lookup s t.name with
  | none =>
    have := copy_coreM s h40 ho true (Tm.on s) t (fun _ => hl) (fun a ha => ih _ (Tm.lt_of_arg ha) a (c2 a ha) rfl) a0 r left S ha0 hr0 hra h0 h1 hSa hSr
    rw [← Tm.on_knot (.inl hl)] at this
    exact this
  | some x =>
    obtain ⟨b, hb, hbn, _⟩ := lookup_mem hl
    have hargs := c1 (by rw [← hbn]; exact hv b hb)
    rw [Tm.on_leaf hl hargs]
    refine acS_metaprune_subst_maker_copyM (Nat.le_of_ble_eq_true rfl) fun hS C hC => ?_
    have n4 : S 4 = none := clean_none hS (by omega)
    have n6 : S 6 = none := clean_none hS (by omega)
    have n7 : S 7 = none := clean_none hS (by omega)
    have e4 : ¬ a0 = 4 := by omega
    have e6 : ¬ a0 = 6 := by omega
    have e7 : ¬ a0 = 7 := by omega
    have d4 : ¬ 4 = a0 := by omega
    have d6 : ¬ 6 = a0 := by omega
    have d7 : ¬ 7 = a0 := by omega
    have f4 : ¬ r = 4 := by omega
    have f6 : ¬ r = 6 := by omega
    have f7 : ¬ r = 7 := by omega
    have hhigh : ∀ left, (mkBlkR r s.length left).high = true := fun left => by
      show ((AC.row r s.length).high && AC.highs [.st (.int .i64 left)]) = true
      rw [high_row hr0]
      rfl
    unfold ir_metaprune_subst_maker_copyM
    repeat' (first | (with_reducible first | refine W ?_ | refine Wk (by decide) ?_) | ((with_reducible first | refine Wo (fun K hK => ?_) | refine Wq ?_ | refine Wr ?_); (try simp only [go_sem, fN, ↓gI, ↓pI, seval, eT, iR, hSa, n4, n6, n7, d4, d6, d7, e4, e6, e7]); (repeat with_reducible refine And.intro (by first | omega | exact lens | (simp [maxLen_eq] <;> omega)) ?_); (try (refine hK _ ?_; clear hK K))))
    with_reducible refine Wp ?_
    simp only [go_sem, fN, ↓gI, ↓pI, seval, true_implies, false_implies, implies_true, dT, dF, nL]
    (try with_reducible refine iC ?_)
    repeat' (first | (with_reducible first | refine W ?_ | refine Wk (by decide) ?_) | ((with_reducible first | refine Wo (fun K hK => ?_) | refine Wq ?_ | refine Wr ?_); (try simp only [go_sem, fN, ↓gI, ↓pI, seval, eT, iR, hSa, n4, n6, n7, d4, d6, d7, e4, e6, e7]); (repeat with_reducible refine And.intro (by first | omega | exact lens | (simp [maxLen_eq] <;> omega)) ?_); (try (refine hK _ ?_; clear hK K))))
    refine ⟨_, [(r, rowBd s)], rows_one (by (simp only [go_sem, fN, ↓gI, ↓pI, seval, eT, iR, f4, f6, f7, hSr])), fun T hT => find_M s h40 ho t.name (up1 r) (up1_le r) (upS T) (by rw [upS_up, hT _ (List.mem_singleton.2 rfl)]; rfl), ?_⟩
    repeat' (first | (with_reducible first | refine W ?_ | refine Wk (by decide) ?_) | ((with_reducible first | refine Wo (fun K hK => ?_) | refine Wq ?_ | refine Wr ?_); (try simp only [go_sem, fN, ↓gI, ↓pI, seval, eT, iR, hl, n7]); (repeat with_reducible refine And.intro (by first | omega | exact lens | (simp [maxLen_eq] <;> omega)) ?_); (try (refine hK _ ?_; clear hK K))))
    with_reducible refine Wp ?_
    simp only [go_sem, fN, ↓gI, ↓pI, seval, true_implies, false_implies, implies_true, dT, dF, nL]
    (try with_reducible refine iC ?_)
    repeat' (first | (with_reducible first | refine W ?_ | refine Wk (by decide) ?_) | ((with_reducible first | refine Wo (fun K hK => ?_) | refine Wq ?_ | refine Wr ?_); (try simp only [go_sem, fN, ↓gI, ↓pI, seval, eT, iR, hSa, n4, n6, n7, d4, d6, d7, e4, e6, e7]); (repeat with_reducible refine And.intro (by first | omega | exact lens | (simp [maxLen_eq] <;> omega)) ?_); (try (refine hK _ ?_; clear hK K))))
    have hcall := fun S' h h' => copyF_M s h40 ho x (up1 a0) (up1 r) left S' (up1_le a0) (up1_le r) (by unfold up1; omega) h0 h1 h h'
    refine ⟨_, _, hcall _ (by rw [upS_up]; (simp only [go_sem, fN, ↓gI, ↓pI, seval, eT, iR, e4, e6, e7, hSa])) (by rw [upS_up]; (simp only [go_sem, fN, ↓gI, ↓pI, seval, eT, iR, f4, f6, f7, hSr])), ?_⟩
    repeat' (first | (with_reducible first | refine W ?_ | refine Wk (by decide) ?_) | ((with_reducible first | refine Wo (fun K hK => ?_) | refine Wq ?_ | refine Wr ?_); (try simp only [go_sem, fN, ↓gI, ↓pI, seval, eT, iR, e4, e6, e7, d4, d6, d7]); (repeat with_reducible refine And.intro (by first | omega | exact lens | (simp [maxLen_eq] <;> omega)) ?_); (try (refine hK _ ?_; clear hK K))))
    refine finS_one (aTm (fitIn x left).1) hS ha0 (hhigh _) trivial ?_ ?_ ?_ fun i hi hne => ?_
    · simp only [go_sem, fN, ↓gI, ↓pI, seval, eT, iR, resAll, resOne, tupV, e4, e6, e7, d4, d6, d7]
    · simp only [go_sem, fN, ↓gI, ↓pI, seval, eT, iR]
    · simp only [go_sem, fN, ↓gI, ↓pI, seval, eT, iR, e4, e6, e7]
    · have i4 : ¬ i = 4 := by omega
      have i6 : ¬ i = 6 := by omega
      have i7 : ¬ i = 7 := by omega
      simp only [go_sem, fN, ↓gI, ↓pI, seval, eT, iR, i4, i6, i7, hne]
theorem on_M (s : List Bd) (h40 : s.length ≤ 100000) (ho : Ordered s) (t : Tm) (hv : ∀ b ∈ s, isVar b.1 = true) (hchk : t.chk = 0) (r : Nat) (hr : 1000 ≤ r) (S : AStore) (sr : S r = some (rowBd s)) :
    ACallsS Tryz.prog 46 [.one (.row r s.length), aTm t] S (.tup [aTm (onTo s t).1, aBool (onTo s t).2]) S := by
  refine acS_subst_OnM (Nat.le_of_ble_eq_true rfl) fun hS C hC => ?_
  unfold ir_subst_OnM
  have n3 : S 3 = none := clean_none hS (by omega)
  have n4 : S 4 = none := clean_none hS (by omega)
  have n7 : S 7 = none := clean_none hS (by omega)
  have n10 : S 10 = none := clean_none hS (by omega)
  have r3 : ¬ r = 3 := by omega
  have r4 : ¬ r = 4 := by omega
  have r7 : ¬ r = 7 := by omega
  have r10 : ¬ r = 10 := by omega
  repeat' (first | (with_reducible first | refine W ?_ | refine Wk (by decide) ?_) | ((with_reducible first | refine Wo (fun K hK => ?_) | refine Wq ?_ | refine Wr ?_); (try simp only [go_sem, fN, ↓gI, ↓pI, seval, eT, iR, n3, n4, n7, n10]); (repeat with_reducible refine And.intro (by first | omega | exact lens | (simp [maxLen_eq] <;> omega)) ?_); (try (refine hK _ ?_; clear hK K))))
  have hcall := fun S' h h' => copyT_M s h40 ho t hv hchk (up1 10) (up1 r) 2000 S' (up1_le 10) (up1_le r) (by unfold up1; omega) (by omega) (by omega) h h'
  refine ⟨_, _, hcall _ (by rw [upS_up]; rfl) (by rw [upS_up]; (simp only [go_sem, fN, ↓gI, ↓pI, seval, eT, iR, r3, r4, r10, sr])), ?_⟩
  by_cases hfit : ((t.on s).size : Int) ≤ 2000
  · have e : onTo s t = (t.on s, true) := by
      unfold onTo
      rw [if_pos (by omega)]
    rw [fitIn_yes hfit]
    have hge : (0 : Int) ≤ 2000 - (t.on s).size := by omega
    repeat' (first | (with_reducible first | refine W ?_ | refine Wk (by decide) ?_) | ((with_reducible first | refine Wo (fun K hK => ?_) | refine Wq ?_ | refine Wr ?_); (try simp only [go_sem, fN, ↓gI, ↓pI, seval, eT, iR, hge, n7]); (repeat with_reducible refine And.intro (by first | omega | exact lens | (simp [maxLen_eq] <;> omega)) ?_); (try (refine hK _ ?_; clear hK K))))
    rw [e]
    refine finS_same (.tup [aTm (t.on s), aBool true]) hS trivial ?_ ?_ fun k hk => ?_
    · simp only [go_sem, fN, ↓gI, ↓pI, seval, eT, iR, resAll, resOne, tupV]
    · simp only [go_sem, fN, ↓gI, ↓pI, seval, eT, iR]
    · have k3 : ¬ k = 3 := by omega
      have k4 : ¬ k = 4 := by omega
      have k7 : ¬ k = 7 := by omega
      have k10 : ¬ k = 10 := by omega
      simp only [go_sem, fN, ↓gI, ↓pI, seval, eT, iR, k3, k4, k7, k10]
  · have e : onTo s t = (Tm.nil, false) := by
      unfold onTo
      rw [if_neg (by omega)]
    rw [fitIn_no hfit]
    repeat' (first | (with_reducible first | refine W ?_ | refine Wk (by decide) ?_) | ((with_reducible first | refine Wo (fun K hK => ?_) | refine Wq ?_ | refine Wr ?_); (try simp only [go_sem, fN, ↓gI, ↓pI, seval, eT, iR, n7]); (repeat with_reducible refine And.intro (by first | omega | exact lens | (simp [maxLen_eq] <;> omega)) ?_); (try (refine hK _ ?_; clear hK K))))
    rw [e]
    refine finS_same (.tup [aTm Tm.nil, aBool false]) hS trivial ?_ ?_ fun k hk => ?_
    · simp only [go_sem, fN, ↓gI, ↓pI, seval, eT, iR, resAll, resOne, tupV]
    · simp only [go_sem, fN, ↓gI, ↓pI, seval, eT, iR]
    · have k3 : ¬ k = 3 := by omega
      have k4 : ¬ k = 4 := by omega
      have k7 : ¬ k = 7 := by omega
      have k10 : ¬ k = 10 := by omega
      simp only [go_sem, fN, ↓gI, ↓pI, seval, eT, iR, k3, k4, k7, k10]
end Go.Proofs.YtehnjhkndbcmgaaGreatDoor

namespace Go.Proofs.YtehnjhkndbcmgaaGreatDoor
open Go Go.RowKit
set_option maxRecDepth 100000
def ir_subst_SortM : IR :=
  (.seq (.ops [.i 2 (.mov (.c (.one (.full []))))]) (.seq (.ops [.i 3 (.mov (.t 0)), .i 4 (.callS 109 [.t 3, .c (.one (.fn 110 []))])]) (.seq (.ops [.i 5 (.mov (.t 0)), .i 2 (.mov (.t 5))]) .ret)))
theorem tr_subst_SortM : trCode Tryz.prog 6 [4] (Tryz.f83.body.getD .skip) = some ir_subst_SortM := by kernel_rfl
theorem acS_subst_SortM {xs : List AV} {S S' : AStore} {r : AV} (hn : xs.length ≤ 6) (h : Clean S → ∀ C : Ctx, C.n = 6 → IWP Tryz.prog C [4] ir_subst_SortM (FinS C [.t 2] r S') (AS.startS xs S)) : ACallsS Tryz.prog 83 xs S r S' :=
  acallsS_of Tryz.func83 rfl tr_subst_SortM rfl hn h
end Go.Proofs.YtehnjhkndbcmgaaGreatDoor

namespace Go.Proofs.YtehnjhkndbcmgaaGreatDoor
open Go Go.RowKit Go.Lib Go.Sort Go.Shelf
set_option linter.unusedVariables false
set_option linter.unusedSimpArgs false
set_option maxHeartbeats 1000000
theorem run_gtr {P : Program} {w : World} (t : TypeId) (x y : ByteArray) : (binOp .gtr t (.string x) (.string y)).run P w = .ok (.bool (!(sLt x y || decide (x = y)))) w := by
  simp only [binOp, Op.stringOp, toList_eq_iff]
  rfl
attribute [go_sem] run_gtr
theorem isNaN_C (s : ByteArray) (W : World) : Calls Tryz.prog 123 #[.string s] W fun e w' => e = .returned (.bool false) ∧ w' = W := by
  go_enter Tryz.func123, Tryz.ntmps123
  go_wp2_with fail
  go_ret
  exact ⟨rfl, rfl⟩
theorem compare_C (a b : ByteArray) (W : World) : Calls Tryz.prog 111 #[.string a, .string b] W fun e w' => e = .returned (.int .i64 (cmpI a b)) ∧ w' = W := by
  have h1 := isNaN_C
  have hl : sLt a b = Op.bytesLess a.toList b.toList := rfl
  have hc : cmpI a b = if sLt a b = true then -1 else if a = b then 0 else 1 := rfl
  generalize cmpI a b = r at hc ⊢
  go_enter Tryz.func111, Tryz.ntmps111
  go_wp2_with (go_at_call 123; refine (h1 _ _).mono ?_; rintro e w' ⟨rfl, rfl⟩)
  all_goals go_ret
  all_goals refine ⟨?_, rfl⟩
  all_goals simp_all
abbrev SCell := ByteArray × ByteArray × Option Addr × Nat × Nat
def encSC (x : SCell) : List Value := [.string x.1, .string x.2.1, .slice x.2.2.1 x.2.2.2.1 x.2.2.2.2]
theorem sort1_C (x y : SCell) (W : World) : Calls Tryz.prog 110 #[.agg (encSC x).toArray, .agg (encSC y).toArray] W fun e w' => e = .returned (.int .i64 (cmpI x.1 y.1)) ∧ ∃ q os', w' = grow (W.drewN q) os' := by
  have hcon := fun W' => compare_C x.1 y.1 W'
  generalize cmpI x.1 y.1 = r at hcon ⊢
  unfold encSC
  go_enter Tryz.func110, Tryz.ntmps110
  go_wp2_with (go_at_call 111; refine (hcon _).mono ?_; rintro e w' ⟨rfl, rfl⟩)
  go_ret
  exact ⟨rfl, 0, _, by rw [alloc_eq_grow, alloc_eq_grow, grow_grow]; rfl⟩
theorem swo_names : SWO (ltOf fun x y : SCell => cmpI x.1 y.1) where
  irrefl x := by
    simp only [ltOf, decide_eq_false_iff_not]
    intro h
    have := cmpI_neg.1 h
    rw [sLt_irrefl] at this
    cases this
  trans x y z h k := by
    simp only [ltOf, decide_eq_true_eq] at *
    exact cmpI_neg.2 (sLt_trans (cmpI_neg.1 h) (cmpI_neg.1 k))
  ntrans x y z h k := by
    simp only [ltOf, decide_eq_false_iff_not] at *
    intro e
    have e := cmpI_neg.1 e
    have h : sLt x.1 y.1 = false := by
      cases hx : sLt x.1 y.1 with
      | false => rfl
      | true => exact absurd (cmpI_neg.2 hx) h
    have k : sLt y.1 z.1 = false := by
      cases hx : sLt y.1 z.1 with
      | false => rfl
      | true => exact absurd (cmpI_neg.2 hx) k
    rcases sLt_total y.1 z.1 with q | q | q
    · rw [q] at k; cases k
    · rw [q] at h; rw [e] at h; cases h
    · have := sLt_trans e q
      rw [this] at h
      cases h
def CellIs (σ : Sto) (x : SCell) (b : Bd) : Prop := x.1 = b.1 ∧ All2 (SRep σ) (encSC x) (encB b)
theorem all2_perm {α β : Type} {R : α → β → Prop} {l1 l2 : List α} (hp : l1.Perm l2) : ∀ {m1 : List β}, All2 R l1 m1 → ∃ m2, All2 R l2 m2 ∧ m1.Perm m2 := by
  induction hp with
  | nil => intro m1 h; exact ⟨m1, h, List.Perm.refl _⟩
  | cons x _ ih =>
    intro m1 h
    cases h with
    | cons h1 h2 =>
      obtain ⟨m2, q1, q2⟩ := ih h2
      exact ⟨_ :: m2, .cons h1 q1, q2.cons _⟩
  | swap x y l =>
    intro m1 h
    cases h with
    | cons h1 h2 =>
      cases h2 with
      | cons h2 h3 => exact ⟨_, .cons h2 (.cons h1 h3), List.Perm.swap _ _ _⟩
  | trans _ _ ih1 ih2 =>
    intro m1 h
    obtain ⟨m2, q1, q2⟩ := ih1 h
    obtain ⟨m3, q3, q4⟩ := ih2 q1
    exact ⟨m3, q3, q2.trans q4⟩
theorem cell_is {σ : Sto} {b : Bd} {v1 v2 v3 : Value} (h1 : SRep σ v1 (.str b.1)) (h2 : SRep σ v2 (.str b.2.name)) (h3 : SRep σ v3 (.list (b.2.args.map encT))) : ∃ x : SCell, [v1, v2, v3] = encSC x ∧ CellIs σ x b := by
  have e1 := (vrep_str (S := noS) (ι := noH) (.one (.st h1))).1
  have e2 := (vrep_str (S := noS) (ι := noH) (.one (.st h2))).1
  obtain ⟨p, cap, e3, _⟩ := srep_slice h3
  subst e1 e2 e3
  exact ⟨(b.1, b.2.name, p, _, cap), rfl, rfl, .cons h1 (.cons h2 (.cons h3 .nil))⟩
theorem sort_cells {σ : Sto} {vs : Array Value} : ∀ (l : List Bd) (base : Nat), (∀ k b, l[k]? = some b → ∀ j a, (encB b)[j]? = some a → ∃ v, vs[base + k * 3 + j]? = some v ∧ SRep σ v a) →
    ∃ d : List SCell, All2 (CellIs σ) d l ∧ ∀ k x j v, d[k]? = some x → (encSC x)[j]? = some v → vs[base + k * 3 + j]? = some v
  | [], base, _ => ⟨[], .nil, by simp⟩
  | b :: l, base, h => by
    obtain ⟨d, d1, d2⟩ := sort_cells l (base + 3) (fun k c hc j a ha => by
      obtain ⟨v, v1, v2⟩ := h (k + 1) c (by simpa using hc) j a ha
      exact ⟨v, by rw [← v1]; congr 1; omega, v2⟩)
    obtain ⟨u1, p1, q1⟩ := h 0 b rfl 0 _ rfl
    obtain ⟨u2, p2, q2⟩ := h 0 b rfl 1 _ rfl
    obtain ⟨u3, p3, q3⟩ := h 0 b rfl 2 _ rfl
    obtain ⟨x, x1, x2⟩ := cell_is q1 q2 q3
    refine ⟨x :: d, .cons x2 d1, fun k y j v hy hv => ?_⟩
    cases k with
    | zero =>
      simp only [List.getElem?_cons_zero, Option.some.injEq] at hy
      subst hy
      rw [← x1] at hv
      match j, hv with
      | 0, hv => cases hv; exact p1
      | 1, hv => cases hv; exact p2
      | 2, hv => cases hv; exact p3
      | j + 3, hv => simp at hv
    | succ k =>
      have := d2 k y j v (by simpa using hy) hv
      rw [← this]
      congr 1
      omega
theorem encSC_len (x : SCell) : (encSC x).length = 3 := rfl
theorem flat_get {d : Array SCell} {t : Nat} (h : t < d.size * 3) : ∃ x v, d[t / 3]? = some x ∧ (encSC x)[t % 3]? = some v ∧ (flatK encSC 3 d)[t]! = v := by
  have hk : t / 3 < d.size := by omega
  have hj : t % 3 < (encSC d[t / 3]).length := by rw [encSC_len]; omega
  refine ⟨d[t / 3], (encSC d[t / 3])[t % 3], Array.getElem?_eq_getElem hk, List.getElem?_eq_getElem hj, ?_⟩
  rw [get_flatK _ _ _ _ h, getElem!_pos d (t / 3) hk, getElem!_pos (encSC d[t / 3]) (t % 3) hj]
theorem sort_heap (w : World) (g n : Nat) (d : Array SCell) (os : Array Obj) (vs : Array Value) (e : TypeId) (hg : w.heap[g]? = some (.cells vs e (0, 0))) :
    (sortWorldK encSC 3 w g 0 n d os).heap[g]? = some (.cells (putCells id 0 (flatK encSC 3 d) vs) e (0, 0)) ∧ (∀ k, k < w.heap.size → k ≠ g → (sortWorldK encSC 3 w g 0 n d os).heap[k]? = w.heap[k]?) ∧ w.heap.size ≤ (sortWorldK encSC 3 w g 0 n d os).heap.size := by
  have hlt := (Array.getElem?_eq_some_iff.1 hg).1
  have hsz : (putRowK encSC 3 (Sort.ahead w n) g 0 d).heap.size = w.heap.size := by simp [putRowK, putRow, mapBlock, Sort.ahead]
  refine ⟨?_, fun k hk hne => ?_, ?_⟩
  · unfold sortWorldK
    rw [heap_grow_old _ _ (by rw [hsz]; exact hlt)]
    simp [putRowK, putRow, mapBlock, Sort.ahead, Array.getElem?_modify, hg, onCells]
  · unfold sortWorldK
    rw [heap_grow_old _ _ (by rw [hsz]; exact hk)]
    simp [putRowK, putRow, mapBlock, Sort.ahead, Array.getElem?_modify, Ne.symm hne]
  · unfold sortWorldK
    rw [Go.Sort.size_grow, hsz]
    omega
theorem put_get {d : Array SCell} {vs : Array Value} (hs : d.size * 3 ≤ vs.size) {k : Nat} {x : SCell} {j : Nat} {v : Value} (hx : d[k]? = some x) (hv : (encSC x)[j]? = some v) : (putCells id 0 (flatK encSC 3 d) vs)[k * 3 + j]? = some v := by
  have hk := (Array.getElem?_eq_some_iff.1 hx).1
  have hj : j < 3 := by have := (List.getElem?_eq_some_iff.1 hv).1; rw [encSC_len] at this; exact this
  have hlt : k * 3 + j < d.size * 3 := by omega
  obtain ⟨y, u, h1, h2, h3⟩ := flat_get hlt
  have e1 : (k * 3 + j) / 3 = k := by omega
  have e2 : (k * 3 + j) % 3 = j := by omega
  rw [e1, hx] at h1
  cases h1
  rw [e2, hv] at h2
  cases h2
  unfold putCells
  rw [Array.getElem?_mapIdx, Array.getElem?_eq_getElem (by omega), Option.map_some, if_pos (by rw [size_flatK]; omega)]
  simp only [Nat.sub_zero, id, h3]
theorem put_size (d : Array SCell) (vs : Array Value) : (putCells id 0 (flatK encSC 3 d) vs).size = vs.size := by simp [putCells]
theorem updE_eq {S : AStore} {r : Nat} {b : ABlk} (h : S r = some b) : updE S r (some b) = S := by
  funext k
  unfold updE
  split
  · rename_i e; rw [e, h]
  · rfl
theorem put_other {d : Array SCell} {vs : Array Value} {t : Nat} (h : d.size * 3 ≤ t) : (putCells id 0 (flatK encSC 3 d) vs)[t]? = vs[t]? := by
  unfold putCells
  rw [Array.getElem?_mapIdx]
  cases hv : vs[t]? with
  | none => rfl
  | some v => rw [Option.map_some, if_neg (by rw [size_flatK]; omega)]
abbrev rowBy (l : List Bd) (ys : List (List SV)) : ABlk := .mrow 118 3 (l.map encB ++ ys)
theorem sort_core (l : List Bd) (ys : List (List SV)) (hys : ∀ y ∈ ys, y.length = 3) (hn : Named l) (hl : l.length ≤ 100000) (r : Nat) (hr : 1000 ≤ r) (S : AStore) (sr : S r = some (rowBy l ys)) (hS : Clean S) (σ : Sto) (w : World) (ι : AHnd) (hF : Fit σ w) (hO : Owned σ S ι w) :
    Calls Tryz.prog 109 #[.slice (ι r).p l.length (ι r).cap, .func (.func 110) #[] #[]] w fun e w' => ∃ v σ' ι', e = .returned v ∧ Clean (updE S r (some (rowBy (sortB l) ys))) ∧ Upd S ι (updE S r (some (rowBy (sortB l) ys))) ι' ∧ Owned σ' (updE S r (some (rowBy (sortB l) ys))) ι' w' ∧ VRep σ' (updE S r (some (rowBy (sortB l) ys))) ι' v (.tup []) ∧ Fit σ' w' ∧ (∀ p x, σ p = some x → σ' p = some x) ∧
      (∀ p : Addr, p.block < w.heap.size → notOf S ι p.block → σ' p = σ p) ∧ (w'.os = w.os ∧ w'.tape = w.tape ∧ w'.output = w.output) ∧ w.heap.size ≤ w'.heap.size ∧
      (∀ g, g < w.heap.size → notOf S ι g → w'.heap[g]? = w.heap[g]?) ∧ (∀ id b g, updE S r (some (rowBy (sortB l) ys)) id = some b → (ι' id).g = some g → w.heap.size ≤ g ∨ ¬ notOf S ι g) := by
  have hS' : Clean (updE S r (some (rowBy (sortB l) ys))) := clean_upd hS hr rfl
  have hb : BRep σ S ι w (ι r) (.mrow 118 3 (l.map encB ++ ys)) := hO.1 r _ sr
  generalize hxs : l.map encB ++ ys = xs at hb
  have hlen : xs.length = l.length + ys.length := by rw [← hxs, List.length_append, List.length_map]
  generalize hh : ι r = hd at hb
  cases hb with
  | mnil k1 k2 =>
    obtain ⟨hl0, hy0⟩ : l = [] ∧ ys = [] := by simpa using hxs
    subst hl0 hy0
    refine (AnyF.slices_SortFunc_none Tryz.sortBd hd.p hd.cap _ w).mono fun e w' ⟨he, hw⟩ => ?_
    subst hw
    have hid : updE S r (some (rowBy (sortB []) [])) = S := updE_eq sr
    rw [hid]
    exact ⟨_, σ, ι, he, hS, Upd.refl _ _, hO, .tup (fun _ => undef) rfl (by simp) (by simp), hF, fun _ _ h => h, fun _ _ _ => rfl, ⟨rfl, rfl, rfl⟩, Nat.le_refl _, fun _ _ _ => rfl, fun id b g h1 h2 => .inr fun hno => hno id b h1 h2⟩
  | @mrow _ _ _ g cs k1 k2 k3 k4 k5 k6 k7 k8 k9 =>
    subst hxs
    obtain ⟨d, d1, d2⟩ := sort_cells (σ := σ) (vs := cs) l 0 (fun k b hb j a ha => by
      obtain ⟨v, v1, v2⟩ := k8 k (encB b) j a (by rw [List.getElem?_append_left (by rw [List.length_map]; exact lt_of_get hb), List.getElem?_map, hb]; rfl) ha
      exact ⟨v, by rw [Nat.zero_add]; exact v1, v2⟩)
    have dlen : d.length = l.length := d1.len
    have hcap : l.length ≤ hd.cap := by omega
    have hfits : d.toArray.size * 3 ≤ cs.size := by
      rw [k6]
      simp only [List.size_toArray, dlen]
      exact Nat.mul_le_mul_right 3 hcap
    have hH : HoldsK encSC 3 w g 0 d.toArray := fun j hj => by
      rw [size_flatK] at hj
      obtain ⟨x, v, q1, q2, q3⟩ := flat_get hj
      have q1 : d[j / 3]? = some x := by simpa using q1
      have hc := d2 _ _ _ _ q1 q2
      have e : 0 + j / 3 * 3 + j % 3 = j := by omega
      rw [e] at hc
      refine ⟨?_, ?_⟩
      · rw [cell_of_row w g _ _ _ _ k3, Nat.zero_add, hc, q3]
        rfl
      · exact Blk.frozen k3 _
    have eg : ∀ args w, (callFunc 110 args).run Tryz.prog w = .ok (.enter 110 args) w := enters_of Tryz.func110 (by kernel_rfl) rfl
    have hgl : g < w.heap.size := (Array.getElem?_eq_some_iff.1 k3).1
    have hcon := AnyQ.slices_SortFunc Tryz.sortBd 3 Tryz.isAgg118 Tryz.sizeOf118 encSC encSC_len (fun x v hv => by simp [encSC] at hv; rcases hv with rfl | rfl | rfl <;> rfl) (fun x y : SCell => cmpI x.1 y.1) swo_names 110 #[] g 0 hd.cap d.toArray w eg (fun _ _ _ _ x y => sort1_C x y _) hH hgl (by simp [dlen]; omega)
    rw [show d.toArray.size = l.length by simp [dlen]] at hcon
    rw [k2, show (l.length) = l.length from rfl]
    refine Calls.mono hcon fun e w' ⟨he, d', n, os, hp, hs, hw⟩ => ?_
    obtain ⟨hp1, hp2, hp3⟩ := hp
    have hd'l : d'.size = l.length := by rw [hp1]; simp [dlen]
    have hperm : d.Perm d'.toList := by
      have e1 : d'.extract 0 l.length = d' := by rw [← hd'l]; exact Array.extract_size
      have e2 : d.toArray.extract 0 l.length = d.toArray := by
        rw [show l.length = d.toArray.size by simp [dlen]]
        exact Array.extract_size
      rw [e1, e2] at hp3
      exact hp3.symm
    obtain ⟨l', l1, l2⟩ := all2_perm hperm d1
    have hl'len : l'.length = l.length := l2.length_eq.symm
    have hord : Ordered l' := by
      unfold Ordered
      rw [List.pairwise_iff_getElem]
      intro i j hi hj hij
      obtain ⟨x, x1, x2, _⟩ := l1.get (List.getElem?_eq_getElem hi)
      obtain ⟨y, y1, y2, _⟩ := l1.get (List.getElem?_eq_getElem hj)
      have hso := hs i j (Nat.zero_le _) hij (by omega)
      have e1 : d'[i]! = x := by
        rw [Array.getElem?_toList] at x1
        rw [getElem!_def, x1]
      have e2 : d'[j]! = y := by
        rw [Array.getElem?_toList] at y1
        rw [getElem!_def, y1]
      rw [e1, e2] at hso
      simp only [ltOf, decide_eq_false_iff_not] at hso
      have hno : sLt l'[j].1 l'[i].1 = false := by
        cases hx : sLt l'[j].1 l'[i].1 with
        | false => rfl
        | true => exact absurd (cmpI_neg.2 (by rw [x2, y2]; exact hx)) hso
      have hdiff : l'[i].1 ≠ l'[j].1 := by
        have hn' := named_perm l2 hn
        unfold Named at hn'
        rw [List.nodup_iff_pairwise_ne, List.pairwise_map, List.pairwise_iff_getElem] at hn'
        exact hn' i j hi hj hij
      rcases sLt_total l'[i].1 l'[j].1 with q | q | q
      · exact q
      · exact absurd q hdiff
      · rw [q] at hno; cases hno
    have hl' : l' = sortB l := ordered_unique hord (sortB_ordered hn) ((l2.symm).trans (sortB_perm l).symm)
    subst hl'
    obtain ⟨w1, w2, w3⟩ := sort_heap w g n d' os cs _ k3
    rw [← hw] at w1 w2 w3
    have hfits' : d'.size * 3 ≤ cs.size := by rw [hd'l]; rw [← dlen]; simpa using hfits
    have hupd : Upd S ι (updE S r (some (rowBy (sortB l) ys))) ι := fun id b hb => by
      by_cases e : id = r
      · subst e
        rw [sr] at hb
        cases hb
        exact ⟨_, updE_same _ _ _, by simp [ABlk.len, sortB_length], fun _ => ⟨rfl, rfl⟩⟩
      · exact ⟨b, by rw [updE_ne _ e]; exact hb, Nat.le_refl _, fun _ => ⟨rfl, rfl⟩⟩
    have hotherg : ∀ id b g', id ≠ r → S id = some b → (ι id).g = some g' → g' ≠ g := fun id b g' hne hb hg' e => by
      subst e
      exact hne (hO.2 id r b _ g' hb sr hg' (by rw [hh]; exact k1))
    have hFit : Fit σ w' := fun p x hp => by
      have hlt := hF.lt hp
      by_cases e : p.block = g
      · rw [k9 p e] at hp; cases hp
      · exact (look_of_block (w2 _ hlt e)).trans (hF p x hp)
    refine ⟨_, σ, ι, he, hS', hupd, ⟨fun id b hb => ?_, fun id id' b b' g' q1 q2 q3 q4 => ?_⟩, .tup (fun _ => undef) rfl (by simp) (by simp), hFit, fun _ _ h => h, fun _ _ _ => rfl, ?_, w3, fun g' q1 q2 => ?_, fun id b g' q1 q2 => ?_⟩
    · by_cases e : id = r
      · subst e
        rw [updE_same] at hb
        cases hb
        rw [hh]
        have hlen' : ((sortB l).map encB ++ ys).length = l.length + ys.length := by rw [List.length_append, List.length_map, sortB_length]
        refine .mrow k1 k2 w1 (by rw [hlen', ← hlen]; exact k4) k5 (by rw [put_size]; exact k6) (fun x hx => ?_) (fun k x j a hx ha => ?_) k9
        · rcases List.mem_append.1 hx with hx | hx
          · exact lens_encB x hx
          · exact hys x hx
        rcases Nat.lt_or_ge k l.length with hk | hk
        · rw [List.getElem?_append_left (by rw [List.length_map, sortB_length]; exact hk), List.getElem?_map, Option.map_eq_some_iff] at hx
          obtain ⟨b, hb, rfl⟩ := hx
          obtain ⟨y, y1, y2, y3⟩ := l1.get hb
          obtain ⟨v, v1, v2⟩ := y3.get ha
          exact ⟨v, put_get hfits' (by simpa using y1) v1, v2⟩
        · rw [List.getElem?_append_right (by rw [List.length_map, sortB_length]; exact hk), List.length_map, sortB_length] at hx
          obtain ⟨v, v1, v2⟩ := k8 k x j a (by rw [List.getElem?_append_right (by rw [List.length_map]; exact hk), List.length_map]; exact hx) ha
          exact ⟨v, by rw [put_other (by rw [hd'l]; omega)]; exact v1, v2⟩
      · rw [updE_ne _ e] at hb
        refine (hO.1 id b hb).mono (fun _ _ h => h) hupd (fun g' hg' => w2 g' ((hO.1 id b hb).gsome hg') (hotherg id b g' e hb hg')) (fun _ _ _ _ => rfl)
    · have back : ∀ i c, updE S r (some (rowBy (sortB l) ys)) i = some c → ∃ c', S i = some c' := fun i c hc => by
        by_cases e : i = r
        · subst e; exact ⟨_, sr⟩
        · rw [updE_ne _ e] at hc; exact ⟨c, hc⟩
      obtain ⟨c1, c1'⟩ := back _ _ q1
      obtain ⟨c2, c2'⟩ := back _ _ q2
      exact hO.2 _ _ _ _ _ c1' c2' q3 q4
    · rw [hw]
      exact ⟨rfl, rfl, rfl⟩
    · exact w2 g' q1 fun e => q2 r _ sr (by rw [hh, e]; exact k1)
    · refine .inr fun hno => ?_
      by_cases e : id = r
      · subst e; exact hno id _ sr q2
      · rw [updE_ne _ e] at q1; exact hno id _ q1 q2
theorem sortFunc_M (l : List Bd) (hn : Named l) (hl : l.length ≤ 100000) (r : Nat) (hr : 1000 ≤ r) (S : AStore) (sr : S r = some (rowBd l)) :
    ACallsS Tryz.prog 109 [.one (.row r l.length), .one (.fn 110 [])] S (.tup []) (updE S r (some (rowBd (sortB l)))) := by
  intro hS σ w vs ι hG hF hO hv
  cases hv with
  | @cons v1 _ _ _ h1 hv =>
  cases hv with
  | @cons v2 _ _ _ h2 hv =>
  cases hv
  obtain ⟨b, b1, b2, b3⟩ := arep_row (vrep_one h1)
  rw [sr] at b1
  cases b1
  have hv1 := b3 (by simp [ABlk.len])
  subst hv1
  have hv2 : v2 = .func (.func 110) #[] #[] := by
    cases vrep_one h2 with
    | @fn _ vs _ c q1 q2 q3 =>
      have e : vs = #[] := Array.eq_empty_of_size_eq_zero (by simpa using q1)
      rw [e]
  subst hv2
  have e : ∀ m : List Bd, rowBd m = rowBy m [] := fun m => by rw [rowBy, List.append_nil]
  rw [e] at sr ⊢
  exact sort_core l [] (by simp) hn hl r hr S sr hS σ w ι hF hO
theorem sort_M (l : List Bd) (hn : Named l) (hl : l.length ≤ 100000) (r : Nat) (hr : 1000 ≤ r) (S : AStore) (sr : S r = some (rowBd l)) :
    ACallsS Tryz.prog 83 [.one (.row r l.length)] S (.one (.row r l.length)) (updE S r (some (rowBd (sortB l)))) := by
  refine acS_subst_SortM (Nat.le_of_ble_eq_true rfl) fun hS C hC => ?_
  unfold ir_subst_SortM
  repeat' (first | (with_reducible first | refine W ?_ | refine Wk (by decide) ?_) | ((with_reducible first | refine Wo (fun K hK => ?_) | refine Wq ?_ | refine Wr ?_); (try simp only [go_sem, fN, ↓gI, ↓pI, seval, eT, iR]); (repeat with_reducible refine And.intro (by first | omega | exact lens | (simp [maxLen_eq] <;> omega)) ?_); (try (refine hK _ ?_; clear hK K))))
  refine ⟨_, _, sortFunc_M l hn hl (up1 r) (up1_le r) (upS S) (by rw [upS_up, sr]; rfl), ?_⟩
  repeat' (first | (with_reducible first | refine W ?_ | refine Wk (by decide) ?_) | ((with_reducible first | refine Wo (fun K hK => ?_) | refine Wq ?_ | refine Wr ?_); (try simp only [go_sem, fN, ↓gI, ↓pI, seval, eT, iR]); (repeat with_reducible refine And.intro (by first | omega | exact lens | (simp [maxLen_eq] <;> omega)) ?_); (try (refine hK _ ?_; clear hK K))))
  have hc := clean_upd (b := rowBd (sortB l)) hS hr rfl
  refine finS_high trivial ?_ (high_row (n := l.length) hr) (fun i b _ h => (hc i b h).2) (lowS_clean hc) hc
  simp only [go_sem, fN, ↓gI, ↓pI, seval, eT, iR, resAll, resOne, tupV]
end Go.Proofs.YtehnjhkndbcmgaaGreatDoor

namespace Go.Proofs.YtehnjhkndbcmgaaGreatDoor
open Go Go.RowKit
set_option maxRecDepth 100000
def ir_R_Sorted : IR :=
  (.seq (.ops [.i 2 (.mov (.c (.one (.full []))))]) (.seq (.ops [.i 3 (.mov (.c (.one (.full []))))]) (.seq (.seq (.ops [.i 4 (.mov (.n 0))]) (.block 0 (.loop (.seq (.seq (.ops [.i 7 (.mov (.t 4)), .i 8 (.mov (.t 0)), .i 9 (.len false (.t 8)), .i 10 (.bin .lss (.t 7) (.t 9))]) (.cond (.t 10) .skip (.exit 0))) (.seq (.block 1 (.seq (.ops [.i 13 (.mov (.t 3)), .i 14 (.mov (.t 0)), .i 15 (.mov (.t 4)), .i 16 (.indexAddr 3 (.t 14) (.t 15)), .i 17 (.load true 3 (.t 16)), .i 18 (.buildSlice false 118 3 [.t 17]), .i 19 (.append true 118 3 56 (.t 13) (.t 18)), .i 3 (.mov (.t 19))]) (.seq (.ops [.i 20 (.mov (.t 3)), .i 21 (.len false (.t 20)), .i 22 (.bin .sub (.t 21) (.n 1)), .i 5 (.mov (.t 22))]) (.block 2 (.loop (.seq (.seq (.ops [.i 23 (.mov (.t 5)), .i 24 (.bin .gtr (.t 23) (.n 0)), .i 25 (.mov (.t 24)), .mk (some 26) (some (25, true)) (.mov (.t 3)) .no, .mk (some 27) (some (25, true)) (.mov (.t 5)) .no, .mk (some 28) (some (25, true)) (.indexAddr 3 (.t 26) (.t 27)) .no, .mk (some 29) (some (25, true)) (.fieldAddr 0 (.t 28)) .no, .mk (some 30) (some (25, true)) (.load false 1 (.t 29)) .no, .mk (some 31) (some (25, true)) (.mov (.t 3)) .no, .mk (some 32) (some (25, true)) (.mov (.t 5)) .no, .mk (some 33) (some (25, true)) (.bin .sub (.t 32) (.n 1)) .no, .mk (some 34) (some (25, true)) (.indexAddr 3 (.t 31) (.t 33)) .no, .mk (some 35) (some (25, true)) (.fieldAddr 0 (.t 34)) .no, .mk (some 36) (some (25, true)) (.load false 1 (.t 35)) .no, .mk (some 37) (some (25, true)) (.bin .lss (.t 30) (.t 36)) .no, .i 38 (.pick (.t 25) (.t 37) (.c (.one (.st (.bool false)))))]) (.cond (.t 38) .skip (.exit 2))) (.seq (.block 3 (.seq (.ops [.i 41 (.mov (.t 3)), .i 42 (.mov (.t 5)), .i 43 (.indexAddr 3 (.t 41) (.t 42)), .i 44 (.load true 3 (.t 43)), .i 6 (.alloc 118 [.st (.str (ByteArray.mk (#[]))), .st (.str (ByteArray.mk (#[]))), .full []]), .mk none none (.store 3 (.t 6) (.t 44)) .no]) (.seq (.ops [.i 45 (.mov (.t 3)), .i 46 (.mov (.t 5)), .i 47 (.mov (.t 3)), .i 48 (.mov (.t 5)), .i 49 (.bin .sub (.t 48) (.n 1)), .i 50 (.indexAddr 3 (.t 47) (.t 49)), .i 51 (.load true 3 (.t 50)), .i 52 (.indexAddr 3 (.t 45) (.t 46)), .mk none none (.store 3 (.t 52) (.t 51)) .no]) (.ops [.i 53 (.mov (.t 3)), .i 54 (.mov (.t 5)), .i 55 (.bin .sub (.t 54) (.n 1)), .i 56 (.load true 3 (.t 6)), .i 57 (.indexAddr 3 (.t 53) (.t 55)), .mk none none (.store 3 (.t 57) (.t 56)) .no])))) (.ops [.i 39 (.mov (.t 5)), .i 40 (.bin .sub (.t 39) (.n 1)), .i 5 (.mov (.t 40))])))))))) (.ops [.i 11 (.mov (.t 4)), .i 12 (.bin .add (.t 11) (.n 1)), .i 4 (.mov (.t 12))])))))) (.seq (.ops [.i 58 (.mov (.t 3)), .i 2 (.mov (.t 58))]) .ret))))
theorem tr_R_Sorted : trCode Tryz.prog 59 [28, 34, 43, 50, 52, 57, 19] (Tryz.f71.body.getD .skip) = some ir_R_Sorted := by kernel_rfl
theorem ac_R_Sorted {xs : List AV} {r : AV} (hn : xs.length ≤ 59) (h : ∀ C : Ctx, C.n = 59 → IWP Tryz.prog C [28, 34, 43, 50, 52, 57, 19] ir_R_Sorted (FinQ [.t 2] r) (AS.start xs)) : ACalls Tryz.prog 71 xs r :=
  acalls_of Tryz.func71 rfl tr_R_Sorted rfl hn h
end Go.Proofs.YtehnjhkndbcmgaaGreatDoor

namespace Go.Proofs.YtehnjhkndbcmgaaGreatDoor
open Go Go.RowKit
set_option linter.unusedVariables false
set_option linter.unusedSimpArgs false
set_option maxHeartbeats 800000
theorem insB_split {l : List Bd} {b : Bd} {k : Nat} (hk : k ≤ l.length) (h1 : ∀ c ∈ l.take k, sLt b.1 c.1 = false) (h2 : ∀ c, l[k]? = some c → sLt b.1 c.1 = true) : insB b l = l.take k ++ b :: l.drop k := by
  induction l generalizing k with
  | nil => simp [insB]
  | cons c l ih =>
    cases k with
    | zero =>
      unfold insB
      rw [if_pos (h2 c rfl)]
      rfl
    | succ k =>
      unfold insB
      rw [if_neg (by rw [h1 c (by simp)]; simp), ih (by simpa using hk) (fun c hc => h1 c (by simp [hc])) (fun c hc => h2 c (by simpa using hc))]
      rfl
def laidAt (acc : List Bd) (b : Bd) (k : Nat) : List Bd := acc.take k ++ b :: acc.drop k
theorem laidAt_len (acc : List Bd) (b : Bd) (k : Nat) : (laidAt acc b k).length = acc.length + 1 := by
  have := congrArg List.length (List.take_append_drop k acc)
  unfold laidAt
  rw [List.length_append] at this ⊢
  rw [List.length_cons]
  omega
theorem laidAt_get {acc : List Bd} {b : Bd} {k : Nat} (h : k ≤ acc.length) : (laidAt acc b k)[k]? = some b := by
  unfold laidAt
  rw [List.getElem?_append_right (by rw [List.length_take]; omega), List.length_take, Nat.min_eq_left h, Nat.sub_self]
  rfl
theorem laidAt_prev {acc : List Bd} {b c : Bd} {k : Nat} (h : acc[k]? = some c) : (laidAt acc b (k + 1))[k]? = some c := by
  have := lt_of_get h
  unfold laidAt
  rw [List.getElem?_append_left (by rw [List.length_take]; omega), List.getElem?_take, if_pos (by omega), h]
theorem laidAt_swap {acc : List Bd} {b c : Bd} {k : Nat} (h : acc[k]? = some c) : ((laidAt acc b (k + 1)).set (k + 1) c).set k b = laidAt acc b k := by
  have hk := lt_of_get h
  apply List.ext_getElem?
  intro i
  have hl : ((laidAt acc b (k + 1)).set (k + 1) c).length = acc.length + 1 := by rw [List.length_set, laidAt_len]
  rw [List.getElem?_set, List.getElem?_set]
  unfold laidAt at hl ⊢
  by_cases h1 : k = i
  · subst h1
    rw [if_pos rfl, if_pos (by rw [hl]; omega), List.getElem?_append_right (by rw [List.length_take]; omega), List.length_take, Nat.min_eq_left (by omega), Nat.sub_self]
    rfl
  · rw [if_neg h1]
    by_cases h2 : k + 1 = i
    · subst h2
      have e := laidAt_len acc b (k + 1)
      unfold laidAt at e
      rw [if_pos rfl, if_pos (by rw [e]; omega), List.getElem?_append_right (by rw [List.length_take]; omega), List.length_take, Nat.min_eq_left (by omega), show k + 1 - k = 1 by omega, List.getElem?_cons_succ, List.getElem?_drop, Nat.add_zero, h]
    · rw [if_neg h2]
      rcases Nat.lt_or_ge i k with h3 | h3
      · rw [List.getElem?_append_left (by rw [List.length_take]; omega), List.getElem?_append_left (by rw [List.length_take]; omega), List.getElem?_take, List.getElem?_take, if_pos (by omega), if_pos h3]
      · rw [List.getElem?_append_right (by rw [List.length_take]; omega), List.getElem?_append_right (by rw [List.length_take]; omega), List.length_take, List.length_take, Nat.min_eq_left (by omega), Nat.min_eq_left (by omega)]
        obtain ⟨j, rfl⟩ : ∃ j, i = k + 2 + j := ⟨i - (k + 2), by omega⟩
        rw [show k + 2 + j - (k + 1) = j + 1 by omega, show k + 2 + j - k = j + 1 + 1 by omega, List.getElem?_cons_succ, List.getElem?_cons_succ, List.getElem?_drop, List.getElem?_drop]
        congr 1
        omega
theorem laidAt_last (acc : List Bd) (b : Bd) : laidAt acc b acc.length = acc ++ [b] := by
  unfold laidAt
  rw [List.take_length, List.drop_length]
theorem sortedR_a (l : List Bd) (hn : Named l) (hl : l.length ≤ 100000) : ACalls Tryz.prog 71 [aBds l] (aBds (sortB l)) := by
  refine ac_R_Sorted (Nat.le_of_ble_eq_true rfl) fun C hC => ?_
  unfold ir_R_Sorted
  repeat' (first | (with_reducible first | refine W ?_ | refine Wk (by decide) ?_) | ((with_reducible first | refine Wo (fun K hK => ?_) | refine Wp ?_ | refine Wq ?_ | refine Wr ?_); (try simp only [go_sem, fN, ↓gI, ↓pI, seval, eT, iR, dT, dF, nL]); (repeat with_reducible refine And.intro (by first | omega | exact lens | (simp [maxLen_eq] <;> omega)) ?_); (try (refine hK _ ?_; clear hK K)); (try with_reducible refine iC ?_)))
  refine IWP.ghost (Ghost.ownM 3 900 118 3 rfl rfl (by rw [hC]; decide)) ?_
  refine IWP.loopD [6] (fun m s => ∃ i, i ≤ l.length ∧ m = l.length - i ∧ s.env 0 = aBds l ∧ s.env 3 = .one (.row 900 i) ∧ s.env 4 = aInt i ∧ s.S 900 = some (rowBd (sortB (l.take i))) ∧ s.S 6 = none) l.length ⟨0, Nat.zero_le _, rfl, rfl, rfl, rfl, rfl, rfl⟩ ?_
  rintro m ⟨env, S⟩ ⟨i, hi, rfl, e0, e3, e4, s900, s6⟩
  simp only at e0 e3 e4 s900 s6
  have hlen : (sortB (l.take i)).length = i := by rw [sortB_length, List.length_take]; omega
  have hnt : ∀ j, Named (l.take j) := fun j => by
    unfold Named
    rw [List.map_take]
    exact hn.sublist (List.take_sublist _ _)
  by_cases hlt : (i : Int) < l.length
  · obtain ⟨b, hb⟩ := get_lt (show i < l.length by omega)
    have ho := sortB_ordered (hnt i)
    have hmap : (sortB (l.take i)).map encB ++ [encB b] = (laidAt (sortB (l.take i)) b i).map encB := by
      have := laidAt_last (sortB (l.take i)) b
      rw [hlen] at this
      rw [this, List.map_append]
      rfl
    have hsnoc : sortB (l.take (i + 1)) = insB b (sortB (l.take i)) := by rw [take_snoc hb, sortB_snoc]
    generalize hacc : sortB (l.take i) = acc at *
    repeat' (first | (with_reducible first | refine W ?_ | refine Wk (by decide) ?_) | ((with_reducible first | refine Wo (fun K hK => ?_) | refine Wp ?_ | refine Wq ?_ | refine Wr ?_); (try simp only [go_sem, fN, ↓gI, ↓pI, seval, eT, iR, e0, e3, e4, s900, s6, hlt, hb, hlen, encB, dT, dF, nL]); (repeat with_reducible refine And.intro (by first | omega | exact lens | (simp [maxLen_eq] <;> omega)) ?_); (try (refine hK _ ?_; clear hK K)); (try with_reducible refine iC ?_)))
    refine IWP.loopD [6] (fun m s => ∃ k, k ≤ i ∧ m = k ∧ (∀ c ∈ acc.drop k, sLt b.1 c.1 = true) ∧ s.env 0 = aBds l ∧ s.env 3 = .one (.row 900 (i + 1)) ∧ s.env 4 = aInt i ∧ s.env 5 = aInt k ∧ s.S 900 = some (rowBd (laidAt acc b k)) ∧ s.S 6 = none) i ⟨i, Nat.le_refl _, rfl, ?_, ?_⟩ ?_
    · rw [← hlen, List.drop_length]; simp
    · simp only [go_sem, fN, ↓gI, ↓pI, seval, eT, iR, e0, e3, e4, s6, hlen]
      refine ⟨by congr 3; omega, ?_⟩
      show ABlk.mrow _ _ (acc.map encB ++ [encB b]) = _
      rw [hmap]
    rintro k ⟨env2, S2⟩ ⟨_, hk, rfl, hd, e0, e3, e4, e5, s900, s6⟩
    simp only at e0 e3 e4 e5 s900 s6
    have hcl := laidAt_len acc b k
    rw [hlen] at hcl
    have hck := laidAt_get (b := b) (show k ≤ acc.length by omega)
    have hend : (∀ c, acc[k - 1]? = some c → 0 < k → sLt b.1 c.1 = false) → insB b acc = laidAt acc b k := fun h => by
      refine insB_split (by omega) (fun c hc => ?_) fun c hc => hd c (by rw [drop_get hc]; simp)
      cases k with
      | zero => simp at hc
      | succ k =>
        obtain ⟨p, hp⟩ := get_lt (show k < acc.length by omega)
        have h1 := h p hp (by omega)
        obtain ⟨j, hj, rfl⟩ := List.getElem_of_mem hc
        rw [List.length_take] at hj
        rw [List.getElem_take]
        have hcj : acc[j]? = some acc[j] := List.getElem?_eq_getElem (by omega)
        cases hx : sLt b.1 acc[j].1 with
        | false => rfl
        | true =>
          rcases Nat.lt_or_ge j k with h3 | h3
          · have := sLt_trans hx (ordered_get ho hcj hp h3)
            rw [this] at h1; cases h1
          · have e : j = k := by omega
            subst e
            rw [hp] at hcj
            cases hcj
            rw [hx] at h1; cases h1
    by_cases hk0 : 0 < (k : Int)
    · obtain ⟨k, rfl⟩ : ∃ q, k = q + 1 := ⟨k - 1, by omega⟩
      obtain ⟨c, hc⟩ := get_lt (show k < acc.length by omega)
      have hcp := laidAt_prev (b := b) hc
      have hz : (((k + 1 : Nat) : Int) - 1).toNat = k := by omega
      have hz0 : (0 : Int) ≤ ((k + 1 : Nat) : Int) - 1 := by omega
      have hl1 : k + 1 < i + 1 := by omega
      have hl2 : k < i + 1 := by omega
      cases hx : sLt b.1 c.1 with
      | true =>
        have hkk : ¬ k + 1 = k := by omega
        repeat' (first | (with_reducible first | refine W ?_ | refine Wk (by decide) ?_) | ((with_reducible first | refine Wo (fun K hK => ?_) | refine Wp ?_ | refine Wq ?_ | refine Wr ?_); (try simp only [go_sem, fN, ↓gI, ↓pI, seval, eT, iR, e0, e3, e4, e5, s900, s6, hk0, hck, hcp, hz, hz0, hcl, hl1, hl2, hx, encB, List.length_set, List.getElem?_set, hkk, dT, dF, nL]); (repeat with_reducible refine And.intro (by first | omega | exact lens | (simp [maxLen_eq] <;> omega)) ?_); (try (refine hK _ ?_; clear hK K)); (try with_reducible refine iC ?_)))
        refine then_normal ⟨k, by omega, k, by omega, rfl, fun d hd' => ?_, ?_⟩
        · rw [drop_get hc] at hd'
          rcases List.mem_cons.1 hd' with rfl | hd'
          · exact hx
          · exact hd d hd'
        · simp only [go_sem, fN, ↓gI, ↓pI, seval, AS.drop, dropS, AC.clears, AC.clear, AC.highs, AC.high, Bool.not_false, Bool.true_and, Bool.and_self, AV.purge, AV.purges, AC.purge, ABlk.purge, List.contains_cons, List.contains_nil, Nat.reduceBEq, Bool.or_self, Bool.or_false, Bool.false_or, Bool.or_true, eT, iR, e0, e3, e4, e5, s6]
          refine ⟨by congr 3; omega, ?_⟩
          show ABlk.mrow _ _ ((((laidAt acc b (k + 1)).map encB).set (k + 1) (encB c)).set k (encB b)) = _
          rw [← List.map_set, ← List.map_set, laidAt_swap hc]
      | false =>
        repeat' (first | (with_reducible first | refine W ?_ | refine Wk (by decide) ?_) | ((with_reducible first | refine Wo (fun K hK => ?_) | refine Wp ?_ | refine Wq ?_ | refine Wr ?_); (try simp only [go_sem, fN, ↓gI, ↓pI, seval, eT, iR, e0, e3, e4, e5, s900, s6, hk0, hck, hcp, hz, hz0, hcl, hl1, hl2, hx, encB, dT, dF, nL]); (repeat with_reducible refine And.intro (by first | omega | exact lens | (simp [maxLen_eq] <;> omega)) ?_); (try (refine hK _ ?_; clear hK K)); (try with_reducible refine iC ?_)))
        refine then_normal ⟨l.length - (i + 1), by omega, i + 1, by omega, rfl, ?_⟩
        rw [hsnoc, hend fun d hd' _ => by
          rw [show k + 1 - 1 = k by omega, hc] at hd'
          cases hd'
          exact hx]
        simp only [go_sem, fN, ↓gI, ↓pI, seval, AS.drop, dropS, AC.clears, AC.clear, AC.highs, AC.high, Bool.not_false, Bool.true_and, Bool.and_self, AV.purge, AV.purges, AC.purge, ABlk.purge, List.contains_cons, List.contains_nil, Nat.reduceBEq, Bool.or_self, Bool.or_false, Bool.false_or, Bool.or_true, eT, iR, e0, e3, e4, s900, s6]
        congr 3
    · repeat' (first | (with_reducible first | refine W ?_ | refine Wk (by decide) ?_) | ((with_reducible first | refine Wo (fun K hK => ?_) | refine Wp ?_ | refine Wq ?_ | refine Wr ?_); (try simp only [go_sem, fN, ↓gI, ↓pI, seval, eT, iR, e0, e3, e4, e5, s900, s6, hk0, dT, dF, nL]); (repeat with_reducible refine And.intro (by first | omega | exact lens | (simp [maxLen_eq] <;> omega)) ?_); (try (refine hK _ ?_; clear hK K)); (try with_reducible refine iC ?_)))
      refine then_normal ⟨l.length - (i + 1), by omega, i + 1, by omega, rfl, ?_⟩
      rw [hsnoc, hend fun d hd' h => by omega]
      simp only [go_sem, fN, ↓gI, ↓pI, seval, AS.drop, dropS, AC.clears, AC.clear, AC.highs, AC.high, Bool.not_false, Bool.true_and, Bool.and_self, AV.purge, AV.purges, AC.purge, ABlk.purge, List.contains_cons, List.contains_nil, Nat.reduceBEq, Bool.or_self, Bool.or_false, Bool.false_or, Bool.or_true, eT, iR, e0, e3, e4, s900, s6]
      congr 3
  · refine IWP.ghost (Ghost.share (id := 900) s900) ?_
    repeat' (first | (with_reducible first | refine W ?_ | refine Wk (by decide) ?_) | ((with_reducible first | refine Wo (fun K hK => ?_) | refine Wp ?_ | refine Wq ?_ | refine Wr ?_); (try simp only [go_sem, fN, ↓gI, ↓pI, seval, eT, iR, e0, e3, e4, hlt, dT, dF, nL]); (repeat with_reducible refine And.intro (by first | omega | exact lens | (simp [maxLen_eq] <;> omega)) ?_); (try (refine hK _ ?_; clear hK K)); (try with_reducible refine iC ?_)))
    simp only [go_sem, fN, ↓gI, ↓pI, seval, FinQ, AS.result, resAll, resOne, tupV, hlen]
    rw [List.take_of_length_le (by omega)]
end Go.Proofs.YtehnjhkndbcmgaaGreatDoor
