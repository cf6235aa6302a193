/-
  Part 12 of the texts: BOnM; IrSortM; BSort; IrSorted; BSorted; IrUnify; IrHugeP; BHugeP; BUnify; BUnify2. Conditions: none.
-/
import Derived.Test.YtehnjhkndbcmgaaDoorTSelf11
namespace Go.Proofs.YtehnjhkndbcmgaaDoor
open Go Go.RowKit
set_option linter.unusedVariables false
set_option linter.unusedSimpArgs false
set_option maxHeartbeats 800000
theorem search_M (l : List Bd) (n : ByteArray) (i0 : Nat) (hi0 : i0 ≤ l.length) (h40 : l.length ≤ 100000) (hlo : ∀ k b, l[k]? = some b → k < i0 → sLt b.1 n = true) (hhi : ∀ k b, l[k]? = some b → i0 ≤ k → sLt b.1 n = false) (r : Nat) (hr : 1000 ≤ r) (S : AStore) (sr : S r = some (rowBd l)) :
    ACallsS Tryd.prog 50 [.one (.row r l.length), aStr n, .one (.fn 51 [])] S (.tup [aInt i0, aBool (foundAt l n i0)]) S := by
  have hplain : plainF Tryd.prog 51 = true := by kernel_rfl
  refine acS_slices_BinarySearchFunc_metaprune_api_Bind_metaprune_api_Bind_stringM (Nat.le_of_ble_eq_true rfl) fun hS C hC => ?_
  unfold ir_slices_BinarySearchFunc_metaprune_api_Bind_metaprune_api_Bind_stringM
  repeat' (first | (with_reducible first | refine W ?_ | refine Wk (by decide) ?_) | ((with_reducible first | refine Wo (fun K hK => ?_) | refine Wq ?_ | refine Wr ?_); (try simp only [go_sem, fN, ↓gI, ↓pI, seval, eT, iR, sr]); (repeat with_reducible refine And.intro (by first | omega | (with_reducible exact lens) | (simp [maxLen_eq] <;> omega)) ?_); (try (with_reducible refine hK _ ?_; clear hK K))))
  refine IWP.loop (fun m s => ∃ i j : Nat, i ≤ i0 ∧ i0 ≤ j ∧ j ≤ l.length ∧ m = j - i ∧ s.env 0 = .one (.row r l.length) ∧ s.env 1 = aStr n ∧ s.env 2 = .one (.fn 51 []) ∧ s.env 8 = aInt l.length ∧ s.env 9 = aInt i ∧ s.env 10 = aInt j ∧ s.S = S) l.length ⟨0, l.length, Nat.zero_le _, hi0, Nat.le_refl _, rfl, rfl, rfl, rfl, rfl, rfl, rfl, rfl⟩ ?_
  rintro m ⟨env, S1⟩ ⟨i, j, hi, hj, hjl, rfl, e0, e1, e2, e8, e9, e10, hS1⟩
  simp only at e0 e1 e2 e8 e9 e10 hS1
  subst hS1
  by_cases hlt : (i : Int) < j
  · obtain ⟨z1, z2, z3⟩ := half (show i < j by omega)
    obtain ⟨b, hb⟩ := get_lt (show (i + j) / 2 < l.length by omega)
    repeat' (first | (with_reducible first | refine W ?_ | refine Wk (by decide) ?_) | ((with_reducible first | refine Wo (fun K hK => ?_) | refine Wq ?_ | refine Wr ?_); (try simp only [go_sem, fN, ↓gI, ↓pI, seval, eT, iR, e0, e1, e2, e8, e9, e10, hlt, sr]); (repeat with_reducible refine And.intro (by first | omega | (with_reducible exact lens) | (simp [maxLen_eq] <;> omega)) ?_); (try (with_reducible refine hK _ ?_; clear hK K))))
    with_reducible refine Wp ?_
    simp only [go_sem, fN, ↓gI, ↓pI, seval, true_implies, false_implies, implies_true, dT, dF, nL, hlt]
    (try with_reducible refine iC ?_)
    have hbits : (1 : Nat) ≤ IntKind.u64.bits := by show 1 ≤ 64; omega
    have hz0 : (0 : Int) ≤ (((i + j) / 2 : Nat) : Int) := Int.natCast_nonneg _
    repeat' (first | (with_reducible first | refine W ?_ | refine Wk (by decide) ?_) | ((with_reducible first | refine Wo (fun K hK => ?_) | refine Wq ?_ | refine Wr ?_); (try simp only [go_sem, fN, ↓gI, ↓pI, seval, eT, iR, e0, e1, e2, e8, e9, e10, hlt, z1, z3, inR_u64, hbits, hb, encB, hplain, sr]); (repeat with_reducible refine And.intro (by first | omega | (with_reducible exact lens) | (simp [maxLen_eq] <;> omega)) ?_); (try (with_reducible refine hK _ ?_; clear hK K))))
    refine ⟨_, _, find1_S b n _, ?_⟩
    cases hc : sLt b.1 n with
    | true =>
      have hneg : cmpI b.1 n < 0 := cmpI_neg.2 hc
      repeat' (first | (with_reducible first | refine W ?_ | refine Wk (by decide) ?_) | ((with_reducible first | refine Wo (fun K hK => ?_) | refine Wq ?_ | refine Wr ?_); (try simp only [go_sem, fN, ↓gI, ↓pI, seval, eT, iR, hneg]); (repeat with_reducible refine And.intro (by first | omega | (with_reducible exact lens) | (simp [maxLen_eq] <;> omega)) ?_); (try (with_reducible refine hK _ ?_; clear hK K))))
      with_reducible refine Wp ?_
      simp only [go_sem, fN, ↓gI, ↓pI, seval, true_implies, false_implies, implies_true, dT, dF, nL, hneg]
      (try with_reducible refine iC ?_)
      repeat' (first | (with_reducible first | refine W ?_ | refine Wk (by decide) ?_) | ((with_reducible first | refine Wo (fun K hK => ?_) | refine Wq ?_ | refine Wr ?_); (try simp only [go_sem, fN, ↓gI, ↓pI, seval, eT, iR, e0, e1, e2, e8, e9, e10]); (repeat with_reducible refine And.intro (by first | omega | (with_reducible exact lens) | (simp [maxLen_eq] <;> omega)) ?_); (try (with_reducible refine hK _ ?_; clear hK K))))
      refine then_normal ⟨j - ((i + j) / 2 + 1), by omega, (i + j) / 2 + 1, j, ?_, hj, hjl, rfl, ?_⟩
      · rcases Nat.lt_or_ge ((i + j) / 2) i0 with h | h
        · omega
        · rw [hhi _ b hb h] at hc; cases hc
      · simp only [go_sem, fN, ↓gI, ↓pI, seval, eT, iR, e0, e1, e2, e8, e9, e10]
        congr 3
    | false =>
      have hneg : ¬ cmpI b.1 n < 0 := fun h => by rw [cmpI_neg.1 h] at hc; cases hc
      repeat' (first | (with_reducible first | refine W ?_ | refine Wk (by decide) ?_) | ((with_reducible first | refine Wo (fun K hK => ?_) | refine Wq ?_ | refine Wr ?_); (try simp only [go_sem, fN, ↓gI, ↓pI, seval, eT, iR, hneg]); (repeat with_reducible refine And.intro (by first | omega | (with_reducible exact lens) | (simp [maxLen_eq] <;> omega)) ?_); (try (with_reducible refine hK _ ?_; clear hK K))))
      with_reducible refine Wp ?_
      simp only [go_sem, fN, ↓gI, ↓pI, seval, true_implies, false_implies, implies_true, dT, dF, nL, hneg]
      (try with_reducible refine iC ?_)
      repeat' (first | (with_reducible first | refine W ?_ | refine Wk (by decide) ?_) | ((with_reducible first | refine Wo (fun K hK => ?_) | refine Wq ?_ | refine Wr ?_); (try simp only [go_sem, fN, ↓gI, ↓pI, seval, eT, iR, e0, e1, e2, e8, e9, e10]); (repeat with_reducible refine And.intro (by first | omega | (with_reducible exact lens) | (simp [maxLen_eq] <;> omega)) ?_); (try (with_reducible refine hK _ ?_; clear hK K))))
      refine then_normal ⟨(i + j) / 2 - i, by omega, i, (i + j) / 2, hi, ?_, by omega, rfl, ?_⟩
      · rcases Nat.lt_or_ge ((i + j) / 2) i0 with h | h
        · rw [hlo _ b hb h] at hc; cases hc
        · omega
      · simp only [go_sem, fN, ↓gI, ↓pI, seval, eT, iR, e0, e1, e2, e8, e9, e10]
  · have hii : i = i0 := by omega
    subst hii
    have hjj : j = i := by omega
    subst hjj
    repeat' (first | (with_reducible first | refine W ?_ | refine Wk (by decide) ?_) | ((with_reducible first | refine Wo (fun K hK => ?_) | refine Wq ?_ | refine Wr ?_); (try simp only [go_sem, fN, ↓gI, ↓pI, seval, eT, iR, e0, e1, e2, e8, e9, e10, hlt, sr]); (repeat with_reducible refine And.intro (by first | omega | (with_reducible exact lens) | (simp [maxLen_eq] <;> omega)) ?_); (try (with_reducible refine hK _ ?_; clear hK K))))
    with_reducible refine Wp ?_
    simp only [go_sem, fN, ↓gI, ↓pI, seval, true_implies, false_implies, implies_true, dT, dF, nL, hlt]
    (try with_reducible refine iC ?_)
    by_cases hil : (j : Int) < l.length
    · have hil' : j < l.length := by omega
      obtain ⟨b, hb⟩ := get_lt hil'
      repeat' (first | (with_reducible first | refine W ?_ | refine Wk (by decide) ?_) | ((with_reducible first | refine Wo (fun K hK => ?_) | refine Wq ?_ | refine Wr ?_); (try simp only [go_sem, fN, ↓gI, ↓pI, seval, eT, iR, e0, e1, e2, e8, e9, e10, hil, hil', hb, encB, hplain, sr]); (repeat with_reducible refine And.intro (by first | omega | (with_reducible exact lens) | (simp [maxLen_eq] <;> omega)) ?_); (try (with_reducible refine hK _ ?_; clear hK K))))
      refine ⟨_, _, find1_S b n _, ?_⟩
      repeat' (first | (with_reducible first | refine W ?_ | refine Wk (by decide) ?_) | ((with_reducible first | refine Wo (fun K hK => ?_) | refine Wq ?_ | refine Wr ?_); (try simp only [go_sem, fN, ↓gI, ↓pI, seval, eT, iR]); (repeat with_reducible refine And.intro (by first | omega | (with_reducible exact lens) | (simp [maxLen_eq] <;> omega)) ?_); (try (with_reducible refine hK _ ?_; clear hK K))))
      refine finS_same (.tup [aInt j, aBool (foundAt l n j)]) hS trivial ?_ ?_ fun _ _ => rfl
      · simp only [go_sem, fN, ↓gI, ↓pI, seval, eT, iR, resAll, resOne, tupV, e9, e10]
        unfold foundAt
        rw [hb]
        simp only [cmpI_zero]
      · rfl
    · repeat' (first | (with_reducible first | refine W ?_ | refine Wk (by decide) ?_) | ((with_reducible first | refine Wo (fun K hK => ?_) | refine Wq ?_ | refine Wr ?_); (try simp only [go_sem, fN, ↓gI, ↓pI, seval, eT, iR, e0, e1, e2, e8, e9, e10, hil]); (repeat with_reducible refine And.intro (by first | omega | (with_reducible exact lens) | (simp [maxLen_eq] <;> omega)) ?_); (try (with_reducible refine hK _ ?_; clear hK K))))
      refine finS_same (.tup [aInt j, aBool (foundAt l n j)]) hS trivial ?_ ?_ fun _ _ => rfl
      · simp only [go_sem, fN, ↓gI, ↓pI, seval, eT, iR, resAll, resOne, tupV, e9, e10]
        unfold foundAt
        rw [List.getElem?_eq_none (by omega)]
      · rfl
theorem find_M (l : List Bd) (h40 : l.length ≤ 100000) (ho : Ordered l) (n : ByteArray) (r : Nat) (hr : 1000 ≤ r) (S : AStore) (sr : S r = some (rowBd l)) : ACallsS Tryd.prog 43 [.one (.row r l.length), aStr n] S (.tup [aTm ((lookup l n).getD Tm.nil), aBool (lookup l n).isSome]) S := by
  obtain ⟨i, hi, hlo, hhi, _⟩ := search_a l h40 ho n
  refine acS_subst_FindM (Nat.le_of_ble_eq_true rfl) fun hS C hC => ?_
  unfold ir_subst_FindM
  have n4 : S 4 = none := clean_none hS (by omega)
  have r4 : ¬ r = 4 := by omega
  repeat' (first | (with_reducible first | refine W ?_ | refine Wk (by decide) ?_) | ((with_reducible first | refine Wo (fun K hK => ?_) | refine Wq ?_ | refine Wr ?_); (try simp only [go_sem, fN, ↓gI, ↓pI, seval, eT, iR, n4]); (repeat with_reducible refine And.intro (by first | omega | (with_reducible exact lens) | (simp [maxLen_eq] <;> omega)) ?_); (try (with_reducible refine hK _ ?_; clear hK K))))
  refine ⟨_, [(r, rowBd l)], rows_one (by (simp only [go_sem, fN, ↓gI, ↓pI, seval, eT, iR, r4, sr])), fun T hT => search_M l n i hi h40 hlo hhi (up1 r) (up1_le r) (upS T) (by rw [upS_up, hT _ (List.mem_singleton.2 rfl)]; rfl), ?_⟩
  rcases found_lookup hlo hhi ho with ⟨b, hb, he, hl⟩ | ⟨hf, hl⟩
  · have hf : foundAt l n i = true := by unfold foundAt; rw [hb]; exact decide_eq_true he
    have hil := lt_of_get hb
    repeat' (first | (with_reducible first | refine W ?_ | refine Wk (by decide) ?_) | ((with_reducible first | refine Wo (fun K hK => ?_) | refine Wq ?_ | refine Wr ?_); (try simp only [go_sem, fN, ↓gI, ↓pI, seval, eT, iR, hf]); (repeat with_reducible refine And.intro (by first | omega | (with_reducible exact lens) | (simp [maxLen_eq] <;> omega)) ?_); (try (with_reducible refine hK _ ?_; clear hK K))))
    with_reducible refine Wp ?_
    simp only [go_sem, fN, ↓gI, ↓pI, seval, true_implies, false_implies, implies_true, dT, dF, nL, hf]
    (try with_reducible refine iC ?_)
    repeat' (first | (with_reducible first | refine W ?_ | refine Wk (by decide) ?_) | ((with_reducible first | refine Wo (fun K hK => ?_) | refine Wq ?_ | refine Wr ?_); (try simp only [go_sem, fN, ↓gI, ↓pI, seval, eT, iR, hb, encB, sr, r4, hil]); (repeat with_reducible refine And.intro (by first | omega | (with_reducible exact lens) | (simp [maxLen_eq] <;> omega)) ?_); (try (with_reducible refine hK _ ?_; clear hK K))))
    refine finS_same (.tup [aTm b.2, aBool true]) hS trivial ?_ ?_ fun k hk => ?_
    · simp only [go_sem, fN, ↓gI, ↓pI, seval, eT, iR, resAll, resOne, tupV]
    · simp only [go_sem, fN, ↓gI, ↓pI, seval, eT, iR]
      rw [hl]
      rfl
    · have k4 : ¬ k = 4 := by omega
      simp only [go_sem, fN, ↓gI, ↓pI, seval, eT, iR, k4]
  · repeat' (first | (with_reducible first | refine W ?_ | refine Wk (by decide) ?_) | ((with_reducible first | refine Wo (fun K hK => ?_) | refine Wq ?_ | refine Wr ?_); (try simp only [go_sem, fN, ↓gI, ↓pI, seval, eT, iR, hf]); (repeat with_reducible refine And.intro (by first | omega | (with_reducible exact lens) | (simp [maxLen_eq] <;> omega)) ?_); (try (with_reducible refine hK _ ?_; clear hK K))))
    with_reducible refine Wp ?_
    simp only [go_sem, fN, ↓gI, ↓pI, seval, true_implies, false_implies, implies_true, dT, dF, nL, hf]
    (try with_reducible refine iC ?_)
    repeat' (first | (with_reducible first | refine W ?_ | refine Wk (by decide) ?_) | ((with_reducible first | refine Wo (fun K hK => ?_) | refine Wq ?_ | refine Wr ?_); (try simp only [go_sem, fN, ↓gI, ↓pI, seval, eT, iR]); (repeat with_reducible refine And.intro (by first | omega | (with_reducible exact lens) | (simp [maxLen_eq] <;> omega)) ?_); (try (with_reducible refine hK _ ?_; clear hK K))))
    refine finS_same (.tup [.agg [.st (.str ⟨#[]⟩), .full []], aBool false]) hS trivial ?_ ?_ fun k hk => ?_
    · simp only [go_sem, fN, ↓gI, ↓pI, seval, eT, iR, resAll, resOne, tupV]
    · simp only [go_sem, fN, ↓gI, ↓pI, seval, eT, iR]
      rw [hl]
      rfl
    · have k4 : ¬ k = 4 := by omega
      simp only [go_sem, fN, ↓gI, ↓pI, seval, eT, iR, k4]
abbrev mkBlkR (r n : Nat) (left : Int) : ABlk := .box 76 [.row r n, .st (.int .i64 left)]
theorem copy_coreM (s : List Bd) (h40 : s.length ≤ 100000) (ho : Ordered s) (turn : Bool) (f : Tm → Tm) (t : Tm) (hl : turn = true → lookup s t.name = none)
    (ih : ∀ a ∈ t.args, ∀ (a0 r : Nat) (left : Int) (S : AStore), 1000 ≤ a0 → 1000 ≤ r → ¬ r = a0 → 0 ≤ left → left ≤ 1000000 → S a0 = some (mkBlkR r s.length left) → S r = some (rowBd s) →
      ACallsS Tryd.prog 31 [.one (.ptr a0 1 0 0), aTm a, aBool turn] S (aTm (fitIn (f a) left).1) (updE S a0 (some (mkBlkR r s.length (fitIn (f a) left).2))))
    (a0 r : Nat) (left : Int) (S : AStore) (ha0 : 1000 ≤ a0) (hr0 : 1000 ≤ r) (hra : ¬ r = a0) (h0 : 0 ≤ left) (h1 : left ≤ 1000000) (hSa : S a0 = some (mkBlkR r s.length left)) (hSr : S r = some (rowBd s)) :
    ACallsS Tryd.prog 31 [.one (.ptr a0 1 0 0), aTm t, aBool turn] S (aTm (fitIn (.mk t.name (t.args.map f)) left).1) (updE S a0 (some (mkBlkR r s.length (fitIn (.mk t.name (t.args.map f)) left).2))) := by
  refine acS_metaprune_subst_maker_copyM (Nat.le_of_ble_eq_true rfl) fun hS C hC => ?_
  have hu : (Tm.mk t.name (t.args.map f)).size = 1 + Tm.sizes (t.args.map f) := rfl
  have hlen := Tm.length_le (t.args.map f)
  rw [List.length_map] at hlen
  have hhigh : ∀ left, (mkBlkR r s.length left).high = true := fun left => by
    show ((AC.row r s.length).high && AC.highs [.st (.int .i64 left)]) = true
    rw [high_row hr0]
    rfl
  have n4 : S 4 = none := clean_none hS (by omega)
  have n6 : S 6 = none := clean_none hS (by omega)
  have n7 : S 7 = none := clean_none hS (by omega)
  have n9 : S 9 = none := clean_none hS (by omega)
  have n11 : S 11 = none := clean_none hS (by omega)
  have n900 : S 900 = none := clean_none hS (by omega)
  have d4 : ¬ 4 = a0 := by omega
  have d6 : ¬ 6 = a0 := by omega
  have d7 : ¬ 7 = a0 := by omega
  have d9 : ¬ 9 = a0 := by omega
  have d11 : ¬ 11 = a0 := by omega
  have d900 : ¬ 900 = a0 := by omega
  have e4 : ¬ a0 = 4 := by omega
  have e6 : ¬ a0 = 6 := by omega
  have e7 : ¬ a0 = 7 := by omega
  have e9 : ¬ a0 = 9 := by omega
  have e11 : ¬ a0 = 11 := by omega
  have e900 : ¬ a0 = 900 := by omega
  have f4 : ¬ r = 4 := by omega
  have f6 : ¬ r = 6 := by omega
  have f7 : ¬ r = 7 := by omega
  have f9 : ¬ r = 9 := by omega
  have f11 : ¬ r = 11 := by omega
  have f900 : ¬ r = 900 := by omega
  unfold ir_metaprune_subst_maker_copyM
  cases turn
  case' false =>
    repeat' (first | (with_reducible first | refine W ?_ | refine Wk (by decide) ?_) | ((with_reducible first | refine Wo (fun K hK => ?_) | refine Wq ?_ | refine Wr ?_); (try simp only [go_sem, fN, ↓gI, ↓pI, seval, eT, iR, hSa, n4, n6, n7, d4, d6, d7, e4, e6, e7]); (repeat with_reducible refine And.intro (by first | omega | (with_reducible exact lens) | (simp [maxLen_eq] <;> omega)) ?_); (try (with_reducible refine hK _ ?_; clear hK K))))
    with_reducible refine Wp ?_
    simp only [go_sem, fN, ↓gI, ↓pI, seval, true_implies, false_implies, implies_true, dT, dF, nL]
    (try with_reducible refine iC ?_)
    repeat' (first | (with_reducible first | refine W ?_ | refine Wk (by decide) ?_) | ((with_reducible first | refine Wo (fun K hK => ?_) | refine Wq ?_ | refine Wr ?_); (try simp only [go_sem, fN, ↓gI, ↓pI, seval, eT, iR, hSa, n4, n6, n7, n9, d4, d6, d7, d9, e4, e6, e7, e9]); (repeat with_reducible refine And.intro (by first | omega | (with_reducible exact lens) | (simp [maxLen_eq] <;> omega)) ?_); (try (with_reducible refine hK _ ?_; clear hK K))))
  case' true =>
    have hln := hl rfl
    repeat' (first | (with_reducible first | refine W ?_ | refine Wk (by decide) ?_) | ((with_reducible first | refine Wo (fun K hK => ?_) | refine Wq ?_ | refine Wr ?_); (try simp only [go_sem, fN, ↓gI, ↓pI, seval, eT, iR, hSa, n4, n6, n7, d4, d6, d7, e4, e6, e7]); (repeat with_reducible refine And.intro (by first | omega | (with_reducible exact lens) | (simp [maxLen_eq] <;> omega)) ?_); (try (with_reducible refine hK _ ?_; clear hK K))))
    with_reducible refine Wp ?_
    simp only [go_sem, fN, ↓gI, ↓pI, seval, true_implies, false_implies, implies_true, dT, dF, nL]
    (try with_reducible refine iC ?_)
    repeat' (first | (with_reducible first | refine W ?_ | refine Wk (by decide) ?_) | ((with_reducible first | refine Wo (fun K hK => ?_) | refine Wq ?_ | refine Wr ?_); (try simp only [go_sem, fN, ↓gI, ↓pI, seval, eT, iR, hSa, n4, n6, n7, d4, d6, d7, e4, e6, e7]); (repeat with_reducible refine And.intro (by first | omega | (with_reducible exact lens) | (simp [maxLen_eq] <;> omega)) ?_); (try (with_reducible refine hK _ ?_; clear hK K))))
    refine ⟨_, [(r, rowBd s)], rows_one (by (simp only [go_sem, fN, ↓gI, ↓pI, seval, eT, iR, f4, f6, f7, hSr])), fun T hT => find_M s h40 ho t.name (up1 r) (up1_le r) (upS T) (by rw [upS_up, hT _ (List.mem_singleton.2 rfl)]; rfl), ?_⟩
    repeat' (first | (with_reducible first | refine W ?_ | refine Wk (by decide) ?_) | ((with_reducible first | refine Wo (fun K hK => ?_) | refine Wq ?_ | refine Wr ?_); (try simp only [go_sem, fN, ↓gI, ↓pI, seval, eT, iR, hln, n7]); (repeat with_reducible refine And.intro (by first | omega | (with_reducible exact lens) | (simp [maxLen_eq] <;> omega)) ?_); (try (with_reducible refine hK _ ?_; clear hK K))))
    with_reducible refine Wp ?_
    simp only [go_sem, fN, ↓gI, ↓pI, seval, true_implies, false_implies, implies_true, dT, dF, nL]
    (try with_reducible refine iC ?_)
    repeat' (first | (with_reducible first | refine W ?_ | refine Wk (by decide) ?_) | ((with_reducible first | refine Wo (fun K hK => ?_) | refine Wq ?_ | refine Wr ?_); (try simp only [go_sem, fN, ↓gI, ↓pI, seval, eT, iR, hSa, n4, n6, n7, n9, d4, d6, d7, d9, e4, e6, e7, e9]); (repeat with_reducible refine And.intro (by first | omega | (with_reducible exact lens) | (simp [maxLen_eq] <;> omega)) ?_); (try (with_reducible refine hK _ ?_; clear hK K))))
  all_goals
    by_cases hz : left = 0
    · subst hz
      have hno : ¬ ((Tm.mk t.name (t.args.map f)).size : Int) ≤ 0 := by rw [hu]; omega
      rw [fitIn_no hno]
      with_reducible refine Wp ?_
      simp only [go_sem, fN, ↓gI, ↓pI, seval, true_implies, false_implies, implies_true, dT, dF, nL]
      (try with_reducible refine iC ?_)
      repeat' (first | (with_reducible first | refine W ?_ | refine Wk (by decide) ?_) | ((with_reducible first | refine Wo (fun K hK => ?_) | refine Wq ?_ | refine Wr ?_); (try simp only [go_sem, fN, ↓gI, ↓pI, seval, eT, iR, hSa, n4, n6, n7, n9, d4, d6, d7, d9, e4, e6, e7, e9]); (repeat with_reducible refine And.intro (by first | omega | (with_reducible exact lens) | (simp [maxLen_eq] <;> omega)) ?_); (try (with_reducible refine hK _ ?_; clear hK K))))
      refine finS_one (.agg [.st (.str ⟨#[]⟩), .full []]) hS ha0 (hhigh _) trivial ?_ ?_ ?_ fun i hi hne => ?_
      · simp only [go_sem, fN, ↓gI, ↓pI, seval, eT, iR, resAll, resOne, tupV, e4, e6, e7, e9, d4, d6, d7, d9]
      · simp only [go_sem, fN, ↓gI, ↓pI, seval, eT, iR, Tm.nil]
        rfl
      · simp only [go_sem, fN, ↓gI, ↓pI, seval, eT, iR, e4, e6, e7, e9]
      · have i4 : ¬ i = 4 := by omega
        have i6 : ¬ i = 6 := by omega
        have i7 : ¬ i = 7 := by omega
        simp only [go_sem, fN, ↓gI, ↓pI, seval, eT, iR, i4, i6, i7, hne]
    have hz' : ¬ left - 1 < 0 := by omega
    with_reducible refine Wp ?_
    simp only [go_sem, fN, ↓gI, ↓pI, seval, true_implies, false_implies, implies_true, dT, dF, nL, hz']
    (try with_reducible refine iC ?_)
    repeat' (first | (with_reducible first | refine W ?_ | refine Wk (by decide) ?_) | ((with_reducible first | refine Wo (fun K hK => ?_) | refine Wq ?_ | refine Wr ?_); (try simp only [go_sem, fN, ↓gI, ↓pI, seval, eT, iR, hSa, n4, n6, n7, n9, d4, d6, d7, d9, e4, e6, e7, e9]); (repeat with_reducible refine And.intro (by first | omega | (with_reducible exact lens) | (simp [maxLen_eq] <;> omega)) ?_); (try (with_reducible refine hK _ ?_; clear hK K))))
    refine IWP.ghost (Ghost.ownC 9 1 900 50 2 (xs := ([] : List Tm).map encT) (by simp only [go_sem, fN, ↓gI, ↓pI, seval, eT, iR, d9, d4, d6, d7, e9]; rfl) rfl (by simp only [go_sem, fN, ↓gI, ↓pI, seval, eT, iR, n900, d900]) lens_encT) ?_
    refine IWP.loopD [11] (fun m x => ∃ k, k ≤ t.args.length ∧ m = t.args.length - k ∧ (Tm.sizes ((t.args.take k).map f) : Int) ≤ left - 1 ∧ x.env 0 = .one (.ptr a0 1 0 0) ∧ x.env 2 = aBool _ ∧ x.env 6 = .one (.ptr 6 1 0 0) ∧ x.env 9 = .one (.ptr 9 1 0 0) ∧ x.env 44 = .one (.st (.list (t.args.map encT))) ∧ x.env 45 = aInt t.args.length ∧ x.env 46 = aInt k ∧
        x.S 6 = some (.box 50 [.st (.str ⟨#[]⟩), .full []]) ∧ x.S 9 = some (.box 50 [.st (.str t.name), .row 900 k]) ∧ x.S 900 = some (.arow 50 2 (((t.args.take k).map f).map encT)) ∧ x.S 11 = none ∧ x.S a0 = some (mkBlkR r s.length (left - 1 - Tm.sizes ((t.args.take k).map f))) ∧ ∀ i, 1000 ≤ i → i ≠ a0 → x.S i = S i)
      t.args.length ⟨0, Nat.zero_le _, rfl, by show (0 : Int) ≤ _; omega, rfl, rfl, rfl, rfl, rfl, rfl, rfl, by simp only [go_sem, fN, ↓gI, ↓pI, seval, eT, iR, d6, d4, d7, d9, e6], by (simp only [go_sem, fN, ↓gI, ↓pI, seval, eT, iR, d9]); rfl, by simp only [go_sem, fN, ↓gI, ↓pI, seval, eT, iR, e9], by simp only [go_sem, fN, ↓gI, ↓pI, seval, eT, iR, n11, d11], by (simp only [go_sem, fN, ↓gI, ↓pI, seval, eT, iR, e9, e900]); simp [Tm.sizes], fun i hi hne => ?_⟩ ?_
    · have i4 : ¬ i = 4 := by omega
      have i6 : ¬ i = 6 := by omega
      have i7 : ¬ i = 7 := by omega
      have i9 : ¬ i = 9 := by omega
      have i900 : ¬ i = 900 := by omega
      simp only [go_sem, fN, ↓gI, ↓pI, seval, eT, iR, i4, i6, i7, i9, i900, hne]
    rintro m ⟨env, S1⟩ ⟨k, hk, rfl, hsz, e0, e2, e6', e9', e44, e45, e46, s6, s9, s900, s11, sa, hrest⟩
    simp only at e0 e2 e6' e9' e44 e45 e46 s6 s9 s900 s11 sa hrest
    have hlk : (t.args.take k).length = k := by rw [List.length_take]; omega
    have hle := Tm.sizes_take_le (t.args.map f) k
    rw [← List.map_take] at hle
    have hkl := Tm.length_le ((t.args.take k).map f)
    rw [List.length_map, hlk] at hkl
    have hSr1 : S1 r = some (rowBd s) := (hrest r hr0 hra).trans hSr
    by_cases hlt : (k : Int) < t.args.length
    · obtain ⟨a, ha⟩ := get_lt (show k < t.args.length by omega)
      have ha' : (t.args.map f)[k]? = some (f a) := by rw [List.getElem?_map, ha]; rfl
      have z1 := Tm.sizes_take ha'
      have z2 := Tm.sizes_take_le (t.args.map f) (k + 1)
      rw [← List.map_take, ← List.map_take] at z1
      rw [← List.map_take] at z2
      repeat' (first | (with_reducible first | refine W ?_ | refine Wk (by decide) ?_) | ((with_reducible first | refine Wo (fun K hK => ?_) | refine Wq ?_ | refine Wr ?_); (try simp only [go_sem, fN, ↓gI, ↓pI, seval, eT, iR, e0, e2, e6', e9', e44, e45, e46, s6, s9, s900, s11, sa, hlt]); (repeat with_reducible refine And.intro (by first | omega | (with_reducible exact lens) | (simp [maxLen_eq] <;> omega)) ?_); (try (with_reducible refine hK _ ?_; clear hK K))))
      with_reducible refine Wp ?_
      simp only [go_sem, fN, ↓gI, ↓pI, seval, true_implies, false_implies, implies_true, dT, dF, nL, hlt]
      (try with_reducible refine iC ?_)
      repeat' (first | (with_reducible first | refine W ?_ | refine Wk (by decide) ?_) | ((with_reducible first | refine Wo (fun K hK => ?_) | refine Wq ?_ | refine Wr ?_); (try simp only [go_sem, fN, ↓gI, ↓pI, seval, eT, iR, e0, e2, e6', e9', e44, e45, e46, s6, s9, s900, s11, sa, d11, d9, e11, ha]); (repeat with_reducible refine And.intro (by first | omega | (with_reducible exact lens) | (simp [maxLen_eq] <;> omega)) ?_); (try (with_reducible refine hK _ ?_; clear hK K))))
      have hcall := ih a (mem_of_get ha) (up1 a0) (up1 r) (left - 1 - Tm.sizes ((t.args.take k).map f)) (upS (updE (updE S1 11 (some (.box 50 [.st (.str ⟨#[]⟩), .full []]))) 11 (some (.box 50 [.st (.str a.name), .st (.list (a.args.map encT))])))) (up1_le a0) (up1_le r) (by unfold up1; omega) (by omega) (by omega) (by rw [upS_up, updE_ne _ e11, updE_ne _ e11, sa]; rfl) (by rw [upS_up, updE_ne _ f11, updE_ne _ f11, hSr1]; rfl)
      by_cases hfit : ((f a).size : Int) ≤ left - 1 - Tm.sizes ((t.args.take k).map f)
      · rw [fitIn_yes hfit] at hcall
        refine ⟨_, _, hcall, ?_⟩
        have hge : ¬ left - 1 - Tm.sizes ((t.args.take k).map f) - (f a).size < 0 := by omega
        repeat' (first | (with_reducible first | refine W ?_ | refine Wk (by decide) ?_) | ((with_reducible first | refine Wo (fun K hK => ?_) | refine Wq ?_ | refine Wr ?_); (try simp only [go_sem, fN, ↓gI, ↓pI, seval, eT, iR, e0, e2, e6', e9', e44, e45, e46, s6, s9, s900, s11, d11, d9, e11, e9, e900, d900, hlk]); (repeat with_reducible refine And.intro (by first | omega | (with_reducible exact lens) | (simp [maxLen_eq] <;> omega)) ?_); (try (with_reducible refine hK _ ?_; clear hK K))))
        with_reducible refine Wp ?_
        simp only [go_sem, fN, ↓gI, ↓pI, seval, true_implies, false_implies, implies_true, dT, dF, nL, hge]
        (try with_reducible refine iC ?_)
        repeat' (first | (with_reducible first | refine W ?_ | refine Wk (by decide) ?_) | ((with_reducible first | refine Wo (fun K hK => ?_) | refine Wq ?_ | refine Wr ?_); (try simp only [go_sem, fN, ↓gI, ↓pI, seval, eT, iR, e0, e2, e6', e9', e44, e45, e46, s6, s9, s900, s11, d11, d9, e11]); (repeat with_reducible refine And.intro (by first | omega | (with_reducible exact lens) | (simp [maxLen_eq] <;> omega)) ?_); (try (with_reducible refine hK _ ?_; clear hK K))))
        refine then_normal ⟨t.args.length - (k + 1), by omega, k + 1, by omega, rfl, ?_⟩
        have hib : (a0 == 11) = false := by simp; omega
        have hrb : (r == 11) = false := by simp; omega
        have hzz : ((Tm.sizes ((t.args.take (k + 1)).map f) : Nat) : Int) = Tm.sizes ((t.args.take k).map f) + (f a).size := by omega
        refine ⟨by omega, ?_⟩
        simp only [go_sem, fN, ↓gI, ↓pI, seval, AS.drop, dropS, AC.clears, AC.clear, AC.highs, AC.high, Bool.not_false, Bool.true_and, Bool.and_self, AV.purge, AV.purges, AC.purge, ABlk.purge, List.contains_cons, List.contains_nil, Nat.reduceBEq, Bool.or_self, Bool.or_false, Bool.false_or, Bool.or_true, eT, iR, e0, e2, e6', e9', e44, e45, s6, s9, s900, d11, d9, e11, e9, e900, d900, d6, hib, hrb]
        refine ⟨by congr 3, by rw [take_snoc ha, List.map_append, List.map_append, List.map_cons, List.map_nil, List.map_cons, List.map_nil, encT_eq], ?_, fun i hi hne => ?_⟩
        · congr 5
          omega
        · have i9 : ¬ i = 9 := by omega
          have i11 : ¬ i = 11 := by omega
          have i900 : ¬ i = 900 := by omega
          have i11b : (i == 11) = false := by simp; omega
          simp only [go_sem, fN, ↓gI, ↓pI, seval, AS.drop, dropS, AC.clears, AC.clear, AC.highs, AC.high, Bool.not_false, Bool.true_and, Bool.and_self, AV.purge, AV.purges, AC.purge, ABlk.purge, List.contains_cons, List.contains_nil, Nat.reduceBEq, Bool.or_self, Bool.or_false, Bool.false_or, Bool.or_true, eT, iR, i9, i11, i11b, i900, hne]
          rw [hrest i hi hne]
          exact purgeS (by decide) fun b hb => (hS i b hb).2
      · have hno : ¬ ((Tm.mk t.name (t.args.map f)).size : Int) ≤ left := by rw [hu]; omega
        rw [fitIn_no hfit] at hcall
        refine ⟨_, _, hcall, ?_⟩
        repeat' (first | (with_reducible first | refine W ?_ | refine Wk (by decide) ?_) | ((with_reducible first | refine Wo (fun K hK => ?_) | refine Wq ?_ | refine Wr ?_); (try simp only [go_sem, fN, ↓gI, ↓pI, seval, eT, iR, e0, e2, e6', e9', e44, e45, e46, s6, s9, s900, s11, d11, d9, e11, e9, e900, d900, hlk]); (repeat with_reducible refine And.intro (by first | omega | (with_reducible exact lens) | (simp [maxLen_eq] <;> omega)) ?_); (try (with_reducible refine hK _ ?_; clear hK K))))
        with_reducible refine Wp ?_
        simp only [go_sem, fN, ↓gI, ↓pI, seval, true_implies, false_implies, implies_true, dT, dF, nL]
        (try with_reducible refine iC ?_)
        repeat' (first | (with_reducible first | refine W ?_ | refine Wk (by decide) ?_) | ((with_reducible first | refine Wo (fun K hK => ?_) | refine Wq ?_ | refine Wr ?_); (try simp only [go_sem, fN, ↓gI, ↓pI, seval, eT, iR, e0, e2, e6', e9', e44, e45, e46, s6, s9, s900, s11, d11, d9, e11, e6, d6, d900, e900]); (repeat with_reducible refine And.intro (by first | omega | (with_reducible exact lens) | (simp [maxLen_eq] <;> omega)) ?_); (try (with_reducible refine hK _ ?_; clear hK K))))
        rw [fitIn_no hno]
        refine finS_one (.agg [.st (.str ⟨#[]⟩), .full []]) hS ha0 (hhigh _) trivial ?_ ?_ ?_ fun i hi hne => ?_
        · simp only [go_sem, fN, ↓gI, ↓pI, seval, eT, iR, resAll, resOne, tupV, e6', s6, e6, e9, e11, e900, d6, d9, d11, d900]
        · simp only [go_sem, fN, ↓gI, ↓pI, seval, eT, iR, Tm.nil]
          rfl
        · simp only [go_sem, fN, ↓gI, ↓pI, seval, eT, iR, e6, e9, e11, e900]
        · have i6 : ¬ i = 6 := by omega
          have i9 : ¬ i = 9 := by omega
          have i11 : ¬ i = 11 := by omega
          have i900 : ¬ i = 900 := by omega
          simp only [go_sem, fN, ↓gI, ↓pI, seval, eT, iR, i6, i9, i11, i900, hne]
          exact hrest i hi hne
    · have hall : t.args.take k = t.args := List.take_of_length_le (by omega)
      rw [hall] at hlk s900 hsz sa
      have hyes : ((Tm.mk t.name (t.args.map f)).size : Int) ≤ left := by rw [hu]; omega
      repeat' (first | (with_reducible first | refine W ?_ | refine Wk (by decide) ?_) | ((with_reducible first | refine Wo (fun K hK => ?_) | refine Wq ?_ | refine Wr ?_); (try simp only [go_sem, fN, ↓gI, ↓pI, seval, eT, iR, e0, e2, e6', e9', e44, e45, e46, s6, s9, s900, s11, sa, hlt]); (repeat with_reducible refine And.intro (by first | omega | (with_reducible exact lens) | (simp [maxLen_eq] <;> omega)) ?_); (try (with_reducible refine hK _ ?_; clear hK K))))
      with_reducible refine Wp ?_
      simp only [go_sem, fN, ↓gI, ↓pI, seval, true_implies, false_implies, implies_true, dT, dF, nL, hlt]
      (try with_reducible refine iC ?_)
      repeat' (first | (with_reducible first | refine W ?_ | refine Wk (by decide) ?_) | ((with_reducible first | refine Wo (fun K hK => ?_) | refine Wq ?_ | refine Wr ?_); (try simp only [go_sem, fN, ↓gI, ↓pI, seval, eT, iR, e0, e2, e6', e9', e44, e45, e46, s6, s9, s900, s11, sa, d6]); (repeat with_reducible refine And.intro (by first | omega | (with_reducible exact lens) | (simp [maxLen_eq] <;> omega)) ?_); (try (with_reducible refine hK _ ?_; clear hK K))))
      rw [fitIn_yes hyes]
      refine finS_one (.agg [.st (.str t.name), .row 900 k]) hS ha0 (hhigh _) trivial ?_ ?_ ?_ fun i hi hne => ?_
      · simp only [go_sem, fN, ↓gI, ↓pI, seval, eT, iR, resAll, resOne, tupV, e6', s6]
      · simp only [go_sem, fN, ↓gI, ↓pI, seval, eT, iR, s900, hlk]
        rfl
      · simp only [go_sem, fN, ↓gI, ↓pI, seval, eT, iR, e6, sa, hu]
        rw [show left - 1 - (Tm.sizes (t.args.map f) : Int) = left - ((1 + Tm.sizes (t.args.map f) : Nat) : Int) by omega]
      · have i6 : ¬ i = 6 := by omega
        simp only [go_sem, fN, ↓gI, ↓pI, seval, eT, iR, i6]
        exact hrest i hi hne
theorem copyF_M (s : List Bd) (h40 : s.length ≤ 100000) (ho : Ordered s) (t : Tm) : ∀ (a0 r : Nat) (left : Int) (S : AStore), 1000 ≤ a0 → 1000 ≤ r → ¬ r = a0 → 0 ≤ left → left ≤ 1000000 → S a0 = some (mkBlkR r s.length left) → S r = some (rowBd s) →
    ACallsS Tryd.prog 31 [.one (.ptr a0 1 0 0), aTm t, aBool false] S (aTm (fitIn t left).1) (updE S a0 (some (mkBlkR r s.length (fitIn t left).2))) := by
  induction h : SizeOf.sizeOf t using Nat.strongRecOn generalizing t with
  | _ N ih =>
  subst h
  intro a0 r left S h1 h1' h1'' h2 h3 h4 h5
  have := copy_coreM s h40 ho false id t (fun h => by cases h) (fun a ha => ih _ (Tm.lt_of_arg ha) a rfl) a0 r left S h1 h1' h1'' h2 h3 h4 h5
  rw [List.map_id, Tm.eta] at this
  exact this
theorem copyT_M (s : List Bd) (h40 : s.length ≤ 100000) (ho : Ordered s) (t : Tm) (hv : ∀ b ∈ s, isVar b.1 = true) (hchk : t.chk = 0) : ∀ (a0 r : Nat) (left : Int) (S : AStore), 1000 ≤ a0 → 1000 ≤ r → ¬ r = a0 → 0 ≤ left → left ≤ 1000000 → S a0 = some (mkBlkR r s.length left) → S r = some (rowBd s) →
    ACallsS Tryd.prog 31 [.one (.ptr a0 1 0 0), aTm t, aBool true] S (aTm (fitIn (t.on s) left).1) (updE S a0 (some (mkBlkR r s.length (fitIn (t.on s) left).2))) := by
  induction h : SizeOf.sizeOf t using Nat.strongRecOn generalizing t with
  | _ N ih =>
  subst h
  intro a0 r left S ha0 hr0 hra h0 h1 hSa hSr
  obtain ⟨c1, c2⟩ := Tm.chk_args hchk
  cases hl : lookup s t.name with
  | none =>
    have := copy_coreM s h40 ho true (Tm.on s) t (fun _ => hl) (fun a ha => ih _ (Tm.lt_of_arg ha) a (c2 a ha) rfl) a0 r left S ha0 hr0 hra h0 h1 hSa hSr
    rw [← Tm.on_knot (.inl hl)] at this
    exact this
  | some x =>
    obtain ⟨b, hb, hbn, _⟩ := lookup_mem hl
    have hargs := c1 (by rw [← hbn]; exact hv b hb)
    rw [Tm.on_leaf hl hargs]
    refine acS_metaprune_subst_maker_copyM (Nat.le_of_ble_eq_true rfl) fun hS C hC => ?_
    have n4 : S 4 = none := clean_none hS (by omega)
    have n6 : S 6 = none := clean_none hS (by omega)
    have n7 : S 7 = none := clean_none hS (by omega)
    have e4 : ¬ a0 = 4 := by omega
    have e6 : ¬ a0 = 6 := by omega
    have e7 : ¬ a0 = 7 := by omega
    have d4 : ¬ 4 = a0 := by omega
    have d6 : ¬ 6 = a0 := by omega
    have d7 : ¬ 7 = a0 := by omega
    have f4 : ¬ r = 4 := by omega
    have f6 : ¬ r = 6 := by omega
    have f7 : ¬ r = 7 := by omega
    have hhigh : ∀ left, (mkBlkR r s.length left).high = true := fun left => by
      show ((AC.row r s.length).high && AC.highs [.st (.int .i64 left)]) = true
      rw [high_row hr0]
      rfl
    unfold ir_metaprune_subst_maker_copyM
    repeat' (first | (with_reducible first | refine W ?_ | refine Wk (by decide) ?_) | ((with_reducible first | refine Wo (fun K hK => ?_) | refine Wq ?_ | refine Wr ?_); (try simp only [go_sem, fN, ↓gI, ↓pI, seval, eT, iR, hSa, n4, n6, n7, d4, d6, d7, e4, e6, e7]); (repeat with_reducible refine And.intro (by first | omega | (with_reducible exact lens) | (simp [maxLen_eq] <;> omega)) ?_); (try (with_reducible refine hK _ ?_; clear hK K))))
    with_reducible refine Wp ?_
    simp only [go_sem, fN, ↓gI, ↓pI, seval, true_implies, false_implies, implies_true, dT, dF, nL]
    (try with_reducible refine iC ?_)
    repeat' (first | (with_reducible first | refine W ?_ | refine Wk (by decide) ?_) | ((with_reducible first | refine Wo (fun K hK => ?_) | refine Wq ?_ | refine Wr ?_); (try simp only [go_sem, fN, ↓gI, ↓pI, seval, eT, iR, hSa, n4, n6, n7, d4, d6, d7, e4, e6, e7]); (repeat with_reducible refine And.intro (by first | omega | (with_reducible exact lens) | (simp [maxLen_eq] <;> omega)) ?_); (try (with_reducible refine hK _ ?_; clear hK K))))
    refine ⟨_, [(r, rowBd s)], rows_one (by (simp only [go_sem, fN, ↓gI, ↓pI, seval, eT, iR, f4, f6, f7, hSr])), fun T hT => find_M s h40 ho t.name (up1 r) (up1_le r) (upS T) (by rw [upS_up, hT _ (List.mem_singleton.2 rfl)]; rfl), ?_⟩
    repeat' (first | (with_reducible first | refine W ?_ | refine Wk (by decide) ?_) | ((with_reducible first | refine Wo (fun K hK => ?_) | refine Wq ?_ | refine Wr ?_); (try simp only [go_sem, fN, ↓gI, ↓pI, seval, eT, iR, hl, n7]); (repeat with_reducible refine And.intro (by first | omega | (with_reducible exact lens) | (simp [maxLen_eq] <;> omega)) ?_); (try (with_reducible refine hK _ ?_; clear hK K))))
    with_reducible refine Wp ?_
    simp only [go_sem, fN, ↓gI, ↓pI, seval, true_implies, false_implies, implies_true, dT, dF, nL]
    (try with_reducible refine iC ?_)
    repeat' (first | (with_reducible first | refine W ?_ | refine Wk (by decide) ?_) | ((with_reducible first | refine Wo (fun K hK => ?_) | refine Wq ?_ | refine Wr ?_); (try simp only [go_sem, fN, ↓gI, ↓pI, seval, eT, iR, hSa, n4, n6, n7, d4, d6, d7, e4, e6, e7]); (repeat with_reducible refine And.intro (by first | omega | (with_reducible exact lens) | (simp [maxLen_eq] <;> omega)) ?_); (try (with_reducible refine hK _ ?_; clear hK K))))
    have hcall := fun S' h h' => copyF_M s h40 ho x (up1 a0) (up1 r) left S' (up1_le a0) (up1_le r) (by unfold up1; omega) h0 h1 h h'
    refine ⟨_, _, hcall _ (by rw [upS_up]; (simp only [go_sem, fN, ↓gI, ↓pI, seval, eT, iR, e4, e6, e7, hSa])) (by rw [upS_up]; (simp only [go_sem, fN, ↓gI, ↓pI, seval, eT, iR, f4, f6, f7, hSr])), ?_⟩
    repeat' (first | (with_reducible first | refine W ?_ | refine Wk (by decide) ?_) | ((with_reducible first | refine Wo (fun K hK => ?_) | refine Wq ?_ | refine Wr ?_); (try simp only [go_sem, fN, ↓gI, ↓pI, seval, eT, iR, e4, e6, e7, d4, d6, d7]); (repeat with_reducible refine And.intro (by first | omega | (with_reducible exact lens) | (simp [maxLen_eq] <;> omega)) ?_); (try (with_reducible refine hK _ ?_; clear hK K))))
    refine finS_one (aTm (fitIn x left).1) hS ha0 (hhigh _) trivial ?_ ?_ ?_ fun i hi hne => ?_
    · simp only [go_sem, fN, ↓gI, ↓pI, seval, eT, iR, resAll, resOne, tupV, e4, e6, e7, d4, d6, d7]
    · simp only [go_sem, fN, ↓gI, ↓pI, seval, eT, iR]
    · simp only [go_sem, fN, ↓gI, ↓pI, seval, eT, iR, e4, e6, e7]
    · have i4 : ¬ i = 4 := by omega
      have i6 : ¬ i = 6 := by omega
      have i7 : ¬ i = 7 := by omega
      simp only [go_sem, fN, ↓gI, ↓pI, seval, eT, iR, i4, i6, i7, hne]
theorem on_M (s : List Bd) (h40 : s.length ≤ 100000) (ho : Ordered s) (t : Tm) (hv : ∀ b ∈ s, isVar b.1 = true) (hchk : t.chk = 0) (r : Nat) (hr : 1000 ≤ r) (S : AStore) (sr : S r = some (rowBd s)) :
    ACallsS Tryd.prog 16 [.one (.row r s.length), aTm t] S (.tup [aTm (onTo s t).1, aBool (onTo s t).2]) S := by
  refine acS_subst_OnM (Nat.le_of_ble_eq_true rfl) fun hS C hC => ?_
  unfold ir_subst_OnM
  have n3 : S 3 = none := clean_none hS (by omega)
  have n4 : S 4 = none := clean_none hS (by omega)
  have n7 : S 7 = none := clean_none hS (by omega)
  have n10 : S 10 = none := clean_none hS (by omega)
  have r3 : ¬ r = 3 := by omega
  have r4 : ¬ r = 4 := by omega
  have r7 : ¬ r = 7 := by omega
  have r10 : ¬ r = 10 := by omega
  repeat' (first | (with_reducible first | refine W ?_ | refine Wk (by decide) ?_) | ((with_reducible first | refine Wo (fun K hK => ?_) | refine Wq ?_ | refine Wr ?_); (try simp only [go_sem, fN, ↓gI, ↓pI, seval, eT, iR, n3, n4, n7, n10]); (repeat with_reducible refine And.intro (by first | omega | (with_reducible exact lens) | (simp [maxLen_eq] <;> omega)) ?_); (try (with_reducible refine hK _ ?_; clear hK K))))
  have hcall := fun S' h h' => copyT_M s h40 ho t hv hchk (up1 10) (up1 r) 2000 S' (up1_le 10) (up1_le r) (by unfold up1; omega) (by omega) (by omega) h h'
  refine ⟨_, _, hcall _ (by rw [upS_up]; rfl) (by rw [upS_up]; (simp only [go_sem, fN, ↓gI, ↓pI, seval, eT, iR, r3, r4, r10, sr])), ?_⟩
  by_cases hfit : ((t.on s).size : Int) ≤ 2000
  · have e : onTo s t = (t.on s, true) := by
      unfold onTo
      rw [if_pos (by omega)]
    rw [fitIn_yes hfit]
    have hge : (0 : Int) ≤ 2000 - (t.on s).size := by omega
    repeat' (first | (with_reducible first | refine W ?_ | refine Wk (by decide) ?_) | ((with_reducible first | refine Wo (fun K hK => ?_) | refine Wq ?_ | refine Wr ?_); (try simp only [go_sem, fN, ↓gI, ↓pI, seval, eT, iR, hge, n7]); (repeat with_reducible refine And.intro (by first | omega | (with_reducible exact lens) | (simp [maxLen_eq] <;> omega)) ?_); (try (with_reducible refine hK _ ?_; clear hK K))))
    rw [e]
    refine finS_same (.tup [aTm (t.on s), aBool true]) hS trivial ?_ ?_ fun k hk => ?_
    · simp only [go_sem, fN, ↓gI, ↓pI, seval, eT, iR, resAll, resOne, tupV]
    · simp only [go_sem, fN, ↓gI, ↓pI, seval, eT, iR]
    · have k3 : ¬ k = 3 := by omega
      have k4 : ¬ k = 4 := by omega
      have k7 : ¬ k = 7 := by omega
      have k10 : ¬ k = 10 := by omega
      simp only [go_sem, fN, ↓gI, ↓pI, seval, eT, iR, k3, k4, k7, k10]
  · have e : onTo s t = (Tm.nil, false) := by
      unfold onTo
      rw [if_neg (by omega)]
    rw [fitIn_no hfit]
    repeat' (first | (with_reducible first | refine W ?_ | refine Wk (by decide) ?_) | ((with_reducible first | refine Wo (fun K hK => ?_) | refine Wq ?_ | refine Wr ?_); (try simp only [go_sem, fN, ↓gI, ↓pI, seval, eT, iR, n7]); (repeat with_reducible refine And.intro (by first | omega | (with_reducible exact lens) | (simp [maxLen_eq] <;> omega)) ?_); (try (with_reducible refine hK _ ?_; clear hK K))))
    rw [e]
    refine finS_same (.tup [aTm Tm.nil, aBool false]) hS trivial ?_ ?_ fun k hk => ?_
    · simp only [go_sem, fN, ↓gI, ↓pI, seval, eT, iR, resAll, resOne, tupV]
    · simp only [go_sem, fN, ↓gI, ↓pI, seval, eT, iR]
    · have k3 : ¬ k = 3 := by omega
      have k4 : ¬ k = 4 := by omega
      have k7 : ¬ k = 7 := by omega
      have k10 : ¬ k = 10 := by omega
      simp only [go_sem, fN, ↓gI, ↓pI, seval, eT, iR, k3, k4, k7, k10]
end Go.Proofs.YtehnjhkndbcmgaaDoor

namespace Go.Proofs.YtehnjhkndbcmgaaDoor
open Go Go.RowKit
set_option maxRecDepth 100000
def ir_subst_SortM : IR :=
  (.seq (.ops [.i 2 (.mov (.c (.one (.full []))))]) (.seq (.ops [.i 3 (.mov (.t 0)), .i 4 (.callS 40 [.t 3, .c (.one (.fn 41 []))])]) (.seq (.ops [.i 5 (.mov (.t 0)), .i 2 (.mov (.t 5))]) .ret)))
theorem tr_subst_SortM : trCode Tryd.prog 6 [4] (Tryd.f30.body.getD .skip) = some ir_subst_SortM := by kernel_rfl
theorem acS_subst_SortM {xs : List AV} {S S' : AStore} {r : AV} (hn : xs.length ≤ 6) (h : Clean S → ∀ C : Ctx, C.n = 6 → IWP Tryd.prog C [4] ir_subst_SortM (FinS C [.t 2] r S') (AS.startS xs S)) : ACallsS Tryd.prog 30 xs S r S' :=
  acallsS_of Tryd.func30 rfl tr_subst_SortM rfl hn h
end Go.Proofs.YtehnjhkndbcmgaaDoor

namespace Go.Proofs.YtehnjhkndbcmgaaDoor
open Go Go.RowKit Go.Lib Go.Sort Go.Shelf
set_option linter.unusedVariables false
set_option linter.unusedSimpArgs false
set_option maxHeartbeats 1000000
theorem run_gtr {P : Program} {w : World} (t : TypeId) (x y : ByteArray) : (binOp .gtr t (.string x) (.string y)).run P w = .ok (.bool (!(sLt x y || decide (x = y)))) w := by
  simp only [binOp, Op.stringOp, toList_eq_iff]
  rfl
attribute [go_sem] run_gtr
theorem isNaN_C (s : ByteArray) (W : World) : Calls Tryd.prog 49 #[.string s] W fun e w' => e = .returned (.bool false) ∧ w' = W := by
  go_enter Tryd.func49, Tryd.ntmps49
  go_wp2_with fail
  go_ret
  exact ⟨rfl, rfl⟩
theorem compare_C (a b : ByteArray) (W : World) : Calls Tryd.prog 42 #[.string a, .string b] W fun e w' => e = .returned (.int .i64 (cmpI a b)) ∧ w' = W := by
  have h1 := isNaN_C
  have hl : sLt a b = Op.bytesLess a.toList b.toList := rfl
  have hc : cmpI a b = if sLt a b = true then -1 else if a = b then 0 else 1 := rfl
  generalize cmpI a b = r at hc ⊢
  go_enter Tryd.func42, Tryd.ntmps42
  go_wp2_with (go_at_call 49; refine (h1 _ _).mono ?_; rintro e w' ⟨rfl, rfl⟩)
  all_goals go_ret
  all_goals refine ⟨?_, rfl⟩
  all_goals simp_all
abbrev SCell := ByteArray × ByteArray × Option Addr × Nat × Nat
def encSC (x : SCell) : List Value := [.string x.1, .string x.2.1, .slice x.2.2.1 x.2.2.2.1 x.2.2.2.2]
theorem sort1_C (x y : SCell) (W : World) : Calls Tryd.prog 41 #[.agg (encSC x).toArray, .agg (encSC y).toArray] W fun e w' => e = .returned (.int .i64 (cmpI x.1 y.1)) ∧ ∃ q os', w' = grow (W.drewN q) os' := by
  have hcon := fun W' => compare_C x.1 y.1 W'
  generalize cmpI x.1 y.1 = r at hcon ⊢
  unfold encSC
  go_enter Tryd.func41, Tryd.ntmps41
  go_wp2_with (go_at_call 42; refine (hcon _).mono ?_; rintro e w' ⟨rfl, rfl⟩)
  go_ret
  exact ⟨rfl, 0, _, by rw [alloc_eq_grow, alloc_eq_grow, grow_grow]; rfl⟩
theorem swo_names : SWO (ltOf fun x y : SCell => cmpI x.1 y.1) where
  irrefl x := by
    simp only [ltOf, decide_eq_false_iff_not]
    intro h
    have := cmpI_neg.1 h
    rw [sLt_irrefl] at this
    cases this
  trans x y z h k := by
    simp only [ltOf, decide_eq_true_eq] at *
    exact cmpI_neg.2 (sLt_trans (cmpI_neg.1 h) (cmpI_neg.1 k))
  ntrans x y z h k := by
    simp only [ltOf, decide_eq_false_iff_not] at *
    intro e
    have e := cmpI_neg.1 e
    have h : sLt x.1 y.1 = false := by
      cases hx : sLt x.1 y.1 with
      | false => rfl
      | true => exact absurd (cmpI_neg.2 hx) h
    have k : sLt y.1 z.1 = false := by
      cases hx : sLt y.1 z.1 with
      | false => rfl
      | true => exact absurd (cmpI_neg.2 hx) k
    rcases sLt_total y.1 z.1 with q | q | q
    · rw [q] at k; cases k
    · rw [q] at h; rw [e] at h; cases h
    · have := sLt_trans e q
      rw [this] at h
      cases h
def CellIs (σ : Sto) (x : SCell) (b : Bd) : Prop := x.1 = b.1 ∧ All2 (SRep σ) (encSC x) (encB b)
theorem all2_perm {α β : Type} {R : α → β → Prop} {l1 l2 : List α} (hp : l1.Perm l2) : ∀ {m1 : List β}, All2 R l1 m1 → ∃ m2, All2 R l2 m2 ∧ m1.Perm m2 := by
  induction hp with
  | nil => intro m1 h; exact ⟨m1, h, List.Perm.refl _⟩
  | cons x _ ih =>
    intro m1 h
    cases h with
    | cons h1 h2 =>
      obtain ⟨m2, q1, q2⟩ := ih h2
      exact ⟨_ :: m2, .cons h1 q1, q2.cons _⟩
  | swap x y l =>
    intro m1 h
    cases h with
    | cons h1 h2 =>
      cases h2 with
      | cons h2 h3 => exact ⟨_, .cons h2 (.cons h1 h3), List.Perm.swap _ _ _⟩
  | trans _ _ ih1 ih2 =>
    intro m1 h
    obtain ⟨m2, q1, q2⟩ := ih1 h
    obtain ⟨m3, q3, q4⟩ := ih2 q1
    exact ⟨m3, q3, q2.trans q4⟩
theorem cell_is {σ : Sto} {b : Bd} {v1 v2 v3 : Value} (h1 : SRep σ v1 (.str b.1)) (h2 : SRep σ v2 (.str b.2.name)) (h3 : SRep σ v3 (.list (b.2.args.map encT))) : ∃ x : SCell, [v1, v2, v3] = encSC x ∧ CellIs σ x b := by
  have e1 := (vrep_str (S := noS) (ι := noH) (.one (.st h1))).1
  have e2 := (vrep_str (S := noS) (ι := noH) (.one (.st h2))).1
  obtain ⟨p, cap, e3, _⟩ := srep_slice h3
  subst e1 e2 e3
  exact ⟨(b.1, b.2.name, p, _, cap), rfl, rfl, .cons h1 (.cons h2 (.cons h3 .nil))⟩
theorem sort_cells {σ : Sto} {vs : Array Value} : ∀ (l : List Bd) (base : Nat), (∀ k b, l[k]? = some b → ∀ j a, (encB b)[j]? = some a → ∃ v, vs[base + k * 3 + j]? = some v ∧ SRep σ v a) →
    ∃ d : List SCell, All2 (CellIs σ) d l ∧ ∀ k x j v, d[k]? = some x → (encSC x)[j]? = some v → vs[base + k * 3 + j]? = some v
  | [], base, _ => ⟨[], .nil, by simp⟩
  | b :: l, base, h => by
    obtain ⟨d, d1, d2⟩ := sort_cells l (base + 3) (fun k c hc j a ha => by
      obtain ⟨v, v1, v2⟩ := h (k + 1) c (by simpa using hc) j a ha
      exact ⟨v, by rw [← v1]; congr 1; omega, v2⟩)
    obtain ⟨u1, p1, q1⟩ := h 0 b rfl 0 _ rfl
    obtain ⟨u2, p2, q2⟩ := h 0 b rfl 1 _ rfl
    obtain ⟨u3, p3, q3⟩ := h 0 b rfl 2 _ rfl
    obtain ⟨x, x1, x2⟩ := cell_is q1 q2 q3
    refine ⟨x :: d, .cons x2 d1, fun k y j v hy hv => ?_⟩
    cases k with
    | zero =>
      simp only [List.getElem?_cons_zero, Option.some.injEq] at hy
      subst hy
      rw [← x1] at hv
      match j, hv with
      | 0, hv => cases hv; exact p1
      | 1, hv => cases hv; exact p2
      | 2, hv => cases hv; exact p3
      | j + 3, hv => simp at hv
    | succ k =>
      have := d2 k y j v (by simpa using hy) hv
      rw [← this]
      congr 1
      omega
theorem encSC_len (x : SCell) : (encSC x).length = 3 := rfl
theorem flat_get {d : Array SCell} {t : Nat} (h : t < d.size * 3) : ∃ x v, d[t / 3]? = some x ∧ (encSC x)[t % 3]? = some v ∧ (flatK encSC 3 d)[t]! = v := by
  have hk : t / 3 < d.size := by omega
  have hj : t % 3 < (encSC d[t / 3]).length := by rw [encSC_len]; omega
  refine ⟨d[t / 3], (encSC d[t / 3])[t % 3], Array.getElem?_eq_getElem hk, List.getElem?_eq_getElem hj, ?_⟩
  rw [get_flatK _ _ _ _ h, getElem!_pos d (t / 3) hk, getElem!_pos (encSC d[t / 3]) (t % 3) hj]
theorem sort_heap (w : World) (g n : Nat) (d : Array SCell) (os : Array Obj) (vs : Array Value) (e : TypeId) (hg : w.heap[g]? = some (.cells vs e (0, 0))) :
    (sortWorldK encSC 3 w g 0 n d os).heap[g]? = some (.cells (putCells id 0 (flatK encSC 3 d) vs) e (0, 0)) ∧ (∀ k, k < w.heap.size → k ≠ g → (sortWorldK encSC 3 w g 0 n d os).heap[k]? = w.heap[k]?) ∧ w.heap.size ≤ (sortWorldK encSC 3 w g 0 n d os).heap.size := by
  have hlt := (Array.getElem?_eq_some_iff.1 hg).1
  have hsz : (putRowK encSC 3 (Sort.ahead w n) g 0 d).heap.size = w.heap.size := by simp [putRowK, putRow, mapBlock, Sort.ahead]
  refine ⟨?_, fun k hk hne => ?_, ?_⟩
  · unfold sortWorldK
    rw [heap_grow_old _ _ (by rw [hsz]; exact hlt)]
    simp [putRowK, putRow, mapBlock, Sort.ahead, Array.getElem?_modify, hg, onCells]
  · unfold sortWorldK
    rw [heap_grow_old _ _ (by rw [hsz]; exact hk)]
    simp [putRowK, putRow, mapBlock, Sort.ahead, Array.getElem?_modify, Ne.symm hne]
  · unfold sortWorldK
    rw [Go.Sort.size_grow, hsz]
    omega
theorem put_get {d : Array SCell} {vs : Array Value} (hs : d.size * 3 ≤ vs.size) {k : Nat} {x : SCell} {j : Nat} {v : Value} (hx : d[k]? = some x) (hv : (encSC x)[j]? = some v) : (putCells id 0 (flatK encSC 3 d) vs)[k * 3 + j]? = some v := by
  have hk := (Array.getElem?_eq_some_iff.1 hx).1
  have hj : j < 3 := by have := (List.getElem?_eq_some_iff.1 hv).1; rw [encSC_len] at this; exact this
  have hlt : k * 3 + j < d.size * 3 := by omega
  obtain ⟨y, u, h1, h2, h3⟩ := flat_get hlt
  have e1 : (k * 3 + j) / 3 = k := by omega
  have e2 : (k * 3 + j) % 3 = j := by omega
  rw [e1, hx] at h1
  cases h1
  rw [e2, hv] at h2
  cases h2
  unfold putCells
  rw [Array.getElem?_mapIdx, Array.getElem?_eq_getElem (by omega), Option.map_some, if_pos (by rw [size_flatK]; omega)]
  simp only [Nat.sub_zero, id, h3]
theorem put_size (d : Array SCell) (vs : Array Value) : (putCells id 0 (flatK encSC 3 d) vs).size = vs.size := by simp [putCells]
theorem updE_eq {S : AStore} {r : Nat} {b : ABlk} (h : S r = some b) : updE S r (some b) = S := by
  funext k
  unfold updE
  split
  · rename_i e; rw [e, h]
  · rfl
theorem put_other {d : Array SCell} {vs : Array Value} {t : Nat} (h : d.size * 3 ≤ t) : (putCells id 0 (flatK encSC 3 d) vs)[t]? = vs[t]? := by
  unfold putCells
  rw [Array.getElem?_mapIdx]
  cases hv : vs[t]? with
  | none => rfl
  | some v => rw [Option.map_some, if_neg (by rw [size_flatK]; omega)]
abbrev rowBy (l : List Bd) (ys : List (List SV)) : ABlk := .mrow 72 3 (l.map encB ++ ys)
theorem sort_core (l : List Bd) (ys : List (List SV)) (hys : ∀ y ∈ ys, y.length = 3) (hn : Named l) (hl : l.length ≤ 100000) (r : Nat) (hr : 1000 ≤ r) (S : AStore) (sr : S r = some (rowBy l ys)) (hS : Clean S) (σ : Sto) (w : World) (ι : AHnd) (hF : Fit σ w) (hO : Owned σ S ι w) :
    Calls Tryd.prog 40 #[.slice (ι r).p l.length (ι r).cap, .func (.func 41) #[] #[]] w fun e w' => ∃ v σ' ι', e = .returned v ∧ Clean (updE S r (some (rowBy (sortB l) ys))) ∧ Upd S ι (updE S r (some (rowBy (sortB l) ys))) ι' ∧ Owned σ' (updE S r (some (rowBy (sortB l) ys))) ι' w' ∧ VRep σ' (updE S r (some (rowBy (sortB l) ys))) ι' v (.tup []) ∧ Fit σ' w' ∧ (∀ p x, σ p = some x → σ' p = some x) ∧
      (∀ p : Addr, p.block < w.heap.size → notOf S ι p.block → σ' p = σ p) ∧ (w'.os = w.os ∧ w'.tape = w.tape ∧ w'.output = w.output) ∧ w.heap.size ≤ w'.heap.size ∧
      (∀ g, g < w.heap.size → notOf S ι g → w'.heap[g]? = w.heap[g]?) ∧ (∀ id b g, updE S r (some (rowBy (sortB l) ys)) id = some b → (ι' id).g = some g → w.heap.size ≤ g ∨ ¬ notOf S ι g) := by
  have hS' : Clean (updE S r (some (rowBy (sortB l) ys))) := clean_upd hS hr rfl
  have hb : BRep σ S ι w (ι r) (.mrow 72 3 (l.map encB ++ ys)) := hO.1 r _ sr
  generalize hxs : l.map encB ++ ys = xs at hb
  have hlen : xs.length = l.length + ys.length := by rw [← hxs, List.length_append, List.length_map]
  generalize hh : ι r = hd at hb
  cases hb with
  | mnil k1 k2 =>
    obtain ⟨hl0, hy0⟩ : l = [] ∧ ys = [] := by simpa using hxs
    subst hl0 hy0
    refine (AnyF.slices_SortFunc_none Tryd.sortBd hd.p hd.cap _ w).mono fun e w' ⟨he, hw⟩ => ?_
    subst hw
    have hid : updE S r (some (rowBy (sortB []) [])) = S := updE_eq sr
    rw [hid]
    exact ⟨_, σ, ι, he, hS, Upd.refl _ _, hO, .tup (fun _ => undef) rfl (by simp) (by simp), hF, fun _ _ h => h, fun _ _ _ => rfl, ⟨rfl, rfl, rfl⟩, Nat.le_refl _, fun _ _ _ => rfl, fun id b g h1 h2 => .inr fun hno => hno id b h1 h2⟩
  | @mrow _ _ _ g cs k1 k2 k3 k4 k5 k6 k7 k8 k9 =>
    subst hxs
    obtain ⟨d, d1, d2⟩ := sort_cells (σ := σ) (vs := cs) l 0 (fun k b hb j a ha => by
      obtain ⟨v, v1, v2⟩ := k8 k (encB b) j a (by rw [List.getElem?_append_left (by rw [List.length_map]; exact lt_of_get hb), List.getElem?_map, hb]; rfl) ha
      exact ⟨v, by rw [Nat.zero_add]; exact v1, v2⟩)
    have dlen : d.length = l.length := d1.len
    have hcap : l.length ≤ hd.cap := by omega
    have hfits : d.toArray.size * 3 ≤ cs.size := by
      rw [k6]
      simp only [List.size_toArray, dlen]
      exact Nat.mul_le_mul_right 3 hcap
    have hH : HoldsK encSC 3 w g 0 d.toArray := fun j hj => by
      rw [size_flatK] at hj
      obtain ⟨x, v, q1, q2, q3⟩ := flat_get hj
      have q1 : d[j / 3]? = some x := by simpa using q1
      have hc := d2 _ _ _ _ q1 q2
      have e : 0 + j / 3 * 3 + j % 3 = j := by omega
      rw [e] at hc
      refine ⟨?_, ?_⟩
      · rw [cell_of_row w g _ _ _ _ k3, Nat.zero_add, hc, q3]
        rfl
      · exact Blk.frozen k3 _
    have eg : ∀ args w, (callFunc 41 args).run Tryd.prog w = .ok (.enter 41 args) w := enters_of Tryd.func41 (by kernel_rfl) rfl
    have hgl : g < w.heap.size := (Array.getElem?_eq_some_iff.1 k3).1
    have hcon := AnyQ.slices_SortFunc Tryd.sortBd 3 Tryd.isAgg72 Tryd.sizeOf72 encSC encSC_len (fun x v hv => by simp [encSC] at hv; rcases hv with rfl | rfl | rfl <;> rfl) (fun x y : SCell => cmpI x.1 y.1) swo_names 41 #[] g 0 hd.cap d.toArray w eg (fun _ _ _ _ x y => sort1_C x y _) hH hgl (by simp [dlen]; omega)
    rw [show d.toArray.size = l.length by simp [dlen]] at hcon
    rw [k2, show (l.length) = l.length from rfl]
    refine Calls.mono hcon fun e w' ⟨he, d', n, os, hp, hs, hw⟩ => ?_
    obtain ⟨hp1, hp2, hp3⟩ := hp
    have hd'l : d'.size = l.length := by rw [hp1]; simp [dlen]
    have hperm : d.Perm d'.toList := by
      have e1 : d'.extract 0 l.length = d' := by rw [← hd'l]; exact Array.extract_size
      have e2 : d.toArray.extract 0 l.length = d.toArray := by
        rw [show l.length = d.toArray.size by simp [dlen]]
        exact Array.extract_size
      rw [e1, e2] at hp3
      exact hp3.symm
    obtain ⟨l', l1, l2⟩ := all2_perm hperm d1
    have hl'len : l'.length = l.length := l2.length_eq.symm
    have hord : Ordered l' := by
      unfold Ordered
      rw [List.pairwise_iff_getElem]
      intro i j hi hj hij
      obtain ⟨x, x1, x2, _⟩ := l1.get (List.getElem?_eq_getElem hi)
      obtain ⟨y, y1, y2, _⟩ := l1.get (List.getElem?_eq_getElem hj)
      have hso := hs i j (Nat.zero_le _) hij (by omega)
      have e1 : d'[i]! = x := by
        rw [Array.getElem?_toList] at x1
        rw [getElem!_def, x1]
      have e2 : d'[j]! = y := by
        rw [Array.getElem?_toList] at y1
        rw [getElem!_def, y1]
      rw [e1, e2] at hso
      simp only [ltOf, decide_eq_false_iff_not] at hso
      have hno : sLt l'[j].1 l'[i].1 = false := by
        cases hx : sLt l'[j].1 l'[i].1 with
        | false => rfl
        | true => exact absurd (cmpI_neg.2 (by rw [x2, y2]; exact hx)) hso
      have hdiff : l'[i].1 ≠ l'[j].1 := by
        have hn' := named_perm l2 hn
        unfold Named at hn'
        rw [List.nodup_iff_pairwise_ne, List.pairwise_map, List.pairwise_iff_getElem] at hn'
        exact hn' i j hi hj hij
      rcases sLt_total l'[i].1 l'[j].1 with q | q | q
      · exact q
      · exact absurd q hdiff
      · rw [q] at hno; cases hno
    have hl' : l' = sortB l := ordered_unique hord (sortB_ordered hn) ((l2.symm).trans (sortB_perm l).symm)
    subst hl'
    obtain ⟨w1, w2, w3⟩ := sort_heap w g n d' os cs _ k3
    rw [← hw] at w1 w2 w3
    have hfits' : d'.size * 3 ≤ cs.size := by rw [hd'l]; rw [← dlen]; simpa using hfits
    have hupd : Upd S ι (updE S r (some (rowBy (sortB l) ys))) ι := fun id b hb => by
      by_cases e : id = r
      · subst e
        rw [sr] at hb
        cases hb
        exact ⟨_, updE_same _ _ _, by simp [ABlk.len, sortB_length], fun _ => ⟨rfl, rfl⟩⟩
      · exact ⟨b, by rw [updE_ne _ e]; exact hb, Nat.le_refl _, fun _ => ⟨rfl, rfl⟩⟩
    have hotherg : ∀ id b g', id ≠ r → S id = some b → (ι id).g = some g' → g' ≠ g := fun id b g' hne hb hg' e => by
      subst e
      exact hne (hO.2 id r b _ g' hb sr hg' (by rw [hh]; exact k1))
    have hFit : Fit σ w' := fun p x hp => by
      have hlt := hF.lt hp
      by_cases e : p.block = g
      · rw [k9 p e] at hp; cases hp
      · exact (look_of_block (w2 _ hlt e)).trans (hF p x hp)
    refine ⟨_, σ, ι, he, hS', hupd, ⟨fun id b hb => ?_, fun id id' b b' g' q1 q2 q3 q4 => ?_⟩, .tup (fun _ => undef) rfl (by simp) (by simp), hFit, fun _ _ h => h, fun _ _ _ => rfl, ?_, w3, fun g' q1 q2 => ?_, fun id b g' q1 q2 => ?_⟩
    · by_cases e : id = r
      · subst e
        rw [updE_same] at hb
        cases hb
        rw [hh]
        have hlen' : ((sortB l).map encB ++ ys).length = l.length + ys.length := by rw [List.length_append, List.length_map, sortB_length]
        refine .mrow k1 k2 w1 (by rw [hlen', ← hlen]; exact k4) k5 (by rw [put_size]; exact k6) (fun x hx => ?_) (fun k x j a hx ha => ?_) k9
        · rcases List.mem_append.1 hx with hx | hx
          · exact lens_encB x hx
          · exact hys x hx
        rcases Nat.lt_or_ge k l.length with hk | hk
        · rw [List.getElem?_append_left (by rw [List.length_map, sortB_length]; exact hk), List.getElem?_map, Option.map_eq_some_iff] at hx
          obtain ⟨b, hb, rfl⟩ := hx
          obtain ⟨y, y1, y2, y3⟩ := l1.get hb
          obtain ⟨v, v1, v2⟩ := y3.get ha
          exact ⟨v, put_get hfits' (by simpa using y1) v1, v2⟩
        · rw [List.getElem?_append_right (by rw [List.length_map, sortB_length]; exact hk), List.length_map, sortB_length] at hx
          obtain ⟨v, v1, v2⟩ := k8 k x j a (by rw [List.getElem?_append_right (by rw [List.length_map]; exact hk), List.length_map]; exact hx) ha
          exact ⟨v, by rw [put_other (by rw [hd'l]; omega)]; exact v1, v2⟩
      · rw [updE_ne _ e] at hb
        refine (hO.1 id b hb).mono (fun _ _ h => h) hupd (fun g' hg' => w2 g' ((hO.1 id b hb).gsome hg') (hotherg id b g' e hb hg')) (fun _ _ _ _ => rfl)
    · have back : ∀ i c, updE S r (some (rowBy (sortB l) ys)) i = some c → ∃ c', S i = some c' := fun i c hc => by
        by_cases e : i = r
        · subst e; exact ⟨_, sr⟩
        · rw [updE_ne _ e] at hc; exact ⟨c, hc⟩
      obtain ⟨c1, c1'⟩ := back _ _ q1
      obtain ⟨c2, c2'⟩ := back _ _ q2
      exact hO.2 _ _ _ _ _ c1' c2' q3 q4
    · rw [hw]
      exact ⟨rfl, rfl, rfl⟩
    · exact w2 g' q1 fun e => q2 r _ sr (by rw [hh, e]; exact k1)
    · refine .inr fun hno => ?_
      by_cases e : id = r
      · subst e; exact hno id _ sr q2
      · rw [updE_ne _ e] at q1; exact hno id _ q1 q2
theorem sortFunc_M (l : List Bd) (hn : Named l) (hl : l.length ≤ 100000) (r : Nat) (hr : 1000 ≤ r) (S : AStore) (sr : S r = some (rowBd l)) :
    ACallsS Tryd.prog 40 [.one (.row r l.length), .one (.fn 41 [])] S (.tup []) (updE S r (some (rowBd (sortB l)))) := by
  intro hS σ w vs ι hG hF hO hv
  cases hv with
  | @cons v1 _ _ _ h1 hv =>
  cases hv with
  | @cons v2 _ _ _ h2 hv =>
  cases hv
  obtain ⟨b, b1, b2, b3⟩ := arep_row (vrep_one h1)
  rw [sr] at b1
  cases b1
  have hv1 := b3 (by simp [ABlk.len])
  subst hv1
  have hv2 : v2 = .func (.func 41) #[] #[] := by
    cases vrep_one h2 with
    | @fn _ vs _ c q1 q2 q3 =>
      have e : vs = #[] := Array.eq_empty_of_size_eq_zero (by simpa using q1)
      rw [e]
  subst hv2
  have e : ∀ m : List Bd, rowBd m = rowBy m [] := fun m => by rw [rowBy, List.append_nil]
  rw [e] at sr ⊢
  exact sort_core l [] (by simp) hn hl r hr S sr hS σ w ι hF hO
theorem sort_M (l : List Bd) (hn : Named l) (hl : l.length ≤ 100000) (r : Nat) (hr : 1000 ≤ r) (S : AStore) (sr : S r = some (rowBd l)) :
    ACallsS Tryd.prog 30 [.one (.row r l.length)] S (.one (.row r l.length)) (updE S r (some (rowBd (sortB l)))) := by
  refine acS_subst_SortM (Nat.le_of_ble_eq_true rfl) fun hS C hC => ?_
  unfold ir_subst_SortM
  repeat' (first | (with_reducible first | refine W ?_ | refine Wk (by decide) ?_) | ((with_reducible first | refine Wo (fun K hK => ?_) | refine Wq ?_ | refine Wr ?_); (try simp only [go_sem, fN, ↓gI, ↓pI, seval, eT, iR]); (repeat with_reducible refine And.intro (by first | omega | (with_reducible exact lens) | (simp [maxLen_eq] <;> omega)) ?_); (try (with_reducible refine hK _ ?_; clear hK K))))
  refine ⟨_, _, sortFunc_M l hn hl (up1 r) (up1_le r) (upS S) (by rw [upS_up, sr]; rfl), ?_⟩
  repeat' (first | (with_reducible first | refine W ?_ | refine Wk (by decide) ?_) | ((with_reducible first | refine Wo (fun K hK => ?_) | refine Wq ?_ | refine Wr ?_); (try simp only [go_sem, fN, ↓gI, ↓pI, seval, eT, iR]); (repeat with_reducible refine And.intro (by first | omega | (with_reducible exact lens) | (simp [maxLen_eq] <;> omega)) ?_); (try (with_reducible refine hK _ ?_; clear hK K))))
  have hc := clean_upd (b := rowBd (sortB l)) hS hr rfl
  refine finS_high trivial ?_ (high_row (n := l.length) hr) (fun i b _ h => (hc i b h).2) (lowS_clean hc) hc
  simp only [go_sem, fN, ↓gI, ↓pI, seval, eT, iR, resAll, resOne, tupV]
end Go.Proofs.YtehnjhkndbcmgaaDoor

namespace Go.Proofs.YtehnjhkndbcmgaaDoor
open Go Go.RowKit
set_option maxRecDepth 100000
end Go.Proofs.YtehnjhkndbcmgaaDoor

namespace Go.Proofs.YtehnjhkndbcmgaaDoor
open Go Go.RowKit
set_option linter.unusedVariables false
set_option linter.unusedSimpArgs false
set_option maxHeartbeats 800000
end Go.Proofs.YtehnjhkndbcmgaaDoor

namespace Go.Proofs.YtehnjhkndbcmgaaDoor
open Go Go.RowKit
set_option maxRecDepth 100000
def ir_unify_occurs : IR :=
  (.seq (.ops [.i 3 (.box 50 (.t 1)), .i 4 (.mov (.c (.one (.st (.bool false)))))]) (.seq (.seq (.ops [.i 7 (.fieldAddr 0 (.t 3)), .i 8 (.load false 1 (.t 7)), .i 9 (.mov (.t 0)), .i 10 (.bin .eql (.t 8) (.t 9))]) (.cond (.t 10) (.seq (.ops [.i 4 (.mov (.c (.one (.st (.bool true)))))]) .ret) .skip)) (.seq (.seq (.ops [.i 11 (.fieldAddr 1 (.t 3)), .i 12 (.load false 1 (.t 11)), .i 13 (.len false (.t 12)), .i 14 (.mov (.n 0))]) (.block 0 (.loop (.seq (.ops [.i 15 (.bin .lss (.t 14) (.t 13))]) (.seq (.cond (.t 15) .skip (.exit 0)) (.seq (.block 1 (.seq (.ops [.i 16 (.indexAddr 2 (.t 12) (.t 14)), .i 17 (.load true 2 (.t 16)), .i 6 (.alloc 50 [.st (.str (ByteArray.mk (#[]))), .full []]), .mk none none (.store 2 (.t 6) (.t 17)) .no]) (.seq (.ops [.i 18 (.mov (.t 0)), .i 19 (.load true 2 (.t 6)), .i 20 (.call 29 [.t 18, .t 19])]) (.cond (.t 20) (.seq (.ops [.i 4 (.mov (.c (.one (.st (.bool true)))))]) .ret) .skip)))) (.ops [.i 21 (.bin .add (.t 14) (.n 1)), .i 14 (.mov (.t 21))]))))))) (.seq (.ops [.i 4 (.mov (.c (.one (.st (.bool false)))))]) .ret))))
theorem tr_unify_occurs : trCode Tryd.prog 22 [] (Tryd.f29.body.getD .skip) = some ir_unify_occurs := by kernel_rfl
theorem ac_unify_occurs {xs : List AV} {r : AV} (hn : xs.length ≤ 22) (h : ∀ C : Ctx, C.n = 22 → IWP Tryd.prog C [] ir_unify_occurs (FinQ [.t 4] r) (AS.start xs)) : ACalls Tryd.prog 29 xs r :=
  acalls_of Tryd.func29 rfl tr_unify_occurs rfl hn h
def ir_unify_Solve : IR :=
  (.seq (.ops [.i 2 (.mov (.c (.one (.full [])))), .i 3 (.mov (.n 0))]) (.seq (.ops [.i 4 (.mov (.c (.one (.full []))))]) (.seq (.ops [.i 5 (.mov (.c (.one (.full []))))]) (.seq (.seq (.ops [.i 15 (.mov (.t 0)), .i 16 (.len false (.t 15)), .i 17 (.bin .sub (.t 16) (.n 1)), .i 6 (.mov (.t 17))]) (.block 0 (.loop (.seq (.seq (.ops [.i 18 (.mov (.t 6)), .i 19 (.bin .geq (.t 18) (.n 0))]) (.cond (.t 19) .skip (.exit 0))) (.seq (.block 1 (.ops [.i 22 (.mov (.t 5)), .i 23 (.mov (.t 0)), .i 24 (.mov (.t 6)), .i 25 (.indexAddr 4 (.t 23) (.t 24)), .i 26 (.load true 4 (.t 25)), .i 27 (.buildSlice false 68 4 [.t 26]), .i 28 (.appP 68 4 80 (.t 22) (.t 27)), .i 5 (.mov (.t 28))])) (.ops [.i 20 (.mov (.t 6)), .i 21 (.bin .sub (.t 20) (.n 1)), .i 6 (.mov (.t 21))])))))) (.seq (.block 2 (.loop (.seq (.seq (.ops [.i 29 (.mov (.t 5)), .i 30 (.len false (.t 29)), .i 31 (.bin .gtr (.t 30) (.n 0))]) (.cond (.t 31) .skip (.exit 2))) (.block 3 (.seq (.ops [.i 32 (.mov (.t 5)), .i 33 (.mov (.t 5)), .i 34 (.len false (.t 33)), .i 35 (.bin .sub (.t 34) (.n 1)), .i 36 (.indexP 4 (.t 32) (.t 35)), .i 37 (.load true 4 (.t 36)), .i 7 (.alloc 68 [.st (.str (ByteArray.mk (#[]))), .full [], .st (.str (ByteArray.mk (#[]))), .full []]), .mk none none (.store 4 (.t 7) (.t 37)) .no]) (.seq (.ops [.i 38 (.mov (.t 5)), .i 39 (.mov (.t 5)), .i 40 (.len false (.t 39)), .i 41 (.bin .sub (.t 40) (.n 1)), .i 42 (.cutP 4 (.t 38) (.t 41)), .i 5 (.mov (.t 42))]) (.seq (.ops [.i 44 (.mov (.t 4)), .i 45 (.fieldAddr 0 (.t 7)), .i 46 (.load true 2 (.t 45)), .i 47 (.callR 16 [.t 44, .t 46]), .i 43 (.mov (.t 47)), .i 48 (.extract 0 (.t 43)), .i 49 (.extract 1 (.t 43)), .i 8 (.alloc 50 [.st (.str (ByteArray.mk (#[]))), .full []]), .mk none none (.store 2 (.t 8) (.t 48)) .no, .i 9 (.mov (.t 49))]) (.seq (.ops [.i 51 (.mov (.t 4)), .i 52 (.fieldAddr 2 (.t 7)), .i 53 (.load true 2 (.t 52)), .i 54 (.callR 16 [.t 51, .t 53]), .i 50 (.mov (.t 54)), .i 55 (.extract 0 (.t 50)), .i 56 (.extract 1 (.t 50)), .i 10 (.alloc 50 [.st (.str (ByteArray.mk (#[]))), .full []]), .mk none none (.store 2 (.t 10) (.t 55)) .no, .i 11 (.mov (.t 56))]) (.seq (.seq (.ops [.i 57 (.mov (.t 9)), .i 58 (.un .not (.t 57)), .i 59 (.mov (.t 58)), .mk (some 60) (some (59, false)) (.mov (.t 11)) .no, .mk (some 61) (some (59, false)) (.un .not (.t 60)) .no, .i 62 (.pick (.t 59) (.c (.one (.st (.bool true)))) (.t 61))]) (.cond (.t 62) (.seq (.ops [.i 2 (.mov (.c (.one (.full [])))), .i 3 (.mov (.n 8))]) .ret) .skip)) (.block 4 (.seq (.ops [.i 86 (.fieldAddr 0 (.t 8)), .i 87 (.load false 1 (.t 86)), .i 88 (.call 28 [.t 87]), .i 89 (.mov (.t 88)), .mk (some 90) (some (89, true)) (.fieldAddr 0 (.t 8)) .no, .mk (some 91) (some (89, true)) (.load false 1 (.t 90)) .no, .mk (some 92) (some (89, true)) (.fieldAddr 0 (.t 10)) .no, .mk (some 93) (some (89, true)) (.load false 1 (.t 92)) .no, .mk (some 94) (some (89, true)) (.bin .eql (.t 91) (.t 93)) .no, .i 95 (.pick (.t 89) (.t 94) (.c (.one (.st (.bool false))))), .i 85 (.mov (.t 95))]) (.cond (.t 85) .skip (.seq (.ops [.i 97 (.fieldAddr 0 (.t 8)), .i 98 (.load false 1 (.t 97)), .i 99 (.call 28 [.t 98]), .i 100 (.mov (.t 99)), .mk (some 101) (some (100, false)) (.fieldAddr 0 (.t 10)) .no, .mk (some 102) (some (100, false)) (.load false 1 (.t 101)) .no, .mk (some 103) (some (100, false)) (.call 28 [.t 102]) .no, .i 104 (.pick (.t 100) (.c (.one (.st (.bool true)))) (.t 103)), .i 96 (.mov (.t 104))]) (.cond (.t 96) (.seq (.seq (.ops [.i 105 (.fieldAddr 0 (.t 8)), .i 106 (.load false 1 (.t 105)), .i 107 (.call 28 [.t 106]), .i 108 (.un .not (.t 107))]) (.cond (.t 108) (.ops [.i 109 (.load true 2 (.t 10)), .i 110 (.load true 2 (.t 8)), .mk none none (.store 2 (.t 8) (.t 109)) .no, .mk none none (.store 2 (.t 10) (.t 110)) .no]) .skip)) (.seq (.seq (.ops [.i 111 (.fieldAddr 0 (.t 8)), .i 112 (.load false 1 (.t 111)), .i 113 (.load true 2 (.t 10)), .i 114 (.call 29 [.t 112, .t 113])]) (.cond (.t 114) (.seq (.ops [.i 2 (.mov (.c (.one (.full [])))), .i 3 (.mov (.n 6))]) .ret) .skip)) (.seq (.ops [.i 115 (.fieldAddr 0 (.t 8)), .i 116 (.load false 1 (.t 115)), .i 117 (.load true 2 (.t 10)), .i 118 (.build [.st (.str (ByteArray.mk (#[]))), .st (.str (ByteArray.mk (#[]))), .full []] [(0, 1, .t 116), (1, 2, .t 117)]), .i 119 (.buildSlice false 72 3 [.t 118]), .i 12 (.mov (.t 119))]) (.seq (.seq (.ops [.i 120 (.mov (.t 4)), .i 121 (.len false (.t 120)), .i 122 (.mov (.n 0))]) (.block 7 (.loop (.seq (.ops [.i 123 (.bin .lss (.t 122) (.t 121))]) (.seq (.cond (.t 123) .skip (.exit 7)) (.seq (.block 8 (.seq (.ops [.i 124 (.mov (.t 122)), .i 13 (.mov (.t 124))]) (.seq (.ops [.i 126 (.mov (.t 4)), .i 127 (.mov (.t 13)), .i 128 (.mov (.t 12)), .i 129 (.mov (.t 4)), .i 130 (.mov (.t 13)), .i 131 (.indexAddr 3 (.t 129) (.t 130)), .i 132 (.fieldAddr 1 (.t 131)), .i 133 (.load true 2 (.t 132)), .i 134 (.call 16 [.t 128, .t 133]), .i 125 (.mov (.t 134)), .i 135 (.extract 0 (.t 125)), .i 136 (.extract 1 (.t 125)), .i 137 (.indexAddr 3 (.t 126) (.t 127)), .i 138 (.fieldAddr 1 (.t 137)), .mk none none (.store 2 (.t 138) (.t 135)) .no, .i 9 (.mov (.t 136))]) (.seq (.ops [.i 139 (.mov (.t 9)), .i 140 (.un .not (.t 139))]) (.cond (.t 140) (.seq (.ops [.i 2 (.mov (.c (.one (.full [])))), .i 3 (.mov (.n 8))]) .ret) .skip))))) (.ops [.i 141 (.bin .add (.t 122) (.n 1)), .i 122 (.mov (.t 141))]))))))) (.ops [.i 142 (.mov (.t 4)), .i 143 (.mov (.t 12)), .i 144 (.indexAddr 3 (.t 143) (.n 0)), .i 145 (.load true 3 (.t 144)), .i 146 (.buildSlice false 72 3 [.t 145]), .i 147 (.append false 72 3 56 (.t 142) (.t 146)), .i 148 (.callS 30 [.t 147]), .i 4 (.mov (.t 148))]))))) (.seq (.ops [.i 150 (.fieldAddr 0 (.t 8)), .i 151 (.load false 1 (.t 150)), .i 152 (.fieldAddr 0 (.t 10)), .i 153 (.load false 1 (.t 152)), .i 154 (.bin .neq (.t 151) (.t 153)), .i 155 (.mov (.t 154)), .mk (some 156) (some (155, false)) (.fieldAddr 1 (.t 8)) .no, .mk (some 157) (some (155, false)) (.load false 1 (.t 156)) .no, .mk (some 158) (some (155, false)) (.len false (.t 157)) .no, .mk (some 159) (some (155, false)) (.fieldAddr 1 (.t 10)) .no, .mk (some 160) (some (155, false)) (.load false 1 (.t 159)) .no, .mk (some 161) (some (155, false)) (.len false (.t 160)) .no, .mk (some 162) (some (155, false)) (.bin .neq (.t 158) (.t 161)) .no, .i 163 (.pick (.t 155) (.c (.one (.st (.bool true)))) (.t 162)), .i 149 (.mov (.t 163))]) (.cond (.t 149) (.seq (.ops [.i 2 (.mov (.c (.one (.full [])))), .i 3 (.mov (.n 5))]) .ret) (.seq (.ops [.i 63 (.fieldAddr 1 (.t 8)), .i 64 (.load false 1 (.t 63)), .i 65 (.len false (.t 64)), .i 66 (.bin .sub (.t 65) (.n 1)), .i 14 (.mov (.t 66))]) (.block 5 (.loop (.seq (.seq (.ops [.i 67 (.mov (.t 14)), .i 68 (.bin .geq (.t 67) (.n 0))]) (.cond (.t 68) .skip (.exit 5))) (.seq (.block 6 (.ops [.i 71 (.mov (.t 5)), .i 72 (.fieldAddr 1 (.t 8)), .i 73 (.load false 1 (.t 72)), .i 74 (.mov (.t 14)), .i 75 (.indexAddr 2 (.t 73) (.t 74)), .i 76 (.load true 2 (.t 75)), .i 77 (.fieldAddr 1 (.t 10)), .i 78 (.load false 1 (.t 77)), .i 79 (.mov (.t 14)), .i 80 (.indexAddr 2 (.t 78) (.t 79)), .i 81 (.load true 2 (.t 80)), .i 82 (.build [.st (.str (ByteArray.mk (#[]))), .full [], .st (.str (ByteArray.mk (#[]))), .full []] [(0, 2, .t 76), (2, 2, .t 81)]), .i 83 (.buildSlice false 68 4 [.t 82]), .i 84 (.appP 68 4 80 (.t 71) (.t 83)), .i 5 (.mov (.t 84))])) (.ops [.i 69 (.mov (.t 14)), .i 70 (.bin .sub (.t 69) (.n 1)), .i 14 (.mov (.t 70))])))))))))))))))))))))) (.seq (.ops [.i 164 (.mov (.t 4)), .i 2 (.mov (.t 164)), .i 3 (.mov (.n 0))]) .ret))))))
theorem tr_unify_Solve : trCode Tryd.prog 165 [30000028, 30000036, 30000042, 30000084, 40000047, 40000054, 148] (Tryd.f15.body.getD .skip) = some ir_unify_Solve := by kernel_rfl
theorem ac_unify_Solve {xs : List AV} {r : AV} (hn : xs.length ≤ 165) (h : ∀ C : Ctx, C.n = 165 → IWP Tryd.prog C [30000028, 30000036, 30000042, 30000084, 40000047, 40000054, 148] ir_unify_Solve (FinQ [.t 2, .t 3] r) (AS.start xs)) : ACalls Tryd.prog 15 xs r :=
  acalls_of Tryd.func15 rfl tr_unify_Solve rfl hn h
end Go.Proofs.YtehnjhkndbcmgaaDoor

namespace Go.Proofs.YtehnjhkndbcmgaaDoor
open Go Go.RowKit
set_option maxRecDepth 100000
end Go.Proofs.YtehnjhkndbcmgaaDoor

namespace Go.Proofs.YtehnjhkndbcmgaaDoor
open Go Go.RowKit
set_option linter.unusedVariables false
set_option linter.unusedSimpArgs false
set_option maxHeartbeats 800000
end Go.Proofs.YtehnjhkndbcmgaaDoor

namespace Go.Proofs.YtehnjhkndbcmgaaDoor
open Go Go.RowKit
set_option linter.unusedVariables false
set_option linter.unusedSimpArgs false
set_option maxHeartbeats 800000
theorem occurs_a (x : ByteArray) (t : Tm) : ACalls Tryd.prog 29 [aStr x, aTm t] (aBool (occ x t)) := by
  induction h : SizeOf.sizeOf t using Nat.strongRecOn generalizing t with
  | _ N ih =>
  subst h
  rw [occ_eq]
  refine ac_unify_occurs (Nat.le_of_ble_eq_true rfl) fun C hC => ?_
  unfold ir_unify_occurs
  refine IWP.learn 1 (by omega) fun hkn => ?_
  have hkn := known_tm hkn
  by_cases hn : t.name = x
  · repeat' (first | (with_reducible first | refine W ?_ | refine Wk (by decide) ?_) | ((with_reducible first | refine Wo (fun K hK => ?_) | refine Wp ?_ | refine Wq ?_ | refine Wr ?_); (try simp only [go_sem, fN, ↓gI, ↓pI, seval, eT, iR, hn, dT, dF, nL]); (repeat with_reducible refine And.intro (by first | omega | (with_reducible exact lens) | (simp [maxLen_eq] <;> omega)) ?_); (try (with_reducible refine hK _ ?_; clear hK K)); (try with_reducible refine iC ?_)))
    simp only [go_sem, fN, ↓gI, ↓pI, seval, FinQ, AS.result, resAll, resOne, tupV]
    rw [Bool.true_or]
  rw [decide_eq_false hn, Bool.false_or]
  repeat' (first | (with_reducible first | refine W ?_ | refine Wk (by decide) ?_) | ((with_reducible first | refine Wo (fun K hK => ?_) | refine Wp ?_ | refine Wq ?_ | refine Wr ?_); (try simp only [go_sem, fN, ↓gI, ↓pI, seval, eT, iR, hn, dT, dF, nL]); (repeat with_reducible refine And.intro (by first | omega | (with_reducible exact lens) | (simp [maxLen_eq] <;> omega)) ?_); (try (with_reducible refine hK _ ?_; clear hK K)); (try with_reducible refine iC ?_)))
  refine IWP.loopD [6] (fun m s => ∃ k, k ≤ t.args.length ∧ m = t.args.length - k ∧ (t.args.take k).any (occ x) = false ∧ s.env 0 = aStr x ∧ s.env 12 = .one (.st (.list (t.args.map encT))) ∧ s.env 13 = aInt t.args.length ∧ s.env 14 = aInt k ∧ s.S 6 = none) t.args.length ⟨0, Nat.zero_le _, rfl, rfl, rfl, rfl, rfl, rfl, rfl⟩ ?_
  rintro m ⟨env, S⟩ ⟨k, hk, rfl, h0, e0, e12, e13, e14, s6⟩
  simp only at e0 e12 e13 e14 s6
  by_cases hlt : (k : Int) < t.args.length
  · obtain ⟨a, ha⟩ := get_lt (show k < t.args.length by omega)
    repeat' (first | (with_reducible first | refine W ?_ | refine Wk (by decide) ?_) | ((with_reducible first | refine Wo (fun K hK => ?_) | refine Wp ?_ | refine Wq ?_ | refine Wr ?_); (try simp only [go_sem, fN, ↓gI, ↓pI, seval, eT, iR, e0, e12, e13, e14, s6, hlt, ha, dT, dF, nL]); (repeat with_reducible refine And.intro (by first | omega | (with_reducible exact lens) | (simp [maxLen_eq] <;> omega)) ?_); (try (with_reducible refine hK _ ?_; clear hK K)); (try with_reducible refine iC ?_)))
    refine ⟨_, ih _ (Tm.lt_of_arg (mem_of_get ha)) a rfl, ?_⟩
    cases hc : occ x a with
    | true =>
      repeat' (first | (with_reducible first | refine W ?_ | refine Wk (by decide) ?_) | ((with_reducible first | refine Wo (fun K hK => ?_) | refine Wp ?_ | refine Wq ?_ | refine Wr ?_); (try simp only [go_sem, fN, ↓gI, ↓pI, seval, eT, iR, hc, dT, dF, nL]); (repeat with_reducible refine And.intro (by first | omega | (with_reducible exact lens) | (simp [maxLen_eq] <;> omega)) ?_); (try (with_reducible refine hK _ ?_; clear hK K)); (try with_reducible refine iC ?_)))
      simp only [go_sem, fN, ↓gI, ↓pI, seval, FinQ, AS.result, resAll, resOne, tupV]
      have : t.args.any (occ x) = true := List.any_eq_true.2 ⟨a, mem_of_get ha, hc⟩
      rw [this]
    | false =>
      repeat' (first | (with_reducible first | refine W ?_ | refine Wk (by decide) ?_) | ((with_reducible first | refine Wo (fun K hK => ?_) | refine Wp ?_ | refine Wq ?_ | refine Wr ?_); (try simp only [go_sem, fN, ↓gI, ↓pI, seval, eT, iR, hc, e0, e12, e13, e14, s6, dT, dF, nL]); (repeat with_reducible refine And.intro (by first | omega | (with_reducible exact lens) | (simp [maxLen_eq] <;> omega)) ?_); (try (with_reducible refine hK _ ?_; clear hK K)); (try with_reducible refine iC ?_)))
      refine then_normal ⟨t.args.length - (k + 1), by omega, k + 1, by omega, rfl, by rw [take_snoc ha, List.any_append, h0]; simp [hc], ?_⟩
      simp only [go_sem, fN, ↓gI, ↓pI, seval, AS.drop, dropS, AC.clears, AC.clear, AC.highs, AC.high, Bool.not_false, Bool.true_and, Bool.and_self, AV.purge, AV.purges, AC.purge, ABlk.purge, List.contains_cons, List.contains_nil, Nat.reduceBEq, Bool.or_self, Bool.or_false, Bool.false_or, Bool.or_true, eT, iR, e0, e12, e13, e14, s6]
      congr 3
  · repeat' (first | (with_reducible first | refine W ?_ | refine Wk (by decide) ?_) | ((with_reducible first | refine Wo (fun K hK => ?_) | refine Wp ?_ | refine Wq ?_ | refine Wr ?_); (try simp only [go_sem, fN, ↓gI, ↓pI, seval, eT, iR, e0, e12, e13, e14, s6, hlt, dT, dF, nL]); (repeat with_reducible refine And.intro (by first | omega | (with_reducible exact lens) | (simp [maxLen_eq] <;> omega)) ?_); (try (with_reducible refine hK _ ?_; clear hK K)); (try with_reducible refine iC ?_)))
    simp only [go_sem, fN, ↓gI, ↓pI, seval, FinQ, AS.result, resAll, resOne, tupV]
    rw [List.take_of_length_le (by omega)] at h0
    rw [h0]
end Go.Proofs.YtehnjhkndbcmgaaDoor

namespace Go.Proofs.YtehnjhkndbcmgaaDoor
open Go Go.RowKit
set_option linter.unusedVariables false
set_option linter.unusedSimpArgs false
set_option maxHeartbeats 1000000
theorem uends_inv {m : Nat} {s : List Bd} {p : Pr} {l : List Pr} {r : List Bd × Int} (h : UEnds m s (p :: l) r) : (∃ e, stepU s p = .err e ∧ r = ([], e)) ∨ ∃ s' ps n, stepU s p = .go s' ps ∧ n < m ∧ UEnds n s' (ps ++ l) r := by
  cases h with
  | err h => exact .inl ⟨_, h, rfl⟩
  | go h1 h2 => exact .inr ⟨_, _, _, h1, by omega, h2⟩
structure TmOk (U : List ByteArray) (s : List Bd) (t : Tm) : Prop where
  chk : t.chk = 0
  siz : t.size ≤ 2000
  free : NoDom s t
  inU : ∀ y, occ y t = true → y ∈ U
abbrev boxT (t : Tm) : ABlk := .box 50 [.st (.str t.name), .st (.list (t.args.map encT))]
def Turned (U : List ByteArray) (s : List Bd) (p : Pr) (u t : Tm) : Prop := TmOk U s u ∧ TmOk U s t ∧
  ((isVar u.name = true ∧ stepU s p = bindV s u.name t) ∨ (isVar u.name = false ∧ stepU s p = if u.name = t.name ∧ u.args.length = t.args.length then .go s (u.args.zip t.args) else .err 5))
theorem turned_a {U : List ByteArray} {s : List Bd} {p : Pr} (ha : TmOk U s (p.1.on s)) (hb : TmOk U s (p.2.on s)) (hne : ¬ (isVar (p.1.on s).name = true ∧ (p.1.on s).name = (p.2.on s).name)) (hv : isVar (p.1.on s).name = true ∨ isVar (p.2.on s).name = false) : Turned U s p (p.1.on s) (p.2.on s) := by
  have h0 : ¬ (2000 < (p.1.on s).size ∨ 2000 < (p.2.on s).size) := by have := ha.siz; have := hb.siz; omega
  refine ⟨ha, hb, ?_⟩
  cases h1 : isVar (p.1.on s).name with
  | true =>
    refine .inl ⟨rfl, ?_⟩
    unfold stepU
    rw [if_neg h0, if_neg hne, if_pos h1]
  | false =>
    have h2 : isVar (p.2.on s).name = false := hv.resolve_left (by rw [h1]; simp)
    refine .inr ⟨rfl, ?_⟩
    unfold stepU
    rw [if_neg h0, if_neg hne, if_neg (by rw [h1]; simp), if_neg (by rw [h2]; simp)]
theorem turned_b {U : List ByteArray} {s : List Bd} {p : Pr} (ha : TmOk U s (p.1.on s)) (hb : TmOk U s (p.2.on s)) (h1 : isVar (p.1.on s).name = false) (h2 : isVar (p.2.on s).name = true) : Turned U s p (p.2.on s) (p.1.on s) := by
  have h0 : ¬ (2000 < (p.1.on s).size ∨ 2000 < (p.2.on s).size) := by have := ha.siz; have := hb.siz; omega
  refine ⟨hb, ha, .inl ⟨h2, ?_⟩⟩
  unfold stepU
  rw [if_neg h0, if_neg (by rw [h1]; simp), if_neg (by rw [h1]; simp), if_pos h2]
end Go.Proofs.YtehnjhkndbcmgaaDoor
