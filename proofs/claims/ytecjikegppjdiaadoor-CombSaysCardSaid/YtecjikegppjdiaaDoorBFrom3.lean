/-
  Lambda terms into terms without what is bound: the program's walk.
  Conditions: none.
-/
import Derived.Test.YtecjikegppjdiaaDoorBFrom2
import Derived.Test.YtecjikegppjdiaaDoorBLamPut
import Derived.Test.YtecjikegppjdiaaDoorPRed
namespace Go.Proofs.YtecjikegppjdiaaDoor
open Go Go.RowKit
set_option linter.unusedVariables false
set_option linter.unusedSimpArgs false
set_option maxHeartbeats 1000000

theorem formatInt_a (n : Nat) (h : n < 100) : ACalls Tryd.prog 65 [aInt n, aInt 10] (aStr (dec2 n)) := by
  have h0 : (0 : Int) ≤ n := by omega
  have h1 : (n : Int) < 100 := by omega
  refine ac_internal_strconv_FormatInt (Nat.le_of_ble_eq_true rfl) fun C hC => ?_
  unfold ir_internal_strconv_FormatInt
  repeat' (first | (with_reducible first | refine IWP.seq ?_ | refine seqQ_normal ?_ | refine IWP.block ?_ | refine IWP.skip ?_ | refine IWP.exit ?_ | refine IWP.ret ?_ | refine seqQ_exit ?_ | refine seqQ_ret ?_ | refine inBlock_normal ?_ | refine inBlock_here ?_ | refine inBlock_away (by decide) ?_ | refine inBlock_ret ?_ | refine then_exit ?_ | refine then_ret ?_) | ((with_reducible first | refine IWP.ops2 (fun K hK => ?_) | refine IWP.cond ?_ | refine run2_run ?_ | refine keep_run2 ?_); (try simp only [go_sem, List.forall_mem_nil, ↓guard_ite, ↓pick_ite, Nat.reduceEqDiff, Nat.reduceAdd, Nat.reduceSub, Nat.reduceLeDiff, Nat.reduceLT, ↓reduceIte, reduceCtorEq, Int.reduceEq, Int.reduceLT, Int.reduceLE, Int.reduceAdd, Int.reduceSub, Int.reduceToNat, encT_eq, inR_i64, h0, h1, decide_eq_true_eq, decide_eq_false_iff_not, Int.ofNat_lt]); (repeat with_reducible refine And.intro (by first | omega | with_reducible exact lens_encT | with_reducible exact lens_encL | (simp; done) | (simp only [List.length_take, List.length_map, List.length_append, maxLen_eq]; omega)) ?_); (try (with_reducible refine hK _ ?_; clear hK K)); (try with_reducible refine ite_conj ?_)))
  refine ⟨_, small_a n h, ?_⟩
  repeat' (first | (with_reducible first | refine IWP.seq ?_ | refine seqQ_normal ?_ | refine IWP.block ?_ | refine IWP.skip ?_ | refine IWP.exit ?_ | refine IWP.ret ?_ | refine seqQ_exit ?_ | refine seqQ_ret ?_ | refine inBlock_normal ?_ | refine inBlock_here ?_ | refine inBlock_away (by decide) ?_ | refine inBlock_ret ?_ | refine then_exit ?_ | refine then_ret ?_) | ((with_reducible first | refine IWP.ops2 (fun K hK => ?_) | refine IWP.cond ?_ | refine run2_run ?_ | refine keep_run2 ?_); (try simp only [go_sem, List.forall_mem_nil, ↓guard_ite, ↓pick_ite, Nat.reduceEqDiff, Nat.reduceAdd, Nat.reduceSub, Nat.reduceLeDiff, Nat.reduceLT, ↓reduceIte, reduceCtorEq, Int.reduceEq, Int.reduceLT, Int.reduceLE, Int.reduceAdd, Int.reduceSub, Int.reduceToNat, encT_eq, inR_i64, decide_eq_true_eq, decide_eq_false_iff_not, Int.ofNat_lt]); (repeat with_reducible refine And.intro (by first | omega | with_reducible exact lens_encT | with_reducible exact lens_encL | (simp; done) | (simp only [List.length_take, List.length_map, List.length_append, maxLen_eq]; omega)) ?_); (try (with_reducible refine hK _ ?_; clear hK K)); (try with_reducible refine ite_conj ?_)))
  simp only [go_sem, List.forall_mem_nil, ↓guard_ite, ↓pick_ite, Nat.reduceEqDiff, Nat.reduceAdd, Nat.reduceSub, Nat.reduceLeDiff, Nat.reduceLT, ↓reduceIte, reduceCtorEq, Int.reduceEq, Int.reduceLT, Int.reduceLE, Int.reduceAdd, Int.reduceSub, Int.reduceToNat, FinQ, AS.result, resAll, resOne, tupV]
theorem itoaI_a (n : Nat) (h : n < 100) : ACalls Tryd.prog 58 [aInt n] (aStr (dec2 n)) := by
  refine ac_internal_strconv_Itoa (Nat.le_of_ble_eq_true rfl) fun C hC => ?_
  unfold ir_internal_strconv_Itoa
  repeat' (first | (with_reducible first | refine IWP.seq ?_ | refine seqQ_normal ?_ | refine IWP.block ?_ | refine IWP.skip ?_ | refine IWP.exit ?_ | refine IWP.ret ?_ | refine seqQ_exit ?_ | refine seqQ_ret ?_ | refine inBlock_normal ?_ | refine inBlock_here ?_ | refine inBlock_away (by decide) ?_ | refine inBlock_ret ?_ | refine then_exit ?_ | refine then_ret ?_) | ((with_reducible first | refine IWP.ops2 (fun K hK => ?_) | refine IWP.cond ?_ | refine run2_run ?_ | refine keep_run2 ?_); (try simp only [go_sem, List.forall_mem_nil, ↓guard_ite, ↓pick_ite, Nat.reduceEqDiff, Nat.reduceAdd, Nat.reduceSub, Nat.reduceLeDiff, Nat.reduceLT, ↓reduceIte, reduceCtorEq, Int.reduceEq, Int.reduceLT, Int.reduceLE, Int.reduceAdd, Int.reduceSub, Int.reduceToNat, encT_eq, inR_i64, decide_eq_true_eq, decide_eq_false_iff_not, Int.ofNat_lt]); (repeat with_reducible refine And.intro (by first | omega | with_reducible exact lens_encT | with_reducible exact lens_encL | (simp; done) | (simp only [List.length_take, List.length_map, List.length_append, maxLen_eq]; omega)) ?_); (try (with_reducible refine hK _ ?_; clear hK K)); (try with_reducible refine ite_conj ?_)))
  refine ⟨_, formatInt_a n h, ?_⟩
  repeat' (first | (with_reducible first | refine IWP.seq ?_ | refine seqQ_normal ?_ | refine IWP.block ?_ | refine IWP.skip ?_ | refine IWP.exit ?_ | refine IWP.ret ?_ | refine seqQ_exit ?_ | refine seqQ_ret ?_ | refine inBlock_normal ?_ | refine inBlock_here ?_ | refine inBlock_away (by decide) ?_ | refine inBlock_ret ?_ | refine then_exit ?_ | refine then_ret ?_) | ((with_reducible first | refine IWP.ops2 (fun K hK => ?_) | refine IWP.cond ?_ | refine run2_run ?_ | refine keep_run2 ?_); (try simp only [go_sem, List.forall_mem_nil, ↓guard_ite, ↓pick_ite, Nat.reduceEqDiff, Nat.reduceAdd, Nat.reduceSub, Nat.reduceLeDiff, Nat.reduceLT, ↓reduceIte, reduceCtorEq, Int.reduceEq, Int.reduceLT, Int.reduceLE, Int.reduceAdd, Int.reduceSub, Int.reduceToNat, encT_eq, inR_i64, decide_eq_true_eq, decide_eq_false_iff_not, Int.ofNat_lt]); (repeat with_reducible refine And.intro (by first | omega | with_reducible exact lens_encT | with_reducible exact lens_encL | (simp; done) | (simp only [List.length_take, List.length_map, List.length_append, maxLen_eq]; omega)) ?_); (try (with_reducible refine hK _ ?_; clear hK K)); (try with_reducible refine ite_conj ?_)))
  simp only [go_sem, List.forall_mem_nil, ↓guard_ite, ↓pick_ite, Nat.reduceEqDiff, Nat.reduceAdd, Nat.reduceSub, Nat.reduceLeDiff, Nat.reduceLT, ↓reduceIte, reduceCtorEq, Int.reduceEq, Int.reduceLT, Int.reduceLE, Int.reduceAdd, Int.reduceSub, Int.reduceToNat, FinQ, AS.result, resAll, resOne, tupV]
theorem itoa_a (n : Nat) (h : n < 100) : ACalls Tryd.prog 49 [aInt n] (aStr (dec2 n)) := by
  refine ac_strconv_Itoa (Nat.le_of_ble_eq_true rfl) fun C hC => ?_
  unfold ir_strconv_Itoa
  repeat' (first | (with_reducible first | refine IWP.seq ?_ | refine seqQ_normal ?_ | refine IWP.block ?_ | refine IWP.skip ?_ | refine IWP.exit ?_ | refine IWP.ret ?_ | refine seqQ_exit ?_ | refine seqQ_ret ?_ | refine inBlock_normal ?_ | refine inBlock_here ?_ | refine inBlock_away (by decide) ?_ | refine inBlock_ret ?_ | refine then_exit ?_ | refine then_ret ?_) | ((with_reducible first | refine IWP.ops2 (fun K hK => ?_) | refine IWP.cond ?_ | refine run2_run ?_ | refine keep_run2 ?_); (try simp only [go_sem, List.forall_mem_nil, ↓guard_ite, ↓pick_ite, Nat.reduceEqDiff, Nat.reduceAdd, Nat.reduceSub, Nat.reduceLeDiff, Nat.reduceLT, ↓reduceIte, reduceCtorEq, Int.reduceEq, Int.reduceLT, Int.reduceLE, Int.reduceAdd, Int.reduceSub, Int.reduceToNat, encT_eq, inR_i64, decide_eq_true_eq, decide_eq_false_iff_not, Int.ofNat_lt]); (repeat with_reducible refine And.intro (by first | omega | with_reducible exact lens_encT | with_reducible exact lens_encL | (simp; done) | (simp only [List.length_take, List.length_map, List.length_append, maxLen_eq]; omega)) ?_); (try (with_reducible refine hK _ ?_; clear hK K)); (try with_reducible refine ite_conj ?_)))
  refine ⟨_, itoaI_a n h, ?_⟩
  repeat' (first | (with_reducible first | refine IWP.seq ?_ | refine seqQ_normal ?_ | refine IWP.block ?_ | refine IWP.skip ?_ | refine IWP.exit ?_ | refine IWP.ret ?_ | refine seqQ_exit ?_ | refine seqQ_ret ?_ | refine inBlock_normal ?_ | refine inBlock_here ?_ | refine inBlock_away (by decide) ?_ | refine inBlock_ret ?_ | refine then_exit ?_ | refine then_ret ?_) | ((with_reducible first | refine IWP.ops2 (fun K hK => ?_) | refine IWP.cond ?_ | refine run2_run ?_ | refine keep_run2 ?_); (try simp only [go_sem, List.forall_mem_nil, ↓guard_ite, ↓pick_ite, Nat.reduceEqDiff, Nat.reduceAdd, Nat.reduceSub, Nat.reduceLeDiff, Nat.reduceLT, ↓reduceIte, reduceCtorEq, Int.reduceEq, Int.reduceLT, Int.reduceLE, Int.reduceAdd, Int.reduceSub, Int.reduceToNat, encT_eq, inR_i64, decide_eq_true_eq, decide_eq_false_iff_not, Int.ofNat_lt]); (repeat with_reducible refine And.intro (by first | omega | with_reducible exact lens_encT | with_reducible exact lens_encL | (simp; done) | (simp only [List.length_take, List.length_map, List.length_append, maxLen_eq]; omega)) ?_); (try (with_reducible refine hK _ ?_; clear hK K)); (try with_reducible refine ite_conj ?_)))
  simp only [go_sem, List.forall_mem_nil, ↓guard_ite, ↓pick_ite, Nat.reduceEqDiff, Nat.reduceAdd, Nat.reduceSub, Nat.reduceLeDiff, Nat.reduceLT, ↓reduceIte, reduceCtorEq, Int.reduceEq, Int.reduceLT, Int.reduceLE, Int.reduceAdd, Int.reduceSub, Int.reduceToNat, FinQ, AS.result, resAll, resOne, tupV]

/-! ### translation, in plain Lean -/
def vS : ByteArray := ⟨#[86]⟩
def cS : ByteArray := ⟨#[99]⟩
def nilT : Tm := .mk ⟨#[]⟩ []
/-- Of what the parts are. -/
def joinC (d : Int) : List (Tm × Int) → Tm × Int
  | [] => (nilT, 0)
  | [r] => if r.2 = 0 then fitR (r.1.br (vS ++ dec2 d.toNat)) else (nilT, r.2)
  | r :: q :: _ => if r.2 = 0 then (if q.2 = 0 then fitR (ap2 r.1 q.1) else (nilT, q.2)) else (nilT, r.2)
mutual
def Lm.toC : Int → Lm → Tm × Int
  | d, .mk k i xs => if k = 1 then (leafOf (vS ++ dec2 (d - 1 - i).toNat), 0) else if k = 4 then (leafOf (cS ++ dec2 i.toNat), 0) else joinC d (Lm.toCs (under k d) xs)
def Lm.toCs : Int → List Lm → List (Tm × Int)
  | _, [] => []
  | d, t :: ts => Lm.toC d t :: Lm.toCs d ts
end
theorem Lm.toC_eq (d : Int) (t : Lm) : Lm.toC d t = if t.kind = 1 then (leafOf (vS ++ dec2 (d - 1 - t.idx).toNat), 0) else if t.kind = 4 then (leafOf (cS ++ dec2 t.idx.toNat), 0) else joinC d (Lm.toCs (under t.kind d) t.subs) := by
  cases t
  rw [Lm.toC]
  rfl
theorem fitR_ok {t : Tm} (hf : t.fm = true) (h : (fitR t).2 = 0) : (fitR t).1.fm = true ∧ (fitR t).1.size ≤ 2000 := by
  unfold fitR at h ⊢
  split at h
  · cases h
  · rename_i hz
    rw [if_neg hz]
    exact ⟨hf, Nat.le_of_not_lt hz⟩
theorem Lm.toC_ok : ∀ (N : Nat) (d : Int) (t : Lm), SizeOf.sizeOf t < N → (Lm.toC d t).2 = 0 → (Lm.toC d t).1.fm = true ∧ (Lm.toC d t).1.size ≤ 2000 := by
  intro N
  induction N with
  | zero => intro d t h; omega
  | succ N ih =>
    intro d t hN h
    have leaf : ∀ n : ByteArray, (leafOf n).fm = true ∧ (leafOf n).size ≤ 2000 := fun n => ⟨leafOf_fm n, by rw [leafOf_size]; omega⟩
    rw [Lm.toC_eq] at h ⊢
    split at h
    · rename_i h1
      rw [if_pos h1]
      exact leaf _
    · rename_i h1
      rw [if_neg h1]
      split at h
      · rename_i h4
        rw [if_pos h4]
        exact leaf _
      · rename_i h4
        rw [if_neg h4]
        match hx : t.subs, h with
        | [], _ => exact leaf _
        | [s], h =>
          have hs : SizeOf.sizeOf s < SizeOf.sizeOf t := Lm.lt_of_sub (by rw [hx]; simp)
          simp only [Lm.toCs, joinC] at h ⊢
          split at h
          · rename_i hr
            rw [if_pos hr]
            obtain ⟨a1, a2⟩ := ih _ s (by omega) hr
            exact fitR_ok (Tm.br_all _ _ _ (Nat.lt_succ_self _) a1).1 h
          · rename_i hr
            exact absurd h hr
        | s :: u :: r, h =>
          have hs : SizeOf.sizeOf s < SizeOf.sizeOf t := Lm.lt_of_sub (by rw [hx]; simp)
          have hu : SizeOf.sizeOf u < SizeOf.sizeOf t := Lm.lt_of_sub (by rw [hx]; simp)
          simp only [Lm.toCs, joinC] at h ⊢
          split at h
          · rename_i hr
            rw [if_pos hr]
            split at h
            · rename_i hq
              rw [if_pos hq]
              exact fitR_ok (ap2_fm (ih _ s (by omega) hr).1 (ih _ u (by omega) hq).1) h
            · rename_i hq
              exact absurd h hq
          · rename_i hr
            exact absurd h hr
theorem dec2_le (n : Nat) : (dec2 n).size ≤ 2 := by
  unfold dec2
  split
  · exact Nat.le_succ 1
  · rw [ByteArray.size_append]
    exact Nat.le_refl 2
theorem v_fit (n : Nat) : (#[86] : Array UInt8).size + (dec2 n).size ≤ maxLen := by
  have h1 := dec2_le n
  have h2 : (#[86] : Array UInt8).size = 1 := rfl
  rw [maxLen_eq, h2]
  omega
theorem c_fit (n : Nat) : (#[99] : Array UInt8).size + (dec2 n).size ≤ maxLen := by
  have h1 := dec2_le n
  have h2 : (#[99] : Array UInt8).size = 1 := rfl
  rw [maxLen_eq, h2]
  omega
theorem chks1 {s : Lm} {u : Int} (h : Lm.chks 0 [s] u = 0) : s.chk 0 u = 0 := by
  simp only [Lm.chks] at h
  split at h
  · assumption
  · exact h
theorem chks2 {s r : Lm} {u : Int} (h : Lm.chks 0 [s, r] u = 0) : s.chk 0 u = 0 ∧ r.chk 0 u = 0 := by
  simp only [Lm.chks] at h
  split at h
  · rename_i h1
    split at h
    · exact ⟨h1, by assumption⟩
    · exact ⟨h1, h⟩
  · rename_i h1
    exact absurd h h1
def fromR (t : Lm) : Tm × Int := if t.may 0 0 = 0 then Lm.toC 0 t else (nilT, t.may 0 0)
end Go.Proofs.YtecjikegppjdiaaDoor
