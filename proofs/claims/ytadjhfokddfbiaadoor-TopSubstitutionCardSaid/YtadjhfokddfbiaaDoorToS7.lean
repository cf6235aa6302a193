/-
  Part 7 of the texts: BRawZ; IrLRead2; PParse; PLRead; IrLRead; IrLParse; BDefer; BLParse; BEnds; BEndsP; IrParse; BRead; BLRead; AbsX; IrBack; BMemo; BBack; BRebase; Shelf; IrComb; BComb; IrFrom; BFrom; BFrom2; BFrom3; BFrom4; BAtoi. Conditions: none.
-/
import Derived.Test.YtadjhfokddfbiaaDoorToS6
import Derived.Defers
import Derived.Recover
import Derived.ChangeKeysEq
import Derived.Shelf.Strconv.Atoi
import Derived.Shelf.Strconv.AtoiErr
import Derived.Shelf.Strconv.ErrVar
import Derived.Shelf.Strconv.Itoa3
import Derived.Test.YtadjhfokddfbiaaDoorProg
import Derived.Lib.AppendIntMem
import Derived.Lib.ItoaLen
namespace Go.Proofs.YtadjhfokddfbiaaDoor
open Go Go.RowKit
set_option linter.unusedVariables false
set_option linter.unusedSimpArgs false
set_option maxHeartbeats 1000000
theorem lamFromZ_a (l : List Int) (hl : ∀ n ∈ l, inR .i64 n) (hm : l.length ≤ maxLen) (consts : Int) (hc : 0 ≤ consts ∧ consts ≤ 40) (hcc : 1 ≤ consts) : ∀ (most : Nat) (at_ under : Nat), 0 ≤ most → most ≤ 1000 → at_ + 3 * most ≤ 900000 → under + most ≤ 2000 →
    ∃ (t : Lm) (n : Nat), LamAt l at_ most under consts t n ∧ t.size + 1 ≤ 3 * max most 1 ∧ n ≤ at_ + t.size ∧ t.chk 0 under = 0 ∧ (consts = 0 → t.pure = true) ∧ t.Of most := by
  intro most
  induction most using Nat.strongRecOn with
  | _ most ih =>
  intro at_ under h1 h1000 hat hund
  have hraw := raw_a l at_ (by omega) hl hm
  have hr := rawI_range l at_
  generalize rawI l at_ = c at hraw hr
  have d6 := tdiv_range (x := c) (n := 6) (by omega) (by omega)
  have d24 := tdiv_range (x := c) (n := 24) (by omega) (by omega)
  have p6 := pick_a c 6 (by rw [inR_i64]; omega) (by omega)
  have q6 := pickI_range c 6 (by omega)
  have p64 := pick_a (c / 6) 4 (by rw [inR_i64]; omega) (by omega)
  have q64 := pickI_range (c / 6) 4 (by omega)
  have p24 : 1 ≤ consts → _ := fun h => pick_a (c / 24) consts (by rw [inR_i64]; omega) h
  have q24 : 1 ≤ consts → _ := fun h => pickI_range (c / 24) consts h
  have p6u : 1 ≤ (under : Int) → _ := fun h => pick_a (c / 6) under (by rw [inR_i64]; omega) h
  have q6u : 1 ≤ (under : Int) → _ := fun h => pickI_range (c / 6) under h
  generalize pickI c 6 = x6 at *
  generalize pickI (c / 6) 4 = x64 at *
  generalize pickI (c / 24) consts = x24 at *
  generalize pickI (c / 6) under = x6u at *
  by_cases hleaf : (most : Int) < 3 ∨ x6 = 0
  · by_cases hu0 : (under : Int) = 0
    · by_cases hc0 : consts = 0
      · refine ⟨.l (.v 0), at_ + 1, ?_, by simp only [Lm.l, Lm.v, Lm.size, Lm.sizes]; omega, by simp only [Lm.l, Lm.v, Lm.size, Lm.sizes]; omega, chk_fun (chk_leaf (Or.inl ⟨rfl, by omega, by omega⟩)), fun _ => by simp [Lm.l, Lm.v, Lm.pure, Lm.pures], (absurd hcc (by omega))⟩
        by_cases hm3 : (most : Int) < 3
        · unfold LamAt
          refine ok_R_LamFrom.ac fun C hC => ?_
          unfold ir_R_LamFrom
          repeat' (first | (with_reducible first | refine W ?_ | refine Wz0 ?_) | refine Cg _ (hraw) ?_ | refine Cg _ (lVar_a 0) ?_ | refine Cg _ (lFun_a (.v 0)) ?_ | ((with_reducible first | refine Wo (fun K hK => ?_) | refine Wp ?_ | refine Wq ?_ | refine Wr ?_); (try simp only [go_sem, fN, seval, eT, iR, hm3, hu0, hc0, dT, dF, nL]); (repeat with_reducible refine Ai ?_); (try (refine hK _ ?_; clear hK K)); (try with_reducible refine iC ?_)))
          simp only [go_sem, fN, seval, FinQ, AS.result, resAll, resOne, tupV]
          all_goals first | done | rfl | skip
        · have hx6 : x6 = 0 := by omega
          unfold LamAt
          refine ok_R_LamFrom.ac fun C hC => ?_
          unfold ir_R_LamFrom
          repeat' (first | (with_reducible first | refine W ?_ | refine Wz0 ?_) | refine Cg _ (hraw) ?_ | refine Cg _ (p6) ?_ | refine Cg _ (lVar_a 0) ?_ | refine Cg _ (lFun_a (.v 0)) ?_ | ((with_reducible first | refine Wo (fun K hK => ?_) | refine Wp ?_ | refine Wq ?_ | refine Wr ?_); (try simp only [go_sem, fN, seval, eT, iR, hm3, hx6, hu0, hc0, dT, dF, nL]); (repeat with_reducible refine Ai ?_); (try (refine hK _ ?_; clear hK K)); (try with_reducible refine iC ?_)))
          simp only [go_sem, fN, seval, FinQ, AS.result, resAll, resOne, tupV]
          all_goals first | done | rfl | skip
      · have hc1 : 1 ≤ consts := by omega
        have q := q24 hc1
        refine ⟨.mk 4 x24 [], at_ + 1, ?_, by simp only [Lm.size, Lm.sizes]; omega, by simp only [Lm.size, Lm.sizes]; omega, chk_leaf (Or.inr ⟨rfl, by omega, by omega⟩), fun h => by omega, Lm.of_leaf _ _ _⟩
        by_cases hm3 : (most : Int) < 3
        · unfold LamAt
          refine ok_R_LamFrom.ac fun C hC => ?_
          unfold ir_R_LamFrom
          repeat' (first | (with_reducible first | refine W ?_ | refine Wz0 ?_) | refine Cg _ (hraw) ?_ | refine Cg _ (p24 hc1) ?_ | refine Cg _ (lCon_a x24) ?_ | ((with_reducible first | refine Wo (fun K hK => ?_) | refine Wp ?_ | refine Wq ?_ | refine Wr ?_); (try simp only [go_sem, fN, seval, eT, iR, hm3, hu0, hc0, d24.1, dT, dF, nL]); (repeat with_reducible refine Ai ?_); (try (refine hK _ ?_; clear hK K)); (try with_reducible refine iC ?_)))
          simp only [go_sem, fN, seval, FinQ, AS.result, resAll, resOne, tupV]
          all_goals first | done | rfl | skip
        · have hx6 : x6 = 0 := by omega
          unfold LamAt
          refine ok_R_LamFrom.ac fun C hC => ?_
          unfold ir_R_LamFrom
          repeat' (first | (with_reducible first | refine W ?_ | refine Wz0 ?_) | refine Cg _ (hraw) ?_ | refine Cg _ (p6) ?_ | refine Cg _ (p24 hc1) ?_ | refine Cg _ (lCon_a x24) ?_ | ((with_reducible first | refine Wo (fun K hK => ?_) | refine Wp ?_ | refine Wq ?_ | refine Wr ?_); (try simp only [go_sem, fN, seval, eT, iR, hm3, hx6, hu0, hc0, d24.1, dT, dF, nL]); (repeat with_reducible refine Ai ?_); (try (refine hK _ ?_; clear hK K)); (try with_reducible refine iC ?_)))
          simp only [go_sem, fN, seval, FinQ, AS.result, resAll, resOne, tupV]
          all_goals first | done | rfl | skip
    · have hu1 : 1 ≤ (under : Int) := by omega
      have qu := q6u hu1
      by_cases hc0 : consts = 0
      · refine ⟨.mk 1 x6u [], at_ + 1, ?_, by simp only [Lm.size, Lm.sizes]; omega, by simp only [Lm.size, Lm.sizes]; omega, chk_leaf (Or.inl ⟨rfl, by omega, by omega⟩), fun _ => by simp [Lm.pure, Lm.pures], Lm.of_leaf _ _ _⟩
        by_cases hm3 : (most : Int) < 3
        · unfold LamAt
          refine ok_R_LamFrom.ac fun C hC => ?_
          unfold ir_R_LamFrom
          repeat' (first | (with_reducible first | refine W ?_ | refine Wz0 ?_) | refine Cg _ (hraw) ?_ | refine Cg _ (p6u hu1) ?_ | refine Cg _ (lVar_a x6u) ?_ | ((with_reducible first | refine Wo (fun K hK => ?_) | refine Wp ?_ | refine Wq ?_ | refine Wr ?_); (try simp only [go_sem, fN, seval, eT, iR, hm3, hu0, hc0, d6.1, dT, dF, nL]); (repeat with_reducible refine Ai ?_); (try (refine hK _ ?_; clear hK K)); (try with_reducible refine iC ?_)))
          simp only [go_sem, fN, seval, FinQ, AS.result, resAll, resOne, tupV]
          all_goals first | done | rfl | skip
        · have hx6 : x6 = 0 := by omega
          unfold LamAt
          refine ok_R_LamFrom.ac fun C hC => ?_
          unfold ir_R_LamFrom
          repeat' (first | (with_reducible first | refine W ?_ | refine Wz0 ?_) | refine Cg _ (hraw) ?_ | refine Cg _ (p6) ?_ | refine Cg _ (p6u hu1) ?_ | refine Cg _ (lVar_a x6u) ?_ | ((with_reducible first | refine Wo (fun K hK => ?_) | refine Wp ?_ | refine Wq ?_ | refine Wr ?_); (try simp only [go_sem, fN, seval, eT, iR, hm3, hx6, hu0, hc0, d6.1, dT, dF, nL]); (repeat with_reducible refine Ai ?_); (try (refine hK _ ?_; clear hK K)); (try with_reducible refine iC ?_)))
          simp only [go_sem, fN, seval, FinQ, AS.result, resAll, resOne, tupV]
          all_goals first | done | rfl | skip
      · have hc0' : 0 < consts := by omega
        have hc1 : 1 ≤ consts := by omega
        have q := q24 hc1
        by_cases hx4 : x64 = 0
        · refine ⟨.mk 4 x24 [], at_ + 1, ?_, by simp only [Lm.size, Lm.sizes]; omega, by simp only [Lm.size, Lm.sizes]; omega, chk_leaf (Or.inr ⟨rfl, by omega, by omega⟩), fun h => by omega, Lm.of_leaf _ _ _⟩
          by_cases hm3 : (most : Int) < 3
          · unfold LamAt
            refine ok_R_LamFrom.ac fun C hC => ?_
            unfold ir_R_LamFrom
            repeat' (first | (with_reducible first | refine W ?_ | refine Wz0 ?_) | refine Cg _ (hraw) ?_ | refine Cg _ (p64) ?_ | refine Cg _ (p24 hc1) ?_ | refine Cg _ (lCon_a x24) ?_ | ((with_reducible first | refine Wo (fun K hK => ?_) | refine Wp ?_ | refine Wq ?_ | refine Wr ?_); (try simp only [go_sem, fN, seval, eT, iR, hm3, hu0, hc0', d6.1, hx4, d24.1, dT, dF, nL]); (repeat with_reducible refine Ai ?_); (try (refine hK _ ?_; clear hK K)); (try with_reducible refine iC ?_)))
            simp only [go_sem, fN, seval, FinQ, AS.result, resAll, resOne, tupV]
            all_goals first | done | rfl | skip
          · have hx6 : x6 = 0 := by omega
            unfold LamAt
            refine ok_R_LamFrom.ac fun C hC => ?_
            unfold ir_R_LamFrom
            repeat' (first | (with_reducible first | refine W ?_ | refine Wz0 ?_) | refine Cg _ (hraw) ?_ | refine Cg _ (p6) ?_ | refine Cg _ (p64) ?_ | refine Cg _ (p24 hc1) ?_ | refine Cg _ (lCon_a x24) ?_ | ((with_reducible first | refine Wo (fun K hK => ?_) | refine Wp ?_ | refine Wq ?_ | refine Wr ?_); (try simp only [go_sem, fN, seval, eT, iR, hm3, hx6, hu0, hc0', d6.1, hx4, d24.1, dT, dF, nL]); (repeat with_reducible refine Ai ?_); (try (refine hK _ ?_; clear hK K)); (try with_reducible refine iC ?_)))
            simp only [go_sem, fN, seval, FinQ, AS.result, resAll, resOne, tupV]
            all_goals first | done | rfl | skip
        · refine ⟨.mk 1 x6u [], at_ + 1, ?_, by simp only [Lm.size, Lm.sizes]; omega, by simp only [Lm.size, Lm.sizes]; omega, chk_leaf (Or.inl ⟨rfl, by omega, by omega⟩), fun _ => by simp [Lm.pure, Lm.pures], Lm.of_leaf _ _ _⟩
          by_cases hm3 : (most : Int) < 3
          · unfold LamAt
            refine ok_R_LamFrom.ac fun C hC => ?_
            unfold ir_R_LamFrom
            repeat' (first | (with_reducible first | refine W ?_ | refine Wz0 ?_) | refine Cg _ (hraw) ?_ | refine Cg _ (p64) ?_ | refine Cg _ (p6u hu1) ?_ | refine Cg _ (lVar_a x6u) ?_ | ((with_reducible first | refine Wo (fun K hK => ?_) | refine Wp ?_ | refine Wq ?_ | refine Wr ?_); (try simp only [go_sem, fN, seval, eT, iR, hm3, hu0, hc0', d6.1, hx4, dT, dF, nL]); (repeat with_reducible refine Ai ?_); (try (refine hK _ ?_; clear hK K)); (try with_reducible refine iC ?_)))
            simp only [go_sem, fN, seval, FinQ, AS.result, resAll, resOne, tupV]
            all_goals first | done | rfl | skip
          · have hx6 : x6 = 0 := by omega
            unfold LamAt
            refine ok_R_LamFrom.ac fun C hC => ?_
            unfold ir_R_LamFrom
            repeat' (first | (with_reducible first | refine W ?_ | refine Wz0 ?_) | refine Cg _ (hraw) ?_ | refine Cg _ (p6) ?_ | refine Cg _ (p64) ?_ | refine Cg _ (p6u hu1) ?_ | refine Cg _ (lVar_a x6u) ?_ | ((with_reducible first | refine Wo (fun K hK => ?_) | refine Wp ?_ | refine Wq ?_ | refine Wr ?_); (try simp only [go_sem, fN, seval, eT, iR, hm3, hx6, hu0, hc0', d6.1, hx4, dT, dF, nL]); (repeat with_reducible refine Ai ?_); (try (refine hK _ ?_; clear hK K)); (try with_reducible refine iC ?_)))
            simp only [go_sem, fN, seval, FinQ, AS.result, resAll, resOne, tupV]
            all_goals first | done | rfl | skip
  · have hm3 : ¬ (most : Int) < 3 := by omega
    have hx6 : ¬ x6 = 0 := by omega
    by_cases h3 : x6 < 3
    · obtain ⟨t, n, ht, hs, hn, hk, hp, ho⟩ := ih (most - 1) (by omega) (at_ + 1) (under + 1) (by omega) (by omega) (by omega) (by omega)
      unfold LamAt at ht
      rw [show (((at_ + 1 : Nat) : Int)) = (at_ : Int) + 1 by omega, show (((most - 1 : Nat) : Int)) = (most : Int) - 1 by omega, show (((under + 1 : Nat) : Int)) = (under : Int) + 1 by omega] at ht
      rw [show (((under + 1 : Nat) : Int)) = (under : Int) + 1 by omega] at hk
      refine ⟨.l t, n, ?_, by simp only [Lm.l, Lm.size, Lm.sizes]; omega, by simp only [Lm.l, Lm.size, Lm.sizes]; omega, chk_fun hk, fun h => by simp [Lm.l, Lm.pure, Lm.pures, hp h], Lm.of_l (by omega) ho⟩
      unfold LamAt
      refine ok_R_LamFrom.ac fun C hC => ?_
      unfold ir_R_LamFrom
      repeat' (first | (with_reducible first | refine W ?_ | refine Wz0 ?_) | refine Cg _ (hraw) ?_ | refine Cg _ (p6) ?_ | refine Cg _ (ht) ?_ | refine Cg _ (lFun_a t) ?_ | ((with_reducible first | refine Wo (fun K hK => ?_) | refine Wp ?_ | refine Wq ?_ | refine Wr ?_); (try simp only [go_sem, fN, seval, eT, iR, hm3, hx6, h3, dT, dF, nL]); (repeat with_reducible refine Ai ?_); (try (refine hK _ ?_; clear hK K)); (try with_reducible refine iC ?_)))
      simp only [go_sem, fN, seval, FinQ, AS.result, resAll, resOne, tupV]
    · have d2 := tdiv_range (x := (most : Int)) (n := 2) (by omega) (by omega)
      have e2 : (most : Int) / 2 = ((most / 2 : Nat) : Int) := by omega
      obtain ⟨t, n, ht, hs, hn, hk, hp, ho⟩ := ih (most / 2) (by omega) (at_ + 1) under (by omega) (by omega) (by omega) (by omega)
      obtain ⟨u, n2, hu, hs2, hn2, hk2, hp2, ho2⟩ := ih (most / 2) (by omega) n under (by omega) (by omega) (by omega) (by omega)
      unfold LamAt at ht hu
      rw [show (((at_ + 1 : Nat) : Int)) = (at_ : Int) + 1 by omega] at ht
      refine ⟨.a t u, n2, ?_, by simp only [Lm.a, Lm.size, Lm.sizes]; omega, by simp only [Lm.a, Lm.size, Lm.sizes]; omega, chk_app hk hk2, fun h => by simp [Lm.a, Lm.pure, Lm.pures, hp h, hp2 h], Lm.of_a (by omega) ho ho2⟩
      unfold LamAt
      refine ok_R_LamFrom.ac fun C hC => ?_
      unfold ir_R_LamFrom
      repeat' (first | (with_reducible first | refine W ?_ | refine Wz0 ?_) | refine Cg _ (hraw) ?_ | refine Cg _ (p6) ?_ | refine Cg _ (ht) ?_ | refine Cg _ (hu) ?_ | refine Cg _ (lApp_a t u) ?_ | ((with_reducible first | refine Wo (fun K hK => ?_) | refine Wp ?_ | refine Wq ?_ | refine Wr ?_); (try simp only [go_sem, fN, seval, eT, iR, hm3, hx6, h3, d2.1, e2, dT, dF, nL]); (repeat with_reducible refine Ai ?_); (try (refine hK _ ?_; clear hK K)); (try with_reducible refine iC ?_)))
      simp only [go_sem, fN, seval, FinQ, AS.result, resAll, resOne, tupV]
theorem lamOfRawZ_a (l : List Int) (hl : ∀ n ∈ l, inR .i64 n) (hm : l.length ≤ maxLen) (consts : Int) (hc : 0 ≤ consts ∧ consts ≤ 40) (hcc : 1 ≤ consts) (at_ most under : Nat) (h2 : most ≤ 1000) (h3 : under ≤ 1000) (h4 : at_ ≤ 10000) :
    ∃ t : Lm, ACalls Tryd.prog 4 [aInts l, aInt at_, aInt most, aInt under, aInt consts] (aLm t) ∧ t.chk 0 under = 0 ∧ t.Of most := by
  obtain ⟨t, n, ht, hs, _, hk, hp, ho⟩ := lamFromZ_a l hl hm consts hc hcc most at_ under (Nat.zero_le _) h2 (by omega) (by omega)
  refine ⟨t, ?_, hk, ho⟩
  unfold LamAt at ht
  refine ok_R_LamOfRaw.ac fun C hC => ?_
  unfold ir_R_LamOfRaw
  repeat' (first | (with_reducible first | refine W ?_ | refine Wz0 ?_) | refine Cg _ (ht) ?_ | ((with_reducible first | refine Wo (fun K hK => ?_) | refine Wp ?_ | refine Wq ?_ | refine Wr ?_); (try simp only [go_sem, fN, seval, eT, iR, dT, dF, nL]); (repeat with_reducible refine Ai ?_); (try (refine hK _ ?_; clear hK K)); (try with_reducible refine iC ?_)))
  simp only [go_sem, fN, seval, FinQ, AS.result, resAll, resOne, tupV]

set_option maxRecDepth 100000
def ir_metaprune_lambda_reader_term : IR :=
  (.seq (.ops [.i 2 (.alloc 25 [.st (.int .i64 0), .st (.int .i64 0), .full []])]) (.seq (.seq (.ops [.m 6 0, .i 7 (.callS 41 [.t 6]), .i 8 (.bin .eql (.t 7) (.c (.one (.st (.int .u8 92)))))]) (.cond (.t 8) (.seq (.ops [.m 9 0, .i 10 (.callS 42 [.t 9])]) (.seq (.ops [.m 11 0, .m 12 0, .i 13 (.nilCheck (.t 12)), .f 14 0 13, .l 15 14, .i 16 (.sliceS (.t 15) (some (.n 1)) none), .i 17 (.nilCheck (.t 11)), .f 18 0 17, .s 1 18 16]) (.seq (.ops [.m 19 0, .i 20 (.callS 43 [.t 19]), .m 3 20]) (.seq (.ops [.m 21 0, .i 22 (.callS 44 [.t 21, .c (.one (.st (.int .u8 46)))])]) (.seq (.ops [.m 23 0, .m 24 0, .i 25 (.nilCheck (.t 24)), .f 26 1 25, .l 27 26, .m 28 3, .i 29 (.buildFlat [.t 28]), .i 30 (.append true 9 1 16 (.t 27) (.t 29)), .i 31 (.nilCheck (.t 23)), .f 32 1 31, .s 1 32 30]) (.seq (.ops [.m 33 0, .i 34 (.callS 30 [.t 33]), .i 4 (.alloc 25 [.st (.int .i64 0), .st (.int .i64 0), .full []]), .s 3 4 34]) (.seq (.ops [.m 35 0, .m 36 0, .i 37 (.nilCheck (.t 36)), .f 38 1 37, .l 39 38, .m 40 0, .i 41 (.nilCheck (.t 40)), .f 42 1 41, .l 43 42, .i 44 (.len false (.t 43)), .i 45 (.bin .sub (.t 44) (.n 1)), .i 46 (.cutP 1 (.t 39) (.t 45)), .i 47 (.nilCheck (.t 35)), .f 48 1 47, .s 1 48 46]) (.seq (.ops [.L 49 3 4, .i 50 (.call 45 [.t 49]), .s 3 2 50]) .ret)))))))) .skip)) (.seq (.ops [.m 51 0, .i 52 (.callS 46 [.t 51]), .i 5 (.alloc 25 [.st (.int .i64 0), .st (.int .i64 0), .full []]), .s 3 5 52]) (.seq (.block 0 (.loop (.seq (.seq (.ops [.m 53 0, .i 54 (.callS 41 [.t 53]), .i 55 (.bin .eql (.t 54) (.c (.one (.st (.int .u8 32)))))]) (.cond (.t 55) .skip (.exit 0))) (.block 1 (.seq (.ops [.m 56 0, .m 57 0, .i 58 (.nilCheck (.t 57)), .f 59 0 58, .l 60 59, .i 61 (.sliceS (.t 60) (some (.n 1)) none), .i 62 (.nilCheck (.t 56)), .f 63 0 62, .s 1 63 61]) (.seq (.ops [.m 64 0, .i 65 (.callS 42 [.t 64])]) (.ops [.mk (some 66) none (.load true 3 (.t 5)) (.onb 5), .m 67 0, .mk (some 68) none (.callS 46 [.t 67]) (.keeps [5]), .i 69 (.call 47 [.t 66, .t 68]), .s 3 5 69]))))))) (.seq (.ops [.L 70 3 5, .s 3 2 70]) .ret)))))
theorem ok_metaprune_lambda_reader_term : OkF Tryd.prog 30 71 [7, 10, 20, 22, 34, 52, 54, 65, 68, 30, 30000046, 10050005] ir_metaprune_lambda_reader_term [.cell 2 true 3] := .of Tryd.func30 rfl rfl (by kernel_rfl) rfl
def ir_metaprune_lambda_reader_piece : IR :=
  (.seq (.ops [.i 1 (.box 56 (.t 0)), .i 2 (.alloc 25 [.st (.int .i64 0), .st (.int .i64 0), .full []])]) (.seq (.seq (.ops [.l 9 1, .i 10 (.callS 41 [.t 9]), .i 11 (.bin .eql (.t 10) (.c (.one (.st (.int .u8 40)))))]) (.cond (.t 11) (.seq (.ops [.l 12 1, .l 13 1, .i 14 (.nilCheck (.t 13)), .f 15 0 14, .l 16 15, .i 17 (.sliceS (.t 16) (some (.n 1)) none), .i 18 (.nilCheck (.t 12)), .f 19 0 18, .s 1 19 17]) (.seq (.ops [.l 20 1, .i 21 (.callS 30 [.t 20]), .i 3 (.alloc 25 [.st (.int .i64 0), .st (.int .i64 0), .full []]), .s 3 3 21]) (.seq (.ops [.l 22 1, .i 23 (.callS 44 [.t 22, .c (.one (.st (.int .u8 41)))])]) (.seq (.ops [.L 24 3 3, .s 3 2 24]) .ret)))) .skip)) (.seq (.ops [.l 25 1, .i 26 (.callS 43 [.t 25]), .i 4 (.alloc 9 [.st (.str (ByteArray.mk (#[])))]), .s 1 4 26]) (.seq (.ops [.l 27 1, .i 28 (.callS 42 [.t 27])]) (.seq (.seq (.ops [.l 29 1, .i 30 (.nilCheck (.t 29)), .f 31 1 30, .l 32 31, .i 33 (.callS 56 [.t 32])]) (.block 0 (.rangeF (.t 33) [34, 35] (.seq (.ops [.m 5 34]) (.ops [.m 6 35])) (.block 1 (.seq (.ops [.m 36 6, .l 37 4, .i 38 (.bin .eql (.t 36) (.t 37))]) (.cond (.t 38) (.seq (.ops [.l 39 1, .i 40 (.nilCheck (.t 39)), .f 41 1 40, .l 42 41, .i 43 (.len false (.t 42)), .i 44 (.bin .sub (.t 43) (.n 1)), .m 45 5, .i 46 (.bin .sub (.t 44) (.t 45)), .i 47 (.call 38 [.t 46]), .s 3 2 47]) .ret) .skip)))))) (.seq (.seq (.ops [.l 49 4, .i 50 (.sliceS (.t 49) (some (.n 1)) none), .i 51 (.call 57 [.t 50]), .m 48 51, .i 52 (.extract 0 (.t 48)), .i 53 (.extract 1 (.t 48)), .m 7 52, .m 8 53]) (.seq (.ops [.l 54 4, .i 55 (.indexStr (.t 54) (.n 0)), .i 56 (.bin .eql (.t 55) (.c (.one (.st (.int .u8 99))))), .m 57 56, .mk (some 58) (some (57, true)) (.mov (.t 8)) .no, .mk (some 59) (some (57, true)) (.eqE false (.t 58)) .no, .i 60 (.pick (.t 57) (.t 59) (.c (.one (.st (.bool false))))), .m 61 60, .mk (some 62) (some (61, true)) (.mov (.t 7)) .no, .mk (some 63) (some (61, true)) (.call 58 [.t 62]) .no, .mk (some 64) (some (61, true)) (.load false 1 (.t 4)) .no, .mk (some 65) (some (61, true)) (.sliceS (.t 64) (some (.n 1)) none) .no, .mk (some 66) (some (61, true)) (.bin .eql (.t 63) (.t 65)) .no, .i 67 (.pick (.t 61) (.t 66) (.c (.one (.st (.bool false))))), .m 68 67, .mk (some 69) (some (68, true)) (.mov (.t 7)) .no, .mk (some 70) (some (68, true)) (.bin .lss (.t 69) (.n 40)) .no, .i 71 (.pick (.t 68) (.t 70) (.c (.one (.st (.bool false)))))]) (.cond (.t 71) (.seq (.ops [.m 72 7, .i 73 (.call 59 [.t 72]), .s 3 2 73]) .ret) .skip))) (.ops [.i 74 (.iface 54 (.n 15)), .mk none none (.pan (.t 74)) .no])))))))
theorem ok_metaprune_lambda_reader_piece : OkF Tryd.prog 46 75 [10, 21, 23, 26, 28, 33] ir_metaprune_lambda_reader_piece [.cell 2 true 3] := .of Tryd.func46 rfl rfl (by kernel_rfl) rfl
def ir_lambda_Parse : IR :=
  (.seq (.ops [.i 4 (.alloc 25 [.st (.int .i64 0), .st (.int .i64 0), .full []]), .i 5 (.alloc 28 [.st (.int .i64 0)])]) (.seq (.seq (.ops [.m 8 1, .i 9 (.call 27 [.t 8]), .m 6 9]) (.seq (.ops [.m 10 6, .i 11 (.bin .neq (.t 10) (.n 0))]) (.cond (.t 11) (.seq (.ops [.i 12 (.build [.st (.int .i64 0), .st (.int .i64 0), .full []] []), .m 13 6, .s 3 4 12, .s 1 5 13]) .ret) .skip))) (.seq (.seq (.ops [.m 14 0, .i 15 (.len true (.t 14)), .i 16 (.bin .gtr (.t 15) (.n 4000))]) (.cond (.t 16) (.seq (.ops [.i 17 (.build [.st (.int .i64 0), .st (.int .i64 0), .full []] []), .s 3 4 17, .mk none none (.store 1 (.t 5) (.n 3)) .no]) .ret) .skip)) (.seq (.ops [.i 18 (.makeFunc 28 [.t 4, .t 5]), .mk none none .never .no]) (.seq (.ops [.m 19 0, .m 20 1, .i 21 (.callN 29 [.t 20]), .i 22 (.build [.st (.str (ByteArray.mk (#[]))), .full [], .st (.int .i64 0)] [(0, 1, .t 19), (1, 1, .t 21), (2, 1, .n 200)]), .i 23 (.box 59 (.t 22)), .m 7 23]) (.seq (.ops [.m 24 7, .i 25 (.callS 30 [.t 24]), .s 3 4 25]) (.seq (.seq (.ops [.m 26 7, .i 27 (.nilCheck (.t 26)), .f 28 0 27, .l 29 28, .i 30 (.bin .neq (.t 29) (.c (.one (.st (.str (ByteArray.mk (#[])))))))]) (.cond (.t 30) (.ops [.i 31 (.iface 54 (.n 12)), .mk none none (.pan (.t 31)) .no]) .skip)) (.seq (.ops [.L 32 3 4, .s 3 4 32, .mk none none (.store 1 (.t 5) (.n 0)) .no]) .ret))))))))
theorem tr_lambda_Parse : trCode Tryd.prog 33 [20000021, 25] (Tryd.f18.body.getD .skip) = some ir_lambda_Parse := by kernel_rfl

def tailS (s : ByteArray) (i : Nat) : ByteArray := s.extract i s.size
theorem tail_size (s : ByteArray) (i : Nat) : (tailS s i).size = s.size - i := by
  unfold tailS
  rw [ByteArray.size_extract]
  omega
theorem tail_zero (s : ByteArray) : tailS s 0 = s := by
  unfold tailS
  rw [ByteArray.extract_zero_size]
theorem byteN_tail {s : ByteArray} {i k : Nat} (h : i + k < s.size) : byteN (tailS s i) k = byteAt s (i + k) := by
  unfold byteN byteAt tailS
  rw [ByteArray.data_extract, Array.toList_extract]
  simp only [List.getD_eq_getElem?_getD]
  congr 3
  rw [List.extract_eq_take_drop, List.getElem?_take_of_lt (by omega), List.getElem?_drop]
theorem tail_take {s : ByteArray} {i n : Nat} (h : i + n ≤ s.size) : (tailS s i).extract 0 n = s.extract i (i + n) := by
  unfold tailS
  rw [ByteArray.extract_extract]
  congr 1
  omega
theorem tail_drop {s : ByteArray} {i n : Nat} (h : i + n ≤ s.size) : (tailS s i).extract n (tailS s i).size = tailS s (i + n) := by
  rw [tail_size]
  unfold tailS
  rw [ByteArray.extract_extract]
  congr 1
  omega
def lend (s : ByteArray) : Nat → Nat → Nat
  | 0, i => i
  | k + 1, i => if letterI (byteAt s i) = true then lend s k (i + 1) else i
def lendA (s : ByteArray) (i : Nat) : Nat := lend s (s.size - i) i
theorem lendA_on {s : ByteArray} {i : Nat} (h : i < s.size) (hl : letterI (byteAt s i) = true) : lendA s i = lendA s (i + 1) := by
  unfold lendA
  obtain ⟨k, hk⟩ : ∃ k, s.size - i = k + 1 := ⟨s.size - i - 1, by omega⟩
  rw [hk, show s.size - (i + 1) = k by omega, lend, if_pos hl]
theorem lendA_stop {s : ByteArray} {i : Nat} (h : i < s.size) (hl : ¬ letterI (byteAt s i) = true) : lendA s i = i := by
  unfold lendA
  obtain ⟨k, hk⟩ : ∃ k, s.size - i = k + 1 := ⟨s.size - i - 1, by omega⟩
  rw [hk, lend, if_neg hl]
theorem lendA_end {s : ByteArray} {i : Nat} (h : s.size ≤ i) : lendA s i = i := by
  unfold lendA
  rw [show s.size - i = 0 by omega]
  rfl
theorem lend_le (s : ByteArray) : ∀ k i : Nat, i ≤ lend s k i ∧ lend s k i ≤ i + k
  | 0, i => ⟨Nat.le_refl _, Nat.le_refl _⟩
  | k + 1, i => by
    rw [lend]
    split
    · have := lend_le s k (i + 1)
      omega
    · omega
theorem lendA_le {s : ByteArray} {i : Nat} (h : i ≤ s.size) : i ≤ lendA s i ∧ lendA s i ≤ s.size := by
  have := lend_le s (s.size - i) i
  unfold lendA
  omega

def backF (p : Nat → Bool) : Nat → Option Nat
  | 0 => none
  | n + 1 => if p n = true then some n else backF p n
theorem backF_some {p : Nat → Bool} {i : Nat} (hp : p i = true) : ∀ {n : Nat}, i < n → (∀ j, i < j → j < n → ¬ p j = true) → backF p n = some i
  | 0, h, _ => absurd h (Nat.not_lt_zero _)
  | n + 1, h, hn => by
    rw [backF]
    by_cases e : i = n
    · subst e
      rw [if_pos hp]
    · rw [if_neg (hn n (by omega) (by omega))]
      exact backF_some hp (by omega) fun j h1 h2 => hn j h1 (by omega)
theorem backF_none {p : Nat → Bool} : ∀ {n : Nat}, (∀ j, j < n → ¬ p j = true) → backF p n = none
  | 0, _ => rfl
  | n + 1, hn => by
    rw [backF, if_neg (hn n (by omega))]
    exact backF_none fun j h => hn j (by omega)
def boundAt (ns : List ByteArray) (n : ByteArray) : Option Nat := backF (fun j => decide (ns.getD j .empty = n)) ns.length
def nmAt (s : ByteArray) (i : Nat) : ByteArray := s.extract i (lendA s i)
def nmErr (s : ByteArray) (i : Nat) : Int := if lendA s i = i then (if i = s.size then 13 else 12) else if nameOk (nmAt s i) = true then 0 else 1
def wantE (s : ByteArray) (c : Int) (j : Nat) : Int := if j = s.size then 13 else if byteAt s j = c then 0 else 12
structure LRd where
  t : Lm
  i : Nat
  k : Nat
  e : Int
def lrV (ns : List ByteArray) (n : ByteArray) (i k : Nat) : LRd := match boundAt ns n with
  | some j => ⟨.v ((ns.length : Int) - 1 - j), i, k, if 200 < k then 3 else 0⟩
  | none => ⟨.mk 4 (constOf n) [], i, k, if 200 < k then 3 else if constOf n < 0 then 15 else 0⟩
mutual
def lrT (s : ByteArray) : Nat → List ByteArray → Nat → Nat → LRd
  | 0, _, i, k => ⟨.nil, i, k, 99⟩
  | f + 1, ns, i, k =>
    if i < s.size ∧ byteAt s i = 92 then
      if 200 < k + 1 then ⟨.l .nil, i + 1, k + 1, 3⟩
      else if nmErr s (i + 1) = 0 then
        if wantE s 46 (lendA s (i + 1)) = 0 then ⟨.l (lrT s f (ns ++ [nmAt s (i + 1)]) (lendA s (i + 1) + 1) (k + 1)).t, (lrT s f (ns ++ [nmAt s (i + 1)]) (lendA s (i + 1) + 1) (k + 1)).i, (lrT s f (ns ++ [nmAt s (i + 1)]) (lendA s (i + 1) + 1) (k + 1)).k, (lrT s f (ns ++ [nmAt s (i + 1)]) (lendA s (i + 1) + 1) (k + 1)).e⟩
        else ⟨.l .nil, lendA s (i + 1) + 1, k + 1, wantE s 46 (lendA s (i + 1))⟩
      else ⟨.l .nil, lendA s (i + 1), k + 1, nmErr s (i + 1)⟩
    else lrL s f ns (lrP s f ns i k)
def lrL (s : ByteArray) : Nat → List ByteArray → LRd → LRd
  | 0, _, q => ⟨q.t, q.i, q.k, 99⟩
  | f + 1, ns, q =>
    if q.e = 0 ∧ q.i < s.size ∧ byteAt s q.i = 32 then
      if 200 < q.k + 1 then ⟨.a q.t .nil, q.i + 1, q.k + 1, 3⟩
      else lrL s f ns ⟨.a q.t (lrP s f ns (q.i + 1) (q.k + 1)).t, (lrP s f ns (q.i + 1) (q.k + 1)).i, (lrP s f ns (q.i + 1) (q.k + 1)).k, (lrP s f ns (q.i + 1) (q.k + 1)).e⟩
    else q
def lrP (s : ByteArray) : Nat → List ByteArray → Nat → Nat → LRd
  | 0, _, i, k => ⟨.nil, i, k, 99⟩
  | f + 1, ns, i, k =>
    if i < s.size ∧ byteAt s i = 40 then
      if (lrT s f ns (i + 1) k).e = 0 then ⟨(lrT s f ns (i + 1) k).t, (lrT s f ns (i + 1) k).i + 1, (lrT s f ns (i + 1) k).k, wantE s 41 (lrT s f ns (i + 1) k).i⟩ else lrT s f ns (i + 1) k
    else if nmErr s i = 0 then lrV ns (nmAt s i) (lendA s i) (k + 1)
    else ⟨.nil, lendA s i, k, nmErr s i⟩
end
theorem lrL_bad {s : ByteArray} {g : Nat} {ns : List ByteArray} {q : LRd} (hg : 0 < g) (h : ¬ (q.e = 0 ∧ q.i < s.size ∧ byteAt s q.i = 32)) : lrL s g ns q = q := by
  obtain ⟨g, rfl⟩ : ∃ g', g = g' + 1 := ⟨g - 1, by omega⟩
  rw [lrL, if_neg h]
structure LOk (s : ByteArray) (i k : Nat) (q : LRd) : Prop where
  le : i ≤ q.i
  in_ : q.i ≤ s.size + 1
  knots : k ≤ q.k
  most : q.k ≤ 201
  ok : q.e = 0 → q.i ≤ s.size ∧ i < q.i ∧ k < q.k ∧ q.k ≤ 200
  err : 0 ≤ q.e ∧ q.e ≤ 15
theorem nmErr_ok {s : ByteArray} {i : Nat} (hi : i ≤ s.size) : (0 ≤ nmErr s i ∧ nmErr s i ≤ 15) ∧ i ≤ lendA s i ∧ lendA s i ≤ s.size ∧ (nmErr s i = 0 → i < lendA s i ∧ nameOk (nmAt s i) = true) := by
  obtain ⟨l1, l2⟩ := lendA_le hi
  unfold nmErr
  by_cases h0 : lendA s i = i
  · rw [if_pos h0]
    split <;> exact ⟨by decide, l1, l2, fun h => absurd h (by decide)⟩
  · rw [if_neg h0]
    split
    · rename_i h
      exact ⟨by decide, l1, l2, fun _ => ⟨by omega, h⟩⟩
    · exact ⟨by decide, l1, l2, fun h => absurd h (by decide)⟩
theorem wantE_ok {s : ByteArray} {c : Int} {j : Nat} (hj : j ≤ s.size) : (0 ≤ wantE s c j ∧ wantE s c j ≤ 15) ∧ (wantE s c j = 0 → j < s.size ∧ byteAt s j = c) := by
  unfold wantE
  by_cases h0 : j = s.size
  · rw [if_pos h0]
    exact ⟨by decide, fun h => absurd h (by decide)⟩
  · rw [if_neg h0]
    split
    · rename_i h
      exact ⟨by decide, fun _ => ⟨by omega, h⟩⟩
    · exact ⟨by decide, fun h => absurd h (by decide)⟩
theorem lrV_i (ns : List ByteArray) (n : ByteArray) (i k : Nat) : (lrV ns n i k).i = i ∧ (lrV ns n i k).k = k ∧ (0 ≤ (lrV ns n i k).e ∧ (lrV ns n i k).e ≤ 15) ∧ ((lrV ns n i k).e = 0 → k ≤ 200) := by
  unfold lrV
  split
  · refine ⟨rfl, rfl, ?_, ?_⟩
    · dsimp only
      split <;> decide
    · dsimp only
      split
      · intro h; cases h
      · intro _; omega
  · refine ⟨rfl, rfl, ?_, ?_⟩
    · dsimp only
      split
      · decide
      · split <;> decide
    · dsimp only
      split
      · intro h; cases h
      · intro _; omega
mutual
theorem lrT_ok (s : ByteArray) : ∀ (f : Nat) (ns : List ByteArray) (i k : Nat), i ≤ s.size → k ≤ 200 → 3 * (s.size - i) + 2 < f → LOk s i k (lrT s f ns i k)
  | 0, _, _, _, _, _, h => absurd h (Nat.not_lt_zero _)
  | f + 1, ns, i, k, hi, hk, hf => by
    rw [lrT]
    by_cases h0 : i < s.size ∧ byteAt s i = 92
    · rw [if_pos h0]
      obtain ⟨h0, _⟩ := h0
      by_cases h1 : 200 < k + 1
      · rw [if_pos h1]
        exact ⟨Nat.le_succ _, by show i + 1 ≤ _; omega, Nat.le_succ _, by show k + 1 ≤ _; omega, fun h => absurd h (by show ¬ (3 : Int) = 0; decide), by show (0 : Int) ≤ 3 ∧ (3 : Int) ≤ 15; decide⟩
      rw [if_neg h1]
      obtain ⟨n1, n2, n3, n4⟩ := nmErr_ok (s := s) (i := i + 1) (by omega)
      by_cases h2 : nmErr s (i + 1) = 0
      · rw [if_pos h2]
        obtain ⟨w1, w2⟩ := wantE_ok (c := 46) n3
        by_cases h3 : wantE s 46 (lendA s (i + 1)) = 0
        · rw [if_pos h3]
          obtain ⟨n5, n6⟩ := n4 h2
          have := lrT_ok s f (ns ++ [nmAt s (i + 1)]) (lendA s (i + 1) + 1) (k + 1) (by have := (w2 h3).1; omega) (by omega) (by omega)
          refine ⟨by have := this.le; show i ≤ _; dsimp only; omega, this.in_, by have := this.knots; show k ≤ _; dsimp only; omega, this.most, fun h => ?_, this.err⟩
          obtain ⟨a, b, c, d⟩ := this.ok h
          refine ⟨a, ?_, ?_, d⟩ <;> dsimp only <;> omega
        · rw [if_neg h3]
          exact ⟨by show i ≤ lendA s (i + 1) + 1; omega, by show lendA s (i + 1) + 1 ≤ _; omega, Nat.le_succ _, by show k + 1 ≤ _; omega, fun h => absurd h h3, w1⟩
      · rw [if_neg h2]
        exact ⟨by show i ≤ lendA s (i + 1); omega, by show lendA s (i + 1) ≤ _; omega, Nat.le_succ _, by show k + 1 ≤ _; omega, fun h => absurd h h2, n1⟩
    · rw [if_neg h0]
      have hp := lrP_ok s f ns i k hi hk (by omega)
      exact lrL_ok s f ns i k (lrP s f ns i k) (by have := hp.le; omega) hp
theorem lrL_ok (s : ByteArray) : ∀ (f : Nat) (ns : List ByteArray) (i k : Nat) (q : LRd), 3 * (s.size - q.i) < f → LOk s i k q → LOk s i k (lrL s f ns q)
  | 0, _, _, _, _, h, _ => absurd h (Nat.not_lt_zero _)
  | f + 1, ns, i, k, q, hf, hq => by
    rw [lrL]
    by_cases h0 : q.e = 0 ∧ q.i < s.size ∧ byteAt s q.i = 32
    · rw [if_pos h0]
      obtain ⟨h0, hlt, _⟩ := h0
      obtain ⟨a, b, c, d⟩ := hq.ok h0
      by_cases h1 : 200 < q.k + 1
      · rw [if_pos h1]
        exact ⟨by show i ≤ q.i + 1; omega, by show q.i + 1 ≤ _; omega, by show k ≤ q.k + 1; omega, by show q.k + 1 ≤ _; omega, fun h => absurd h (by show ¬ (3 : Int) = 0; decide), by show (0 : Int) ≤ 3 ∧ (3 : Int) ≤ 15; decide⟩
      · rw [if_neg h1]
        have hp := lrP_ok s f ns (q.i + 1) (q.k + 1) (by omega) (by omega) (by omega)
        refine lrL_ok s f ns i k _ (by have := hp.le; dsimp only; omega) ⟨by have := hp.le; dsimp only; omega, hp.in_, by have := hp.knots; dsimp only; omega, hp.most, fun h => ?_, hp.err⟩
        obtain ⟨a', b', c', d'⟩ := hp.ok h
        refine ⟨a', ?_, ?_, d'⟩ <;> dsimp only <;> omega
    · rw [if_neg h0]
      exact hq
theorem lrP_ok (s : ByteArray) : ∀ (f : Nat) (ns : List ByteArray) (i k : Nat), i ≤ s.size → k ≤ 200 → 3 * (s.size - i) + 1 < f → LOk s i k (lrP s f ns i k)
  | 0, _, _, _, _, _, h => absurd h (Nat.not_lt_zero _)
  | f + 1, ns, i, k, hi, hk, hf => by
    rw [lrP]
    by_cases h0 : i < s.size ∧ byteAt s i = 40
    · rw [if_pos h0]
      obtain ⟨h0, _⟩ := h0
      have := lrT_ok s f ns (i + 1) k (by omega) hk (by omega)
      by_cases h1 : (lrT s f ns (i + 1) k).e = 0
      · rw [if_pos h1]
        obtain ⟨a, b, c, d⟩ := this.ok h1
        obtain ⟨w1, w2⟩ := wantE_ok (c := 41) a
        refine ⟨by dsimp only; omega, by dsimp only; omega, this.knots, this.most, fun h => ?_, w1⟩
        have := (w2 h).1
        refine ⟨?_, ?_, c, d⟩ <;> dsimp only <;> omega
      · rw [if_neg h1]
        exact ⟨by have := this.le; omega, this.in_, this.knots, this.most, fun h => absurd h h1, this.err⟩
    · rw [if_neg h0]
      obtain ⟨n1, n2, n3, n4⟩ := nmErr_ok hi
      by_cases h1 : nmErr s i = 0
      · rw [if_pos h1]
        obtain ⟨v1, v2, v3, v4⟩ := lrV_i ns (nmAt s i) (lendA s i) (k + 1)
        obtain ⟨n5, n6⟩ := n4 h1
        exact ⟨by rw [v1]; exact n2, by rw [v1]; omega, by rw [v2]; omega, by rw [v2]; omega, fun h => ⟨by rw [v1]; exact n3, by rw [v1]; exact n5, by rw [v2]; omega, by rw [v2]; exact v4 h⟩, v3⟩
      · rw [if_neg h1]
        exact ⟨n2, by show lendA s i ≤ _; omega, Nat.le_refl _, by show k ≤ _; omega, fun h => absurd h h1, n1⟩
end
def lrS (s : ByteArray) (ns : List ByteArray) : LRd := lrT s (3 * s.size + 3) ns 0 0
def lrEnd (s : ByteArray) (ns : List ByteArray) : Lm × Int := if (lrS s ns).e = 0 then (if (lrS s ns).i < s.size then (.nil, 12) else ((lrS s ns).t, 0)) else (.nil, (lrS s ns).e)

def ir_metaprune_lambda_reader_take : IR :=
  (.seq (.ops [.m 2 0, .i 3 (.nilCheck (.t 2)), .f 4 2 3, .l 5 4, .i 6 (.bin .sub (.t 5) (.n 1)), .i 7 (.nilCheck (.t 2)), .f 8 2 7, .s 1 8 6]) (.seq (.ops [.m 9 0, .i 10 (.nilCheck (.t 9)), .f 11 2 10, .l 12 11, .i 13 (.bin .lss (.t 12) (.n 0))]) (.cond (.t 13) (.ops [.i 14 (.iface 54 (.n 3)), .mk none none (.pan (.t 14)) .no]) .skip)))
theorem ok_metaprune_lambda_reader_take : OkF Tryd.prog 42 15 [] ir_metaprune_lambda_reader_take [] := .of Tryd.func42 rfl rfl (by kernel_rfl) rfl
def ir_metaprune_lambda_reader_next : IR :=
  (.seq (.ops [.i 2 (.mov (.c (.one (.st (.int .u8 0)))))]) (.seq (.seq (.ops [.m 3 0, .i 4 (.nilCheck (.t 3)), .f 5 0 4, .l 6 5, .i 7 (.bin .eql (.t 6) (.c (.one (.st (.str (ByteArray.mk (#[])))))))]) (.cond (.t 7) (.seq (.ops [.i 2 (.mov (.c (.one (.st (.int .u8 0)))))]) .ret) .skip)) (.seq (.ops [.m 8 0, .i 9 (.nilCheck (.t 8)), .f 10 0 9, .l 11 10, .i 12 (.indexStr (.t 11) (.n 0)), .m 2 12]) .ret)))
theorem ok_metaprune_lambda_reader_next : OkF Tryd.prog 41 13 [] ir_metaprune_lambda_reader_next [.t 2] := .of Tryd.func41 rfl rfl (by kernel_rfl) rfl
def ir_metaprune_lambda_reader_sign : IR :=
  (.seq (.block 0 (.seq (.ops [.m 5 0, .i 6 (.nilCheck (.t 5)), .f 7 0 6, .l 8 7, .i 9 (.bin .eql (.t 8) (.c (.one (.st (.str (ByteArray.mk (#[]))))))), .m 4 9]) (.cond (.t 4) (.ops [.i 10 (.iface 54 (.n 13)), .mk none none (.pan (.t 10)) .no]) (.seq (.ops [.m 12 0, .i 13 (.nilCheck (.t 12)), .f 14 0 13, .l 15 14, .i 16 (.indexStr (.t 15) (.n 0)), .m 17 1, .i 18 (.bin .neq (.t 16) (.t 17)), .m 11 18]) (.cond (.t 11) (.ops [.i 19 (.iface 54 (.n 12)), .mk none none (.pan (.t 19)) .no]) .skip))))) (.ops [.m 20 0, .m 21 0, .i 22 (.nilCheck (.t 21)), .f 23 0 22, .l 24 23, .i 25 (.sliceS (.t 24) (some (.n 1)) none), .i 26 (.nilCheck (.t 20)), .f 27 0 26, .s 1 27 25]))
theorem ok_metaprune_lambda_reader_sign : OkF Tryd.prog 44 28 [] ir_metaprune_lambda_reader_sign [] := .of Tryd.func44 rfl rfl (by kernel_rfl) rfl
def ir_metaprune_lambda_reader_name : IR :=
  (.seq (.ops [.i 2 (.mov (.c (.one (.st (.str (ByteArray.mk (#[])))))))]) (.seq (.ops [.i 3 (.mov (.n 0))]) (.seq (.block 0 (.loop (.seq (.seq (.ops [.m 5 3, .m 6 0, .i 7 (.nilCheck (.t 6)), .f 8 0 7, .l 9 8, .i 10 (.len true (.t 9)), .i 11 (.bin .lss (.t 5) (.t 10)), .m 12 11, .mk (some 13) (some (12, true)) (.mov (.t 0)) .no, .mk (some 14) (some (12, true)) (.nilCheck (.t 13)) .no, .mk (some 15) (some (12, true)) (.fieldAddr 0 (.t 14)) .no, .mk (some 16) (some (12, true)) (.load false 1 (.t 15)) .no, .mk (some 17) (some (12, true)) (.mov (.t 3)) .no, .mk (some 18) (some (12, true)) (.indexStr (.t 16) (.t 17)) .no, .mk (some 19) (some (12, true)) (.bin .geq (.t 18) (.c (.one (.st (.int .u8 97))))) .no, .mk (some 20) (some (12, true)) (.mov (.t 19)) .no, .mk (some 21) (some (20, true)) (.mov (.t 0)) .no, .mk (some 22) (some (20, true)) (.nilCheck (.t 21)) .no, .mk (some 23) (some (20, true)) (.fieldAddr 0 (.t 22)) .no, .mk (some 24) (some (20, true)) (.load false 1 (.t 23)) .no, .mk (some 25) (some (20, true)) (.mov (.t 3)) .no, .mk (some 26) (some (20, true)) (.indexStr (.t 24) (.t 25)) .no, .mk (some 27) (some (20, true)) (.bin .leq (.t 26) (.c (.one (.st (.int .u8 122))))) .no, .mk (some 28) (some (12, true)) (.pick (.t 20) (.t 27) (.c (.one (.st (.bool false))))) .no, .mk (some 29) (some (12, true)) (.mov (.t 28)) .no, .mk (some 30) (some (29, false)) (.mov (.t 0)) .no, .mk (some 31) (some (29, false)) (.nilCheck (.t 30)) .no, .mk (some 32) (some (29, false)) (.fieldAddr 0 (.t 31)) .no, .mk (some 33) (some (29, false)) (.load false 1 (.t 32)) .no, .mk (some 34) (some (29, false)) (.mov (.t 3)) .no, .mk (some 35) (some (29, false)) (.indexStr (.t 33) (.t 34)) .no, .mk (some 36) (some (29, false)) (.bin .geq (.t 35) (.c (.one (.st (.int .u8 65))))) .no, .mk (some 37) (some (29, false)) (.mov (.t 36)) .no, .mk (some 38) (some (37, true)) (.mov (.t 0)) .no, .mk (some 39) (some (37, true)) (.nilCheck (.t 38)) .no, .mk (some 40) (some (37, true)) (.fieldAddr 0 (.t 39)) .no, .mk (some 41) (some (37, true)) (.load false 1 (.t 40)) .no, .mk (some 42) (some (37, true)) (.mov (.t 3)) .no, .mk (some 43) (some (37, true)) (.indexStr (.t 41) (.t 42)) .no, .mk (some 44) (some (37, true)) (.bin .leq (.t 43) (.c (.one (.st (.int .u8 90))))) .no, .mk (some 45) (some (29, false)) (.pick (.t 37) (.t 44) (.c (.one (.st (.bool false))))) .no, .mk (some 46) (some (12, true)) (.pick (.t 29) (.c (.one (.st (.bool true)))) (.t 45)) .no, .mk (some 47) (some (12, true)) (.mov (.t 46)) .no, .mk (some 48) (some (47, false)) (.mov (.t 0)) .no, .mk (some 49) (some (47, false)) (.nilCheck (.t 48)) .no, .mk (some 50) (some (47, false)) (.fieldAddr 0 (.t 49)) .no, .mk (some 51) (some (47, false)) (.load false 1 (.t 50)) .no, .mk (some 52) (some (47, false)) (.mov (.t 3)) .no, .mk (some 53) (some (47, false)) (.indexStr (.t 51) (.t 52)) .no, .mk (some 54) (some (47, false)) (.bin .geq (.t 53) (.c (.one (.st (.int .u8 48))))) .no, .mk (some 55) (some (47, false)) (.mov (.t 54)) .no, .mk (some 56) (some (55, true)) (.mov (.t 0)) .no, .mk (some 57) (some (55, true)) (.nilCheck (.t 56)) .no, .mk (some 58) (some (55, true)) (.fieldAddr 0 (.t 57)) .no, .mk (some 59) (some (55, true)) (.load false 1 (.t 58)) .no, .mk (some 60) (some (55, true)) (.mov (.t 3)) .no, .mk (some 61) (some (55, true)) (.indexStr (.t 59) (.t 60)) .no, .mk (some 62) (some (55, true)) (.bin .leq (.t 61) (.c (.one (.st (.int .u8 57))))) .no, .mk (some 63) (some (47, false)) (.pick (.t 55) (.t 62) (.c (.one (.st (.bool false))))) .no, .mk (some 64) (some (12, true)) (.pick (.t 47) (.c (.one (.st (.bool true)))) (.t 63)) .no, .i 65 (.pick (.t 12) (.t 64) (.c (.one (.st (.bool false)))))]) (.cond (.t 65) .skip (.exit 0))) (.block 1 (.ops [.m 66 3, .i 67 (.bin .add (.t 66) (.n 1)), .m 3 67]))))) (.seq (.seq (.ops [.m 68 3, .i 69 (.bin .eql (.t 68) (.n 0))]) (.cond (.t 69) (.seq (.seq (.ops [.m 70 0, .i 71 (.nilCheck (.t 70)), .f 72 0 71, .l 73 72, .i 74 (.bin .eql (.t 73) (.c (.one (.st (.str (ByteArray.mk (#[])))))))]) (.cond (.t 74) (.ops [.i 75 (.iface 54 (.n 13)), .mk none none (.pan (.t 75)) .no]) .skip)) (.ops [.i 76 (.iface 54 (.n 12)), .mk none none (.pan (.t 76)) .no])) .skip)) (.seq (.ops [.m 77 0, .i 78 (.nilCheck (.t 77)), .f 79 0 78, .l 80 79, .m 81 3, .i 82 (.sliceS (.t 80) none (some (.t 81))), .m 4 82]) (.seq (.seq (.ops [.m 83 4, .i 84 (.call 39 [.t 83]), .i 85 (.un .not (.t 84))]) (.cond (.t 85) (.ops [.i 86 (.iface 54 (.n 1)), .mk none none (.pan (.t 86)) .no]) .skip)) (.seq (.ops [.m 87 0, .m 88 0, .i 89 (.nilCheck (.t 88)), .f 90 0 89, .l 91 90, .m 92 3, .i 93 (.sliceS (.t 91) (some (.t 92)) none), .i 94 (.nilCheck (.t 87)), .f 95 0 94, .s 1 95 93]) (.seq (.ops [.m 96 4, .m 2 96]) .ret))))))))
theorem ok_metaprune_lambda_reader_name : OkF Tryd.prog 43 97 [] ir_metaprune_lambda_reader_name [.t 2] := .of Tryd.func43 rfl rfl (by kernel_rfl) rfl

def ir_lambda_Parse_1 : IR :=
  (.seq (.ops [.i 5 .never, .i 6 .never, .m 4 6, .i 7 (.extract 0 (.t 4)), .i 8 (.extract 1 (.t 4)), .m 2 7, .m 3 8]) (.seq (.ops [.m 9 3]) (.cond (.t 9) (.ops [.i 10 (.build [.st (.int .i64 0), .st (.int .i64 0), .full []] []), .m 11 2, .s 3 0 10, .s 1 1 11]) .skip)))
theorem tr_lambda_Parse_1 : trCode Tryd.prog 12 [] (Tryd.f28.body.getD .skip) = some ir_lambda_Parse_1 := by kernel_rfl

def Behind (S : AStore) (ι : AHnd) (σ : Sto) (w : World) (S' : AStore) (w' : World) : Prop := ∃ σ' ι', Clean S' ∧ Upd S ι S' ι' ∧ Owned σ' S' ι' w' ∧ Fit σ' w' ∧ (∀ p x, σ p = some x → σ' p = some x) ∧
  (∀ p : Addr, p.block < w.heap.size → notOf S ι p.block → σ' p = σ p) ∧ (w'.os = w.os ∧ w'.tape = w.tape ∧ w'.output = w.output) ∧ w.heap.size ≤ w'.heap.size ∧
  (∀ g, g < w.heap.size → notOf S ι g → w'.heap[g]? = w.heap[g]?) ∧ (∀ id b g, S' id = some b → (ι' id).g = some g → w.heap.size ≤ g ∨ ¬ notOf S ι g)
theorem Behind.refl {S : AStore} {ι : AHnd} {σ : Sto} {w : World} (h1 : Clean S) (h2 : Owned σ S ι w) (h3 : Fit σ w) : Behind S ι σ w S w :=
  ⟨σ, ι, h1, Upd.refl _ _, h2, h3, fun _ _ h => h, fun _ _ _ => rfl, ⟨rfl, rfl, rfl⟩, Nat.le_refl _, fun _ _ _ => rfl, fun id b g hb hg => .inr fun hn => hn id b hb hg⟩
def ADef (P : Program) (f : FuncId) (xs : List AV) (S : AStore) (u u' : FrameMode) (S' : AStore) : Prop :=
  Clean S → ∀ (σ : Sto) (w : World) (vs : List Value) (ι : AHnd), GlobIn σ → Fit σ w → Owned σ S ι w → All2 (VRep σ S ι) vs xs →
    CallsD P f vs.toArray u w fun e u1 w' => (∃ v, e = .returned v) ∧ u1 = u' ∧ Behind S ι σ w S' w'
section
variable {P : Program} {C : Ctx} {a : Act} {w : World} {σ : Sto} {ι : AHnd} {s : AS}
theorem owned_up (R : Refs C σ ι s a w) : Owned σ (upS s.S) (fun i => ι (dn1 i)) w := by
  have hup : ∀ i, dn1 (up1 i) = i := dn_up
  have hS : ∀ i b, s.S i = some b → upS s.S (up1 i) = some (b.ren up1) := fun i b hb => upS_some hb
  have hι : ∀ i b, s.S i = some b → (fun i => ι (dn1 i)) (up1 i) = ι i := fun i b _ => by show ι (dn1 (up1 i)) = _; rw [hup]
  refine ⟨fun id b hb => ?_, fun id id' b b' g h1 h2 g1 g2 => ?_⟩
  · obtain ⟨hle, b', h1, rfl⟩ := upS_inv hb
    exact BRep.ren (S2 := upS s.S) (ι2 := fun i => ι (dn1 i)) (ρ := up1) hS hι (R.blk _ _ h1)
  · obtain ⟨l1, c1, k1, _⟩ := upS_inv h1
    obtain ⟨l2, c2, k2, _⟩ := upS_inv h2
    have := R.inj _ _ _ _ g k1 k2 g1 g2
    rw [← up_dn l1, ← up_dn l2, this]
theorem val_up (R : Refs C σ ι s a w) {v : Value} {av : AV} (h : VRep σ s.S ι v av) : VRep σ (upS s.S) (fun i => ι (dn1 i)) v (av.ren up1) :=
  VRep.ren (S2 := upS s.S) (ι2 := fun i => ι (dn1 i)) (ρ := up1) (fun i b hb => upS_some hb) (fun i b _ => by show ι (dn1 (up1 i)) = _; rw [dn_up]) h
theorem behind_refs {S' : AStore} {w' : World} (R : Refs C σ ι s a w) (h : Behind (upS s.S) (fun i => ι (dn1 i)) σ w S' w') : Holds C ⟨s.env, dnS S'⟩ a w' := by
  obtain ⟨σ', ι', hclean, hupd, hown', hf', hkeep, hold, hos, hsz, hsame, hbase⟩ := h
  have hup : ∀ i, dn1 (up1 i) = i := dn_up
  have hS : ∀ i b, s.S i = some b → upS s.S (up1 i) = some (b.ren up1) := fun i b hb => upS_some hb
  have hSd : ∀ i b, S' i = some b → dnS S' (dn1 i) = some (b.ren dn1) := fun i b hb => dnS_some (hclean i b hb).1 hb
  obtain ⟨ι2, hι2⟩ : ∃ ι2 : AHnd, ∀ i, ι2 i = ι' (up1 i) := ⟨fun i => ι' (up1 i), fun _ => rfl⟩
  have hιd : ∀ i b, S' i = some b → ι2 (dn1 i) = ι' i := fun i b hb => by
    rw [hι2, up_dn (hclean i b hb).1]
  have hu : Upd s.S ι (dnS S') ι2 := fun id b hb => by
    obtain ⟨b', h1, h2, h3⟩ := hupd _ _ (hS id b hb)
    have h4 := hSd _ _ h1
    rw [hup] at h4
    refine ⟨_, h4, by rw [ren_len] at h2 ⊢; exact h2, fun hl => ?_⟩
    rw [ren_len] at hl
    obtain ⟨q1, q2⟩ := h3 (by rw [ren_len]; exact hl)
    refine ⟨by rw [ren_wid] at q1 ⊢; exact q1, ?_⟩
    rw [hι2, q2]
    show ι (dn1 (up1 id)) = _
    rw [hup]
  have hnot : ∀ g, g < C.N → ¬ C.G g → notOf (upS s.S) (fun i => ι (dn1 i)) g := fun g h1 h2 id b hb hg => by
    obtain ⟨_, b', k1, _⟩ := upS_inv hb
    rcases R.base _ _ g k1 hg with h | h
    · omega
    · exact h2 h
  refine ⟨σ', ι2, R.size, fun i hi => (R.env i hi).mono hkeep hu, R.nod.mono (fun D h => (hsame D (Array.getElem?_eq_some_iff.1 h).1 (notOf_mark (owned_up R).1 h)).trans h), hf', fun id b hb => ?_, fun id id' b b' g h1 h2 g1 g2 => ?_, fun id b g hb hg => ?_, fun p x hx => hkeep _ _ (R.ext p x hx), fun p h1 h2 => ?_, ⟨hos.1.trans R.os.1, hos.2.1.trans R.os.2.1, hos.2.2.trans R.os.2.2⟩, ⟨Nat.le_trans R.grown.1 hsz, Nat.le_trans R.grown.2 hsz⟩, fun g h1 h2 => ?_, R.upd.trans hu⟩
  · obtain ⟨b', h1, rfl⟩ := dnS_inv hb
    have := BRep.ren (S2 := dnS S') (ι2 := ι2) (ρ := dn1) hSd hιd (hown'.1 _ _ h1)
    rw [hι2]
    exact this
  · obtain ⟨c1, k1, _⟩ := dnS_inv h1
    obtain ⟨c2, k2, _⟩ := dnS_inv h2
    rw [hι2] at g1 g2
    have := congrArg dn1 (hown'.2 _ _ _ _ g k1 k2 g1 g2)
    rw [hup, hup] at this
    exact this
  · obtain ⟨b', h1, _⟩ := dnS_inv hb
    rw [hι2] at hg
    rcases hbase _ _ g h1 hg with h2 | h2
    · exact .inl (by have := R.grown.1; omega)
    · by_cases hN : g < C.N
      · by_cases hG : C.G g
        · exact .inr hG
        · exact absurd (hnot g hN hG) h2
      · exact .inl (by omega)
  · exact (hold p (by have := R.grown.1; omega) (hnot _ h1 h2)).trans (R.old p h1 h2)
  · exact (hsame g (by have := R.grown.1; omega) (hnot g h1 h2)).trans (R.same g h1 h2)
theorem leaves_one {fn : Func} {g : FuncId} {vs : List Value} {avs : List AV} {u u' : FrameMode} {S' : AStore} {K : Ending → World → Prop} (R : Refs C σ ι s a w) (hpl : plainF P g = true) (hvs : All2 (VRep σ s.S ι) vs avs) (hu : u ≠ .run)
    (hd : ADef P g (AV.rens up1 avs) (upS s.S) u u' S') (hset : settle u' = .returning) (hfin : ∀ w', Holds C ⟨s.env, dnS S'⟩ a w' → ∃ v, (results fn a.tmps).run P w' = .ok v w' ∧ K (.returned v) w') :
    Leaves P fn a.tmps K [{ target := .fn (.func g) vs.toArray, args := #[] }] u w := by
  refine leaves_cons (f := g) (args := vs.toArray) hu ?_ ?_
  · have := run_enter (P := P) (w := w) (args := vs.toArray) hpl
    simpa [invoke] using this
  · have hargs : All2 (VRep σ (upS s.S) (fun i => ι (dn1 i))) vs (AV.rens up1 avs) := by
      rw [AV.rens_eq]
      exact (hvs.mono fun _ _ x => val_up R x).map_right
    refine (hd (clean_upS _) σ w vs _ (C.glob.mono R.ext) R.fit (owned_up R) hargs).mono fun e u1 w' he => ?_
    obtain ⟨⟨v, rfl⟩, rfl, hb⟩ := he
    dsimp only
    rw [hset]
    exact hfin w' (behind_refs R hb)
end
theorem run_assert_nil {P : Program} {w : World} {x t : TypeId} {k : IntKind} {z : Value} (hd : P.underlying t = some (.int k)) (hz : (P.info? t).bind (·.zero) = some z) : (Instr.typeAssert .nilIface x t true).run P w = .ok (.tuple #[z, .bool false]) w := by
  rw [Option.bind_eq_some_iff] at hz
  obtain ⟨i, hi, hz⟩ := hz
  unfold Instr.typeAssert
  simp [run_underlying hd, zeroValue, run_typeInfo w hi, hz]
theorem run_assert_hit {P : Program} {w : World} {x t : TypeId} {k : IntKind} {v : Value} (hd : P.underlying t = some (.int k)) : (Instr.typeAssert (.iface t v) x t true).run P w = .ok (.tuple #[v, .bool true]) w := by
  unfold Instr.typeAssert
  simp [run_underlying hd]
theorem behind_of {C : Ctx} {S : AStore} {ι : AHnd} {σ : Sto} {w w' : World} {s : AS} {a : Act} (hC : C.N = w.heap.size ∧ (C.G = fun g => ¬ notOf S ι g) ∧ C.σ0 = σ ∧ C.w0 = w ∧ C.S0 = S ∧ C.ι0 = ι) (hS : Clean s.S) (h : Holds C s a w') : Behind S ι σ w s.S w' := by
  obtain ⟨h1, h2, h3, h4, h5, h6⟩ := hC
  obtain ⟨σ', ι', R⟩ := h
  have ho := R.old
  have hu := R.upd
  have he := R.ext
  have hs := R.same
  have hb := R.base
  have hg := R.grown
  have hos := R.os
  rw [h1, h2] at ho hs hb
  rw [h3] at ho he
  rw [h4] at hs hg hos
  rw [h5, h6] at hu
  exact ⟨σ', ι', hS, hu, ⟨R.blk, R.inj⟩, R.fit, he, fun p q1 q2 => ho p q1 (fun h => h q2), hos, hg.2, fun g q1 q2 => hs g q1 (fun h => h q2), fun id b g q1 q2 => hb id b g q1 q2⟩
def EndD (P : Program) (g : FuncId) (avs : List AV) (rs : List RV) (r : AV) : AX → AS → Prop
  | .normal, s | .ret, s => ∃ S', ADef P g (AV.rens up1 avs) (upS s.S) .returning .returning S' ∧ (⟨s.env, dnS S'⟩ : AS).result rs = some r
  | .pan v, s => ∃ u' S', ADef P g (AV.rens up1 avs) (upS s.S) (.panicking [{ v := v, recovered := false }]) u' S' ∧ settle u' = .returning ∧ (⟨s.env, dnS S'⟩ : AS).result rs = some r
  | _, _ => False
def AS.up (s : AS) : AS := ⟨fun i => (s.env i).ren up1, upS s.S⟩
section
variable {P : Program}
theorem trCode_seq {n : Nat} {mu : List Nat} {c : Code} {x y : IR} (h : trCode P n mu c = some (.seq x y)) : ∃ c1 c2, c = .seq c1 c2 ∧ trCode P n mu c1 = some x ∧ trCode P n mu c2 = some y := by
  cases c <;> simp only [trCode] at h
  case seq c1 c2 =>
    split at h
    · rename_i x' y' e1 e2
      cases h
      exact ⟨c1, c2, rfl, e1, e2⟩
    · cases h
  all_goals (exfalso; revert h; (repeat' split) <;> simp)
end

set_option maxHeartbeats 1600000
abbrev lfault (e : Int) : Value := .iface 54 (.int .i64 e)
def lenvR (b c : Nat) (n : Int) (ok : Bool) : Nat → AV
  | 0 => .one (.ptr b 1 0 0)
  | 1 => .one (.ptr c 1 0 0)
  | 2 => aInt n
  | 3 => aBool ok
  | _ => .any
theorem lholdsR {b c : Nat} {n : Int} {ok : Bool} {S : AStore} {σ : Sto} {ι : AHnd} {w : World} {v1 v2 : Value} {a : Act} (hclean : Clean S) (hglob : GlobIn σ) (hfit : Fit σ w) (hown : Owned σ S ι w) (h1 : VRep σ S ι v1 (.one (.ptr b 1 0 0))) (h2 : VRep σ S ι v2 (.one (.ptr c 1 0 0))) (hn : inR .i64 n)
    (hs : 12 ≤ a.tmps.size) (g0 : a.tmps.getD 0 undef = v1) (g1 : a.tmps.getD 1 undef = v2) (g2 : a.tmps.getD 2 undef = .int .i64 n) (g3 : a.tmps.getD 3 undef = .bool ok) (hd : a.defers = []) :
    Holds ⟨12, w.heap.size, fun g => ¬ notOf S ι g, σ, w, S, ι, hclean, hglob, [], none, true⟩ ⟨lenvR b c n ok, S⟩ a w := by
  refine ⟨σ, ι, hs, fun i hi => ?_, ⟨[], by rw [hd]; rfl, List.nodup_nil, fun D h => (by simp at h), fun _ => rfl⟩, hfit, hown.1, hown.2, fun id b g h hg => .inr (fun hno => hno id b h hg), fun _ _ h => h, fun _ _ _ => rfl, ⟨rfl, rfl, rfl⟩, ⟨Nat.le_refl _, Nat.le_refl _⟩, fun _ _ _ => rfl, Upd.refl _ _⟩
  match i with
  | 0 => rw [g0]; exact h1
  | 1 => rw [g1]; exact h2
  | 2 => rw [g2]; exact .one (.st (.int hn))
  | 3 => rw [g3]; exact .one (.st .bool)
  | _ + 4 => exact .any
set_option maxRecDepth 100000 in
theorem lparse1_idle (b c : Nat) (S : AStore) : ADef Tryd.prog 28 [.one (.ptr b 1 0 0), .one (.ptr c 1 0 0)] S .returning .returning S := by
  intro hclean σ w vs ι hglob hfit hown hvs
  obtain ⟨v1, v2, rfl, r1, r2⟩ : ∃ v1 v2, vs = [v1, v2] ∧ VRep σ S ι v1 (.one (.ptr b 1 0 0)) ∧ VRep σ S ι v2 (.one (.ptr c 1 0 0)) := by
    cases hvs with
    | cons h1 hvs => cases hvs with
      | cons h2 hvs => cases hvs with
        | nil => exact ⟨_, _, rfl, h1, h2⟩
  have hta : ∀ w, (Instr.typeAssert .nilIface 20 54 true).run Tryd.prog w = .ok (.tuple #[.int .i64 0, .bool false]) w := fun w => run_assert_nil (P := Tryd.prog) (t := 54) Tryd.underlying54 (by kernel_rfl)
  obtain ⟨c1, c2, hc, h1, h2⟩ := trCode_seq tr_lambda_Parse_1
  have hb : Tryd.f28.body = some (.seq c1 c2) := congrArg some hc
  injection hc with e1 e2
  subst e1
  clear e2 h1
  refine callsD_of_wpS Tryd.func28 hb fun c₀ cs hu => ?_
  apply wpS_seq
  apply wpS_region
  simp [wpOpsS, go_sem, recoverD, hu, hta, Tryd.ntmps28, Exit.thenS]
  have hH := lholdsR (b := b) (c := c) (n := 0) (ok := false) (a := { tmps := #[v1, v2] ++ (((((((Array.replicate 10 undef).setIfInBounds 3 Value.nilIface).setIfInBounds 4 (Value.tuple #[Value.int IntKind.i64 0, Value.bool false])).setIfInBounds 2 (Value.tuple #[Value.int IntKind.i64 0, Value.bool false])).setIfInBounds 5 (Value.int IntKind.i64 0)).setIfInBounds 6 (Value.bool false)).setIfInBounds 0 (Value.int IntKind.i64 0)).setIfInBounds 1 (Value.bool false), defers := [] }) hclean hglob hfit hown r1 r2 (by rw [inR_i64]; omega) (by simp) (by simp) (by simp) (by simp) (by simp) rfl
  refine wpS_of_wp (wp_mono (wpIn_wide.1 ((?hw : IWP Tryd.prog _ [] _ (fun e s => e = .normal ∧ s.S = S) ⟨lenvR b c 0 false, S⟩) c2 h2 _ w hH)) fun e a' w' he => ?_)
  case' hw => skip
  rotate_left
  · skip
    cases e with
    | normal =>
      obtain ⟨s, ⟨_, hS⟩, hH'⟩ := he
      have hbe := behind_of ⟨rfl, rfl, rfl, rfl, rfl, rfl⟩ (by rw [hS]; exact hclean) hH'
      rw [hS] at hbe
      obtain ⟨σ', ι', R'⟩ := hH'
      refine ⟨R'.nod.none rfl, .returning, by rw [← hu], .tuple #[], by simp [results, Tryd.results28], ⟨_, rfl⟩, rfl, hbe⟩
    | ret => obtain ⟨s, h, _⟩ := he; cases h.1
    | exit id => obtain ⟨s, h, _⟩ := he; cases h.1
    | panic ch => obtain ⟨s, v, h, _⟩ := he; cases h.1.1
    | goto l => exact he.elim
    | outgrown => exact he.elim
  · repeat' (first | (with_reducible first | refine W ?_ | refine Wz0 ?_) | ((with_reducible first | refine Wo (fun K hK => ?_) | refine Wp ?_ | refine Wq ?_ | refine Wr ?_); (try simp only [go_sem, fN, seval, eT, iR, lenvR, dT, dF, nL]); (repeat with_reducible refine Ai ?_); (try (refine hK _ ?_; clear hK K)); (try with_reducible refine iC ?_)))
    exact ⟨rfl, rfl⟩
def lgone (S : AStore) (b c : Nat) (n : Int) : AStore := updE (updE S b (some (.box 25 [.st (.int .i64 0), .st (.int .i64 0), .full []]))) c (some (.box 28 [.st (.int .i64 n)]))
set_option maxRecDepth 100000 in
theorem lparse1_pan (n : Int) (hn : inR .i64 n) (b c : Nat) (S : AStore) (hb1 : 1000 ≤ b) (hc1 : 1000 ≤ c) (hbc : b ≠ c) {cs1 : List AC} {x1 : AC} (sb : S b = some (.box 25 cs1)) (hl : cs1.length = 3) (sc : S c = some (.box 28 [x1])) :
    ADef Tryd.prog 28 [.one (.ptr b 1 0 0), .one (.ptr c 1 0 0)] S (.panicking [{ v := lfault n, recovered := false }]) (.panicking [{ v := lfault n, recovered := true }]) (lgone S b c n) := by
  intro hclean σ w vs ι hglob hfit hown hvs
  obtain ⟨v1, v2, rfl, r1, r2⟩ : ∃ v1 v2, vs = [v1, v2] ∧ VRep σ S ι v1 (.one (.ptr b 1 0 0)) ∧ VRep σ S ι v2 (.one (.ptr c 1 0 0)) := by
    cases hvs with
    | cons h1 hvs => cases hvs with
      | cons h2 hvs => cases hvs with
        | nil => exact ⟨_, _, rfl, h1, h2⟩
  have hta : ∀ w, (Instr.typeAssert (.iface 54 (.int .i64 n)) 20 54 true).run Tryd.prog w = .ok (.tuple #[.int .i64 n, .bool true]) w := fun w => run_assert_hit (P := Tryd.prog) (t := 54) Tryd.underlying54
  obtain ⟨c1, c2, hc, h1, h2⟩ := trCode_seq tr_lambda_Parse_1
  have hb : Tryd.f28.body = some (.seq c1 c2) := congrArg some hc
  injection hc with e1 e2
  subst e1
  clear e2 h1
  refine callsD_of_wpS Tryd.func28 hb fun c₀ cs hu => ?_
  apply wpS_seq
  apply wpS_region
  simp [wpOpsS, go_sem, recoverD, hu, hta, Tryd.ntmps28, Exit.thenS]
  have hH := lholdsR (b := b) (c := c) (n := n) (ok := true) (a := { tmps := #[v1, v2] ++ (((((((Array.replicate 10 undef).setIfInBounds 3 (lfault n)).setIfInBounds 4 (Value.tuple #[Value.int IntKind.i64 n, Value.bool true])).setIfInBounds 2 (Value.tuple #[Value.int IntKind.i64 n, Value.bool true])).setIfInBounds 5 (Value.int IntKind.i64 n)).setIfInBounds 6 (Value.bool true)).setIfInBounds 0 (Value.int IntKind.i64 n)).setIfInBounds 1 (Value.bool true), defers := [] }) hclean hglob hfit hown r1 r2 hn (by simp) (by simp) (by simp) (by simp) (by simp) rfl
  refine wpS_of_wp (wp_mono (wpIn_wide.1 ((?hw : IWP Tryd.prog _ [] _ (fun e s => e = .normal ∧ s.S = lgone S b c n) ⟨lenvR b c n true, S⟩) c2 h2 _ w hH)) fun e a' w' he => ?_)
  case' hw => skip
  rotate_left
  · cases e with
    | normal =>
      obtain ⟨s, ⟨_, hS⟩, hH'⟩ := he
      have hbe := behind_of ⟨rfl, rfl, rfl, rfl, rfl, rfl⟩ (by rw [hS]; exact clean_upd (clean_upd hclean hb1 (by simp [ABlk.high, AC.highs, AC.high])) hc1 (by simp [ABlk.high, AC.highs, AC.high])) hH'
      rw [hS] at hbe
      obtain ⟨σ', ι', R'⟩ := hH'
      refine ⟨R'.nod.none rfl, _, rfl, .tuple #[], by simp [results, Tryd.results28], ⟨_, rfl⟩, rfl, hbe⟩
    | ret => obtain ⟨s, h, _⟩ := he; cases h.1
    | exit id => obtain ⟨s, h, _⟩ := he; cases h.1
    | panic ch => obtain ⟨s, v, h, _⟩ := he; cases h.1.1
    | goto l => exact he.elim
    | outgrown => exact he.elim
  · have hcb : ¬ c = b := fun h => hbc h.symm
    repeat' (first | (with_reducible first | refine W ?_ | refine Wz0 ?_) | ((with_reducible first | refine Wo (fun K hK => ?_) | refine Wp ?_ | refine Wq ?_ | refine Wr ?_); (try simp only [go_sem, fN, seval, eT, iR, lenvR, sb, sc, hl, hcb, dT, dF, nL]); (repeat with_reducible refine Ai ?_); (try (refine hK _ ?_; clear hK K)); (try with_reducible refine iC ?_)))
    refine ⟨rfl, ?_⟩
    have hdl : List.drop 3 cs1 = [] := List.drop_eq_nil_of_le (by omega)
    rw [hdl]
    rfl
theorem lsettled (n : Int) : settle (.panicking [{ v := lfault n, recovered := true }]) = .returning := by
  rfl

theorem lowS_is {S S1 : AStore} {a0 : Nat} {b : ABlk} (hS : Clean S) (ha : 1000 ≤ a0) (h1 : S1 a0 = some b) (h2 : ∀ i, 1000 ≤ i → i ≠ a0 → S1 i = S i) : lowS S1 = updE S a0 (some b) := by
  funext i
  show (if i < 1000 then none else S1 i) = _
  by_cases e : i = a0
  · subst e
    rw [if_neg (by omega), updE_same, h1]
  · rw [updE_ne _ e]
    by_cases hi : i < 1000
    · rw [if_pos hi, clean_none hS hi]
    · rw [if_neg hi, h2 i (by omega) e]
theorem highs_is {S S1 : AStore} {a0 : Nat} {b : ABlk} (hS : Clean S) (hb : b.high = true) (h1 : S1 a0 = some b) (h2 : ∀ i, 1000 ≤ i → i ≠ a0 → S1 i = S i) : ∀ i c, 1000 ≤ i → S1 i = some c → c.high = true := fun i c hi hc => by
  by_cases e : i = a0
  · subst e
    rw [h1] at hc
    cases hc
    exact hb
  · rw [h2 i hi e] at hc
    exact (hS i c hc).2
theorem finS_one {C : Ctx} {rs : List RV} {r : AV} {e : AX} {s : AS} {S : AStore} {a0 : Nat} {b : ABlk} (r0 : AV) (hS : Clean S) (ha : 1000 ≤ a0) (hb : b.high = true) (he : match e with | .normal => True | .ret => True | _ => False)
    (h1 : (resAll s rs).map tupV = some r0) (h2 : outV s.S r0 = some r) (h3 : s.S a0 = some b) (h4 : ∀ i, 1000 ≤ i → i ≠ a0 → s.S i = S i) : FinS C rs r (updE S a0 (some b)) e s :=
  finS_low he r0 h1 h2 (highs_is hS hb h3 h4) (lowS_is hS ha h3 h4) (clean_upd hS ha hb)
theorem finS_two {C : Ctx} {rs : List RV} {r : AV} {e : AX} {s : AS} {S : AStore} {a0 b0 : Nat} {b c : ABlk} (r0 : AV) (hS : Clean S) (ha : 1000 ≤ a0) (hb0 : 1000 ≤ b0) (hne : b0 ≠ a0) (hb : b.high = true) (hc : c.high = true) (he : match e with | .normal => True | .ret => True | _ => False)
    (h1 : (resAll s rs).map tupV = some r0) (h2 : outV s.S r0 = some r) (h3 : s.S a0 = some b) (h3' : s.S b0 = some c) (h4 : ∀ i, 1000 ≤ i → i ≠ a0 → i ≠ b0 → s.S i = S i) : FinS C rs r (updE (updE S a0 (some b)) b0 (some c)) e s :=
  finS_low he r0 h1 h2 (fun i x hi hx => by
    by_cases e1 : i = a0
    · subst e1; rw [h3] at hx; cases hx; exact hb
    · by_cases e2 : i = b0
      · subst e2; rw [h3'] at hx; cases hx; exact hc
      · rw [h4 i hi e1 e2] at hx; exact (hS i x hx).2) (by
    funext i
    show (if i < 1000 then none else s.S i) = _
    by_cases e2 : i = b0
    · subst e2
      rw [updE_same, if_neg (by omega), h3']
    · rw [updE_ne _ e2]
      by_cases e1 : i = a0
      · subst e1
        rw [updE_same, if_neg (by omega), h3]
      · rw [updE_ne _ e1]
        by_cases hi : i < 1000
        · rw [if_pos hi, clean_none hS hi]
        · rw [if_neg hi, h4 i (by omega) e1 e2]) (clean_upd (clean_upd hS ha hb) hb0 hc)

theorem Ghost.kill {C : Ctx} {s : AS} (id : Nat) {ty : TypeId} {xs : List AC} (hS : s.S id = some (.box ty xs)) : Ghost C s (s.set id (.dead 1 0)) := fun a w ⟨σ, ι, R⟩ => by
  have hb := R.blk _ _ hS
  cases hb with
  | @box _ _ g vs h1 h2 h3 h4 h5 =>
    obtain ⟨hu, R'⟩ := R.turn (w' := w) hS (.dead 1 0) (ι id) (σ' := σ) (fun _ _ h => h) (fun _ _ _ => rfl) R.fit (Nat.le_refl _) (fun _ => ⟨rfl, rfl⟩) ⟨rfl, rfl, rfl⟩ (Nat.le_refl _) (fun _ _ _ => rfl) (fun g h => .inl h)
      (fun hu => .dead fun g' hg' => by rw [h1] at hg'; cases hg'; exact ⟨_, h3, rfl⟩)
    exact ⟨σ, _, R'⟩
theorem finP_at {C : Ctx} {v : Value} {s : AS} {S : AStore} {a0 : Nat} (hS : Clean S) (ha : 1000 ≤ a0) (h3 : s.S a0 = some (.dead 1 0)) (h4 : ∀ i, 1000 ≤ i → i ≠ a0 → s.S i = S i) : FinP C v (updE S a0 (some (.dead 1 0))) (.pan v) s :=
  ⟨rfl, _, Ghost.low (highs_is hS rfl h3 h4), lowS_is hS ha h3 h4, clean_upd hS ha rfl⟩
theorem finP_box {C : Ctx} {v : Value} {s : AS} {S : AStore} {a0 : Nat} {ty : TypeId} {xs : List AC} (hS : Clean S) (ha : 1000 ≤ a0) (h3 : s.S a0 = some (.box ty xs)) (h4 : ∀ i, 1000 ≤ i → i ≠ a0 → s.S i = S i) : FinP C v (updE S a0 (some (.dead 1 0))) (.pan v) s := by
  obtain ⟨h1, s2, hg, h5, h6⟩ := finP_at (C := C) (v := v) (s := s.set a0 (.dead 1 0)) hS ha (updE_same _ _ _) (fun i hi hne => (updE_ne _ hne _).trans (h4 i hi hne))
  exact ⟨h1, s2, (Ghost.kill a0 h3).trans hg, h5, h6⟩


theorem IWP.cut {P : Program} {C : Ctx} {mu : List Nat} {Q : AX → AS → Prop} {s : AS} {x : IR} (id : Nat) (M : AS → Prop) (h1 : IWP P C mu x (fun e s => e = .exit id ∧ M s) s) (h2 : ∀ s, M s → Q (.exit id) s) : IWP P C mu x Q s :=
  h1.mono fun e s h => by
    obtain ⟨rfl, hm⟩ := h
    exact h2 s hm

abbrev boxL (u : ByteArray) (nm : AC) (l : Int) : ABlk := .box 59 [.st (.str u), nm, .st (.int .i64 l)]
theorem boxL_high {u : ByteArray} {nm : AC} {l : Int} (h : nm.high = true) : (boxL u nm l).high = true := by
  show AC.highs [_, nm, _] = true
  simp only [AC.highs, AC.high, h, Bool.and_self]
theorem ltake_S {u : ByteArray} {nm : AC} {l : Int} {b : Nat} {S : AStore} (hb : 1000 ≤ b) (hnm : nm.high = true) (sb : S b = some (boxL u nm l)) (h0 : 1 ≤ l) (h1 : l ≤ 200) : ACallsS Tryd.prog 42 [.one (.ptr b 1 0 0)] S (.tup []) (updE S b (some (boxL u nm (l - 1)))) := by
  refine ok_metaprune_lambda_reader_take.acS fun hS C hC => ?_
  unfold ir_metaprune_lambda_reader_take
  repeat' (first | (with_reducible first | refine W ?_ | refine Wz0 ?_) | ((with_reducible first | refine Wx rfl (fun K hK => ?_) | refine Wp ?_ | refine Wq ?_ | refine Wr ?_); (try simp only [go_sem, fN, seval, eT, iR, AS.startS, sb, dT, dF, nL]); (repeat with_reducible refine Ai ?_); (try (refine hK _ ?_; clear hK K)); (try with_reducible refine iC ?_)))
  refine ⟨fun h => by omega, fun _ => ?_⟩
  repeat' (first | (with_reducible first | refine W ?_ | refine Wz0 ?_) | ((with_reducible first | refine Wx rfl (fun K hK => ?_) | refine Wp ?_ | refine Wq ?_ | refine Wr ?_); (try simp only [go_sem, fN, seval, eT, iR, dT, dF, nL]); (repeat with_reducible refine Ai ?_); (try (refine hK _ ?_; clear hK K)); (try with_reducible refine iC ?_)))
  exact finS_one (.tup []) hS hb (boxL_high hnm) trivial rfl rfl (by simp [updE]) fun i h1 h2 => by simp [updE, h2]
theorem ltake_P {u : ByteArray} {nm : AC} {l : Int} {b : Nat} {S : AStore} (hb : 1000 ≤ b) (hnm : nm.high = true) (sb : S b = some (boxL u nm l)) (h0 : l ≤ 0) (h1 : -200 ≤ l) : APan Tryd.prog 42 [.one (.ptr b 1 0 0)] S (lfault 3) (updE S b (some (.dead 1 0))) := by
  refine ok_metaprune_lambda_reader_take.acP fun hS C hC => ?_
  unfold ir_metaprune_lambda_reader_take
  repeat' (first | (with_reducible first | refine W ?_ | refine Wz0 ?_) | ((with_reducible first | refine Wx rfl (fun K hK => ?_) | refine Wp ?_ | refine Wq ?_ | refine Wr ?_); (try simp only [go_sem, fN, seval, eT, iR, AS.startS, sb, dT, dF, nL]); (repeat with_reducible refine Ai ?_); (try (refine hK _ ?_; clear hK K)); (try with_reducible refine iC ?_)))
  refine ⟨fun _ => ?_, fun h => by omega⟩
  refine IWP.opsPan 1 _ rfl (by kernel_rfl) ?_
  simp only [go_sem, fN, seval, eT, iR, PanAt, List.take_succ_cons, List.take_zero]
  intro envP
  repeat' (with_reducible first | refine Wy ?_ | refine Wz ?_ | refine Wv ?_)
  exact finP_box hS hb (by simp [updE]; exact ⟨rfl, rfl⟩) fun i h1 h2 => by simp [updE, h2]
def aheadL (u : ByteArray) : Int := if u.size = 0 then 0 else byteN u 0
theorem lnext_S {u : ByteArray} {nm : AC} {l : Int} {b : Nat} {S : AStore} (hb : 1000 ≤ b) (sb : S b = some (boxL u nm l)) : ACallsS Tryd.prog 41 [.one (.ptr b 1 0 0)] S (.one (.st (.int .u8 (aheadL u)))) S := by
  refine ok_metaprune_lambda_reader_next.acS fun hS C hC => ?_
  unfold ir_metaprune_lambda_reader_next
  repeat' (first | (with_reducible first | refine W ?_ | refine Wz0 ?_) | ((with_reducible first | refine Wo (fun K hK => ?_) | refine Wp ?_ | refine Wq ?_ | refine Wr ?_); (try simp only [go_sem, fN, seval, eT, iR, AS.startS, sb, dT, dF, nL]); (repeat with_reducible refine Ai ?_); (try (refine hK _ ?_; clear hK K)); (try with_reducible refine iC ?_)))
  refine ⟨fun h => ?_, fun h => ?_⟩
  · subst h
    repeat' (first | (with_reducible first | refine W ?_ | refine Wz0 ?_) | ((with_reducible first | refine Wo (fun K hK => ?_) | refine Wp ?_ | refine Wq ?_ | refine Wr ?_); (try simp only [go_sem, fN, seval, eT, iR, dT, dF, nL]); (repeat with_reducible refine Ai ?_); (try (refine hK _ ?_; clear hK K)); (try with_reducible refine iC ?_)))
    exact finS_same (.one (.st (.int .u8 0))) hS trivial rfl rfl fun i _ => rfl
  · have hpos : 0 < u.size := Nat.pos_of_ne_zero fun h0 => h (ByteArray.size_eq_zero_iff.1 h0)
    have e : aheadL u = byteN u 0 := if_neg (by omega)
    rw [e]
    repeat' (first | (with_reducible first | refine W ?_ | refine Wz0 ?_) | ((with_reducible first | refine Wo (fun K hK => ?_) | refine Wp ?_ | refine Wq ?_ | refine Wr ?_); (try simp only [go_sem, fN, seval, eT, iR, sb, dT, dF, nL]); (repeat with_reducible refine Ai ?_); (try (refine hK _ ?_; clear hK K)); (try with_reducible refine iC ?_)))
    exact finS_same (.one (.st (.int .u8 (byteN u 0)))) hS trivial rfl rfl fun i _ => rfl
theorem lsign_S {u : ByteArray} {nm : AC} {l : Int} {b : Nat} {S : AStore} (c : Int) (hb : 1000 ≤ b) (hnm : nm.high = true) (sb : S b = some (boxL u nm l)) (h0 : 0 < u.size) (hc : byteN u 0 = c) : ACallsS Tryd.prog 44 [.one (.ptr b 1 0 0), .one (.st (.int .u8 c))] S (.tup []) (updE S b (some (boxL (u.extract 1 u.size) nm l))) := by
  refine ok_metaprune_lambda_reader_sign.acS fun hS C hC => ?_
  unfold ir_metaprune_lambda_reader_sign
  have hne : ¬ u = ⟨#[]⟩ := fun h => by rw [h] at h0; exact absurd h0 (by decide)
  repeat' (first | (with_reducible first | refine W ?_ | refine Wz0 ?_) | ((with_reducible first | refine Wx rfl (fun K hK => ?_) | refine Wp ?_ | refine Wq ?_ | refine Wr ?_); (try simp only [go_sem, fN, seval, eT, iR, AS.startS, sb, hne, hc, dT, dF, nL]); (repeat with_reducible refine Ai ?_); (try (refine hK _ ?_; clear hK K)); (try with_reducible refine iC ?_)))
  exact finS_one (.tup []) hS hb (boxL_high hnm) trivial rfl rfl (by simp [updE]) fun i h1 h2 => by simp [updE, h2]
theorem lsign_P1 {u : ByteArray} {nm : AC} {l : Int} {b : Nat} {S : AStore} (c : Int) (hb : 1000 ≤ b) (sb : S b = some (boxL u nm l)) (h0 : u = ⟨#[]⟩) : APan Tryd.prog 44 [.one (.ptr b 1 0 0), .one (.st (.int .u8 c))] S (lfault 13) (updE S b (some (.dead 1 0))) := by
  refine ok_metaprune_lambda_reader_sign.acP fun hS C hC => ?_
  unfold ir_metaprune_lambda_reader_sign
  repeat' (first | (with_reducible first | refine W ?_ | refine Wz0 ?_) | ((with_reducible first | refine Wx rfl (fun K hK => ?_) | refine Wp ?_ | refine Wq ?_ | refine Wr ?_); (try simp only [go_sem, fN, seval, eT, iR, AS.startS, sb, h0, dT, dF, nL]); (repeat with_reducible refine Ai ?_); (try (refine hK _ ?_; clear hK K)); (try with_reducible refine iC ?_)))
  refine IWP.opsPan 1 _ rfl (by kernel_rfl) ?_
  simp only [go_sem, fN, seval, eT, iR, PanAt, List.take_succ_cons, List.take_zero]
  intro envP
  repeat' (with_reducible first | refine Wy ?_ | refine Wz ?_ | refine Wv ?_)
  exact finP_box hS hb (by simp [updE, sb]; exact ⟨rfl, rfl⟩) fun i h1 h2 => rfl
theorem lsign_P2 {u : ByteArray} {nm : AC} {l : Int} {b : Nat} {S : AStore} (c : Int) (hb : 1000 ≤ b) (sb : S b = some (boxL u nm l)) (h0 : 0 < u.size) (hc : ¬ byteN u 0 = c) : APan Tryd.prog 44 [.one (.ptr b 1 0 0), .one (.st (.int .u8 c))] S (lfault 12) (updE S b (some (.dead 1 0))) := by
  refine ok_metaprune_lambda_reader_sign.acP fun hS C hC => ?_
  unfold ir_metaprune_lambda_reader_sign
  have hne : ¬ u = ⟨#[]⟩ := fun h => by rw [h] at h0; exact absurd h0 (by decide)
  repeat' (first | (with_reducible first | refine W ?_ | refine Wz0 ?_) | ((with_reducible first | refine Wx rfl (fun K hK => ?_) | refine Wp ?_ | refine Wq ?_ | refine Wr ?_); (try simp only [go_sem, fN, seval, eT, iR, AS.startS, sb, hne, hc, dT, dF, nL]); (repeat with_reducible refine Ai ?_); (try (refine hK _ ?_; clear hK K)); (try with_reducible refine iC ?_)))
  refine IWP.opsPan 1 _ rfl (by kernel_rfl) ?_
  simp only [go_sem, fN, seval, eT, iR, PanAt, List.take_succ_cons, List.take_zero]
  intro envP
  repeat' (with_reducible first | refine Wy ?_ | refine Wz ?_ | refine Wv ?_)
  exact finP_box hS hb (by simp [updE, sb]; exact ⟨rfl, rfl⟩) fun i h1 h2 => rfl
theorem letter_cases (c : Int) : letterI c = true ∧ ((97 ≤ c ∧ c ≤ 122 ∧ 65 ≤ c ∧ ¬ c ≤ 90 ∧ 48 ≤ c ∧ ¬ c ≤ 57) ∨ (¬ 97 ≤ c ∧ c ≤ 122 ∧ 65 ≤ c ∧ c ≤ 90 ∧ 48 ≤ c ∧ ¬ c ≤ 57) ∨ (¬ 97 ≤ c ∧ c ≤ 122 ∧ ¬ 65 ≤ c ∧ c ≤ 90 ∧ 48 ≤ c ∧ c ≤ 57)) ∨
    ¬ letterI c = true ∧ ((97 ≤ c ∧ ¬ c ≤ 122 ∧ 65 ≤ c ∧ ¬ c ≤ 90 ∧ 48 ≤ c ∧ ¬ c ≤ 57) ∨ (¬ 97 ≤ c ∧ c ≤ 122 ∧ 65 ≤ c ∧ ¬ c ≤ 90 ∧ 48 ≤ c ∧ ¬ c ≤ 57) ∨ (¬ 97 ≤ c ∧ c ≤ 122 ∧ ¬ 65 ≤ c ∧ c ≤ 90 ∧ 48 ≤ c ∧ ¬ c ≤ 57) ∨ (¬ 97 ≤ c ∧ c ≤ 122 ∧ ¬ 65 ≤ c ∧ c ≤ 90 ∧ ¬ 48 ≤ c ∧ c ≤ 57)) := by
  simp only [letterI, Bool.or_eq_true, decide_eq_true_eq]
  omega
def NameAt (b : Nat) (n : Nat) (S : AStore) (x : AS) : Prop := x.env 0 = .one (.ptr b 1 0 0) ∧ x.env 3 = aInt n ∧ x.S = S
set_option maxRecDepth 100000 in
theorem lname_Q {u : ByteArray} {nm : AC} {l : Int} {b : Nat} {S : AStore} {C : Ctx} {Q : AX → AS → Prop} (hu : u.size ≤ 100000) (sb : S b = some (boxL u nm l))
    (hok : lendA u 0 ≠ 0 → nameOk (u.extract 0 (lendA u 0)) = true → ∀ x : AS, x.env 2 = aStr (u.extract 0 (lendA u 0)) → x.S b = some (boxL (u.extract (lendA u 0) u.size) nm l) → (∀ i, 1000 ≤ i → i ≠ b → x.S i = S i) → Q .ret x)
    (hp : ∀ (e : Int) (x : AS), (lendA u 0 = 0 ∧ u = ⟨#[]⟩ ∧ e = 13) ∨ (lendA u 0 = 0 ∧ ¬ u = ⟨#[]⟩ ∧ e = 12) ∨ (lendA u 0 ≠ 0 ∧ ¬ nameOk (u.extract 0 (lendA u 0)) = true ∧ e = 1) → x.S = S → Q (.pan (lfault e)) x) : IWP Tryd.prog C [] ir_metaprune_lambda_reader_name Q (AS.startS [.one (.ptr b 1 0 0)] S) := by
  unfold ir_metaprune_lambda_reader_name
  obtain ⟨l1, l2⟩ := lendA_le (s := u) (i := 0) (Nat.zero_le _)
  repeat' (first | (with_reducible first | refine W ?_ | refine Wz0 ?_) | ((with_reducible first | refine Wx rfl (fun K hK => ?_) | refine Wp ?_ | refine Wq ?_ | refine Wr ?_); (try simp only [go_sem, fN, seval, eT, iR, AS.startS, sb, dT, dF, nL]); (repeat with_reducible refine Ai ?_); (try (refine hK _ ?_; clear hK K)); (try with_reducible refine iC ?_)))
  refine IWP.cut 0 (NameAt b (lendA u 0) S) ?_ ?_
  · refine IWP.loop (fun m x => ∃ j, j ≤ u.size ∧ m = u.size - j ∧ lendA u 0 = lendA u j ∧ NameAt b j S x) u.size ⟨0, Nat.zero_le _, rfl, rfl, rfl, rfl, rfl⟩ ?_
    rintro m ⟨env, S1⟩ ⟨j, hj, rfl, hl, v0, v3, hS1⟩
    simp only at v0 v3 hS1
    subst hS1
    by_cases hlt : (j : Int) < u.size
    · have hbt : byteN u j = byteAt u j := by
        have := byteN_tail (s := u) (i := 0) (k := j) (by omega)
        simpa [tailS] using this
      rcases letter_cases (byteN u j) with ⟨hlet, h⟩ | ⟨hlet, h⟩
      · have hgo : lendA u 0 = lendA u (j + 1) := by rw [hl]; exact lendA_on (by omega) (by rw [← hbt]; exact hlet)
        rcases h with ⟨h1, h2, h3, h4, h5, h6⟩ | ⟨h1, h2, h3, h4, h5, h6⟩ | ⟨h1, h2, h3, h4, h5, h6⟩ <;>
        · repeat' (first | (with_reducible first | refine W ?_ | refine Wz0 ?_) | ((with_reducible first | refine Wx rfl (fun K hK => ?_) | refine Wp ?_ | refine Wq ?_ | refine Wr ?_); (try simp only [go_sem, fN, seval, eT, iR, v0, v3, sb, hlt, h1, h2, h3, h4, h5, h6, dT, dF, nL]); (repeat with_reducible refine Ai ?_); (try (refine hK _ ?_; clear hK K)); (try with_reducible refine iC ?_)))
          exact ⟨u.size - (j + 1), by omega, j + 1, by omega, rfl, hgo, v0, rfl, rfl⟩
      · have hst : lendA u 0 = j := by rw [hl]; exact lendA_stop (by omega) (by rw [← hbt]; exact hlet)
        rcases h with ⟨h1, h2, h3, h4, h5, h6⟩ | ⟨h1, h2, h3, h4, h5, h6⟩ | ⟨h1, h2, h3, h4, h5, h6⟩ | ⟨h1, h2, h3, h4, h5, h6⟩ <;>
        · repeat' (first | (with_reducible first | refine W ?_ | refine Wz0 ?_) | ((with_reducible first | refine Wx rfl (fun K hK => ?_) | refine Wp ?_ | refine Wq ?_ | refine Wr ?_); (try simp only [go_sem, fN, seval, eT, iR, v0, v3, sb, hlt, h1, h2, h3, h4, h5, h6, dT, dF, nL]); (repeat with_reducible refine Ai ?_); (try (refine hK _ ?_; clear hK K)); (try with_reducible refine iC ?_)))
          exact ⟨rfl, v0, by rw [hst]; exact v3, rfl⟩
    · have hst : lendA u 0 = j := by rw [hl]; exact lendA_end (by omega)
      repeat' (first | (with_reducible first | refine W ?_ | refine Wz0 ?_) | ((with_reducible first | refine Wx rfl (fun K hK => ?_) | refine Wp ?_ | refine Wq ?_ | refine Wr ?_); (try simp only [go_sem, fN, seval, eT, iR, v0, v3, sb, hlt, dT, dF, nL]); (repeat with_reducible refine Ai ?_); (try (refine hK _ ?_; clear hK K)); (try with_reducible refine iC ?_)))
      exact ⟨rfl, v0, by rw [hst]; exact v3, rfl⟩
  · rintro ⟨env, S1⟩ ⟨v0, v3, hS1⟩
    simp only at v0 v3 hS1
    subst hS1
    generalize lendA u 0 = n at *
    by_cases hn0 : n = 0
    · have hn1 : (n : Int) = 0 := by omega
      by_cases hu0 : u = ⟨#[]⟩
      · repeat' (first | (with_reducible first | refine W ?_ | refine Wz0 ?_) | ((with_reducible first | refine Wx rfl (fun K hK => ?_) | refine Wp ?_ | refine Wq ?_ | refine Wr ?_); (try simp only [go_sem, fN, seval, eT, iR, v0, v3, sb, hn0, hn1, hu0, dT, dF, nL]); (repeat with_reducible refine Ai ?_); (try (refine hK _ ?_; clear hK K)); (try with_reducible refine iC ?_)))
        refine IWP.opsPan 1 _ rfl (by kernel_rfl) ?_
        simp only [go_sem, fN, seval, eT, iR, PanAt, List.take_succ_cons, List.take_zero]
        intro envP
        repeat' (with_reducible first | refine Wy ?_ | refine Wz ?_ | refine Wv ?_)
        exact hp 13 _ (.inl ⟨hn0, hu0, rfl⟩) rfl
      · repeat' (first | (with_reducible first | refine W ?_ | refine Wz0 ?_) | ((with_reducible first | refine Wx rfl (fun K hK => ?_) | refine Wp ?_ | refine Wq ?_ | refine Wr ?_); (try simp only [go_sem, fN, seval, eT, iR, v0, v3, sb, hn0, hn1, hu0, dT, dF, nL]); (repeat with_reducible refine Ai ?_); (try (refine hK _ ?_; clear hK K)); (try with_reducible refine iC ?_)))
        refine IWP.opsPan 1 _ rfl (by kernel_rfl) ?_
        simp only [go_sem, fN, seval, eT, iR, PanAt, List.take_succ_cons, List.take_zero]
        intro envP
        repeat' (with_reducible first | refine Wy ?_ | refine Wz ?_ | refine Wv ?_)
        exact hp 12 _ (.inr (.inl ⟨hn0, hu0, rfl⟩)) rfl
    · have hn1 : ¬ (n : Int) = 0 := by omega
      by_cases hnm : nameOk (u.extract 0 n) = true
      · repeat' (first | (with_reducible first | refine W ?_ | refine Wz0 ?_) | refine Cg _ (name_a (u.extract 0 n)) ?_ | ((with_reducible first | refine Wx rfl (fun K hK => ?_) | refine Wp ?_ | refine Wq ?_ | refine Wr ?_); (try simp only [go_sem, fN, seval, eT, iR, v0, v3, sb, hn0, hn1, hnm, dT, dF, nL]); (repeat with_reducible refine Ai ?_); (try (refine hK _ ?_; clear hK K)); (try with_reducible refine iC ?_)))
        exact hok hn0 hnm _ rfl (by simp [updE]) fun i h1 h2 => by simp [updE, h2]
      · repeat' (first | (with_reducible first | refine W ?_ | refine Wz0 ?_) | refine Cg _ (name_a (u.extract 0 n)) ?_ | ((with_reducible first | refine Wx rfl (fun K hK => ?_) | refine Wp ?_ | refine Wq ?_ | refine Wr ?_); (try simp only [go_sem, fN, seval, eT, iR, v0, v3, sb, hn0, hn1, hnm, dT, dF, nL]); (repeat with_reducible refine Ai ?_); (try (refine hK _ ?_; clear hK K)); (try with_reducible refine iC ?_)))
        refine IWP.opsPan 1 _ rfl (by kernel_rfl) ?_
        simp only [go_sem, fN, seval, eT, iR, PanAt, List.take_succ_cons, List.take_zero]
        intro envP
        repeat' (with_reducible first | refine Wy ?_ | refine Wz ?_ | refine Wv ?_)
        exact hp 1 _ (.inr (.inr ⟨hn0, hnm, rfl⟩)) rfl
theorem lname_S {u : ByteArray} {nm : AC} {l : Int} {b : Nat} {S : AStore} (hu : u.size ≤ 100000) (hb : 1000 ≤ b) (hnm : nm.high = true) (sb : S b = some (boxL u nm l)) (h0 : lendA u 0 ≠ 0) (hok : nameOk (u.extract 0 (lendA u 0)) = true) : ACallsS Tryd.prog 43 [.one (.ptr b 1 0 0)] S (aStr (u.extract 0 (lendA u 0))) (updE S b (some (boxL (u.extract (lendA u 0) u.size) nm l))) :=
  ok_metaprune_lambda_reader_name.acS fun hS C hC => lname_Q hu sb (fun _ _ x h1 h2 h3 => finS_one (aStr (u.extract 0 (lendA u 0))) hS hb (boxL_high hnm) trivial (by simp only [resAll, resOne, h1]; rfl) rfl h2 h3) fun e x h _ => by
    rcases h with ⟨h, _⟩ | ⟨h, _⟩ | ⟨_, h, _⟩
    · exact absurd h h0
    · exact absurd h h0
    · exact absurd hok h
theorem lname_P {u : ByteArray} {nm : AC} {l : Int} {b : Nat} {S : AStore} (e : Int) (hu : u.size ≤ 100000) (hb : 1000 ≤ b) (sb : S b = some (boxL u nm l)) (he : (lendA u 0 = 0 ∧ u = ⟨#[]⟩ ∧ e = 13) ∨ (lendA u 0 = 0 ∧ ¬ u = ⟨#[]⟩ ∧ e = 12) ∨ (lendA u 0 ≠ 0 ∧ ¬ nameOk (u.extract 0 (lendA u 0)) = true ∧ e = 1)) : APan Tryd.prog 43 [.one (.ptr b 1 0 0)] S (lfault e) (updE S b (some (.dead 1 0))) :=
  ok_metaprune_lambda_reader_name.acP fun hS C hC => lname_Q hu sb (fun h1 h2 => by
    rcases he with ⟨h, _⟩ | ⟨h, _⟩ | ⟨_, h, _⟩
    · exact absurd h h1
    · exact absurd h h1
    · exact absurd h2 h) fun e' x h hx => by
    have hee : e' = e := by
      rcases he with ⟨a1, a2, a3⟩ | ⟨a1, a2, a3⟩ | ⟨a1, a2, a3⟩ <;> rcases h with ⟨b1, b2, b3⟩ | ⟨b1, b2, b3⟩ | ⟨b1, b2, b3⟩ <;> first | (rw [a3, b3]; done) | exact absurd b1 a1 | exact absurd a1 b1 | exact absurd a2 b2 | exact absurd b2 a2
    rw [hee]
    exact finP_box hS hb (by rw [hx]; exact sb) fun i _ _ => by rw [hx]

def AIter (P : Program) (f : FuncId) (caps : List AV) (Need : AStore → Prop) {α : Type} (encs : α → List AV) (all : List α) : Prop :=
  ∀ (y : Nat) (Inv : List α → AStore → Prop) (Jx : AStore → Prop) (T : AStore), 1000 ≤ y → (∀ pre T, Inv pre T → Need T) →
    (∀ pre v, (pre ++ [v]) <+: all → ∀ T, Inv pre T → AYields P (.one (.yld y)) (encs v) T fun r T' => (r = .one (.st (.bool true)) ∧ Inv (pre ++ [v]) T') ∨ (r = .one (.st (.bool false)) ∧ Jx T')) →
    Inv [] T → ACallsR P f (.one (.yld y) :: caps) T fun _ T' => Inv all T' ∨ Jx T'
def setPs (env : Nat → AV) : List Nat → List AV → Nat → AV
  | p :: ps, v :: vs => setPs (updE env p v) ps vs
  | _, _ => env
section
variable {σ : Sto} {S : AStore} {ι : AHnd}
theorem setPs_rep {n : Nat} : ∀ {ps : List Nat} {vs : List Value} {xs : List AV} {tmps : Array Value} {env : Nat → AV}, All2 (VRep σ S ι) vs xs → n ≤ tmps.size → (∀ i, i < n → VRep σ S ι (tmps.getD i undef) (env i)) →
    n ≤ ((ps.zip vs).foldl (fun t (p, v) => t.setIfInBounds p v) tmps).size ∧ ∀ i, i < n → VRep σ S ι (((ps.zip vs).foldl (fun t (p, v) => t.setIfInBounds p v) tmps).getD i undef) (setPs env ps xs i)
  | [], vs, xs, tmps, env, h, hs, he => ⟨hs, he⟩
  | p :: ps, [], [], tmps, env, h, hs, he => ⟨hs, he⟩
  | p :: ps, v :: vs, x :: xs, tmps, env, h, hs, he => by
    cases h with
    | cons h1 h2 =>
      refine setPs_rep (ps := ps) h2 (by simpa using hs) fun i hi => ?_
      unfold updE
      by_cases e : i = p
      · subst e
        rw [if_pos rfl, Array.getD_eq_getD_getElem?, Array.getElem?_setIfInBounds_self_of_lt (by omega)]
        exact h1
      · rw [if_neg e, Array.getD_eq_getD_getElem?, Array.getElem?_setIfInBounds_ne (fun h => e h.symm), ← Array.getD_eq_getD_getElem?]
        exact he i hi
end
section
variable {P : Program} {C : Ctx} {mu : List Nat} {Q : AX → AS → Prop} {s : AS} {x y : IR} {σ : Sto} {ι : AHnd} {a : Act} {w : World}
theorem Refs.upped (R : Refs C σ ι s a w) : ∃ ι1 : AHnd, (∀ i, ι1 (up1 i) = ι i) ∧ Owned σ (upS s.S) ι1 w ∧ (∀ v c, VRep σ s.S ι v c → VRep σ (upS s.S) ι1 v (c.ren up1)) ∧
    ∀ {Post : AV → AStore → Prop} {e : Ending} {w' : World}, EndS σ (upS s.S) ι1 w Post e w' → ∃ v r S' σ' ι2, e = .returned v ∧ Post r S' ∧ Clean S' ∧ Upd s.S ι (dnS S') ι2 ∧ Refs C σ' ι2 ⟨s.env, dnS S'⟩ a w' := by
  have hup : ∀ i, dn1 (up1 i) = i := dn_up
  have hS : ∀ i b, s.S i = some b → upS s.S (up1 i) = some (b.ren up1) := fun i b hb => upS_some hb
  obtain ⟨ι1, hι1⟩ : ∃ ι1 : AHnd, ∀ i, ι1 i = ι (dn1 i) := ⟨fun i => ι (dn1 i), fun _ => rfl⟩
  have hι : ∀ i b, s.S i = some b → ι1 (up1 i) = ι i := fun i b _ => by rw [hι1, hup]
  have hown : Owned σ (upS s.S) ι1 w := by
    refine ⟨fun id b hb => ?_, fun id id' b b' g h1 h2 g1 g2 => ?_⟩
    · obtain ⟨hle, b', h1, rfl⟩ := upS_inv hb
      have := BRep.ren (S2 := upS s.S) (ι2 := ι1) (ρ := up1) hS hι (R.blk _ _ h1)
      rw [hι1]
      exact this
    · obtain ⟨l1, c1, k1, _⟩ := upS_inv h1
      obtain ⟨l2, c2, k2, _⟩ := upS_inv h2
      rw [hι1] at g1 g2
      have := R.inj _ _ _ _ g k1 k2 g1 g2
      rw [← up_dn l1, ← up_dn l2, this]
  refine ⟨ι1, fun i => by rw [hι1, hup], hown, fun v c hv => VRep.ren (S2 := upS s.S) (ι2 := ι1) (ρ := up1) hS hι hv, fun {Post e w'} he => ?_⟩
  obtain ⟨v, r, S', σ', ι', rfl, hP, hclean, hupd, hown', hv, hf', hkeep, hold, hos, hsz, hsame, hbase⟩ := he
  have hSd : ∀ i b, S' i = some b → dnS S' (dn1 i) = some (b.ren dn1) := fun i b hb => dnS_some (hclean i b hb).1 hb
  obtain ⟨ι2, hι2⟩ : ∃ ι2 : AHnd, ∀ i, ι2 i = ι' (up1 i) := ⟨fun i => ι' (up1 i), fun _ => rfl⟩
  have hιd : ∀ i b, S' i = some b → ι2 (dn1 i) = ι' i := fun i b hb => by
    rw [hι2, up_dn (hclean i b hb).1]
  have hu : Upd s.S ι (dnS S') ι2 := fun id b hb => by
    obtain ⟨b', h1, h2, h3⟩ := hupd _ _ (hS id b hb)
    have h4 := hSd _ _ h1
    rw [hup] at h4
    refine ⟨_, h4, by rw [ren_len] at h2 ⊢; exact h2, fun hl => ?_⟩
    rw [ren_len] at hl
    obtain ⟨q1, q2⟩ := h3 (by rw [ren_len]; exact hl)
    refine ⟨by rw [ren_wid] at q1 ⊢; exact q1, ?_⟩
    rw [hι2, q2, hι1, hup]
  have hnot : ∀ g, g < C.N → ¬ C.G g → notOf (upS s.S) ι1 g := fun g h1 h2 id b hb hg => by
    obtain ⟨_, b', k1, _⟩ := upS_inv hb
    rw [hι1] at hg
    rcases R.base _ _ g k1 hg with h | h
    · omega
    · exact h2 h
  refine ⟨v, r, S', σ', ι2, rfl, hP, hclean, hu, ?_⟩
  refine ⟨R.size, fun i hi => (R.env i hi).mono hkeep hu, R.nod.mono (fun D h => (hsame D (Array.getElem?_eq_some_iff.1 h).1 (notOf_mark hown.1 h)).trans h), hf', fun id b hb => ?_, fun id id' b b' g h1 h2 g1 g2 => ?_, fun id b g hb hg => ?_, fun p x hx => hkeep _ _ (R.ext p x hx), fun p h1 h2 => ?_, ⟨hos.1.trans R.os.1, hos.2.1.trans R.os.2.1, hos.2.2.trans R.os.2.2⟩, ⟨Nat.le_trans R.grown.1 hsz, Nat.le_trans R.grown.2 hsz⟩, fun g h1 h2 => ?_, R.upd.trans hu⟩
  · obtain ⟨b', h1, rfl⟩ := dnS_inv hb
    have := BRep.ren (S2 := dnS S') (ι2 := ι2) (ρ := dn1) hSd hιd (hown'.1 _ _ h1)
    rw [hι2]
    exact this
  · obtain ⟨c1, k1, _⟩ := dnS_inv h1
    obtain ⟨c2, k2, _⟩ := dnS_inv h2
    rw [hι2] at g1 g2
    have := congrArg dn1 (hown'.2 _ _ _ _ g k1 k2 g1 g2)
    rw [hup, hup] at this
    exact this
  · obtain ⟨b', h1, _⟩ := dnS_inv hb
    rw [hι2] at hg
    rcases hbase _ _ g h1 hg with h2 | h2
    · exact .inl (by have := R.grown.1; omega)
    · by_cases hN : g < C.N
      · by_cases hG : C.G g
        · exact .inr hG
        · exact absurd (hnot g hN hG) h2
      · exact .inl (by omega)
  · exact (hold p (by have := R.grown.1; omega) (hnot _ h1 h2)).trans (R.old p h1 h2)
  · exact (hsame g (by have := R.grown.1; omega) (hnot g h1 h2)).trans (R.same g h1 h2)
theorem Refs.setLoop (R : Refs C σ ι s a w) {id l : Nat} {env : List AV} {r : Loop} (r' : Loop) (hS : s.S id = some (.loop env r)) (hl : (ι id).g = some l) (hr : r'.tmps = r.tmps) : w.heap[l]? = some (.loop r) ∧ ∃ ι', Refs C σ ι' (s.set id (.loop env r')) a (w.putObj l (.loop r')) ∧ Upd s.S ι (s.set id (.loop env r')).S ι' := by
  have hb := R.blk id _ hS
  cases hb with
  | loop h1 h2 h3 h4 h5 =>
    rw [hl] at h1
    cases h1
    exact ⟨h2, R.setBlk (o' := .loop r') hS hl h2 h5 rfl rfl fun S' ι' hu => .loop hl (set_heap h2).1 (by rw [hr]; exact h3) (fun j a ha => by rw [hr]; exact (h4 j a ha).mono (fun _ _ h => h) hu) h5⟩
def RoundQ (C : Ctx) (y : Nat) (b : ABlk) (N : AStore → Prop) (Jx : AX → AStore → Prop) (e : AX) (s : AS) : Prop := ∃ s2 U, Ghost C s s2 ∧ s2.S = updE U y (some b) ∧ Clean s2.S ∧ U y = none ∧ match e with
  | .normal => N U
  | .ret => Jx .ret U
  | .exit i => Jx (.exit i) U
  | .pan _ => False
theorem finish_round {C : Ctx} {σ0 : Sto} {T : AStore} {ι0 : AHnd} {w0 : World} (hC : C.N = w0.heap.size) (hw : C.w0 = w0) (hσ : C.σ0 = σ0) (hG : ∀ g, C.G g ↔ ¬ notOf T ι0 g) (hS0 : C.S0 = T) (hι0 : C.ι0 = ι0) (R : Refs C σ ι s a w) (hc : Clean s.S) {Post : AV → AStore → Prop} {b : Bool} (hP : Post (.one (.st (.bool b))) s.S) : EndS σ0 T ι0 w0 Post (.returned (.bool b)) w := by
  have hupd := R.upd
  rw [hS0, hι0] at hupd
  subst hσ hw
  exact ⟨.bool b, _, s.S, σ, ι, rfl, hP, hc, hupd, ⟨R.blk, R.inj⟩, .one (.st .bool), R.fit, R.ext, fun p h1 h2 => R.old p (by rw [hC]; exact h1) (fun h => (hG _).1 h h2), R.os, R.grown.2, fun g h1 h2 => R.same g (by rw [hC]; exact h1) (fun h => (hG _).1 h h2), fun id b g h1 h2 => (R.base id b g h1 h2).imp (fun h => by rw [← hC]; exact h) fun h => (hG _).1 h⟩
theorem updE_over {S : AStore} {i : Nat} {b c : Option ABlk} : updE (updE S i b) i c = updE S i c := by
  funext j
  unfold updE
  split <;> rfl
inductive Jump : Code → AX → Prop
  | ret : Jump .ret .ret
  | exit (i : Nat) : Jump (.exit i) (.exit i)
theorem round_at {fn : FuncId} {ps : Array Tmp} {ca cb : Code} {D : Nat} {n : Nat} {env : List AV} {tmps : Array Value} (hx : trCode P n mu ca = some x) (hy : trCode P n mu cb = some y) (hn : env.length = n) {yb : Nat} (hyb : 1000 ≤ yb) {rec : LoopState → Option Code → Loop} (hrec : rec = fun st pe => { state := st, pending := pe, fn, tmps, params := ps, assign := ca, body := cb, defers := D }) {vs : List AV} (hps : vs.length = ps.size)
    {U : AStore} (hU : U yb = none) {N : AStore → Prop} {Jx : AX → AStore → Prop}
    (h : Clean (updE U yb (some (.loop env (rec .ready none)))) → ∀ C' : Ctx, C'.n = n → IWP P C' mu x (AX.then (fun s1 => s1.S yb = some (.loop env (rec .ready none)) ∧ IWP P C' mu y (RoundQ C' yb (.loop env (rec .busy none)) N Jx) (s1.set yb (.loop env (rec .busy none)))) fun _ _ => False) ⟨setPs (fun i => (env[i]?).getD .any) ps.toList vs, updE U yb (some (.loop env (rec .ready none)))⟩) :
    AYields P (.one (.yld yb)) vs (updE U yb (some (.loop env (rec .ready none)))) fun r T' => (r = .one (.st (.bool true)) ∧ ∃ U', T' = updE U' yb (some (.loop env (rec .ready none))) ∧ U' yb = none ∧ N U') ∨
      (r = .one (.st (.bool false)) ∧ ∃ U' c e, T' = updE U' yb (some (.loop env (rec .done (some c)))) ∧ U' yb = none ∧ Jump c e ∧ Jx e U') := by
  intro hclean σ w vy xs ι hglob hfit hown hvy hxs
  obtain ⟨T, hT⟩ : ∃ T, updE U yb (some (.loop env (rec .ready none))) = T := ⟨_, rfl⟩
  have hTy : T yb = some (.loop env (rec .ready none)) := by rw [← hT]; exact updE_same _ _ _
  rw [hT] at hclean hown hvy hxs h ⊢
  have hhigh := (hclean _ _ hTy).2
  have hb := hown.1 _ _ hTy
  obtain ⟨l, hl, rfl⟩ : ∃ l, (ι yb).g = some l ∧ vy = .func (.yield l) #[] #[] := by
    cases hvy with
    | one hv =>
      cases hv with
      | yld k1 k2 k3 k4 =>
        rw [hTy] at k1
        cases k1
        exact k4 rfl
  have hlen := hxs.len
  cases hb with
  | loop k1 k2 k3 k4 k5 =>
  rw [hl] at k1
  cases k1
  have htm : (rec .ready none).tmps = tmps := by rw [hrec]
  refine ⟨l, rfl, fun ro => ⟨fn, _, ca, cb, by
    have := run_yield (P := P) (args := xs.toArray) k2 (by rw [hrec]; simp; omega)
    rw [hrec] at this
    exact this, ?_⟩⟩
  let C' : Ctx := ⟨n, w.heap.size, fun g => ¬ notOf T ι g, σ, w, T, ι, hclean, hglob, [], some l, false⟩
  have hset := setPs_rep (σ := σ) (S := T) (ι := ι) (n := n) (ps := ps.toList) (env := fun i => (env[i]?).getD .any) (tmps := tmps) hxs (by rw [htm] at k3; omega) fun i hi => by
    have hi' : i < env.length := by omega
    have := k4 i _ (List.getElem?_eq_getElem hi')
    rw [htm] at this
    simpa [hi'] using this
  have hfold : (ps.zip xs.toArray).foldl (fun t (p, v) => t.setIfInBounds p v) tmps = (ps.toList.zip xs).foldl (fun t (p, v) => t.setIfInBounds p v) tmps := by
    rw [← Array.foldl_toList, Array.toList_zip]
  have R0 : Refs C' σ ι ⟨setPs (fun i => (env[i]?).getD .any) ps.toList vs, T⟩ { tmps := (ps.zip xs.toArray).foldl (fun t (p, v) => t.setIfInBounds p v) tmps, defers := [] } w := by
    refine ⟨?_, fun i hi => ?_, marks_nil, hfit, hown.1, hown.2, fun id b g h hg => .inr (fun hno => hno id b h hg), fun _ _ h => h, fun _ _ _ => rfl, ⟨rfl, rfl, rfl⟩, ⟨Nat.le_refl _, Nat.le_refl _⟩, fun _ _ _ => rfl, Upd.refl _ _⟩
    · dsimp only
      rw [hfold]
      exact hset.1
    · dsimp only
      rw [hfold]
      exact hset.2 i hi
  refine roundIn_of_wpIn (F := fen ro) (n := 0) trivial (wpIn_mono (h hclean C' rfl ca hx _ w ⟨σ, ι, R0⟩) fun e a1 w1 he => ?_)
  have same : ∀ {σ1 : Sto} {ι1 : AHnd} {s1 : AS} {a1 : Act} {w1 : World} {b : ABlk}, Refs C' σ1 ι1 s1 a1 w1 → s1.S yb = some b → b.len = 1 → (ι1 yb).g = some l := fun R1 hs hl1 => by
    obtain ⟨b', h1, h2, h3⟩ := R1.upd yb _ hTy
    rw [hs] at h1
    cases h1
    rw [(h3 hl1).2]
    exact hl
  cases e with
  | normal =>
    obtain ⟨s1, ⟨h1, h2⟩, σ1, ι1, R1⟩ := he
    obtain ⟨q1, ι2, R2, _⟩ := R1.setLoop (rec .busy none) h1 (same R1 h1 rfl) (by rw [hrec])
    refine ⟨_, by
      have := run_beginRound (P := P) q1 (by rw [hrec])
      rw [hrec] at this
      exact this, ?_⟩
    have e1 : (w1.putObj l (.loop (rec .busy none))) = w1.putObj l (.loop { state := .busy, pending := none, fn, tmps, params := ps, assign := ca, body := cb, defers := D }) := by rw [hrec]
    rw [← e1]
    refine wpIn_mono (h2 cb hy _ _ ⟨σ1, ι2, R2⟩) fun e3 a3 w3 he3 => ?_
    have fin : ∀ (jump : Option Code) (s3 s4 : AS) (U2 : AStore), Ghost C' s3 s4 → s4.S = updE U2 yb (some (.loop env (rec .busy none))) → Clean s4.S → Holds C' s3 a3 w3 →
        ∃ σ5 ι5 s5, (Instr.endRound l jump).run P w3 = .ok (.bool jump.isNone) (w3.putObj l (.loop (rec (if jump.isNone then .ready else .done) jump))) ∧ s5.S = updE U2 yb (some (.loop env (rec (if jump.isNone then .ready else .done) jump))) ∧ Clean s5.S ∧ Refs C' σ5 ι5 s5 a3 (w3.putObj l (.loop (rec (if jump.isNone then .ready else .done) jump))) := fun jump s3 s4 U2 hg hS hc hH => by
      obtain ⟨σ4, ι4, R4⟩ := hg _ _ hH
      have h4 : s4.S yb = some (.loop env (rec .busy none)) := by rw [hS]; exact updE_same _ _ _
      obtain ⟨q2, ι5, R5, _⟩ := R4.setLoop (rec (if jump.isNone then .ready else .done) jump) h4 (same R4 h4 rfl) (by rw [hrec])
      refine ⟨σ4, ι5, _, ?_, ?_, ?_, R5⟩
      · have := run_endRound (P := P) jump q2
        rw [hrec] at this ⊢
        exact this
      · show updE s4.S yb _ = _
        rw [hS, updE_over]
      · exact clean_upd hc hyb hhigh
    cases e3 with
    | normal =>
      obtain ⟨s3, ⟨s4, U2, g1, g2, g3, g4, g5⟩, hH⟩ := he3
      obtain ⟨σ5, ι5, s5, f1, f2, f3, R5⟩ := fin none s3 s4 U2 g1 g2 g3 hH
      exact ⟨_, _, f1, finish_round (C := C') rfl rfl rfl (fun g => Iff.rfl) rfl rfl R5 f3 (.inl ⟨rfl, U2, f2, g4, g5⟩)⟩
    | ret =>
      obtain ⟨s3, ⟨s4, U2, g1, g2, g3, g4, g5⟩, hH⟩ := he3
      obtain ⟨σ5, ι5, s5, f1, f2, f3, R5⟩ := fin (some .ret) s3 s4 U2 g1 g2 g3 hH
      exact ⟨_, _, f1, finish_round (C := C') rfl rfl rfl (fun g => Iff.rfl) rfl rfl R5 f3 (.inr ⟨rfl, U2, _, _, f2, g4, .ret, g5⟩)⟩
    | exit i =>
      obtain ⟨s3, ⟨s4, U2, g1, g2, g3, g4, g5⟩, hH⟩ := he3
      obtain ⟨σ5, ι5, s5, f1, f2, f3, R5⟩ := fin (some (.exit i)) s3 s4 U2 g1 g2 g3 hH
      exact ⟨_, _, f1, finish_round (C := C') rfl rfl rfl (fun g => Iff.rfl) rfl rfl R5 f3 (.inr ⟨rfl, U2, _, _, f2, g4, .exit i, g5⟩)⟩
    | panic ch => obtain ⟨s3, v, ⟨⟨s4, U2, g1, g2, g3, g4, g5⟩, _⟩, _⟩ := he3; exact g5.elim
    | _ => exact he3.elim
  | panic ch => obtain ⟨s1, v, h1, h2⟩ := he; exact h1.1.elim
  | ret => obtain ⟨s1, h1, h2⟩ := he; exact h1.elim
  | exit i => obtain ⟨s1, h1, h2⟩ := he; exact h1.elim
  | _ => exact he.elim
def envOf (n : Nat) (env : Nat → AV) : List AV := (List.range n).map env
theorem envOf_len {n : Nat} {env : Nat → AV} : (envOf n env).length = n := by simp [envOf]
theorem envOf_at {n i : Nat} {env : Nat → AV} {a : AV} (h : (envOf n env)[i]? = some a) : i < n ∧ a = env i := by
  unfold envOf at h
  rw [List.getElem?_map, Option.map_eq_some_iff] at h
  obtain ⟨j, h1, h2⟩ := h
  obtain ⟨h3, h4⟩ := List.getElem?_eq_some_iff.1 h1
  simp at h3 h4
  subst h4
  exact ⟨h3, h2.symm⟩
theorem trCode_rangeF {n : Nat} {c : Code} {g : Opd} {ps : List Nat} (h : trCode P n mu c = some (.rangeF g ps x y)) : ∃ g' ps' ca cb, c = .rangeFunc g' ps' ca cb ∧ trOpd n g' = some g ∧ ps'.toList = ps ∧ trCode P n mu ca = some x ∧ trCode P n mu cb = some y := by
  cases c <;> simp only [trCode] at h
  case rangeFunc g' ps' ca cb =>
    split at h
    · rename_i e1 e2 e3
      split at h
      · cases h
        exact ⟨_, _, _, _, rfl, e1, rfl, e2, e3⟩
      · cases h
    · cases h
  all_goals (exfalso; revert h; (repeat' split) <;> simp)
theorem dnS_set {U : AStore} {id : Nat} {b c : Option ABlk} : updE (dnS (updE U (up1 id) b)) id c = updE (dnS U) id c := by
  funext j
  unfold updE
  by_cases e : j = id
  · rw [if_pos e, if_pos e]
  · rw [if_neg e, if_neg e]
    show (if j + 1000 = up1 id then b else U (j + 1000)).map (ABlk.ren dn1) = (U (j + 1000)).map (ABlk.ren dn1)
    rw [if_neg (show ¬ j + 1000 = up1 id by unfold up1; omega)]
theorem clean_off {U : AStore} {i : Nat} {b : ABlk} (h : Clean (updE U i (some b))) (hU : U i = none) : Clean U := fun j c hc => h j c (by
  rw [updE_ne _ (fun e => by rw [e, hU] at hc; cases hc)]
  exact hc)
def upEnv (n : Nat) (env : Nat → AV) : Nat → AV := fun i => if i < n then (env i).ren up1 else .any
theorem upEnv_eq {n : Nat} {env : Nat → AV} : (fun i => ((AV.rens up1 (envOf n env))[i]?).getD .any) = upEnv n env := by
  funext i
  unfold upEnv envOf
  rw [AV.rens_eq, List.map_map, List.getElem?_map]
  by_cases h : i < n
  · rw [if_pos h, List.getElem?_range h]
    rfl
  · rw [if_neg h, List.getElem?_eq_none (by simp; omega)]
    rfl
theorem IWP.rangeF {g : Opd} {ps : List Nat} (htop : C.Top) (id : Nat) (hid : id < 1000) (hfree : s.S id = none) {f : Nat} {caps : List AC} (hg : s.ev g = .one (.fn f caps)) (hpl : plainF P f = true) {α : Type} {encs : α → List AV} {all : List α} {Need : AStore → Prop} (hit : AIter P f (AV.rens up1 (caps.map .one)) Need encs all)
    (hlen : ∀ v, (encs v).length = ps.length) (Inv : List α → AStore → Prop) (Jx : AX → AStore → Prop) (h0 : Inv [] (upS s.S)) (hneed : ∀ pre U b, Inv pre U → U (up1 id) = none → Need (updE U (up1 id) (some b)))
    (hbody : ∀ (C' : Ctx) (b0 b1 : ABlk) (pre : List α) (v : α) (U : AStore), C'.n = C.n → (pre ++ [v]) <+: all → Inv pre U → U (up1 id) = none → Clean U → b1.high = true →
      IWP P C' mu x (AX.then (fun s1 => s1.S (up1 id) = some b0 ∧ IWP P C' mu y (RoundQ C' (up1 id) b1 (Inv (pre ++ [v])) Jx) (s1.set (up1 id) b1)) fun _ _ => False) ⟨setPs (upEnv C.n s.env) ps (encs v), updE U (up1 id) (some b0)⟩)
    (hdone : ∀ U, Inv all U → Q .normal ⟨s.env, updE (dnS U) id (some (.dead 1 0))⟩) (hjump : ∀ e U, Jx e U → Q e ⟨s.env, updE (dnS U) id (some (.dead 1 0))⟩) : IWP P C mu (.rangeF g ps x y) Q s := fun c hc a w hH => by
  obtain ⟨g', ps', ca, cb, rfl, hg', rfl, hx, hy⟩ := trCode_rangeF hc
  obtain ⟨σ, ι, R⟩ := hH
  have rg := R.ev hg'
  rw [hg] at rg
  replace rg := vrep_one rg
  generalize hev : a.eval g' = fv at rg
  cases rg with
  | @fn _ vc _ cc g1 g2 g3 =>
  refine wpIn_rangeFunc fun fn hfn => ?_
  obtain ⟨rec, hrec⟩ : ∃ rec : LoopState → Option Code → Loop, rec = fun st pe => { state := st, pending := pe, fn, tmps := a.tmps, params := ps', assign := ca, body := cb, defers := w.heap.size } := ⟨_, rfl⟩
  obtain ⟨w1, hw1⟩ : ∃ w1, (w.alloc (.deferred (some []))).alloc (.loop (rec .ready none)) = w1 := ⟨_, rfl⟩
  have hsz : (w.alloc (.deferred (some []))).heap.size = w.heap.size + 1 := World.size_alloc _ _
  have R1 : Refs C σ ι s { a with defers := mark w.heap.size :: a.defers } (w.alloc (.deferred (some []))) := by
    have R' := R.more (w' := w.alloc (.deferred (some []))) (Ext.refl _ _) (R.fit.alloc _) (More.alloc _ _)
    refine { R' with nod := ?_ }
    obtain ⟨l, h1, h2, h3, _⟩ := R.nod
    refine ⟨w.heap.size :: l, by show _ :: a.defers = _; rw [h1]; rfl, List.nodup_cons.2 ⟨fun hm => ?_, h2⟩, fun D hD => ?_, fun hm => by rw [htop.2] at hm; cases hm⟩
    · have := (Array.getElem?_eq_some_iff.1 (h3 _ hm).2).1
      omega
    · rcases List.mem_cons.1 hD with rfl | hD
      · exact ⟨R.grown.1, World.alloc_heap_new w _⟩
      · exact ⟨(h3 D hD).1, (Below.heap_alloc _ _ _ (Array.getElem?_eq_some_iff.1 (h3 D hD).2).1).trans (h3 D hD).2⟩
  have hsize := R.size
  obtain ⟨hu2, R2⟩ := R1.fresh (w' := w1) hfree (.loop (envOf C.n s.env) (rec .ready none)) ⟨none, 0, some (w.heap.size + 1)⟩ (Ext.refl _ _) (by rw [← hw1]; exact R1.fit.alloc _) (by rw [← hw1]; exact More.alloc _ _) (fun g hg => by cases hg; omega) (fun S' ι' hu => .loop (g := w.heap.size + 1) rfl (by rw [← hw1, ← hsz]; exact World.alloc_heap_new _ _) (by rw [envOf_len, hrec]; exact hsize) (fun j b hb => by
      obtain ⟨hj, rfl⟩ := envOf_at hb
      rw [hrec]
      exact (R.env j hj).mono (fun _ _ h => h) hu) (fun p hp => R1.fit.no (by rw [hsz]; omega)))
  have hl2 : (updE ι id (⟨none, 0, some (w.heap.size + 1)⟩ : Hnd) id).g = some (w.heap.size + 1) := by rw [updE_same]
  generalize updE ι id (⟨none, 0, some (w.heap.size + 1)⟩ : Hnd) = ι2 at R2 hl2 hu2
  obtain ⟨ι3, hι3, hown, hren, hend⟩ := R2.upped
  have hargs : All2 (VRep σ (upS (s.set id (.loop (envOf C.n s.env) (rec .ready none))).S) ι3) (.func (.yield (w.heap.size + 1)) #[] #[] :: vc.toList) (.one (.yld (up1 id)) :: AV.rens up1 (caps.map .one)) := by
    have hS2 : (s.set id (.loop (envOf C.n s.env) (rec .ready none))).S id = some (.loop (envOf C.n s.env) (rec .ready none)) := updE_same _ _ _
    refine .cons (hren _ _ (.one (.yld hS2 (Nat.le_refl _) rfl fun _ => ⟨_, hl2, rfl⟩))) ?_
    rw [AV.rens_eq]
    refine (All2.mono (fun v c h => hren v c h) ?_).map_right
    refine (All2.of_get (R := fun v c => VRep σ (s.set id (.loop (envOf C.n s.env) (rec .ready none))).S ι2 v (.one c)) (by simpa using g1) fun j v b hv hb => ?_).map_right
    have e := g2 j b hb
    have e2 : vc.toList[j]? = some (cc j) := by simpa using e
    rw [hv] at e2
    cases e2
    exact .one ((g3 j b hb).mono (fun _ _ h => h) hu2)
  have hcl := clean_upS (s.set id (.loop (envOf C.n s.env) (rec .ready none))).S
  have hTeq : upS (s.set id (.loop (envOf C.n s.env) (rec .ready none))).S = updE (upS s.S) (up1 id) (some (.loop (AV.rens up1 (envOf C.n s.env)) (rec .ready none))) := upS_set _ _ _
  have hcall := hit (up1 id) (fun pre T => ∃ U, T = updE U (up1 id) (some (.loop (AV.rens up1 (envOf C.n s.env)) (rec .ready none))) ∧ U (up1 id) = none ∧ Inv pre U)
    (fun T => ∃ U c e, T = updE U (up1 id) (some (.loop (AV.rens up1 (envOf C.n s.env)) (rec .done (some c)))) ∧ U (up1 id) = none ∧ Jump c e ∧ Jx e U)
    _ (up1_le id) (fun pre T hT => by
      obtain ⟨U, rfl, hU, hI⟩ := hT
      exact hneed pre U _ hI hU) (fun pre v hpre T hT => by
      obtain ⟨U, rfl, hU, hI⟩ := hT
      exact round_at hx hy (by rw [AV.rens_eq, List.length_map, envOf_len]) (up1_le id) hrec (by rw [hlen]; simp) hU fun hc C' hC' => by
        rw [upEnv_eq]
        exact hbody C' _ (.loop (AV.rens up1 (envOf C.n s.env)) (rec .busy none)) pre v U hC' hpre hI hU (clean_off hc hU) (AV.rens_high _))
    ⟨_, hTeq, by rw [upS_up, hfree]; rfl, h0⟩ hcl σ w1 _ ι3 (C.glob.mono R.ext) R2.fit hown hargs
  refine ⟨w.heap.size + 1, [mark w.heap.size], w1, { target := .fn (.func f) vc, args := #[.func (.yield (w.heap.size + 1)) #[] #[]] }, w1, f, #[.func (.yield (w.heap.size + 1)) #[] #[]] ++ vc, w1, ?_, ?_, fun _ _ => trivial, ?_, fun h => by simp [fen, Fence.wide] at h, ?_⟩
  · have hr : (fen C.ro).round = none := htop.1
    rw [hr, ← hw1, hrec]
    exact run_enterLoop_outer _ _ _ _ _
  · simp only [resolve, hev]
    simp [go_sem]
  · have := run_enter (P := P) (w := w1) (args := #[.func (.yield (w.heap.size + 1)) #[] #[]] ++ vc) hpl
    simp [invoke, go_sem, this]
  · have he0 : (Value.func (.yield (w.heap.size + 1)) #[] #[] :: vc.toList).toArray = #[.func (.yield (w.heap.size + 1)) #[] #[]] ++ vc := by
      apply Array.ext'
      simp
    rw [he0] at hcall
    refine callsIn_fen (hcall.mono fun e w2 he => ?_)
    obtain ⟨v, r, S', σ', ι4, rfl, hP, hS', hu4, R4⟩ := hend he
    have hl4 : ∀ {b : ABlk}, dnS S' id = some b → b.len = 1 → (ι4 id).g = some (w.heap.size + 1) := fun hb hb1 => by
      obtain ⟨b', h1, h2, h3⟩ := hu4 id _ (show (s.set id (.loop (envOf C.n s.env) (rec .ready none))).S id = some _ from updE_same _ _ _)
      rw [hb] at h1
      cases h1
      rw [(h3 hb1).2]
      exact hl2
    have fin : ∀ (U : AStore) (env : List AV) (st : LoopState) (pe : Option Code), st ≠ .busy → S' = updE U (up1 id) (some (.loop env (rec st pe))) → ∃ w3, (Instr.endLoop (w.heap.size + 1)).run P w2 = .ok pe w3 ∧ Holds C ⟨s.env, updE (dnS U) id (some (.dead 1 0))⟩ { a with defers := mark w.heap.size :: a.defers } w3 := fun U env st pe hst hS => by
      have hb : dnS S' id = some (.loop (AV.rens dn1 env) (rec st pe)) := by
        have := dnS_some (up1_le id) (show S' (up1 id) = some (.loop env (rec st pe)) by rw [hS]; exact updE_same _ _ _)
        rw [dn_up] at this
        exact this
      have hg4 := hl4 hb rfl
      cases hbr : R4.blk id _ hb with
      | loop k1 k2 k3 k4 k5 =>
        rw [hg4] at k1
        cases k1
        obtain ⟨ι5, R5, _⟩ := R4.setBlk (b' := .dead 1 0) (o' := .loop { rec st pe with state := .exhausted }) hb hg4 k2 k5 rfl rfl fun S'' ι'' hu => .dead fun g' hg' => by
          rw [hg4] at hg'
          cases hg'
          exact ⟨_, (set_heap k2).1, rfl⟩
        refine ⟨w2.putObj (w.heap.size + 1) (.loop { rec st pe with state := .exhausted }), ?_, σ', ι5, ?_⟩
        · have := run_endLoop (P := P) k2 (by rw [hrec]; exact hst)
          rw [hrec] at this ⊢
          exact this
        · have e5 : (AS.set ⟨(s.set id (.loop (envOf C.n s.env) (rec .ready none))).env, dnS S'⟩ id (.dead 1 0)) = ⟨s.env, updE (dnS U) id (some (.dead 1 0))⟩ := by
            show AS.mk s.env (updE (dnS S') id _) = _
            rw [hS, dnS_set]
          rw [← e5]
          exact R5
    rcases hP with ⟨U, h1, h2, h3⟩ | ⟨U, c, e, h1, h2, h3, h4⟩
    · obtain ⟨w3, f1, f2⟩ := fin U _ .ready none (by simp) h1
      exact ⟨none, w3, f1, _, hdone U h3, f2⟩
    · obtain ⟨w3, f1, f2⟩ := fin U _ .done (some c) (by simp) h1
      refine ⟨some c, w3, f1, ?_⟩
      cases h3 with
      | ret => exact wpIn_ret ⟨_, hjump _ U h4, f2⟩
      | exit i => exact wpIn_exit ⟨_, hjump _ U h4, f2⟩
end

def ir_slices_Backward_string_string_1 : IR :=
  (.seq (.ops [.l 4 1, .i 5 (.len false (.t 4)), .i 6 (.bin .sub (.t 5) (.n 1)), .m 3 6]) (.block 0 (.loop (.seq (.seq (.ops [.m 7 3, .i 8 (.bin .geq (.t 7) (.n 0))]) (.cond (.t 8) .skip (.exit 0))) (.seq (.block 1 (.seq (.ops [.m 11 0, .m 12 3, .l 13 1, .m 14 3, .i 15 (.indexAddr 1 (.t 13) (.t 14)), .l 16 15, .i 17 (.callY (.t 11) [.t 12, .t 16]), .i 18 (.un .not (.t 17))]) (.cond (.t 18) .ret .skip))) (.ops [.m 9 3, .i 10 (.bin .sub (.t 9) (.n 1)), .m 3 10]))))))
theorem ok_slices_Backward_string_string_1 : OkF Tryd.prog 62 19 [70000017] ir_slices_Backward_string_string_1 [] := .of Tryd.func62 rfl rfl (by kernel_rfl) rfl
def ir_slices_Backward_string_string : IR :=
  (.seq (.ops [.i 1 (.box 52 (.t 0)), .i 2 (.mov (.c (.one (.st (.lit .nilFunc)))))]) (.seq (.ops [.i 3 (.makeFunc 62 [.t 1]), .m 2 3]) .ret))
theorem ok_slices_Backward_string_string : OkF Tryd.prog 56 4 [] ir_slices_Backward_string_string [.t 2] := .of Tryd.func56 rfl rfl (by kernel_rfl) rfl

theorem Ghost.freeze {C : Ctx} {s : AS} (id : Nat) (ts : List Nat) {ty : TypeId} {xs : List SV} (hS : s.S id = some (.box ty (xs.map .st))) (hl : 0 < xs.length) (ht : ∀ t ∈ ts, s.env t = .one (.ptr id 1 0 0)) :
    Ghost C s ⟨fun t => if t ∈ ts then .one (.eptr xs) else s.env t, updE s.S id (some (.dead 1 0))⟩ := fun a w ⟨σ, ι, R⟩ => by
  have hb := R.blk _ _ hS
  cases hb with
  | @box _ _ g vs h1 h2 h3 h4 h5 =>
    have hkeep := layS_keep (σ := σ) (w' := w) (g := g) (k := xs.length) (fun p x e hx => by rw [h5 _ e] at hx; cases hx)
    obtain ⟨hu, R'⟩ := R.turn (w' := w) hS (.dead 1 0) (ι id) (σ' := layS σ w g xs.length) hkeep (fun p hp _ => layS_out (fun e => hp (by rw [e]; exact h1))) (layS_fit R.fit) (Nat.le_refl _) (fun _ => ⟨rfl, rfl⟩) ⟨rfl, rfl, rfl⟩ (Nat.le_refl _) (fun _ _ _ => rfl) (fun g h => .inl h)
      (fun hu => .dead fun g' hg' => by rw [h1] at hg'; cases hg'; exact ⟨_, h3, rfl⟩)
    refine ⟨_, _, R'.size, fun i hi => ?_, R'.nod, R'.fit, R'.blk, R'.inj, R'.base, R'.ext, R'.old, R'.os, R'.grown, R'.same, R'.upd⟩
    show VRep _ _ _ _ (if i ∈ ts then .one (.eptr xs) else s.env i)
    split
    · rename_i hm
      have re := R.env i hi
      rw [ht i hm] at re
      obtain ⟨b, q1, q2, q3⟩ := arep_ptr (vrep_one re)
      rw [hS] at q1
      cases q1
      obtain ⟨g', e1, e2⟩ := q3 rfl
      rw [h1] at e1
      cases e1
      rw [e2]
      have cell : ∀ j x, xs[j]? = some x → ∃ v, vs[j]? = some v ∧ SRep σ v x := fun j x hx => by
        obtain ⟨v, v1, v2⟩ := h4.get (j := j) (b := .st x) (by rw [List.getElem?_map, hx]; rfl)
        exact ⟨v, by simpa using v1, arep_st v2⟩
      refine .one (.eptr (fun j => (vs[j]?).getD undef) (fun j x hx => ?_) (fun j x hx => ?_) (fun _ _ => ?_))
      · obtain ⟨v, v1, v2⟩ := cell j x hx
        have hj := (List.getElem?_eq_some_iff.1 hx).1
        rw [show (0 * (ABlk.box ty (xs.map AC.st)).wid + 0 + j) = j by omega, layS_in hj, cell_of_row w g _ _ _ _ h3, v1]
        rfl
      · obtain ⟨v, v1, v2⟩ := cell j x hx
        rw [v1]
        exact v2.mono hkeep
      · rw [layS_hard hl, look_hard h3]
    · exact R'.env i hi

def downTo (n k : Nat) : List Nat := (List.range' k (n - k)).reverse
theorem downTo_top (n : Nat) : downTo n n = [] := by simp [downTo]
theorem downTo_step {n k : Nat} (h : k + 1 ≤ n) : downTo n (k + 1) ++ [k] = downTo n k := by
  unfold downTo
  rw [show n - k = (n - (k + 1)) + 1 by omega, List.range'_succ]
  simp
theorem downTo_pre {n k : Nat} (h : k ≤ n) : downTo n k <+: downTo n 0 := by
  induction k with
  | zero => exact List.prefix_refl _
  | succ k ih => exact List.IsPrefix.trans ⟨[k], downTo_step h⟩ (ih (by omega))
theorem back_iterM (xs : List ByteArray) (hl : xs.length ≤ 9223372036854775807) (b id : Nat) (ty e : TypeId) (hb : 1000 ≤ b) (hid : 1000 ≤ id) : AIter Tryd.prog 62 [.one (.ptr b 1 0 0)] (fun T => T b = some (.box ty [.row id xs.length]) ∧ T id = some (.mrow e 1 (xs.map encS))) (fun i : Nat => [aInt i, aStr (xs.getD i .empty)]) (downTo xs.length 0) := by
  intro y Inv Jx T0 hy hneed hround h0
  refine ok_slices_Backward_string_string_1.acR fun hclean C hC htop => ?_
  unfold ir_slices_Backward_string_string_1
  obtain ⟨n1, n2⟩ := hneed _ _ h0
  have hll : (xs.map encS).length = xs.length := by simp
  repeat' (first | (with_reducible first | refine W ?_ | refine Wz0 ?_) | ((with_reducible first | refine Wo (fun K hK => ?_) | refine Wq ?_ | refine Wr ?_); (try simp only [go_sem, fN, seval, eT, iR, AS.startS, n1, n2, hll]); (repeat with_reducible refine Ai ?_); (try (refine hK _ ?_; clear hK K))))
  refine IWP.loop (fun m s => ∃ k T, k ≤ xs.length ∧ m = k ∧ s.env 0 = .one (.yld y) ∧ s.env 1 = .one (.ptr b 1 0 0) ∧ s.env 3 = aInt ((k : Int) - 1) ∧ (∀ i, 1000 ≤ i → s.S i = T i) ∧ Clean T ∧ Inv (downTo xs.length k) T) xs.length ⟨xs.length, T0, Nat.le_refl _, rfl, rfl, rfl, rfl, fun i _ => rfl, hclean, by rw [downTo_top]; exact h0⟩ ?_
  rintro m ⟨env, S⟩ ⟨k, T, hk, rfl, e0, e1, e3, hST, hT, hI⟩
  simp only at e0 e1 e3 hST
  obtain ⟨m1, m2⟩ := hneed _ _ hI
  rw [← hST b hb] at m1
  rw [← hST id hid] at m2
  repeat' (first | (with_reducible first | refine W ?_ | refine Wz0 ?_) | ((with_reducible first | refine Wo (fun K hK => ?_) | refine Wp ?_ | refine Wq ?_ | refine Wr ?_); (try simp only [go_sem, fN, seval, eT, iR, e0, e1, e3, dT, dF, nL]); (repeat with_reducible refine Ai ?_); (try (refine hK _ ?_; clear hK K)); (try with_reducible refine iC ?_)))
  refine ⟨fun hlt => ?_, fun hge => ?_⟩
  · obtain ⟨k, rfl⟩ : ∃ k, m = k + 1 := ⟨m - 1, by omega⟩
    obtain ⟨x, hx⟩ := get_lt (show k < xs.length by omega)
    have e3' : env 3 = aInt k := by rw [e3]; congr 3; omega
    have hd : xs.getD k .empty = x := by simp [List.getD, hx]
    have hy' := hround (downTo xs.length (k + 1)) k (by rw [downTo_step hk]; exact downTo_pre (by omega)) T hI
    simp only [hd, downTo_step hk] at hy'
    repeat' (first | (with_reducible first | refine W ?_ | refine Wz0 ?_) | ((with_reducible first | refine Wo (fun K hK => ?_) | refine Wp ?_ | refine Wq ?_ | refine Wr ?_); (try simp only [go_sem, fN, seval, eT, iR, e0, e1, e3', hx, encS, m1, m2, hll, dT, dF, nL]); (repeat with_reducible refine Ai ?_); (try (refine hK _ ?_; clear hK K)); (try with_reducible refine iC ?_)))
    refine CallXG.mk T _ hT hST (by
      show ((AC.yld y).high && true) = true
      rw [high_yld hy]
      rfl) hy' ?_
    rintro r S' hS' (⟨rfl, hI'⟩ | ⟨rfl, hJ⟩)
    · repeat' (first | (with_reducible first | refine W ?_ | refine Wz0 ?_) | ((with_reducible first | refine Wo (fun K hK => ?_) | refine Wp ?_ | refine Wq ?_ | refine Wr ?_); (try simp only [go_sem, fN, seval, eT, iR, e0, e1, e3', dT, dF, nL]); (repeat with_reducible refine Ai ?_); (try (refine hK _ ?_; clear hK K)); (try with_reducible refine iC ?_)))
      exact ⟨k, Nat.lt_succ_self k, k, S', by omega, rfl, e0, e1, rfl, fun i hi => joinS_high hi, hS', hI'⟩
    · repeat' (first | (with_reducible first | refine W ?_ | refine Wz0 ?_) | ((with_reducible first | refine Wo (fun K hK => ?_) | refine Wp ?_ | refine Wq ?_ | refine Wr ?_); (try simp only [go_sem, fN, seval, eT, iR, e0, e1, e3', dT, dF, nL]); (repeat with_reducible refine Ai ?_); (try (refine hK _ ?_; clear hK K)); (try with_reducible refine iC ?_)))
      exact ⟨.tup [], S', .inr hJ, finS_same (.tup []) hS' trivial rfl rfl fun i hi => joinS_high hi⟩
  · repeat' (first | (with_reducible first | refine W ?_ | refine Wz0 ?_) | ((with_reducible first | refine Wo (fun K hK => ?_) | refine Wp ?_ | refine Wq ?_ | refine Wr ?_); (try simp only [go_sem, fN, seval, eT, iR, dT, dF, nL]); (repeat with_reducible refine Ai ?_); (try (refine hK _ ?_; clear hK K)); (try with_reducible refine iC ?_)))
    have hm : m = 0 := by omega
    subst hm
    exact ⟨.tup [], T, .inl hI, finS_same (.tup []) hT trivial rfl rfl hST⟩
theorem backward_M (S : AStore) (a0 id n : Nat) (ha : 1000 ≤ a0) (hid : 1000 ≤ id) (hSa : S a0 = none) : ACallsS Tryd.prog 56 [.one (.row id n)] S (.one (.fn 62 [.ptr a0 1 0 0])) (updE S a0 (some (.box 52 [.row id n]))) := by
  refine ok_slices_Backward_string_string.acS fun hS C hC => ?_
  unfold ir_slices_Backward_string_string
  have s1 : S 1 = none := clean_none hS (by omega)
  have hh : AC.highs [.row id n] = true := by rw [AC.highs, high_row hid]; rfl
  repeat' (first | (with_reducible first | refine W ?_ | refine Wz0 ?_) | ((with_reducible first | refine Wo (fun K hK => ?_) | refine Wq ?_ | refine Wr ?_); (try simp only [go_sem, fN, seval, eT, iR, AS.startS, AS.caps, s1]); (repeat with_reducible refine Ai ?_); (try (refine hK _ ?_; clear hK K))))
  refine (show AC.fn 62 [.ptr a0 1 0 0] = (AC.fn 62 [.ptr 1 1 0 0]).ren (oneTo 1 a0) from rfl) ▸ finS_hand trivial 1 a0 (.one (.fn 62 [.ptr 1 1 0 0])) (b0 := .box 52 [.row id n]) (by omega) ha ?_ ?_ ?_ ?_ ?_ ?_ ?_ ?_
  · show updE S 1 _ a0 = none
    rw [updE_ne _ (by omega)]
    exact hSa
  · rfl
  · exact hh
  · intro i b hi hb
    change updE S 1 _ i = some b at hb
    rw [updE_ne _ (by omega)] at hb
    exact (hS i b hb).2
  · rfl
  · show AC.highs [.ptr a0 1 0 0] = true
    rw [AC.highs, high_ptr ha]
    rfl
  · have e : ∀ c, lowS (updE S 1 c) = S := fun c => by
      funext i
      unfold lowS
      by_cases hi : i < 1000
      · rw [if_pos hi, clean_none hS hi]
      · rw [if_neg hi, updE_ne _ (by omega)]
    show updE (lowS (updE S 1 _)) a0 _ = _
    rw [e]
  · exact clean_upd hS ha hh

theorem BRep.cutM {σ : Sto} {S : AStore} {ι : AHnd} {w : World} {h : Hnd} {e : TypeId} {wd : Nat} {xs : List (List SV)} (hr : BRep σ S ι w h (.mrow e wd xs)) (k : Nat) {S' : AStore} {ι' : AHnd} : BRep σ S' ι' w h (.mrow e wd (xs.take k)) := by
  cases hr with
  | mnil h1 h2 => rw [List.take_nil]; exact .mnil h1 h2
  | mrow h1 h2 h3 h4 h5 h6 h7 h8 h9 =>
    refine .mrow h1 h2 h3 (by rw [List.length_take]; omega) h5 h6 (fun x hx => h7 x (List.mem_of_mem_take hx)) (fun j x i a hx ha => h8 j x i a ?_ ha) h9
    rw [List.getElem?_take] at hx
    split at hx
    · exact hx
    · cases hx
theorem Ghost.rebase {C : Ctx} {s : AS} (bx id nid j k N : Nat) {ty e : TypeId} {wd : Nat} {xs : List (List SV)} {cs : List AC} (hN : xs.length < N) (hb : s.S bx = some (.box ty cs)) (hid : s.S id = some (.mrow e wd xs)) (hn : s.S nid = none) (hc : cs[j]? = some (.part id k xs.length) ∨ (cs[j]? = some (.row id k) ∧ k = xs.length)) :
    Ghost C s ⟨s.env, updE (updE (updE s.S id (some (.dead N wd))) nid (some (.mrow e wd (xs.take k)))) bx (some (.box ty (cs.set j (.row nid k))))⟩ := fun a w ⟨σ, ι, R⟩ => by
  have hjl : j < cs.length := by rcases hc with h | ⟨h, _⟩ <;> exact (List.getElem?_eq_some_iff.1 h).1
  have n1 : nid ≠ id := fun e => by subst e; rw [hid] at hn; cases hn
  have n2 : bx ≠ id := fun e => by subst e; rw [hid] at hb; cases hb
  have n3 : bx ≠ nid := fun e => by subst e; rw [hb] at hn; cases hn
  obtain ⟨S2, hS2⟩ : ∃ S2, updE (updE (updE s.S id (some (.dead N wd))) nid (some (.mrow e wd (xs.take k)))) bx (some (.box ty (cs.set j (.row nid k)))) = S2 := ⟨_, rfl⟩
  obtain ⟨ι2, hι2⟩ : ∃ ι2 : AHnd, updE (updE ι id ⟨none, 0, none⟩) nid (ι id) = ι2 := ⟨_, rfl⟩
  rw [hS2]
  have sb : S2 bx = some (.box ty (cs.set j (.row nid k))) := by rw [← hS2, updE_same]
  have sn : S2 nid = some (.mrow e wd (xs.take k)) := by rw [← hS2, updE_ne _ n3.symm, updE_same]
  have si : S2 id = some (.dead N wd) := by rw [← hS2, updE_ne _ n2.symm, updE_ne _ n1.symm, updE_same]
  have so : ∀ i, i ≠ bx → i ≠ nid → i ≠ id → S2 i = s.S i := fun i h1 h2 h3 => by rw [← hS2, updE_ne _ h1, updE_ne _ h2, updE_ne _ h3]
  have ιn : ι2 nid = ι id := by rw [← hι2, updE_same]
  have ιi : ι2 id = ⟨none, 0, none⟩ := by rw [← hι2, updE_ne _ n1.symm, updE_same]
  have ιo : ∀ i, i ≠ nid → i ≠ id → ι2 i = ι i := fun i h2 h3 => by rw [← hι2, updE_ne _ h2, updE_ne _ h3]
  have hu : Upd s.S ι S2 ι2 := fun i b h => by
    by_cases e1 : i = bx
    · subst e1
      rw [hb] at h
      cases h
      exact ⟨_, sb, Nat.le_refl _, fun _ => ⟨rfl, ιo _ n3 n2⟩⟩
    · by_cases e2 : i = id
      · subst e2
        rw [hid] at h
        cases h
        exact ⟨_, si, Nat.le_of_lt hN, fun hl => absurd (show N = xs.length from hl) (by omega)⟩
      · have e3 : i ≠ nid := fun e3 => by subst e3; rw [hn] at h; cases h
        exact ⟨b, (so i e1 e3 e2).trans h, Nat.le_refl _, fun _ => ⟨rfl, ιo i e3 e2⟩⟩
  have old : ∀ i b, S2 i = some b → ∀ g, (ι2 i).g = some g → ∃ i' b', s.S i' = some b' ∧ (ι i').g = some g ∧ (i = nid ∧ i' = id ∨ i' = i ∧ i ≠ nid ∧ i ≠ id) := fun i b h g hg => by
    by_cases e2 : i = id
    · subst e2
      rw [ιi] at hg
      cases hg
    · by_cases e3 : i = nid
      · subst e3
        rw [ιn] at hg
        exact ⟨id, _, hid, hg, .inl ⟨rfl, rfl⟩⟩
      · rw [ιo i e3 e2] at hg
        by_cases e1 : i = bx
        · subst e1
          exact ⟨_, _, hb, hg, .inr ⟨rfl, e3, e2⟩⟩
        · exact ⟨i, b, (so i e1 e3 e2).symm.trans h, hg, .inr ⟨rfl, e3, e2⟩⟩
  refine ⟨σ, ι2, R.size, fun i hi => (R.env i hi).mono (fun _ _ h => h) hu, R.nod, R.fit, fun i b h => ?_, fun i i' b b' g h1 h2 g1 g2 => ?_, fun i b g h hg => ?_, R.ext, R.old, R.os, R.grown, R.same, R.upd.trans hu⟩
  · change S2 i = some b at h
    by_cases e1 : i = bx
    · subst e1
      rw [sb] at h
      cases h
      rw [ιo _ n3 n2]
      cases R.blk _ _ hb with
      | box h1 h2 h3 h4 h5 =>
        refine .box h1 h2 h3 (All2.of_get (by rw [List.length_set]; exact h4.len) fun jj v c hv hcj => ?_) h5
        obtain ⟨c0, hc0⟩ : ∃ c0, cs[jj]? = some c0 := by
          have := (List.getElem?_eq_some_iff.1 hcj).1
          rw [List.length_set] at this
          exact ⟨_, List.getElem?_eq_getElem this⟩
        obtain ⟨v', hv', hr⟩ := h4.get hc0
        rw [hv] at hv'
        cases hv'
        by_cases ej : jj = j
        · subst ej
          rw [List.getElem?_set_self hjl] at hcj
          cases hcj
          rcases hc with hc | ⟨hc, hk⟩
          · rw [hc] at hc0
            cases hc0
            cases hr with
            | part q1 q2 q3 q4 =>
              rw [hid] at q1
              cases q1
              obtain ⟨q5, q6⟩ := q4 rfl
              refine .row sn (by show k ≤ (xs.take k).length; rw [List.length_take]; omega) q3 fun _ => ?_
              rw [ιn]
              exact q6
          · rw [hc] at hc0
            cases hc0
            cases hr with
            | row q1 q2 q3 q4 =>
              rw [hid] at q1
              cases q1
              refine .row sn (by show k ≤ (xs.take k).length; rw [List.length_take]; omega) q3 fun _ => ?_
              rw [ιn]
              exact q4 hk
        · rw [List.getElem?_set_ne (fun h => ej h.symm), hc0] at hcj
          cases hcj
          exact hr.mono (fun _ _ h => h) hu
    · by_cases e2 : i = id
      · subst e2
        rw [si] at h
        cases h
        rw [ιi]
        exact .dead fun g hg => by cases hg
      · by_cases e3 : i = nid
        · subst e3
          rw [sn] at h
          cases h
          rw [ιn]
          exact (R.blk _ _ hid).cutM k
        · rw [ιo i e3 e2]
          exact (R.blk i b ((so i e1 e3 e2).symm.trans h)).mono (fun _ _ h => h) hu (fun _ _ => rfl) (fun _ _ _ _ => rfl)
  · obtain ⟨j1, c1, k1, k2, k3⟩ := old i b h1 g g1
    obtain ⟨j2, c2, l1, l2, l3⟩ := old i' b' h2 g g2
    have := R.inj _ _ _ _ g k1 l1 k2 l2
    rcases k3 with ⟨a1, a2⟩ | ⟨a1, a2, a3⟩ <;> rcases l3 with ⟨b1, b2⟩ | ⟨b1, b2, b3⟩
    · rw [a1, b1]
    · exact absurd (by rw [← b1, ← this, a2] : i' = id) b3
    · exact absurd (by rw [← a1, this, b2] : i = id) a3
    · rw [← a1, ← b1, this]
  · obtain ⟨j1, c1, k1, k2, _⟩ := old i b h g hg
    exact R.base _ _ g k1 k2
theorem Ghost.bury {C : Ctx} {s : AS} (id N wd : Nat) {b : ABlk} (hS : s.S id = some b) (hb : match b with | .mrow _ w xs => xs.length < N ∧ w = wd | .dead n w => n ≤ N ∧ w = wd | _ => False) : Ghost C s (s.set id (.dead N wd)) := fun a w ⟨σ, ι, R⟩ => by
  have hr := R.blk _ _ hS
  have hlen : b.len ≤ N := by
    cases b <;> first | exact hb.elim | exact Nat.le_of_lt hb.1 | exact hb.1
  have hwid : b.wid = wd := by
    cases b <;> first | exact hb.elim | exact hb.2
  obtain ⟨hu, R'⟩ := R.turn (w' := w) hS (.dead N wd) (ι id) (σ' := σ) (fun _ _ h => h) (fun _ _ _ => rfl) R.fit hlen (fun _ => ⟨hwid.symm, rfl⟩) ⟨rfl, rfl, rfl⟩ (Nat.le_refl _) (fun _ _ _ => rfl) (fun g h => .inl h)
    (fun hu => .dead fun g' hg' => hr.own hg')
  exact ⟨σ, _, R'⟩

open Go.Proofs Go.Shelf
def Tryd.lays172_ren : Go.Shelf.Ren := ⟨fun | 172 => 57 | 244 => 63 | 245 => 64 | 247 => 67 | 279 => 68 | 280 => 69 | 281 => 70 | 282 => 71 | 287 => 74 | 316 => 75 | 171 => 58 | 205 => 76 | 321 => 81 | 322 => 82 | 243 => 65 | 246 => 72 | 283 => 77 | 284 => 78 | 285 => 79 | 286 => 80 | 129 => 84 | 317 => 83 | 318 => 85 | 319 => 86 | 320 => 87 | 337 => 88 | 338 => 89 | n => n, fun | 9 => 9 | 3 => 3 | 75 => 87 | 76 => 88 | 4 => 4 | 5 => 5 | 167 => 95 | 37 => 74 | 0 => 0 | 85 => 96 | 2 => 2 | 168 => 98 | 53 => 104 | 175 => 105 | 46 => 107 | 210 => 110 | 127 => 92 | 145 => 120 | 143 => 118 | 21 => 21 | 171 => 112 | 173 => 115 | 212 => 123 | 51 => 124 | 20 => 20 | 213 => 125 | 232 => 129 | 233 => 130 | 80 => 67 | n => n, fun | 15 => 1 | 16 => 2 | 17 => 3 | 18 => 4 | 19 => 5 | n => n⟩
theorem Tryd.lays172 : Go.Proofs.Lays.n172 Tryd.prog Tryd.lays172_ren := {
  mixed := by kernel_rfl
  f129 := Tryd.func84.trans (congrArg some (by kernel_rfl))
  f171 := Tryd.func58.trans (congrArg some (by kernel_rfl))
  f172 := Tryd.func57.trans (congrArg some (by kernel_rfl))
  f205 := Tryd.func76.trans (congrArg some (by kernel_rfl))
  f243 := Tryd.func65.trans (congrArg some (by kernel_rfl))
  f244 := Tryd.func63.trans (congrArg some (by kernel_rfl))
  f245 := Tryd.func64.trans (congrArg some (by kernel_rfl))
  f246 := Tryd.func72.trans (congrArg some (by kernel_rfl))
  f247 := Tryd.func67.trans (congrArg some (by kernel_rfl))
  f279 := Tryd.func68.trans (congrArg some (by kernel_rfl))
  f280 := Tryd.func69.trans (congrArg some (by kernel_rfl))
  f281 := Tryd.func70.trans (congrArg some (by kernel_rfl))
  f282 := Tryd.func71.trans (congrArg some (by kernel_rfl))
  f283 := Tryd.func77.trans (congrArg some (by kernel_rfl))
  f284 := Tryd.func78.trans (congrArg some (by kernel_rfl))
  f285 := Tryd.func79.trans (congrArg some (by kernel_rfl))
  f286 := Tryd.func80.trans (congrArg some (by kernel_rfl))
  f287 := Tryd.func74.trans (congrArg some (by kernel_rfl))
  f316 := Tryd.func75.trans (congrArg some (by kernel_rfl))
  f317 := Tryd.func83.trans (congrArg some (by kernel_rfl))
  f318 := Tryd.func85.trans (congrArg some (by kernel_rfl))
  f319 := Tryd.func86.trans (congrArg some (by kernel_rfl))
  f320 := Tryd.func87.trans (congrArg some (by kernel_rfl))
  f321 := Tryd.func81.trans (congrArg some (by kernel_rfl))
  f322 := Tryd.func82.trans (congrArg some (by kernel_rfl))
  f337 := Tryd.func88.trans (congrArg some (by kernel_rfl))
  f338 := Tryd.func89.trans (congrArg some (by kernel_rfl))
  t0 := Tryd.underlying0
  a0 := Tryd.isAgg0
  z0 := Tryd.sizeOf0
  v0 := Tryd.zeroValue0
  t2 := Tryd.underlying2
  a2 := Tryd.isAgg2
  z2 := Tryd.sizeOf2
  v2 := Tryd.zeroValue2
  t3 := Tryd.underlying3
  a3 := Tryd.isAgg3
  z3 := Tryd.sizeOf3
  v3 := Tryd.zeroValue3
  t4 := Tryd.underlying4
  a4 := Tryd.isAgg4
  z4 := Tryd.sizeOf4
  v4 := Tryd.zeroValue4
  t5 := Tryd.underlying5
  a5 := Tryd.isAgg5
  z5 := Tryd.sizeOf5
  v5 := Tryd.zeroValue5
  t9 := Tryd.underlying9
  a9 := Tryd.isAgg9
  z9 := Tryd.sizeOf9
  v9 := Tryd.zeroValue9
  t20 := Tryd.underlying20
  a20 := Tryd.isAgg20
  z20 := Tryd.sizeOf20
  v20 := Tryd.zeroValue20
  t21 := Tryd.underlying21
  a21 := Tryd.isAgg21
  z21 := Tryd.sizeOf21
  v21 := Tryd.zeroValue21
  t37 := Tryd.underlying74
  a37 := Tryd.isAgg74
  z37 := Tryd.sizeOf74
  v37 := Tryd.zeroValue74
  t46 := Tryd.underlying107
  a46 := Tryd.isAgg107
  z46 := Tryd.sizeOf107
  v46 := Tryd.zeroValue107
  t51 := Tryd.underlying124
  a51 := Tryd.isAgg124
  z51 := Tryd.sizeOf124
  v51 := Tryd.zeroValue124
  t53 := Tryd.underlying104
  a53 := Tryd.isAgg104
  z53 := Tryd.sizeOf104
  v53 := Tryd.zeroValue104
  t75 := Tryd.underlying87
  a75 := Tryd.isAgg87
  z75 := Tryd.sizeOf87
  v75 := Tryd.zeroValue87
  t76 := Tryd.underlying88
  a76 := Tryd.isAgg88
  z76 := Tryd.sizeOf88
  v76 := Tryd.zeroValue88
  t85 := Tryd.underlying96
  a85 := Tryd.isAgg96
  z85 := Tryd.sizeOf96
  v85 := Tryd.zeroValue96
  t127 := Tryd.underlying92
  a127 := Tryd.isAgg92
  z127 := Tryd.sizeOf92
  v127 := Tryd.zeroValue92
  t143 := Tryd.underlying118
  a143 := Tryd.isAgg118
  z143 := Tryd.sizeOf118
  v143 := Tryd.zeroValue118
  t145 := Tryd.underlying120
  a145 := Tryd.isAgg120
  z145 := Tryd.sizeOf120
  v145 := Tryd.zeroValue120
  t167 := Tryd.underlying95
  a167 := Tryd.isAgg95
  z167 := Tryd.sizeOf95
  v167 := Tryd.zeroValue95
  t168 := Tryd.underlying98
  a168 := Tryd.isAgg98
  z168 := Tryd.sizeOf98
  v168 := Tryd.zeroValue98
  t171 := Tryd.underlying112
  a171 := Tryd.isAgg112
  z171 := Tryd.sizeOf112
  v171 := Tryd.zeroValue112
  t173 := Tryd.underlying115
  a173 := Tryd.isAgg115
  z173 := Tryd.sizeOf115
  v173 := Tryd.zeroValue115
  t175 := Tryd.underlying105
  a175 := Tryd.isAgg105
  z175 := Tryd.sizeOf105
  v175 := Tryd.zeroValue105
  t210 := Tryd.underlying110
  a210 := Tryd.isAgg110
  z210 := Tryd.sizeOf110
  v210 := Tryd.zeroValue110
  t212 := Tryd.underlying123
  a212 := Tryd.isAgg123
  z212 := Tryd.sizeOf123
  v212 := Tryd.zeroValue123
  t213 := Tryd.underlying125
  a213 := Tryd.isAgg125
  z213 := Tryd.sizeOf125
  t232 := Tryd.underlying129
  a232 := Tryd.isAgg129
  z232 := Tryd.sizeOf129
  v232 := Tryd.zeroValue129
  t233 := Tryd.underlying130
  a233 := Tryd.isAgg130
  z233 := Tryd.sizeOf130
  v233 := Tryd.zeroValue130
  g15 := by kernel_rfl
  g16 := by kernel_rfl
  g17 := by kernel_rfl
  g18 := by kernel_rfl
  g19 := by kernel_rfl }
def Tryd.laysC172_ren : Go.Shelf.Ren := ⟨fun | 172 => 57 | 244 => 63 | 245 => 64 | 247 => 67 | 279 => 68 | 280 => 69 | 281 => 70 | 282 => 71 | 287 => 74 | 316 => 75 | 171 => 58 | 205 => 76 | 321 => 81 | 322 => 82 | 243 => 65 | 246 => 72 | 283 => 77 | 284 => 78 | 285 => 79 | 286 => 80 | 129 => 84 | 317 => 83 | 318 => 85 | 319 => 86 | 320 => 87 | 337 => 88 | 338 => 89 | n => n, fun | 9 => 9 | 3 => 3 | 75 => 87 | 76 => 88 | 4 => 4 | 5 => 5 | 167 => 95 | 37 => 74 | 0 => 0 | 85 => 96 | 2 => 2 | 168 => 98 | 53 => 104 | 175 => 105 | 46 => 107 | 210 => 110 | 127 => 92 | 145 => 120 | 143 => 118 | 21 => 21 | 171 => 112 | 173 => 115 | 212 => 123 | 51 => 124 | 20 => 20 | 213 => 125 | 232 => 129 | 233 => 130 | 80 => 67 | n => n, fun | 15 => 1 | 16 => 2 | 17 => 3 | 18 => 4 | 19 => 5 | n => n⟩
theorem Tryd.laysC172 : Go.Proofs.LaysC.n172 Tryd.prog Tryd.laysC172_ren := {
  mixed := by kernel_rfl
  f129 := Tryd.func84.trans (congrArg some (by kernel_rfl))
  f171 := Tryd.func58.trans (congrArg some (by kernel_rfl))
  f172 := Tryd.func57.trans (congrArg some (by kernel_rfl))
  f205 := Tryd.func76.trans (congrArg some (by kernel_rfl))
  f243 := Tryd.func65.trans (congrArg some (by kernel_rfl))
  f244 := Tryd.func63.trans (congrArg some (by kernel_rfl))
  f245 := Tryd.func64.trans (congrArg some (by kernel_rfl))
  f246 := Tryd.func72.trans (congrArg some (by kernel_rfl))
  f247 := Tryd.func67.trans (congrArg some (by kernel_rfl))
  f279 := Tryd.func68.trans (congrArg some (by kernel_rfl))
  f280 := Tryd.func69.trans (congrArg some (by kernel_rfl))
  f281 := Tryd.func70.trans (congrArg some (by kernel_rfl))
  f282 := Tryd.func71.trans (congrArg some (by kernel_rfl))
  f283 := Tryd.func77.trans (congrArg some (by kernel_rfl))
  f284 := Tryd.func78.trans (congrArg some (by kernel_rfl))
  f285 := Tryd.func79.trans (congrArg some (by kernel_rfl))
  f286 := Tryd.func80.trans (congrArg some (by kernel_rfl))
  f287 := Tryd.func74.trans (congrArg some (by kernel_rfl))
  f316 := Tryd.func75.trans (congrArg some (by kernel_rfl))
  f317 := Tryd.func83.trans (congrArg some (by kernel_rfl))
  f318 := Tryd.func85.trans (congrArg some (by kernel_rfl))
  f319 := Tryd.func86.trans (congrArg some (by kernel_rfl))
  f320 := Tryd.func87.trans (congrArg some (by kernel_rfl))
  f321 := Tryd.func81.trans (congrArg some (by kernel_rfl))
  f322 := Tryd.func82.trans (congrArg some (by kernel_rfl))
  f337 := Tryd.func88.trans (congrArg some (by kernel_rfl))
  f338 := Tryd.func89.trans (congrArg some (by kernel_rfl))
  t0 := Tryd.underlying0
  a0 := Tryd.isAgg0
  z0 := Tryd.sizeOf0
  v0 := Tryd.zeroValue0
  t2 := Tryd.underlying2
  a2 := Tryd.isAgg2
  z2 := Tryd.sizeOf2
  v2 := Tryd.zeroValue2
  t3 := Tryd.underlying3
  a3 := Tryd.isAgg3
  z3 := Tryd.sizeOf3
  v3 := Tryd.zeroValue3
  t4 := Tryd.underlying4
  a4 := Tryd.isAgg4
  z4 := Tryd.sizeOf4
  v4 := Tryd.zeroValue4
  t5 := Tryd.underlying5
  a5 := Tryd.isAgg5
  z5 := Tryd.sizeOf5
  v5 := Tryd.zeroValue5
  t9 := Tryd.underlying9
  a9 := Tryd.isAgg9
  z9 := Tryd.sizeOf9
  v9 := Tryd.zeroValue9
  t20 := Tryd.underlying20
  a20 := Tryd.isAgg20
  z20 := Tryd.sizeOf20
  v20 := Tryd.zeroValue20
  t21 := Tryd.underlying21
  a21 := Tryd.isAgg21
  z21 := Tryd.sizeOf21
  v21 := Tryd.zeroValue21
  t37 := Tryd.underlying74
  a37 := Tryd.isAgg74
  z37 := Tryd.sizeOf74
  v37 := Tryd.zeroValue74
  t46 := Tryd.underlying107
  a46 := Tryd.isAgg107
  z46 := Tryd.sizeOf107
  v46 := Tryd.zeroValue107
  t51 := Tryd.underlying124
  a51 := Tryd.isAgg124
  z51 := Tryd.sizeOf124
  v51 := Tryd.zeroValue124
  t53 := Tryd.underlying104
  a53 := Tryd.isAgg104
  z53 := Tryd.sizeOf104
  v53 := Tryd.zeroValue104
  t75 := Tryd.underlying87
  a75 := Tryd.isAgg87
  z75 := Tryd.sizeOf87
  v75 := Tryd.zeroValue87
  t76 := Tryd.underlying88
  a76 := Tryd.isAgg88
  z76 := Tryd.sizeOf88
  v76 := Tryd.zeroValue88
  t85 := Tryd.underlying96
  a85 := Tryd.isAgg96
  z85 := Tryd.sizeOf96
  v85 := Tryd.zeroValue96
  t127 := Tryd.underlying92
  a127 := Tryd.isAgg92
  z127 := Tryd.sizeOf92
  v127 := Tryd.zeroValue92
  t143 := Tryd.underlying118
  a143 := Tryd.isAgg118
  z143 := Tryd.sizeOf118
  v143 := Tryd.zeroValue118
  t145 := Tryd.underlying120
  a145 := Tryd.isAgg120
  z145 := Tryd.sizeOf120
  v145 := Tryd.zeroValue120
  t167 := Tryd.underlying95
  a167 := Tryd.isAgg95
  z167 := Tryd.sizeOf95
  v167 := Tryd.zeroValue95
  t168 := Tryd.underlying98
  a168 := Tryd.isAgg98
  z168 := Tryd.sizeOf98
  v168 := Tryd.zeroValue98
  t171 := Tryd.underlying112
  a171 := Tryd.isAgg112
  z171 := Tryd.sizeOf112
  v171 := Tryd.zeroValue112
  t173 := Tryd.underlying115
  a173 := Tryd.isAgg115
  z173 := Tryd.sizeOf115
  v173 := Tryd.zeroValue115
  t175 := Tryd.underlying105
  a175 := Tryd.isAgg105
  z175 := Tryd.sizeOf105
  v175 := Tryd.zeroValue105
  t210 := Tryd.underlying110
  a210 := Tryd.isAgg110
  z210 := Tryd.sizeOf110
  v210 := Tryd.zeroValue110
  t212 := Tryd.underlying123
  a212 := Tryd.isAgg123
  z212 := Tryd.sizeOf123
  v212 := Tryd.zeroValue123
  t213 := Tryd.underlying125
  a213 := Tryd.isAgg125
  z213 := Tryd.sizeOf125
  t232 := Tryd.underlying129
  a232 := Tryd.isAgg129
  z232 := Tryd.sizeOf129
  v232 := Tryd.zeroValue129
  t233 := Tryd.underlying130
  a233 := Tryd.isAgg130
  z233 := Tryd.sizeOf130
  v233 := Tryd.zeroValue130
  g15 := by kernel_rfl
  g16 := by kernel_rfl
  g17 := by kernel_rfl
  g18 := by kernel_rfl
  g19 := by kernel_rfl
  t80 := Tryd.underlying67
  a80 := Tryd.isAgg67
  z80 := Tryd.sizeOf67
  v80 := Tryd.zeroValue67
  i0 := by kernel_rfl
  i2 := by kernel_rfl
  i3 := by kernel_rfl
  i4 := by kernel_rfl
  i5 := by kernel_rfl
  i9 := by kernel_rfl
  i20 := by kernel_rfl
  i21 := by kernel_rfl
  i37 := by kernel_rfl
  i46 := by kernel_rfl
  i51 := by kernel_rfl
  i53 := by kernel_rfl
  i75 := by kernel_rfl
  i76 := by kernel_rfl
  i80 := by kernel_rfl
  i85 := by kernel_rfl
  i127 := by kernel_rfl
  i143 := by kernel_rfl
  i145 := by kernel_rfl
  i167 := by kernel_rfl
  i168 := by kernel_rfl
  i171 := by kernel_rfl
  i173 := by kernel_rfl
  i175 := by kernel_rfl
  i210 := by kernel_rfl
  i212 := by kernel_rfl
  i232 := by kernel_rfl
  i233 := by kernel_rfl
  m15 := by kernel_rfl
  m16 := by kernel_rfl
  m17 := by kernel_rfl
  m18 := by kernel_rfl
  m19 := by kernel_rfl
  c0 := by kernel_rfl
  c2 := by kernel_rfl
  c3 := by kernel_rfl
  c4 := by kernel_rfl
  c5 := by kernel_rfl
  c9 := by kernel_rfl
  c20 := by kernel_rfl
  c21 := by kernel_rfl
  c37 := by kernel_rfl
  c46 := by kernel_rfl
  c51 := by kernel_rfl
  c53 := by kernel_rfl
  c75 := by kernel_rfl
  c76 := by kernel_rfl
  c80 := by kernel_rfl
  c85 := by kernel_rfl
  c127 := by kernel_rfl
  c143 := by kernel_rfl
  c145 := by kernel_rfl
  c167 := by kernel_rfl
  c168 := by kernel_rfl
  c171 := by kernel_rfl
  c173 := by kernel_rfl
  c175 := by kernel_rfl
  c210 := by kernel_rfl
  c212 := by kernel_rfl
  c213 := by kernel_rfl
  c232 := by kernel_rfl
  c233 := by kernel_rfl }
def Tryd.laysM171_ren : Go.Shelf.Ren := ⟨fun | 171 => 58 | 243 => 65 | 246 => 72 | 283 => 77 | 284 => 78 | 285 => 79 | 286 => 80 | 129 => 84 | 317 => 83 | 318 => 85 | 319 => 86 | 320 => 87 | 337 => 88 | 338 => 89 | n => n, fun | 3 => 3 | 9 => 9 | 2 => 2 | 4 => 4 | 171 => 112 | 0 => 0 | 53 => 104 | 37 => 74 | 5 => 5 | 173 => 115 | 212 => 123 | 51 => 124 | 20 => 20 | 213 => 125 | 46 => 107 | 232 => 129 | 233 => 130 | n => n, fun | 17 => 3 | 18 => 4 | 19 => 5 | n => n⟩
theorem Tryd.laysM171 : Go.Proofs.LaysM.n171 Tryd.prog Tryd.laysM171_ren := {
  mixed := by kernel_rfl
  f129 := Tryd.func84.trans (congrArg some (by kernel_rfl))
  f171 := Tryd.func58.trans (congrArg some (by kernel_rfl))
  f243 := Tryd.func65.trans (congrArg some (by kernel_rfl))
  f246 := Tryd.func72.trans (congrArg some (by kernel_rfl))
  f283 := Tryd.func77.trans (congrArg some (by kernel_rfl))
  f284 := Tryd.func78.trans (congrArg some (by kernel_rfl))
  f285 := Tryd.func79.trans (congrArg some (by kernel_rfl))
  f286 := Tryd.func80.trans (congrArg some (by kernel_rfl))
  f317 := Tryd.func83.trans (congrArg some (by kernel_rfl))
  f318 := Tryd.func85.trans (congrArg some (by kernel_rfl))
  f319 := Tryd.func86.trans (congrArg some (by kernel_rfl))
  f320 := Tryd.func87.trans (congrArg some (by kernel_rfl))
  f337 := Tryd.func88.trans (congrArg some (by kernel_rfl))
  f338 := Tryd.func89.trans (congrArg some (by kernel_rfl))
  t0 := Tryd.underlying0
  a0 := Tryd.isAgg0
  z0 := Tryd.sizeOf0
  v0 := Tryd.zeroValue0
  t2 := Tryd.underlying2
  a2 := Tryd.isAgg2
  z2 := Tryd.sizeOf2
  v2 := Tryd.zeroValue2
  t3 := Tryd.underlying3
  a3 := Tryd.isAgg3
  z3 := Tryd.sizeOf3
  v3 := Tryd.zeroValue3
  t4 := Tryd.underlying4
  a4 := Tryd.isAgg4
  z4 := Tryd.sizeOf4
  v4 := Tryd.zeroValue4
  t5 := Tryd.underlying5
  a5 := Tryd.isAgg5
  z5 := Tryd.sizeOf5
  v5 := Tryd.zeroValue5
  t9 := Tryd.underlying9
  a9 := Tryd.isAgg9
  z9 := Tryd.sizeOf9
  v9 := Tryd.zeroValue9
  t20 := Tryd.underlying20
  a20 := Tryd.isAgg20
  z20 := Tryd.sizeOf20
  v20 := Tryd.zeroValue20
  t37 := Tryd.underlying74
  a37 := Tryd.isAgg74
  z37 := Tryd.sizeOf74
  v37 := Tryd.zeroValue74
  t46 := Tryd.underlying107
  a46 := Tryd.isAgg107
  z46 := Tryd.sizeOf107
  v46 := Tryd.zeroValue107
  t51 := Tryd.underlying124
  a51 := Tryd.isAgg124
  z51 := Tryd.sizeOf124
  v51 := Tryd.zeroValue124
  t53 := Tryd.underlying104
  a53 := Tryd.isAgg104
  z53 := Tryd.sizeOf104
  v53 := Tryd.zeroValue104
  t171 := Tryd.underlying112
  a171 := Tryd.isAgg112
  z171 := Tryd.sizeOf112
  v171 := Tryd.zeroValue112
  t173 := Tryd.underlying115
  a173 := Tryd.isAgg115
  z173 := Tryd.sizeOf115
  v173 := Tryd.zeroValue115
  t212 := Tryd.underlying123
  a212 := Tryd.isAgg123
  z212 := Tryd.sizeOf123
  v212 := Tryd.zeroValue123
  t213 := Tryd.underlying125
  a213 := Tryd.isAgg125
  z213 := Tryd.sizeOf125
  t232 := Tryd.underlying129
  a232 := Tryd.isAgg129
  z232 := Tryd.sizeOf129
  v232 := Tryd.zeroValue129
  t233 := Tryd.underlying130
  a233 := Tryd.isAgg130
  z233 := Tryd.sizeOf130
  v233 := Tryd.zeroValue130
  g17 := by kernel_rfl
  g18 := by kernel_rfl
  g19 := by kernel_rfl
  i0 := by kernel_rfl
  i2 := by kernel_rfl
  i3 := by kernel_rfl
  i4 := by kernel_rfl
  i5 := by kernel_rfl
  i9 := by kernel_rfl
  i20 := by kernel_rfl
  i37 := by kernel_rfl
  i46 := by kernel_rfl
  i51 := by kernel_rfl
  i53 := by kernel_rfl
  i171 := by kernel_rfl
  i173 := by kernel_rfl
  i212 := by kernel_rfl
  i232 := by kernel_rfl
  i233 := by kernel_rfl
  m17 := by kernel_rfl
  m18 := by kernel_rfl
  m19 := by kernel_rfl }








def aErr : AV := .one (.st .err)
def aNilI : AV := .one (.st (.lit .nilIface))
theorem tup2 {σ : Sto} {a b : Value} {x y : AV} (ha : VRep σ noS noH a x) (hb : VRep σ noS noH b y) : VRep σ noS noH (.tuple #[a, b]) (.tup [x, y]) :=
  .tup (fun j => if j = 0 then a else b) rfl (fun j u hj => by
    match j, hj with
    | 0, _ => rfl
    | 1, _ => rfl
    | j + 2, hj => simp at hj) (fun j u hj => by
    match j, hj with
    | 0, hj => cases hj; exact ha
    | 1, hj => cases hj; exact hb
    | j + 2, hj => simp at hj)
theorem one_arg {σ : Sto} {vs : List Value} {x : AV} (h : All2 (VRep σ noS noH) vs [x]) : ∃ v, vs = [v] ∧ VRep σ noS noH v x := by
  cases h with
  | cons h1 h2 =>
    cases h2
    exact ⟨_, rfl, h1⟩
theorem atoi_a (s : ByteArray) (n : Int) (hz : s.size ≤ 18) (h : Lib.atoi s.data.toList = some n) : ACalls Tryd.prog 57 [aStr s] (.tup [aInt n, aNilI]) := by
  intro σ w vs hG hF hv
  obtain ⟨v, rfl, h1⟩ := one_arg hv
  obtain ⟨rfl, _⟩ := vrep_str h1
  refine (Any.strconv_Atoi Tryd.lays172 s n hz h w).mono fun e w' ⟨he, t, hw⟩ => ?_
  have hb : Below w.heap.size w w' := by
    rw [hw]
    exact Lib.bytesWorld_below _ _ _
  have hr := atoi_range hz h
  exact ⟨_, σ, he, tup2 (.one (.st (.int (by rw [inR_i64]; exact hr)))) (.one (.st (.lit rfl))), hF.below hb, Ext.refl _ _, hb⟩
theorem atoi_no (s : ByteArray) (hz : s.size ≤ 18) (h : Lib.atoi s.data.toList = none) : ACalls Tryd.prog 57 [aStr s] (.tup [aInt 0, aErr]) := by
  intro σ w vs hG hF hv
  obtain ⟨v, rfl, h1⟩ := one_arg hv
  obtain ⟨rfl, _⟩ := vrep_str h1
  obtain ⟨ev, h2, h3⟩ := hG.cell hF (g := 1) (a := .err) (by kernel_rfl)
  obtain ⟨te, pe, rfl⟩ : ∃ te pe, ev = .iface te pe := by
    cases h3
    exact ⟨_, _, rfl⟩
  refine (Any.strconv_Atoi_err Tryd.laysC172 s hz h _ w h2 (Or.inr ⟨te, pe, rfl⟩)).mono fun e w' ⟨N, he, _, _, hb⟩ => ?_
  exact ⟨_, σ, he, tup2 (.one (.st (.int (by rw [inR_i64]; omega)))) (.one (.st .err)), hF.below hb, Ext.refl _ _, hb⟩
theorem itoaAll_a (n : Int) : ACalls Tryd.prog 58 [aInt n] (aStr ⟨(Lib.itoa n).toArray⟩) := by
  intro σ w vs hG hF hv
  obtain ⟨v, rfl, h1⟩ := one_arg hv
  obtain ⟨rfl, hn⟩ := vrep_int h1
  rw [inR_i64] at hn
  have ht : Lib.TabIs Tryd.prog w "internal/strconv.uint64pow10" .u64 Lib.pow10Tab := hG.ints hF (g := 3) (by kernel_rfl) (by kernel_rfl)
  refine (Any.strconv_Itoa Tryd.laysM171 n hn.1 hn.2 w ht).mono fun e w' ⟨he, k, os, hw⟩ => ?_
  have hb : Below w.heap.size w w' := by
    rw [hw]
    exact Lib.below_grow _ _ (Nat.le_refl _) _ _
  refine ⟨_, σ, he, .one (.st (.str ?_)), hF.below hb, Ext.refl _ _, hb⟩
  have hl := Lib.itoa_length_le n hn.1 hn.2
  have hs : (⟨(Lib.itoa n).toArray⟩ : ByteArray).size = (Lib.itoa n).length := by simp [ByteArray.size]
  rw [hs, maxLen_eq]
  omega

end Go.Proofs.YtadjhfokddfbiaaDoor
