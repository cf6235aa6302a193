/-
  Proved: for lambda terms and types made of raw numbers, what P1 and P2 say holds, also with their own principal type: the law InferMade returns true; as a tied card. Conditions: none.
-/
import Derived.Test.YtehnjhkndbcmgaaGreatDoorInM18
import Derived.Test.YtehnjhkndbcmgaaGreatDoorRows
import Derived.ProofKit
import Derived.OpenShut
import Derived.JoinedCond
import Derived.Deep.Slices
import Derived.Test.YtehnjhkndbcmgaaGreatDoorTie
import Derived.Test.YtehnjhkndbcmgaaGreatDoorCards
import Derived.LaidMore
import Derived.MakeChecks
import Derived.Stop.Joined
import Derived.Lib.LaidTab
import Derived.Lib.ItoaNum
import Derived.LaidLaws
namespace Go.Proofs.YtehnjhkndbcmgaaGreatDoor
open Go Go.RowKit
set_option maxRecDepth 100000
def ir_R_Pick : IR :=
  (.seq (.ops [.i 4 (.mov (.n 0))]) (.seq (.seq (.ops [.i 5 (.mov (.t 0)), .i 6 (.bin .lss (.t 5) (.n 0))]) (.cond (.t 6) (.ops [.i 7 (.mov (.t 0)), .i 8 (.bin .add (.t 7) (.n 1)), .i 9 (.un .neg (.t 8)), .i 0 (.mov (.t 9))]) .skip)) (.seq (.ops [.i 10 (.mov (.t 0)), .i 11 (.mov (.t 1)), .i 12 (.bin .rem (.t 10) (.t 11)), .i 4 (.mov (.t 12))]) .ret)))
theorem tr_R_Pick : trCode Tryz.prog 13 [] (Tryz.f22.body.getD .skip) = some ir_R_Pick := by kernel_rfl
theorem ac_R_Pick {xs : List AV} {r : AV} (hn : xs.length ≤ 13) (h : ∀ C : Ctx, C.n = 13 → IWP Tryz.prog C [] ir_R_Pick (FinQ [.t 4] r) (AS.start xs)) : ACalls Tryz.prog 22 xs r :=
  acalls_of Tryz.func22 rfl tr_R_Pick rfl hn h
def ir_R_Raw : IR :=
  (.seq (.ops [.i 4 (.mov (.n 0))]) (.seq (.seq (.ops [.i 5 (.mov (.t 0)), .i 6 (.len false (.t 5)), .i 7 (.bin .eql (.t 6) (.n 0))]) (.cond (.t 7) (.seq (.ops [.i 8 (.mov (.t 1)), .i 9 (.bin .mul (.t 8) (.n 31)), .i 4 (.mov (.t 9))]) .ret) .skip)) (.seq (.ops [.i 10 (.mov (.t 0)), .i 11 (.mov (.t 1)), .i 12 (.mov (.t 0)), .i 13 (.len false (.t 12)), .i 14 (.bin .rem (.t 11) (.t 13)), .i 15 (.indexAddr 1 (.t 10) (.t 14)), .i 16 (.load false 1 (.t 15)), .i 17 (.call 22 [.t 16, .n 1000003]), .i 18 (.mov (.t 1)), .i 19 (.mov (.t 0)), .i 20 (.len false (.t 19)), .i 21 (.bin .quo (.t 18) (.t 20)), .i 22 (.bin .mul (.t 21) (.n 7919)), .i 23 (.bin .add (.t 17) (.t 22)), .i 4 (.mov (.t 23))]) .ret)))
theorem tr_R_Raw : trCode Tryz.prog 24 [] (Tryz.f52.body.getD .skip) = some ir_R_Raw := by kernel_rfl
theorem ac_R_Raw {xs : List AV} {r : AV} (hn : xs.length ≤ 24) (h : ∀ C : Ctx, C.n = 24 → IWP Tryz.prog C [] ir_R_Raw (FinQ [.t 4] r) (AS.start xs)) : ACalls Tryz.prog 52 xs r :=
  acalls_of Tryz.func52 rfl tr_R_Raw rfl hn h
def ir_R_LamFrom : IR :=
  (.seq (.ops [.i 10 (.alloc 24 [.st (.int .i64 0), .st (.int .i64 0), .full []]), .i 11 (.mov (.n 0))]) (.seq (.ops [.i 18 (.mov (.t 0)), .i 19 (.mov (.t 1)), .i 20 (.call 52 [.t 18, .t 19]), .i 12 (.mov (.t 20))]) (.seq (.ops [.i 21 (.mov (.t 1)), .i 22 (.bin .add (.t 21) (.n 1)), .i 1 (.mov (.t 22))]) (.seq (.seq (.ops [.i 23 (.mov (.t 2)), .i 24 (.bin .lss (.t 23) (.n 3)), .i 25 (.mov (.t 24)), .mk (some 26) (some (25, false)) (.mov (.t 12)) .no, .mk (some 27) (some (25, false)) (.call 22 [.t 26, .n 6]) .no, .mk (some 28) (some (25, false)) (.bin .eql (.t 27) (.n 0)) .no, .i 29 (.pick (.t 25) (.c (.one (.st (.bool true)))) (.t 28))]) (.cond (.t 29) (.seq (.seq (.ops [.i 30 (.mov (.t 3)), .i 31 (.bin .eql (.t 30) (.n 0)), .i 32 (.mov (.t 31)), .mk (some 33) (some (32, true)) (.mov (.t 4)) .no, .mk (some 34) (some (32, true)) (.bin .eql (.t 33) (.n 0)) .no, .i 35 (.pick (.t 32) (.t 34) (.c (.one (.st (.bool false)))))]) (.cond (.t 35) (.seq (.ops [.i 36 (.call 57 [.n 0]), .i 37 (.call 58 [.t 36]), .i 38 (.mov (.t 1)), .mk none none (.store 3 (.t 10) (.t 37)) .no, .i 11 (.mov (.t 38))]) .ret) .skip)) (.seq (.seq (.ops [.i 39 (.mov (.t 3)), .i 40 (.bin .eql (.t 39) (.n 0)), .i 41 (.mov (.t 40)), .mk (some 42) (some (41, false)) (.mov (.t 4)) .no, .mk (some 43) (some (41, false)) (.bin .gtr (.t 42) (.n 0)) .no, .mk (some 44) (some (41, false)) (.mov (.t 43)) .no, .mk (some 45) (some (44, true)) (.mov (.t 12)) .no, .mk (some 46) (some (44, true)) (.bin .quo (.t 45) (.n 6)) .no, .mk (some 47) (some (44, true)) (.call 22 [.t 46, .n 4]) .no, .mk (some 48) (some (44, true)) (.bin .eql (.t 47) (.n 0)) .no, .mk (some 49) (some (41, false)) (.pick (.t 44) (.t 48) (.c (.one (.st (.bool false))))) .no, .i 50 (.pick (.t 41) (.c (.one (.st (.bool true)))) (.t 49))]) (.cond (.t 50) (.seq (.ops [.i 51 (.mov (.t 12)), .i 52 (.bin .quo (.t 51) (.n 24)), .i 53 (.mov (.t 4)), .i 54 (.call 22 [.t 52, .t 53]), .i 55 (.call 88 [.t 54]), .i 56 (.mov (.t 1)), .mk none none (.store 3 (.t 10) (.t 55)) .no, .i 11 (.mov (.t 56))]) .ret) .skip)) (.seq (.ops [.i 57 (.mov (.t 12)), .i 58 (.bin .quo (.t 57) (.n 6)), .i 59 (.mov (.t 3)), .i 60 (.call 22 [.t 58, .t 59]), .i 61 (.call 57 [.t 60]), .i 62 (.mov (.t 1)), .mk none none (.store 3 (.t 10) (.t 61)) .no, .i 11 (.mov (.t 62))]) .ret))) .skip)) (.seq (.seq (.ops [.i 63 (.mov (.t 12)), .i 64 (.call 22 [.t 63, .n 6]), .i 65 (.bin .lss (.t 64) (.n 3))]) (.cond (.t 65) (.seq (.ops [.i 67 (.mov (.t 0)), .i 68 (.mov (.t 1)), .i 69 (.mov (.t 2)), .i 70 (.bin .sub (.t 69) (.n 1)), .i 71 (.mov (.t 3)), .i 72 (.bin .add (.t 71) (.n 1)), .i 73 (.mov (.t 4)), .i 74 (.call 51 [.t 67, .t 68, .t 70, .t 72, .t 73]), .i 66 (.mov (.t 74)), .i 75 (.extract 0 (.t 66)), .i 76 (.extract 1 (.t 66)), .i 13 (.alloc 24 [.st (.int .i64 0), .st (.int .i64 0), .full []]), .mk none none (.store 3 (.t 13) (.t 75)) .no, .i 14 (.mov (.t 76))]) (.seq (.ops [.i 77 (.load true 3 (.t 13)), .i 78 (.call 58 [.t 77]), .i 79 (.mov (.t 14)), .mk none none (.store 3 (.t 10) (.t 78)) .no, .i 11 (.mov (.t 79))]) .ret)) .skip)) (.seq (.ops [.i 81 (.mov (.t 0)), .i 82 (.mov (.t 1)), .i 83 (.mov (.t 2)), .i 84 (.bin .quo (.t 83) (.n 2)), .i 85 (.mov (.t 3)), .i 86 (.mov (.t 4)), .i 87 (.call 51 [.t 81, .t 82, .t 84, .t 85, .t 86]), .i 80 (.mov (.t 87)), .i 88 (.extract 0 (.t 80)), .i 89 (.extract 1 (.t 80)), .i 15 (.alloc 24 [.st (.int .i64 0), .st (.int .i64 0), .full []]), .mk none none (.store 3 (.t 15) (.t 88)) .no, .i 16 (.mov (.t 89))]) (.seq (.ops [.i 91 (.mov (.t 0)), .i 92 (.mov (.t 16)), .i 93 (.mov (.t 2)), .i 94 (.bin .quo (.t 93) (.n 2)), .i 95 (.mov (.t 3)), .i 96 (.mov (.t 4)), .i 97 (.call 51 [.t 91, .t 92, .t 94, .t 95, .t 96]), .i 90 (.mov (.t 97)), .i 98 (.extract 0 (.t 90)), .i 99 (.extract 1 (.t 90)), .i 17 (.alloc 24 [.st (.int .i64 0), .st (.int .i64 0), .full []]), .mk none none (.store 3 (.t 17) (.t 98)) .no, .i 16 (.mov (.t 99))]) (.seq (.ops [.i 100 (.load true 3 (.t 15)), .i 101 (.load true 3 (.t 17)), .i 102 (.call 55 [.t 100, .t 101]), .i 103 (.mov (.t 16)), .mk none none (.store 3 (.t 10) (.t 102)) .no, .i 11 (.mov (.t 103))]) .ret))))))))
theorem tr_R_LamFrom : trCode Tryz.prog 104 [] (Tryz.f51.body.getD .skip) = some ir_R_LamFrom := by kernel_rfl
theorem ac_R_LamFrom {xs : List AV} {r : AV} (hn : xs.length ≤ 104) (h : ∀ C : Ctx, C.n = 104 → IWP Tryz.prog C [] ir_R_LamFrom (FinQ [.cell 10 true 3, .t 11] r) (AS.start xs)) : ACalls Tryz.prog 51 xs r :=
  acalls_of Tryz.func51 rfl tr_R_LamFrom rfl hn h
def ir_R_LamOfRaw : IR :=
  (.seq (.ops [.i 10 (.alloc 24 [.st (.int .i64 0), .st (.int .i64 0), .full []])]) (.seq (.ops [.i 14 (.mov (.t 0)), .i 15 (.mov (.t 1)), .i 16 (.mov (.t 2)), .i 17 (.mov (.t 3)), .i 18 (.mov (.t 4)), .i 19 (.call 51 [.t 14, .t 15, .t 16, .t 17, .t 18]), .i 13 (.mov (.t 19)), .i 20 (.extract 0 (.t 13)), .i 21 (.extract 1 (.t 13)), .i 11 (.alloc 24 [.st (.int .i64 0), .st (.int .i64 0), .full []]), .mk none none (.store 3 (.t 11) (.t 20)) .no, .i 12 (.mov (.t 21))]) (.seq (.ops [.i 22 (.load true 3 (.t 11)), .mk none none (.store 3 (.t 10) (.t 22)) .no]) .ret)))
theorem tr_R_LamOfRaw : trCode Tryz.prog 23 [] (Tryz.f21.body.getD .skip) = some ir_R_LamOfRaw := by kernel_rfl
theorem ac_R_LamOfRaw {xs : List AV} {r : AV} (hn : xs.length ≤ 23) (h : ∀ C : Ctx, C.n = 23 → IWP Tryz.prog C [] ir_R_LamOfRaw (FinQ [.cell 10 true 3] r) (AS.start xs)) : ACalls Tryz.prog 21 xs r :=
  acalls_of Tryz.func21 rfl tr_R_LamOfRaw rfl hn h
end Go.Proofs.YtehnjhkndbcmgaaGreatDoor

namespace Go.Proofs.YtehnjhkndbcmgaaGreatDoor
open Go Go.RowKit
set_option linter.unusedVariables false
set_option linter.unusedSimpArgs false
set_option maxHeartbeats 1000000
def pickI (c n : Int) : Int := (if c < 0 then -(c + 1) else c) % n
theorem pickI_range (c n : Int) (hn : 1 ≤ n) : 0 ≤ pickI c n ∧ pickI c n < n := ⟨Int.emod_nonneg _ (by omega), Int.emod_lt_of_pos _ (by omega)⟩
theorem tmod_range {x n : Int} (hx : 0 ≤ x) (hn : 1 ≤ n) : x.tmod n = x % n ∧ 0 ≤ x % n ∧ x % n < n ∧ x % n ≤ x := by
  rw [Int.tmod_eq_emod_of_nonneg hx]
  refine ⟨rfl, Int.emod_nonneg _ (by omega), Int.emod_lt_of_pos _ (by omega), ?_⟩
  by_cases h : x < n
  · rw [Int.emod_eq_of_lt hx h]; exact Int.le_refl _
  · have := Int.emod_lt_of_pos x (show 0 < n by omega); omega
theorem tdiv_range {x n : Int} (hx : 0 ≤ x) (hn : 1 ≤ n) : x.tdiv n = x / n ∧ 0 ≤ x / n ∧ x / n ≤ x := by
  rw [Int.tdiv_eq_ediv_of_nonneg hx]
  exact ⟨rfl, Int.ediv_nonneg hx (by omega), Int.ediv_le_self _ hx⟩
theorem pick_a (c n : Int) (hc : inR .i64 c) (hn : 1 ≤ n) : ACalls Tryz.prog 22 [aInt c, aInt n] (aInt (pickI c n)) := by
  rw [inR_i64] at hc
  refine ac_R_Pick (Nat.le_of_ble_eq_true rfl) fun C hC => ?_
  unfold ir_R_Pick
  repeat' (first | (with_reducible first | refine W ?_ | refine Wk (by decide) ?_) | ((with_reducible first | refine Wo (fun K hK => ?_) | refine Wq ?_ | refine Wr ?_); (try simp only [go_sem, fN, ↓gI, ↓pI, seval, eT, iR]); (repeat with_reducible refine And.intro (by first | omega | exact lens | (simp [maxLen_eq] <;> omega)) ?_); (try (refine hK _ ?_; clear hK K))))
  with_reducible refine Wp ?_
  simp only [go_sem, fN, ↓gI, ↓pI, seval, true_implies, false_implies, implies_true, dT, dF, nL]
  (try with_reducible refine iC ?_)
  refine ⟨fun h0 => ?_, fun h0 => ?_⟩
  · have h1 := tmod_range (x := 0 - (c + 1)) (n := n) (by omega) hn
    repeat' (first | (with_reducible first | refine W ?_ | refine Wk (by decide) ?_) | ((with_reducible first | refine Wo (fun K hK => ?_) | refine Wq ?_ | refine Wr ?_); (try simp only [go_sem, fN, ↓gI, ↓pI, seval, eT, iR, h1.1]); (repeat with_reducible refine And.intro (by first | omega | exact lens | (simp [maxLen_eq] <;> omega)) ?_); (try (refine hK _ ?_; clear hK K))))
    simp only [go_sem, fN, ↓gI, ↓pI, seval, FinQ, AS.result, resAll, resOne, tupV]
    unfold pickI
    rw [if_pos h0]
    congr 5
    omega
  · have h1 := tmod_range (x := c) (n := n) (by omega) hn
    repeat' (first | (with_reducible first | refine W ?_ | refine Wk (by decide) ?_) | ((with_reducible first | refine Wo (fun K hK => ?_) | refine Wq ?_ | refine Wr ?_); (try simp only [go_sem, fN, ↓gI, ↓pI, seval, eT, iR, h1.1]); (repeat with_reducible refine And.intro (by first | omega | exact lens | (simp [maxLen_eq] <;> omega)) ?_); (try (refine hK _ ?_; clear hK K))))
    simp only [go_sem, fN, ↓gI, ↓pI, seval, FinQ, AS.result, resAll, resOne, tupV]
    unfold pickI
    rw [if_neg h0]
def rawI (l : List Int) (i : Nat) : Int := if l.length = 0 then i * 31 else pickI (l.getD (i % l.length) 0) 1000003 + ((i / l.length : Nat) : Int) * 7919
theorem rawI_range (l : List Int) (i : Nat) : 0 ≤ rawI l i ∧ rawI l i ≤ 1000003 + i * 7919 := by
  unfold rawI
  split
  · omega
  · have := pickI_range (l.getD (i % l.length) 0) 1000003 (by omega)
    have h2 : i / l.length ≤ i := Nat.div_le_self _ _
    generalize i / l.length = q at *
    omega
theorem raw_a (l : List Int) (i : Nat) (hi : i ≤ 1000000) (hl : ∀ n ∈ l, inR .i64 n) (hm : l.length ≤ maxLen) : ACalls Tryz.prog 52 [aInts l, aInt i] (aInt (rawI l i)) := by
  rw [maxLen_eq] at hm
  refine ac_R_Raw (Nat.le_of_ble_eq_true rfl) fun C hC => ?_
  unfold ir_R_Raw
  repeat' (first | (with_reducible first | refine W ?_ | refine Wk (by decide) ?_) | ((with_reducible first | refine Wo (fun K hK => ?_) | refine Wq ?_ | refine Wr ?_); (try simp only [go_sem, fN, ↓gI, ↓pI, seval, eT, iR]); (repeat with_reducible refine And.intro (by first | omega | exact lens | (simp [maxLen_eq] <;> omega)) ?_); (try (refine hK _ ?_; clear hK K))))
  with_reducible refine Wp ?_
  simp only [go_sem, fN, ↓gI, ↓pI, seval, true_implies, false_implies, implies_true, dT, dF, nL]
  (try with_reducible refine iC ?_)
  refine ⟨fun h0 => ?_, fun h0 => ?_⟩
  · repeat' (first | (with_reducible first | refine W ?_ | refine Wk (by decide) ?_) | ((with_reducible first | refine Wo (fun K hK => ?_) | refine Wq ?_ | refine Wr ?_); (try simp only [go_sem, fN, ↓gI, ↓pI, seval, eT, iR]); (repeat with_reducible refine And.intro (by first | omega | exact lens | (simp [maxLen_eq] <;> omega)) ?_); (try (refine hK _ ?_; clear hK K))))
    simp only [go_sem, fN, ↓gI, ↓pI, seval, FinQ, AS.result, resAll, resOne, tupV]
    unfold rawI
    rw [if_pos (by omega)]
  · have h1 := tmod_range (x := (i : Int)) (n := (l.length : Int)) (by omega) (by omega)
    have h2 := tdiv_range (x := (i : Int)) (n := (l.length : Int)) (by omega) (by omega)
    have hlt : i % l.length < l.length := Nat.mod_lt _ (by omega)
    obtain ⟨a, ha⟩ := get_lt hlt
    have e1 : ((i : Int) % (l.length : Int)) = ((i % l.length : Nat) : Int) := by omega
    have e2 : ((i : Int) / (l.length : Int)) = ((i / l.length : Nat) : Int) := by omega
    have h3 : i / l.length ≤ i := Nat.div_le_self _ _
    repeat' (first | (with_reducible first | refine W ?_ | refine Wk (by decide) ?_) | ((with_reducible first | refine Wo (fun K hK => ?_) | refine Wq ?_ | refine Wr ?_); (try simp only [go_sem, fN, ↓gI, ↓pI, seval, eT, iR, h1.1, h2.1, e1, e2, ha]); (repeat with_reducible refine And.intro (by first | omega | exact lens | (simp [maxLen_eq] <;> omega)) ?_); (try (refine hK _ ?_; clear hK K))))
    refine ⟨_, pick_a a 1000003 (hl a (mem_of_get ha)) (by omega), ?_⟩
    have hp := pickI_range a 1000003 (by omega)
    repeat' (first | (with_reducible first | refine W ?_ | refine Wk (by decide) ?_) | ((with_reducible first | refine Wo (fun K hK => ?_) | refine Wq ?_ | refine Wr ?_); (try simp only [go_sem, fN, ↓gI, ↓pI, seval, eT, iR, h1.1, h2.1, e1, e2]); (repeat with_reducible refine And.intro (by first | omega | exact lens | (simp [maxLen_eq] <;> omega)) ?_); (try (refine hK _ ?_; clear hK K))))
    simp only [go_sem, fN, ↓gI, ↓pI, seval, FinQ, AS.result, resAll, resOne, tupV]
    unfold rawI
    rw [if_neg (by omega), List.getD_eq_getElem?_getD, ha]
    rfl
def LamAt (l : List Int) (at_ : Nat) (most under consts : Int) (t : Lm) (n : Nat) : Prop :=
  ACalls Tryz.prog 51 [aInts l, aInt at_, aInt most, aInt under, aInt consts] (.tup [aLm t, aInt n])
theorem chk_leaf {k i m u : Int} (h : (k = 1 ∧ 0 ≤ i ∧ i < u) ∨ (k = 4 ∧ 0 ≤ i ∧ i < 40)) : (Lm.mk k i []).chk m u = 0 := by
  rw [Lm.chk_eq]
  rcases h with ⟨rfl, h1, h2⟩ | ⟨rfl, h1, h2⟩ <;> simp [Lm.kind_mk, Lm.idx_mk, Lm.subs_mk, nSubs, mostIdx, h1, h2, Lm.chks]
theorem chk_fun {t : Lm} {m u : Int} (h : t.chk m (u + 1) = 0) : (Lm.l t).chk m u = 0 := by
  rw [Lm.chk_eq]
  simp [Lm.l, Lm.kind_mk, Lm.idx_mk, Lm.subs_mk, nSubs, mostIdx, under, Lm.chks, h]
theorem chk_app {f x : Lm} {m u : Int} (h1 : f.chk m u = 0) (h2 : x.chk m u = 0) : (Lm.a f x).chk m u = 0 := by
  rw [Lm.chk_eq]
  simp [Lm.a, Lm.kind_mk, Lm.idx_mk, Lm.subs_mk, nSubs, mostIdx, under, Lm.chks, h1, h2]
theorem lamFrom_a (l : List Int) (hl : ∀ n ∈ l, inR .i64 n) (hm : l.length ≤ maxLen) (consts : Int) (hc : 0 ≤ consts ∧ consts ≤ 40) : ∀ (most : Nat) (at_ under : Nat), 0 ≤ most → most ≤ 1000 → at_ + 3 * most ≤ 900000 → under + most ≤ 2000 →
    ∃ (t : Lm) (n : Nat), LamAt l at_ most under consts t n ∧ t.size + 1 ≤ 3 * max most 1 ∧ n ≤ at_ + t.size ∧ t.chk 0 under = 0 ∧ (consts = 0 → t.pure = true) := by
  intro most
  induction most using Nat.strongRecOn with
  | _ most ih =>
  intro at_ under h1 h1000 hat hund
  have hraw := raw_a l at_ (by omega) hl hm
  have hr := rawI_range l at_
  generalize rawI l at_ = c at hraw hr
  have d6 := tdiv_range (x := c) (n := 6) (by omega) (by omega)
  have d24 := tdiv_range (x := c) (n := 24) (by omega) (by omega)
  have p6 := pick_a c 6 (by rw [inR_i64]; omega) (by omega)
  have q6 := pickI_range c 6 (by omega)
  have p64 := pick_a (c / 6) 4 (by rw [inR_i64]; omega) (by omega)
  have q64 := pickI_range (c / 6) 4 (by omega)
  have p24 : 1 ≤ consts → _ := fun h => pick_a (c / 24) consts (by rw [inR_i64]; omega) h
  have q24 : 1 ≤ consts → _ := fun h => pickI_range (c / 24) consts h
  have p6u : 1 ≤ (under : Int) → _ := fun h => pick_a (c / 6) under (by rw [inR_i64]; omega) h
  have q6u : 1 ≤ (under : Int) → _ := fun h => pickI_range (c / 6) under h
  generalize pickI c 6 = x6 at *
  generalize pickI (c / 6) 4 = x64 at *
  generalize pickI (c / 24) consts = x24 at *
  generalize pickI (c / 6) under = x6u at *
  by_cases hleaf : (most : Int) < 3 ∨ x6 = 0
  · by_cases hu0 : (under : Int) = 0
    · by_cases hc0 : consts = 0
      · refine ⟨.l (.v 0), at_ + 1, ?_, by simp only [Lm.l, Lm.v, Lm.size, Lm.sizes]; omega, by simp only [Lm.l, Lm.v, Lm.size, Lm.sizes]; omega, chk_fun (chk_leaf (Or.inl ⟨rfl, by omega, by omega⟩)), fun _ => by simp [Lm.l, Lm.v, Lm.pure, Lm.pures]⟩
        by_cases hm3 : (most : Int) < 3
        · unfold LamAt
          refine ac_R_LamFrom (Nat.le_of_ble_eq_true rfl) fun C hC => ?_
          unfold ir_R_LamFrom
          repeat' (first | (with_reducible first | refine W ?_ | refine Wk (by decide) ?_) | refine Cg _ (hraw) ?_ | refine Cg _ (lVar_a 0) ?_ | refine Cg _ (lFun_a (.v 0)) ?_ | ((with_reducible first | refine Wo (fun K hK => ?_) | refine Wp ?_ | refine Wq ?_ | refine Wr ?_); (try simp only [go_sem, fN, ↓gI, ↓pI, seval, eT, iR, hm3, hu0, hc0, dT, dF, nL]); (repeat with_reducible refine And.intro (by first | omega | exact lens | (simp [maxLen_eq] <;> omega)) ?_); (try (refine hK _ ?_; clear hK K)); (try with_reducible refine iC ?_)))
          simp only [go_sem, fN, ↓gI, ↓pI, seval, FinQ, AS.result, resAll, resOne, tupV]
          all_goals first | done | rfl | skip
        · have hx6 : x6 = 0 := by omega
          unfold LamAt
          refine ac_R_LamFrom (Nat.le_of_ble_eq_true rfl) fun C hC => ?_
          unfold ir_R_LamFrom
          repeat' (first | (with_reducible first | refine W ?_ | refine Wk (by decide) ?_) | refine Cg _ (hraw) ?_ | refine Cg _ (p6) ?_ | refine Cg _ (lVar_a 0) ?_ | refine Cg _ (lFun_a (.v 0)) ?_ | ((with_reducible first | refine Wo (fun K hK => ?_) | refine Wp ?_ | refine Wq ?_ | refine Wr ?_); (try simp only [go_sem, fN, ↓gI, ↓pI, seval, eT, iR, hm3, hx6, hu0, hc0, dT, dF, nL]); (repeat with_reducible refine And.intro (by first | omega | exact lens | (simp [maxLen_eq] <;> omega)) ?_); (try (refine hK _ ?_; clear hK K)); (try with_reducible refine iC ?_)))
          simp only [go_sem, fN, ↓gI, ↓pI, seval, FinQ, AS.result, resAll, resOne, tupV]
          all_goals first | done | rfl | skip
      · have hc1 : 1 ≤ consts := by omega
        have q := q24 hc1
        refine ⟨.mk 4 x24 [], at_ + 1, ?_, by simp only [Lm.size, Lm.sizes]; omega, by simp only [Lm.size, Lm.sizes]; omega, chk_leaf (Or.inr ⟨rfl, by omega, by omega⟩), fun h => by omega⟩
        by_cases hm3 : (most : Int) < 3
        · unfold LamAt
          refine ac_R_LamFrom (Nat.le_of_ble_eq_true rfl) fun C hC => ?_
          unfold ir_R_LamFrom
          repeat' (first | (with_reducible first | refine W ?_ | refine Wk (by decide) ?_) | refine Cg _ (hraw) ?_ | refine Cg _ (p24 hc1) ?_ | refine Cg _ (lCon_a x24) ?_ | ((with_reducible first | refine Wo (fun K hK => ?_) | refine Wp ?_ | refine Wq ?_ | refine Wr ?_); (try simp only [go_sem, fN, ↓gI, ↓pI, seval, eT, iR, hm3, hu0, hc0, d24.1, dT, dF, nL]); (repeat with_reducible refine And.intro (by first | omega | exact lens | (simp [maxLen_eq] <;> omega)) ?_); (try (refine hK _ ?_; clear hK K)); (try with_reducible refine iC ?_)))
          simp only [go_sem, fN, ↓gI, ↓pI, seval, FinQ, AS.result, resAll, resOne, tupV]
          all_goals first | done | rfl | skip
        · have hx6 : x6 = 0 := by omega
          unfold LamAt
          refine ac_R_LamFrom (Nat.le_of_ble_eq_true rfl) fun C hC => ?_
          unfold ir_R_LamFrom
          repeat' (first | (with_reducible first | refine W ?_ | refine Wk (by decide) ?_) | refine Cg _ (hraw) ?_ | refine Cg _ (p6) ?_ | refine Cg _ (p24 hc1) ?_ | refine Cg _ (lCon_a x24) ?_ | ((with_reducible first | refine Wo (fun K hK => ?_) | refine Wp ?_ | refine Wq ?_ | refine Wr ?_); (try simp only [go_sem, fN, ↓gI, ↓pI, seval, eT, iR, hm3, hx6, hu0, hc0, d24.1, dT, dF, nL]); (repeat with_reducible refine And.intro (by first | omega | exact lens | (simp [maxLen_eq] <;> omega)) ?_); (try (refine hK _ ?_; clear hK K)); (try with_reducible refine iC ?_)))
          simp only [go_sem, fN, ↓gI, ↓pI, seval, FinQ, AS.result, resAll, resOne, tupV]
          all_goals first | done | rfl | skip
    · have hu1 : 1 ≤ (under : Int) := by omega
      have qu := q6u hu1
      by_cases hc0 : consts = 0
      · refine ⟨.mk 1 x6u [], at_ + 1, ?_, by simp only [Lm.size, Lm.sizes]; omega, by simp only [Lm.size, Lm.sizes]; omega, chk_leaf (Or.inl ⟨rfl, by omega, by omega⟩), fun _ => by simp [Lm.pure, Lm.pures]⟩
        by_cases hm3 : (most : Int) < 3
        · unfold LamAt
          refine ac_R_LamFrom (Nat.le_of_ble_eq_true rfl) fun C hC => ?_
          unfold ir_R_LamFrom
          repeat' (first | (with_reducible first | refine W ?_ | refine Wk (by decide) ?_) | refine Cg _ (hraw) ?_ | refine Cg _ (p6u hu1) ?_ | refine Cg _ (lVar_a x6u) ?_ | ((with_reducible first | refine Wo (fun K hK => ?_) | refine Wp ?_ | refine Wq ?_ | refine Wr ?_); (try simp only [go_sem, fN, ↓gI, ↓pI, seval, eT, iR, hm3, hu0, hc0, d6.1, dT, dF, nL]); (repeat with_reducible refine And.intro (by first | omega | exact lens | (simp [maxLen_eq] <;> omega)) ?_); (try (refine hK _ ?_; clear hK K)); (try with_reducible refine iC ?_)))
          simp only [go_sem, fN, ↓gI, ↓pI, seval, FinQ, AS.result, resAll, resOne, tupV]
          all_goals first | done | rfl | skip
        · have hx6 : x6 = 0 := by omega
          unfold LamAt
          refine ac_R_LamFrom (Nat.le_of_ble_eq_true rfl) fun C hC => ?_
          unfold ir_R_LamFrom
          repeat' (first | (with_reducible first | refine W ?_ | refine Wk (by decide) ?_) | refine Cg _ (hraw) ?_ | refine Cg _ (p6) ?_ | refine Cg _ (p6u hu1) ?_ | refine Cg _ (lVar_a x6u) ?_ | ((with_reducible first | refine Wo (fun K hK => ?_) | refine Wp ?_ | refine Wq ?_ | refine Wr ?_); (try simp only [go_sem, fN, ↓gI, ↓pI, seval, eT, iR, hm3, hx6, hu0, hc0, d6.1, dT, dF, nL]); (repeat with_reducible refine And.intro (by first | omega | exact lens | (simp [maxLen_eq] <;> omega)) ?_); (try (refine hK _ ?_; clear hK K)); (try with_reducible refine iC ?_)))
          simp only [go_sem, fN, ↓gI, ↓pI, seval, FinQ, AS.result, resAll, resOne, tupV]
          all_goals first | done | rfl | skip
      · have hc0' : 0 < consts := by omega
        have hc1 : 1 ≤ consts := by omega
        have q := q24 hc1
        by_cases hx4 : x64 = 0
        · refine ⟨.mk 4 x24 [], at_ + 1, ?_, by simp only [Lm.size, Lm.sizes]; omega, by simp only [Lm.size, Lm.sizes]; omega, chk_leaf (Or.inr ⟨rfl, by omega, by omega⟩), fun h => by omega⟩
          by_cases hm3 : (most : Int) < 3
          · unfold LamAt
            refine ac_R_LamFrom (Nat.le_of_ble_eq_true rfl) fun C hC => ?_
            unfold ir_R_LamFrom
            repeat' (first | (with_reducible first | refine W ?_ | refine Wk (by decide) ?_) | refine Cg _ (hraw) ?_ | refine Cg _ (p64) ?_ | refine Cg _ (p24 hc1) ?_ | refine Cg _ (lCon_a x24) ?_ | ((with_reducible first | refine Wo (fun K hK => ?_) | refine Wp ?_ | refine Wq ?_ | refine Wr ?_); (try simp only [go_sem, fN, ↓gI, ↓pI, seval, eT, iR, hm3, hu0, hc0', d6.1, hx4, d24.1, dT, dF, nL]); (repeat with_reducible refine And.intro (by first | omega | exact lens | (simp [maxLen_eq] <;> omega)) ?_); (try (refine hK _ ?_; clear hK K)); (try with_reducible refine iC ?_)))
            simp only [go_sem, fN, ↓gI, ↓pI, seval, FinQ, AS.result, resAll, resOne, tupV]
            all_goals first | done | rfl | skip
          · have hx6 : x6 = 0 := by omega
            unfold LamAt
            refine ac_R_LamFrom (Nat.le_of_ble_eq_true rfl) fun C hC => ?_
            unfold ir_R_LamFrom
            repeat' (first | (with_reducible first | refine W ?_ | refine Wk (by decide) ?_) | refine Cg _ (hraw) ?_ | refine Cg _ (p6) ?_ | refine Cg _ (p64) ?_ | refine Cg _ (p24 hc1) ?_ | refine Cg _ (lCon_a x24) ?_ | ((with_reducible first | refine Wo (fun K hK => ?_) | refine Wp ?_ | refine Wq ?_ | refine Wr ?_); (try simp only [go_sem, fN, ↓gI, ↓pI, seval, eT, iR, hm3, hx6, hu0, hc0', d6.1, hx4, d24.1, dT, dF, nL]); (repeat with_reducible refine And.intro (by first | omega | exact lens | (simp [maxLen_eq] <;> omega)) ?_); (try (refine hK _ ?_; clear hK K)); (try with_reducible refine iC ?_)))
            simp only [go_sem, fN, ↓gI, ↓pI, seval, FinQ, AS.result, resAll, resOne, tupV]
            all_goals first | done | rfl | skip
        · refine ⟨.mk 1 x6u [], at_ + 1, ?_, by simp only [Lm.size, Lm.sizes]; omega, by simp only [Lm.size, Lm.sizes]; omega, chk_leaf (Or.inl ⟨rfl, by omega, by omega⟩), fun _ => by simp [Lm.pure, Lm.pures]⟩
          by_cases hm3 : (most : Int) < 3
          · unfold LamAt
            refine ac_R_LamFrom (Nat.le_of_ble_eq_true rfl) fun C hC => ?_
            unfold ir_R_LamFrom
            repeat' (first | (with_reducible first | refine W ?_ | refine Wk (by decide) ?_) | refine Cg _ (hraw) ?_ | refine Cg _ (p64) ?_ | refine Cg _ (p6u hu1) ?_ | refine Cg _ (lVar_a x6u) ?_ | ((with_reducible first | refine Wo (fun K hK => ?_) | refine Wp ?_ | refine Wq ?_ | refine Wr ?_); (try simp only [go_sem, fN, ↓gI, ↓pI, seval, eT, iR, hm3, hu0, hc0', d6.1, hx4, dT, dF, nL]); (repeat with_reducible refine And.intro (by first | omega | exact lens | (simp [maxLen_eq] <;> omega)) ?_); (try (refine hK _ ?_; clear hK K)); (try with_reducible refine iC ?_)))
            simp only [go_sem, fN, ↓gI, ↓pI, seval, FinQ, AS.result, resAll, resOne, tupV]
            all_goals first | done | rfl | skip
          · have hx6 : x6 = 0 := by omega
            unfold LamAt
            refine ac_R_LamFrom (Nat.le_of_ble_eq_true rfl) fun C hC => ?_
            unfold ir_R_LamFrom
            repeat' (first | (with_reducible first | refine W ?_ | refine Wk (by decide) ?_) | refine Cg _ (hraw) ?_ | refine Cg _ (p6) ?_ | refine Cg _ (p64) ?_ | refine Cg _ (p6u hu1) ?_ | refine Cg _ (lVar_a x6u) ?_ | ((with_reducible first | refine Wo (fun K hK => ?_) | refine Wp ?_ | refine Wq ?_ | refine Wr ?_); (try simp only [go_sem, fN, ↓gI, ↓pI, seval, eT, iR, hm3, hx6, hu0, hc0', d6.1, hx4, dT, dF, nL]); (repeat with_reducible refine And.intro (by first | omega | exact lens | (simp [maxLen_eq] <;> omega)) ?_); (try (refine hK _ ?_; clear hK K)); (try with_reducible refine iC ?_)))
            simp only [go_sem, fN, ↓gI, ↓pI, seval, FinQ, AS.result, resAll, resOne, tupV]
            all_goals first | done | rfl | skip
  · have hm3 : ¬ (most : Int) < 3 := by omega
    have hx6 : ¬ x6 = 0 := by omega
    by_cases h3 : x6 < 3
    · obtain ⟨t, n, ht, hs, hn, hk, hp⟩ := ih (most - 1) (by omega) (at_ + 1) (under + 1) (by omega) (by omega) (by omega) (by omega)
      unfold LamAt at ht
      rw [show (((at_ + 1 : Nat) : Int)) = (at_ : Int) + 1 by omega, show (((most - 1 : Nat) : Int)) = (most : Int) - 1 by omega, show (((under + 1 : Nat) : Int)) = (under : Int) + 1 by omega] at ht
      rw [show (((under + 1 : Nat) : Int)) = (under : Int) + 1 by omega] at hk
      refine ⟨.l t, n, ?_, by simp only [Lm.l, Lm.size, Lm.sizes]; omega, by simp only [Lm.l, Lm.size, Lm.sizes]; omega, chk_fun hk, fun h => by simp [Lm.l, Lm.pure, Lm.pures, hp h]⟩
      unfold LamAt
      refine ac_R_LamFrom (Nat.le_of_ble_eq_true rfl) fun C hC => ?_
      unfold ir_R_LamFrom
      repeat' (first | (with_reducible first | refine W ?_ | refine Wk (by decide) ?_) | refine Cg _ (hraw) ?_ | refine Cg _ (p6) ?_ | refine Cg _ (ht) ?_ | refine Cg _ (lFun_a t) ?_ | ((with_reducible first | refine Wo (fun K hK => ?_) | refine Wp ?_ | refine Wq ?_ | refine Wr ?_); (try simp only [go_sem, fN, ↓gI, ↓pI, seval, eT, iR, hm3, hx6, h3, dT, dF, nL]); (repeat with_reducible refine And.intro (by first | omega | exact lens | (simp [maxLen_eq] <;> omega)) ?_); (try (refine hK _ ?_; clear hK K)); (try with_reducible refine iC ?_)))
      simp only [go_sem, fN, ↓gI, ↓pI, seval, FinQ, AS.result, resAll, resOne, tupV]
    · have d2 := tdiv_range (x := (most : Int)) (n := 2) (by omega) (by omega)
      have e2 : (most : Int) / 2 = ((most / 2 : Nat) : Int) := by omega
      obtain ⟨t, n, ht, hs, hn, hk, hp⟩ := ih (most / 2) (by omega) (at_ + 1) under (by omega) (by omega) (by omega) (by omega)
      obtain ⟨u, n2, hu, hs2, hn2, hk2, hp2⟩ := ih (most / 2) (by omega) n under (by omega) (by omega) (by omega) (by omega)
      unfold LamAt at ht hu
      rw [show (((at_ + 1 : Nat) : Int)) = (at_ : Int) + 1 by omega] at ht
      refine ⟨.a t u, n2, ?_, by simp only [Lm.a, Lm.size, Lm.sizes]; omega, by simp only [Lm.a, Lm.size, Lm.sizes]; omega, chk_app hk hk2, fun h => by simp [Lm.a, Lm.pure, Lm.pures, hp h, hp2 h]⟩
      unfold LamAt
      refine ac_R_LamFrom (Nat.le_of_ble_eq_true rfl) fun C hC => ?_
      unfold ir_R_LamFrom
      repeat' (first | (with_reducible first | refine W ?_ | refine Wk (by decide) ?_) | refine Cg _ (hraw) ?_ | refine Cg _ (p6) ?_ | refine Cg _ (ht) ?_ | refine Cg _ (hu) ?_ | refine Cg _ (lApp_a t u) ?_ | ((with_reducible first | refine Wo (fun K hK => ?_) | refine Wp ?_ | refine Wq ?_ | refine Wr ?_); (try simp only [go_sem, fN, ↓gI, ↓pI, seval, eT, iR, hm3, hx6, h3, d2.1, e2, dT, dF, nL]); (repeat with_reducible refine And.intro (by first | omega | exact lens | (simp [maxLen_eq] <;> omega)) ?_); (try (refine hK _ ?_; clear hK K)); (try with_reducible refine iC ?_)))
      simp only [go_sem, fN, ↓gI, ↓pI, seval, FinQ, AS.result, resAll, resOne, tupV]
theorem lamOfRaw_a (l : List Int) (hl : ∀ n ∈ l, inR .i64 n) (hm : l.length ≤ maxLen) (consts : Int) (hc : 0 ≤ consts ∧ consts ≤ 40) (most under : Nat) (h1 : 0 ≤ most) (h2 : most ≤ 1000) (h3 : under ≤ 1000) :
    ∃ t : Lm, ACalls Tryz.prog 21 [aInts l, aInt 0, aInt most, aInt under, aInt consts] (aLm t) ∧ t.size + 1 ≤ 3 * max most 1 ∧ t.chk 0 under = 0 ∧ (consts = 0 → t.pure = true) := by
  obtain ⟨t, n, ht, hs, _, hk, hp⟩ := lamFrom_a l hl hm consts hc most 0 under h1 h2 (by omega) (by omega)
  refine ⟨t, ?_, hs, hk, hp⟩
  unfold LamAt at ht
  rw [show ((0 : Nat) : Int) = 0 from rfl] at ht
  refine ac_R_LamOfRaw (Nat.le_of_ble_eq_true rfl) fun C hC => ?_
  unfold ir_R_LamOfRaw
  repeat' (first | (with_reducible first | refine W ?_ | refine Wk (by decide) ?_) | refine Cg _ (ht) ?_ | ((with_reducible first | refine Wo (fun K hK => ?_) | refine Wp ?_ | refine Wq ?_ | refine Wr ?_); (try simp only [go_sem, fN, ↓gI, ↓pI, seval, eT, iR, dT, dF, nL]); (repeat with_reducible refine And.intro (by first | omega | exact lens | (simp [maxLen_eq] <;> omega)) ?_); (try (refine hK _ ?_; clear hK K)); (try with_reducible refine iC ?_)))
  simp only [go_sem, fN, ↓gI, ↓pI, seval, FinQ, AS.result, resAll, resOne, tupV]
end Go.Proofs.YtehnjhkndbcmgaaGreatDoor

namespace Go.Proofs.YtehnjhkndbcmgaaGreatDoor
open Go Go.RowKit
set_option maxRecDepth 100000
def ir_R_TypeFrom : IR :=
  (.seq (.ops [.i 6 (.alloc 27 [.st (.int .i64 0), .full []]), .i 7 (.mov (.n 0))]) (.seq (.ops [.i 12 (.mov (.t 0)), .i 13 (.mov (.t 1)), .i 14 (.call 52 [.t 12, .t 13]), .i 8 (.mov (.t 14))]) (.seq (.ops [.i 15 (.mov (.t 1)), .i 16 (.bin .add (.t 15) (.n 1)), .i 1 (.mov (.t 16))]) (.seq (.seq (.ops [.i 17 (.mov (.t 2)), .i 18 (.bin .lss (.t 17) (.n 3)), .i 19 (.mov (.t 18)), .mk (some 20) (some (19, false)) (.mov (.t 8)) .no, .mk (some 21) (some (19, false)) (.call 22 [.t 20, .n 3]) .no, .mk (some 22) (some (19, false)) (.bin .eql (.t 21) (.n 0)) .no, .i 23 (.pick (.t 19) (.c (.one (.st (.bool true)))) (.t 22))]) (.cond (.t 23) (.seq (.ops [.i 24 (.mov (.t 8)), .i 25 (.bin .quo (.t 24) (.n 3)), .i 26 (.call 22 [.t 25, .n 3]), .i 27 (.build [.st (.int .i64 0), .full []] [(0, 1, .t 26)]), .i 28 (.mov (.t 1)), .mk none none (.store 2 (.t 6) (.t 27)) .no, .i 7 (.mov (.t 28))]) .ret) .skip)) (.seq (.ops [.i 30 (.mov (.t 0)), .i 31 (.mov (.t 1)), .i 32 (.mov (.t 2)), .i 33 (.bin .quo (.t 32) (.n 2)), .i 34 (.call 23 [.t 30, .t 31, .t 33]), .i 29 (.mov (.t 34)), .i 35 (.extract 0 (.t 29)), .i 36 (.extract 1 (.t 29)), .i 9 (.alloc 27 [.st (.int .i64 0), .full []]), .mk none none (.store 2 (.t 9) (.t 35)) .no, .i 10 (.mov (.t 36))]) (.seq (.ops [.i 38 (.mov (.t 0)), .i 39 (.mov (.t 10)), .i 40 (.mov (.t 2)), .i 41 (.bin .quo (.t 40) (.n 2)), .i 42 (.call 23 [.t 38, .t 39, .t 41]), .i 37 (.mov (.t 42)), .i 43 (.extract 0 (.t 37)), .i 44 (.extract 1 (.t 37)), .i 11 (.alloc 27 [.st (.int .i64 0), .full []]), .mk none none (.store 2 (.t 11) (.t 43)) .no, .i 10 (.mov (.t 44))]) (.seq (.ops [.i 45 (.load true 2 (.t 9)), .i 46 (.load true 2 (.t 11)), .i 47 (.buildSlice false 27 2 [.t 45, .t 46]), .i 48 (.build [.st (.int .i64 0), .full []] [(1, 1, .t 47)]), .i 49 (.mov (.t 10)), .mk none none (.store 2 (.t 6) (.t 48)) .no, .i 7 (.mov (.t 49))]) .ret)))))))
theorem tr_R_TypeFrom : trCode Tryz.prog 50 [] (Tryz.f23.body.getD .skip) = some ir_R_TypeFrom := by kernel_rfl
theorem ac_R_TypeFrom {xs : List AV} {r : AV} (hn : xs.length ≤ 50) (h : ∀ C : Ctx, C.n = 50 → IWP Tryz.prog C [] ir_R_TypeFrom (FinQ [.cell 6 true 2, .t 7] r) (AS.start xs)) : ACalls Tryz.prog 23 xs r :=
  acalls_of Tryz.func23 rfl tr_R_TypeFrom rfl hn h
def ir_L_InferMade : IR :=
  (.seq (.ops [.i 6 (.mov (.c (.one (.st (.bool false)))))]) (.seq (.seq (.ops [.i 12 (.mov (.t 0)), .i 13 (.len false (.t 12)), .i 14 (.bin .gtr (.t 13) (.n 256))]) (.cond (.t 14) (.seq (.ops [.i 6 (.mov (.c (.one (.st (.bool true)))))]) .ret) .skip)) (.seq (.ops [.i 15 (.mov (.t 0)), .i 16 (.mov (.t 1)), .i 17 (.call 22 [.t 16, .n 20]), .i 18 (.bin .add (.n 2) (.t 17)), .i 19 (.call 21 [.t 15, .n 0, .t 18, .n 0, .n 0]), .i 7 (.alloc 24 [.st (.int .i64 0), .st (.int .i64 0), .full []]), .mk none none (.store 3 (.t 7) (.t 19)) .no]) (.seq (.ops [.i 21 (.mov (.t 0)), .i 22 (.mov (.t 2)), .i 23 (.call 22 [.t 22, .n 9]), .i 24 (.call 23 [.t 21, .n 60, .t 23]), .i 20 (.mov (.t 24)), .i 25 (.extract 0 (.t 20)), .i 26 (.extract 1 (.t 20)), .i 8 (.alloc 27 [.st (.int .i64 0), .full []]), .mk none none (.store 2 (.t 8) (.t 25)) .no, .i 9 (.mov (.t 26))]) (.seq (.ops [.i 28 (.load true 3 (.t 7)), .i 29 (.call 16 [.t 28]), .i 27 (.mov (.t 29)), .i 30 (.extract 0 (.t 27)), .i 31 (.extract 1 (.t 27)), .i 10 (.alloc 27 [.st (.int .i64 0), .full []]), .mk none none (.store 2 (.t 10) (.t 30)) .no, .i 11 (.mov (.t 31))]) (.seq (.ops [.i 32 (.load true 3 (.t 7)), .i 33 (.load true 2 (.t 8)), .i 34 (.call 3 [.t 32, .t 33]), .i 35 (.mov (.t 34)), .mk (some 36) (some (35, true)) (.mov (.t 11)) .no, .mk (some 37) (some (35, true)) (.bin .neq (.t 36) (.n 0)) .no, .mk (some 38) (some (35, true)) (.mov (.t 37)) .no, .mk (some 39) (some (38, false)) (.load true 2 (.t 10)) .no, .mk (some 40) (some (38, false)) (.call 24 [.t 39, .n 100]) .no, .mk (some 41) (some (38, false)) (.bin .gtr (.t 40) (.n 100)) .no, .mk (some 42) (some (35, true)) (.pick (.t 38) (.c (.one (.st (.bool true)))) (.t 41)) .no, .mk (some 43) (some (35, true)) (.mov (.t 42)) .no, .mk (some 44) (some (43, false)) (.load true 3 (.t 7)) .no, .mk (some 45) (some (43, false)) (.load true 2 (.t 10)) .no, .mk (some 46) (some (43, false)) (.call 3 [.t 44, .t 45]) .no, .mk (some 47) (some (35, true)) (.pick (.t 43) (.c (.one (.st (.bool true)))) (.t 46)) .no, .i 48 (.pick (.t 35) (.t 47) (.c (.one (.st (.bool false))))), .i 6 (.mov (.t 48))]) .ret))))))
theorem tr_L_InferMade : trCode Tryz.prog 49 [] (Tryz.f4.body.getD .skip) = some ir_L_InferMade := by kernel_rfl
theorem ac_L_InferMade {xs : List AV} {r : AV} (hn : xs.length ≤ 49) (h : ∀ C : Ctx, C.n = 49 → IWP Tryz.prog C [] ir_L_InferMade (FinQ [.t 6] r) (AS.start xs)) : ACalls Tryz.prog 4 xs r :=
  acalls_of Tryz.func4 rfl tr_L_InferMade rfl hn h
end Go.Proofs.YtehnjhkndbcmgaaGreatDoor

namespace Go.Proofs.YtehnjhkndbcmgaaGreatDoor
open Go Go.RowKit
set_option linter.unusedVariables false
set_option linter.unusedSimpArgs false
set_option maxHeartbeats 4000000
theorem typeFrom_a (l : List Int) (hl : ∀ n ∈ l, inR .i64 n) (hm : l.length ≤ maxLen) : ∀ (most at_ : Nat), most ≤ 1000 → at_ + 3 * most ≤ 900000 →
    ∃ (b : BT) (n : Nat), ACalls Tryz.prog 23 [aInts l, aInt at_, aInt most] (.tup [aTy b.ty, aInt n]) ∧ n + 1 ≤ at_ + 3 * max most 1 := by
  intro most
  induction most using Nat.strongRecOn with
  | _ most ih =>
  intro at_ h1000 hat
  have hraw := raw_a l at_ (by omega) hl hm
  have hr := rawI_range l at_
  generalize rawI l at_ = c at hraw hr
  have d3 := tdiv_range (x := c) (n := 3) (by omega) (by omega)
  have p3 := pick_a c 3 (by rw [inR_i64]; omega) (by omega)
  have q3 := pickI_range c 3 (by omega)
  have p33 := pick_a (c / 3) 3 (by rw [inR_i64]; omega) (by omega)
  have q33 := pickI_range (c / 3) 3 (by omega)
  generalize pickI c 3 = x3 at *
  generalize pickI (c / 3) 3 = x33 at *
  obtain ⟨k, rfl⟩ : ∃ k : Nat, x33 = k := ⟨x33.toNat, by omega⟩
  by_cases hleaf : (most : Int) < 3 ∨ x3 = 0
  · refine ⟨.b k, at_ + 1, ?_, by omega⟩
    have fin : aTy (BT.b k).ty = .agg [.st (.int .i64 k), .st (.list [])] := rfl
    by_cases hm3 : (most : Int) < 3
    · refine ac_R_TypeFrom (Nat.le_of_ble_eq_true rfl) fun C hC => ?_
      unfold ir_R_TypeFrom
      repeat' (first | (with_reducible first | refine W ?_ | refine Wk (by decide) ?_) | refine Cg _ (hraw) ?_ | refine Cg _ (p33) ?_ | ((with_reducible first | refine Wo (fun K hK => ?_) | refine Wp ?_ | refine Wq ?_ | refine Wr ?_); (try simp only [go_sem, fN, ↓gI, ↓pI, seval, eT, iR, hm3, d3.1, dT, dF, nL]); (repeat with_reducible refine And.intro (by first | omega | exact lens | (simp [maxLen_eq] <;> omega)) ?_); (try (refine hK _ ?_; clear hK K)); (try with_reducible refine iC ?_)))
      simp only [go_sem, fN, ↓gI, ↓pI, seval, FinQ, AS.result, resAll, resOne, tupV, fin]
      all_goals first | done | rfl | skip
    · have hx3 : x3 = 0 := by omega
      subst hx3
      refine ac_R_TypeFrom (Nat.le_of_ble_eq_true rfl) fun C hC => ?_
      unfold ir_R_TypeFrom
      repeat' (first | (with_reducible first | refine W ?_ | refine Wk (by decide) ?_) | refine Cg _ (hraw) ?_ | refine Cg _ (p3) ?_ | refine Cg _ (p33) ?_ | ((with_reducible first | refine Wo (fun K hK => ?_) | refine Wp ?_ | refine Wq ?_ | refine Wr ?_); (try simp only [go_sem, fN, ↓gI, ↓pI, seval, eT, iR, hm3, d3.1, dT, dF, nL]); (repeat with_reducible refine And.intro (by first | omega | exact lens | (simp [maxLen_eq] <;> omega)) ?_); (try (refine hK _ ?_; clear hK K)); (try with_reducible refine iC ?_)))
      simp only [go_sem, fN, ↓gI, ↓pI, seval, FinQ, AS.result, resAll, resOne, tupV, fin]
      all_goals first | done | rfl | skip
  · have hm3 : ¬ (most : Int) < 3 := by omega
    have hx3 : ¬ x3 = 0 := by omega
    have d2 := tdiv_range (x := (most : Int)) (n := 2) (by omega) (by omega)
    have e2 : (most : Int) / 2 = ((most / 2 : Nat) : Int) := by omega
    obtain ⟨t, n, ht, hn⟩ := ih (most / 2) (by omega) (at_ + 1) (by omega) (by omega)
    obtain ⟨u, n2, hu, hn2⟩ := ih (most / 2) (by omega) n (by omega) (by omega)
    rw [show (((at_ + 1 : Nat) : Int)) = (at_ : Int) + 1 by omega] at ht
    refine ⟨.a t u, n2, ?_, by omega⟩
    have fin : aTy (BT.a t u).ty = .agg [.st (.int .i64 0), .st (.list [encY t.ty, encY u.ty])] := by
      show AV.agg _ = _
      rfl
    refine ac_R_TypeFrom (Nat.le_of_ble_eq_true rfl) fun C hC => ?_
    unfold ir_R_TypeFrom
    repeat' (first | (with_reducible first | refine W ?_ | refine Wk (by decide) ?_) | refine Cg _ (hraw) ?_ | refine Cg _ (p3) ?_ | refine Cg _ (ht) ?_ | refine Cg _ (hu) ?_ | ((with_reducible first | refine Wo (fun K hK => ?_) | refine Wp ?_ | refine Wq ?_ | refine Wr ?_); (try simp only [go_sem, fN, ↓gI, ↓pI, seval, eT, iR, hm3, hx3, d3.1, d2.1, e2, dT, dF, nL]); (repeat with_reducible refine And.intro (by first | omega | exact lens | (simp [maxLen_eq] <;> omega)) ?_); (try (refine hK _ ?_; clear hK K)); (try with_reducible refine iC ?_)))
    simp only [go_sem, fN, ↓gI, ↓pI, seval, FinQ, AS.result, resAll, resOne, tupV, fin]
    all_goals first | done | rfl | skip
theorem inferMade_a (l : List Int) (m1 m2 : Int) (hm : l.length ≤ maxLen) (hl : ∀ n ∈ l, inR .i64 n) (h1 : inR .i64 m1) (h2 : inR .i64 m2) : ACalls Tryz.prog 4 [aInts l, aInt m1, aInt m2] (aBool true) := by
  by_cases h256 : (256 : Int) < l.length
  · refine ac_L_InferMade (Nat.le_of_ble_eq_true rfl) fun C hC => ?_
    unfold ir_L_InferMade
    repeat' (first | (with_reducible first | refine W ?_ | refine Wk (by decide) ?_) | ((with_reducible first | refine Wo (fun K hK => ?_) | refine Wp ?_ | refine Wq ?_ | refine Wr ?_); (try simp only [go_sem, fN, ↓gI, ↓pI, seval, eT, iR, h256, dT, dF, nL]); (repeat with_reducible refine And.intro (by first | omega | exact lens | (simp [maxLen_eq] <;> omega)) ?_); (try (refine hK _ ?_; clear hK K)); (try with_reducible refine iC ?_)))
    simp only [go_sem, fN, ↓gI, ↓pI, seval, FinQ, AS.result, resAll, resOne, tupV]
  have hp := pick_a m1 20 h1 (by decide)
  have hr := pickI_range m1 20 (by decide)
  have hq := pick_a m2 9 h2 (by decide)
  have hs9 := pickI_range m2 9 (by decide)
  obtain ⟨t, ht, hs, hk, hpure⟩ := lamOfRaw_a l hl hm 0 (by decide) (2 + pickI m1 20).toNat 0 (by omega) (by omega) (by omega)
  rw [Int.toNat_of_nonneg (by omega)] at ht
  obtain ⟨b, n, hb, _⟩ := typeFrom_a l hl hm (pickI m2 9).toNat 60 (by omega) (by omega)
  rw [Int.toNat_of_nonneg hs9.1] at hb
  obtain ⟨x, rfl, hc⟩ := ul_of (u := 0) hk (hpure rfl)
  rw [UL.size_lm] at hs
  have hm0 : x.lm.may 0 0 = 0 := ul_may hc (by omega)
  obtain ⟨p, e, ⟨_, _, _, hD⟩, hb1, hb2, hb3⟩ := prin_all x.lm
  obtain ⟨he, hR⟩ := hD hm0 (ul_pure _)
  have i1 := inferSays_a x.lm b.ty
  have i2 := inferSays_a x.lm p.ty
  have hsz := ysizeR_a p.ty 100 (by decide) (by decide)
  generalize pickI m1 20 = c1 at *
  generalize pickI m2 9 = c2 at *
  generalize x.lm = t at *
  generalize b.ty = y at *
  by_cases h0 : e = 0
  · subst h0
    by_cases h100 : (100 : Int) < capTo p.ty.size 100
    · refine ac_L_InferMade (Nat.le_of_ble_eq_true rfl) fun C hC => ?_
      unfold ir_L_InferMade
      repeat' (first | (with_reducible first | refine W ?_ | refine Wk (by decide) ?_) | refine Cg _ (hp) ?_ | refine Cg _ (hq) ?_ | refine Cg _ (ht) ?_ | refine Cg _ (hb) ?_ | refine Cg _ (hR) ?_ | refine Cg _ (hsz) ?_ | refine Cg _ (i1) ?_ | refine Cg _ (i2) ?_ | ((with_reducible first | refine Wo (fun K hK => ?_) | refine Wp ?_ | refine Wq ?_ | refine Wr ?_); (try simp only [go_sem, fN, ↓gI, ↓pI, seval, eT, iR, h256, h100, dT, dF, nL]); (repeat with_reducible refine And.intro (by first | omega | exact lens | (simp [maxLen_eq] <;> omega)) ?_); (try (refine hK _ ?_; clear hK K)); (try with_reducible refine iC ?_)))
      simp only [go_sem, fN, ↓gI, ↓pI, seval, FinQ, AS.result, resAll, resOne, tupV]
    · refine ac_L_InferMade (Nat.le_of_ble_eq_true rfl) fun C hC => ?_
      unfold ir_L_InferMade
      repeat' (first | (with_reducible first | refine W ?_ | refine Wk (by decide) ?_) | refine Cg _ (hp) ?_ | refine Cg _ (hq) ?_ | refine Cg _ (ht) ?_ | refine Cg _ (hb) ?_ | refine Cg _ (hR) ?_ | refine Cg _ (hsz) ?_ | refine Cg _ (i1) ?_ | refine Cg _ (i2) ?_ | ((with_reducible first | refine Wo (fun K hK => ?_) | refine Wp ?_ | refine Wq ?_ | refine Wr ?_); (try simp only [go_sem, fN, ↓gI, ↓pI, seval, eT, iR, h256, h100, dT, dF, nL]); (repeat with_reducible refine And.intro (by first | omega | exact lens | (simp [maxLen_eq] <;> omega)) ?_); (try (refine hK _ ?_; clear hK K)); (try with_reducible refine iC ?_)))
      simp only [go_sem, fN, ↓gI, ↓pI, seval, FinQ, AS.result, resAll, resOne, tupV]
  · refine ac_L_InferMade (Nat.le_of_ble_eq_true rfl) fun C hC => ?_
    unfold ir_L_InferMade
    repeat' (first | (with_reducible first | refine W ?_ | refine Wk (by decide) ?_) | refine Cg _ (hp) ?_ | refine Cg _ (hq) ?_ | refine Cg _ (ht) ?_ | refine Cg _ (hb) ?_ | refine Cg _ (hR) ?_ | refine Cg _ (i1) ?_ | ((with_reducible first | refine Wo (fun K hK => ?_) | refine Wp ?_ | refine Wq ?_ | refine Wr ?_); (try simp only [go_sem, fN, ↓gI, ↓pI, seval, eT, iR, h256, h0, dT, dF, nL]); (repeat with_reducible refine And.intro (by first | omega | exact lens | (simp [maxLen_eq] <;> omega)) ?_); (try (refine hK _ ?_; clear hK K)); (try with_reducible refine iC ?_)))
    simp only [go_sem, fN, ↓gI, ↓pI, seval, FinQ, AS.result, resAll, resOne, tupV]
end Go.Proofs.YtehnjhkndbcmgaaGreatDoor

namespace Go.Proofs.YtehnjhkndbcmgaaGreatDoor
open Go Go.RowKit Go.ChangeShapes Go.WideShapes Go.ChangeAt
set_option maxHeartbeats 400000
set_option linter.unusedVariables false
section
variable {H : Type} {enc : TypeId × Value → H} {P : Program}
theorem trodAll_stays (hl : laidOutB P = true) : ∀ {ts : List TypeId} {vs : List Value} {ds : List (DataW H)} {ps : List MemPlace} {W W' : World} {sp : Nat → Bool},
    (∀ t ∈ ts, P.readableRec t = true ∧ t < P.types.size) → DataW.TrodAll enc P W 0 (fun _ => true) true ts vs ds ps → (∀ p ∈ ps, W.sameAt W' p) → (∀ p ∈ ps, sp p.block = true) → DataW.TrodAll enc P W' 0 sp true ts vs ds ps
  | [], [], [], _, _, _, _, _, h, _, _ => h
  | _ :: _, _ :: _, _ :: _, _, _, _, _, hT, ⟨p, q, h1, h2, e⟩, hsame, hs => ⟨p, q, WideElems.Trod_stays hl (hT _ (List.mem_cons.2 (Or.inl rfl))).1 (hT _ (List.mem_cons.2 (Or.inl rfl))).2 h1 (fun x hx => hsame x (by rw [e]; exact List.mem_append_left _ hx)) (fun x hx => hs x (by rw [e]; exact List.mem_append_left _ hx)),
      trodAll_stays hl (fun t ht => hT t (List.mem_cons.2 (Or.inr ht))) h2 (fun x hx => hsame x (by rw [e]; exact List.mem_append_right _ hx)) (fun x hx => hs x (by rw [e]; exact List.mem_append_right _ hx)), e⟩
  | [], _ :: _, _, _, _, _, _, _, h, _, _ => h.elim
  | [], [], _ :: _, _, _, _, _, _, h, _, _ => h.elim
  | _ :: _, [], _, _, _, _, _, _, h, _, _ => h.elim
  | _ :: _, _ :: _, [], _, _, _, _, _, h, _, _ => h.elim
theorem law_post {f : Func} {s : ChangeSpec} {apart fresh handsOn : Bool} {W W' : World} {args : Array Value} {ds : List (DataW H)} {before : List MemPlace} {tb : TypeId}
    (hW : DataW.Whole enc P f.params.toList s.vars apart W args.toList ds [] before) (hv : s.vars = []) (hr : f.resultTypes = #[tb]) (htb : P.underlying tb = some .bool)
    (hres : (s.fn H (ds ++ [])).results = [.lit (.bool true)]) (hargs : (s.fn H (ds ++ [])).args = ds) (hvs : (s.fn H (ds ++ [])).vars = [])
    (hl : laidOutB P = true) (hT : (f.params.toList.all fun t => P.readableRec t && decide (t < P.types.size)) = true) (hb : Below W.heap.size W W') :
    s.post enc P f apart fresh handsOn false W args (.bool true) W' := by
  have hlt : ∀ p ∈ before, p.block < W.heap.size := fun p hp => hW.lt p hp
  have hT' : ∀ t ∈ f.params.toList, P.readableRec t = true ∧ t < P.types.size := fun t ht => by
    have := List.all_eq_true.1 hT t ht
    simpa using this
  obtain ⟨p, q, hA, hV, rfl, hz, hn⟩ := hW
  rw [hv] at hV
  obtain ⟨_, rfl⟩ := trodVars_none hV
  have hargs' : ∀ sp : Nat → Bool, (∀ x ∈ p, sp x.block = true) → DataW.TrodAll enc P W' 0 sp true f.params.toList args.toList ds p := fun sp hsp =>
    trodAll_stays hl hT' hA (fun x hx => hb.same (hlt x (by simpa using hx))) hsp
  have hres' : ∀ (b : Nat) (sp : Nat → Bool) (hd : Bool), DataW.TrodAll enc P W' b sp hd f.resultTypes.toList ((Value.bool true).resultList f.resultTypes.size) (s.fn H (ds ++ [])).results [] := fun b sp hd => by
    rw [hres, hr]
    exact trodAll_cons_mk (shut_bool htb true) trodAll_mk0
  refine ⟨ds, [], p ++ [], [], p, [], ⟨p, [], hA, by rw [hv]; exact rfl, rfl, hz, hn⟩, hres' _ _ _, by rw [hargs]; exact hargs' _ (fun x hx => by simpa using hlt x (by simpa using hx)), by rw [hv, hvs]; exact rfl,
    World.keptBut_mono (fun x hx => ⟨hx, Or.inr (by simpa using hx)⟩) (hb.frame (· ∈ p ++ [])), fun h => by cases h⟩
variable {W : World} {sp : Nat → Bool} {hd : Bool} {base : Nat}
def sto (W : World) : Sto := look W
theorem fit_sto (W : World) : Fit (sto W) W := fun _ _ h => h
theorem spot_none {W : World} {a : Addr} {v : Value} (h : W.cell? a = some v) : a.spot = none := by
  cases hs : a.spot with
  | none => rfl
  | some n =>
    unfold World.cell? at h
    split at h
    · simp [hs] at h
    · cases h
theorem choose_list {α : Type} {p : Nat → α → Prop} {n : Nat} (h : ∀ i, i < n → ∃ b, p i b) : ∃ xs : List α, xs.length = n ∧ ∀ i (h : i < xs.length), p i xs[i] := by
  induction n with
  | zero => exact ⟨[], rfl, fun i h => absurd h (by simp)⟩
  | succ m ih =>
    obtain ⟨xs, h1, h2⟩ := ih (fun i hi => h i (by omega))
    obtain ⟨b, h3⟩ := h m (by omega)
    refine ⟨xs ++ [b], by simp [h1], fun i hi => ?_⟩
    by_cases him : i < xs.length
    · rw [List.getElem_append_left him]
      exact h2 i him
    · have : i = xs.length := by simp at hi; omega
      subst this
      rw [show (xs ++ [b])[xs.length]'hi = b by simp, h1]
      exact h3
theorem list_of_trod {α : Type} {e0 : α → List SV} {t e : TypeId} {k : Nat} {fuel : Nat} {cs : List Value} {x : DataW H × List MemPlace} (ht : P.underlying t = some (.slice e)) (hc : P.cellsOf e = k) (hlen : ∀ a, (e0 a).length = k) (hk : 0 < k)
    (f : ∀ (n : Nat) (cs : List Value) (y : DataW H × List MemPlace), n < fuel → DataW.trod enc P W base sp hd n e cs = some y → ∃ a : α, All2 (SRep (sto W)) cs (e0 a))
    (h : DataW.trod enc P W base sp hd fuel t cs = some x) (hs : hardRows = true → k < 2 := by decide) : ∃ xs : List α, All2 (SRep (sto W)) cs [.list (xs.map e0)] := by
  rcases DataW.trod_slice ht h with ⟨rfl, _⟩ | ⟨a, len, cap, elems, rest, n, hfu, rfl, _, hb, hl, hm, hlen', hel, _, _⟩
  · exact ⟨[], .cons srep_nil .nil⟩
  · have key : ∀ i, i < len → ∃ (b : α), ∃ (cs' : List Value), cs'.length = k ∧ (∀ j u, cs'[j]? = some u → W.cell? ((a.add (i * k)).add j) = some u) ∧ All2 (SRep (sto W)) cs' (e0 b) := fun i hi => by
      have h1 := hel i hi
      rw [List.getElem?_eq_getElem (by omega)] at h1
      obtain ⟨cs', h2, h3⟩ := Option.bind_eq_some_iff.1 h1
      obtain ⟨_, h4, h5⟩ := World.cells?_some h2
      obtain ⟨b, hb⟩ := f n cs' _ (by omega) h3
      rw [hc] at h4 h5
      refine ⟨b, cs', h4, fun j u hj => ?_, hb⟩
      rw [h5 j (by have := (List.getElem?_eq_some_iff.1 hj).1; omega)]
      exact hj
    obtain ⟨xs, hxl, hxs⟩ : ∃ xs : List α, xs.length = len ∧ ∀ i (h : i < xs.length), ∃ cs' : List Value, cs'.length = k ∧ (∀ j u, cs'[j]? = some u → W.cell? ((a.add (i * k)).add j) = some u) ∧ All2 (SRep (sto W)) cs' (e0 xs[i]) := choose_list key
    have cell : ∀ m y j z, (xs.map e0)[m]? = some y → y[j]? = some z → ∃ v, W.cell? ⟨a.block, a.off + m * k + j, none⟩ = some v ∧ SRep (sto W) v z := fun m y j z hy hz => by
      rw [List.getElem?_map, Option.map_eq_some_iff] at hy
      obtain ⟨b, hb', rfl⟩ := hy
      obtain ⟨hm', hbe⟩ := List.getElem?_eq_some_iff.1 hb'
      obtain ⟨cs', c1, c2, c3⟩ := hxs m hm'
      rw [hbe] at c3
      obtain ⟨v, v1, v2⟩ := c3.get hz
      refine ⟨v, ?_, v2⟩
      have := c2 j v v1
      have hsp := spot_none this
      rw [← this]
      congr 1
      have h7 : ((a.add (m * k)).add j).block = a.block ∧ ((a.add (m * k)).add j).off = a.off + m * k + j := by
        unfold Addr.add
        split <;> split <;> simp_all
      generalize (a.add (m * k)).add j = q at *
      cases q
      simp_all
    refine ⟨xs, .cons (.list (b := a.block) (o := a.off) (w := k) (fun m j => (W.cell? ⟨a.block, a.off + m * k + j, none⟩).getD undef) (by simp [hxl]) hl hm (by simp) (fun h0 => ?_) (fun y hy => ?_) (fun q1 q2 _ => absurd (hs q1) (by omega)) (fun m y j z hy hz => ?_) (fun m y j z hy hz => ?_)) .nil⟩
    · obtain ⟨cs', h1, h2, h3⟩ := hxs 0 (by omega)
      have h4 : W.cell? a = some (cs'[0]'(by omega)) := by
        have := h2 0 _ (List.getElem?_eq_getElem (by omega))
        simpa [Addr.add] using this
      have := spot_none h4
      cases a
      simp_all
    · obtain ⟨b, _, rfl⟩ := List.mem_map.1 hy
      exact hlen b
    · obtain ⟨v, v1, v2⟩ := cell m y j z hy hz
      show W.cell? _ = _
      rw [v1]; rfl
    · obtain ⟨v, v1, v2⟩ := cell m y j z hy hz
      rw [v1]; exact v2
theorem int_trod {t : TypeId} (ht : P.underlying t = some (.int .i64)) (fuel : Nat) (cs : List Value) (x : DataW H × List MemPlace) (h : DataW.trod enc P W base sp hd fuel t cs = some x) : ∃ n : Int, All2 (SRep (sto W)) cs (encI n) := by
  obtain ⟨n, rfl, _, hn⟩ := DataW.trod_int ht h
  exact ⟨n, .cons (.int (by rw [inR_i64]; simpa [Lit.wf, IntKind.min, IntKind.max, IntKind.signed, IntKind.bits] using hn)) .nil⟩
theorem arg_int {t : TypeId} (ht : P.underlying t = some (.int .i64)) {r : Reach} {b0 : Nat} {v : Value} {d : DataW H} {p : List MemPlace} (hv : Value.okWide P W r b0 t v) (h : DataW.Trod enc P W base sp hd t v d p) : ∃ n : Int, VRep (sto W) noS noH v (aInt n) := by
  obtain ⟨n, rfl⟩ := okWide_int ht hv
  obtain ⟨fuel, hf⟩ := h
  obtain ⟨m, hm⟩ := int_trod ht fuel _ _ hf
  have : All2 (SRep (sto W)) [.int .i64 n] (encI m) := hm
  cases this with
  | cons h1 h2 => exact ⟨m, .one (.st h1)⟩
theorem arg_list {α : Type} {e0 : α → List SV} {t e : TypeId} {k : Nat} (ht : P.underlying t = some (.slice e)) (hc : P.cellsOf e = k) (hlen : ∀ a, (e0 a).length = k) (hk : 0 < k) {r : Reach} {b0 : Nat} {v : Value} {d : DataW H} {p : List MemPlace} (hv : Value.okWide P W r b0 t v)
    (f : ∀ (n : Nat) (cs : List Value) (y : DataW H × List MemPlace), DataW.trod enc P W base sp hd n e cs = some y → ∃ a : α, All2 (SRep (sto W)) cs (e0 a)) (h : DataW.Trod enc P W base sp hd t v d p) (hs : hardRows = true → k < 2 := by decide) : ∃ xs : List α, VRep (sto W) noS noH v (.one (.st (.list (xs.map e0)))) := by
  obtain ⟨a, len, cap, rfl⟩ := okWide_slice ht hv
  obtain ⟨fuel, hf⟩ := h
  obtain ⟨xs, hxs⟩ := list_of_trod ht hc hlen hk (fun n cs y _ hy => f n cs y hy) hf hs
  have : All2 (SRep (sto W)) [.slice a len cap] [.list (xs.map e0)] := hxs
  cases this with
  | cons h1 h2 => exact ⟨xs, .one (.st h1)⟩
end
theorem acalls_true {P : Program} {f : FuncId} {xs : List AV} {b : Bool} (h : ACalls P f xs (aBool b)) {σ : Sto} {w : World} {vs : List Value} (hg : GlobIn σ) (hf : Fit σ w) (hv : All2 (VRep σ noS noH) vs xs) :
    Calls P f vs.toArray w fun e w' => e = .returned (.bool b) ∧ Below w.heap.size w w' := (h σ w vs hg hf hv).mono fun e w' ⟨v, σ', he, hv, _, _, hb⟩ => by
  rw [vrep_bool hv] at he
  exact ⟨he, hb⟩
end Go.Proofs.YtehnjhkndbcmgaaGreatDoor

namespace Go.Proofs.YtehnjhkndbcmgaaGreatDoor
open Go Go.RowKit Go.ChangeShapes Go.WideShapes Go.ChangeAt
set_option maxHeartbeats 400000
set_option linter.unusedVariables false
theorem laid_at {P : Program} {W : World} {x : String × DataW Unit} : ∀ {l : List (String × DataW Unit)} {ps : List MemPlace}, DataW.LaidVars P W l ps → x ∈ l → ∃ q, DataW.LaidVars P W [x] q
  | [], _, _, hx => by simp at hx
  | y :: l, ps, h, hx => by
    obtain ⟨n, d⟩ := y
    obtain ⟨g, t, cs, fuel, p, q, a1, a2, a3, a4, a5, a6⟩ := h
    rcases List.mem_cons.1 hx with rfl | hx
    · exact ⟨_, g, t, cs, fuel, p, [], a1, a2, a3, a4, rfl, rfl⟩
    · exact laid_at a5 hx
theorem size_sto {P : Program} {W : World} {n : String} {g : Nat} {cs : Array Value} (hg : P.globalNamed n = some g) (h : W.var? P n = some cs) : sto W ⟨g, cs.size, some 0⟩ = some .nilFunc := by
  unfold World.var? at h
  rw [hg] at h
  simp only [Option.bind_some] at h
  show look W _ = _
  unfold look
  simp only
  cases hb : W.heap[g]? with
  | none => rw [hb] at h; cases h
  | some o =>
    rw [hb] at h
    cases o <;> simp_all
theorem glob_tab {P : Program} {W : World} {name : String} {g : Nat} {t e : TypeId} {n : Nat} {k : IntKind} {zs : List Int} (hg : P.globalNamed name = some g) (hty : (P.globals[g]?).map (·.type) = some t) (ht : P.underlying t = some (.array n e)) (he : P.underlying e = some (.int k))
    (hce : P.cellsOf e = 1) (hct : P.cellsOf t = n) (hin : ∀ z ∈ zs, inR k z) {ps : List MemPlace} (h : DataW.LaidVars P W [(name, Lib.tabData k zs)] ps) : GlobAt (sto W) (g, zs.map fun z => .int k z) := by
  obtain ⟨g0, t0, cs0, f0, p0, q0, hg0, ht0, hv0, hd0, _, _⟩ := h
  obtain rfl := Option.some.inj (hg.symm.trans hg0)
  obtain rfl := Option.some.inj (hty.symm.trans ht0)
  have hc := Lib.cells_of_tab ht he hce hct hd0
  have hs : cs0.size = zs.length := by
    have := congrArg List.length hc
    simpa using this
  refine ⟨⟨fun j => (zs[j]?).elim .nilFunc (.int k), fun j a ha => ?_, fun j a ha => ?_⟩, ?_⟩
  · rw [List.getElem?_map, Option.map_eq_some_iff] at ha
    obtain ⟨z, hz, rfl⟩ := ha
    have h1 := World.var?_cell hg0 hv0 j
    have h2 : cs0[j]? = some (.int k z) := by
      have h3 := congrArg (fun l : List Value => l[j]?) hc
      simpa [hz] using h3
    show look W _ = _
    rw [look_none rfl, Nat.zero_add, h1, h2]
    simp only [hz, Option.elim]
  · rw [List.getElem?_map, Option.map_eq_some_iff] at ha
    obtain ⟨z, hz, rfl⟩ := ha
    simp only [hz, Option.elim]
    exact .int (hin z (List.mem_of_getElem? hz))
  · have := size_sto hg0 hv0
    rw [hs] at this
    simpa using this
theorem in_i64 {zs : List Int} (h : zs.all (fun z => decide (-9223372036854775808 ≤ z) && decide (z ≤ 9223372036854775807)) = true) : ∀ z ∈ zs, inR .i64 z := fun z hz => by
  have := List.all_eq_true.1 h z hz
  rw [inR_i64]
  simpa using this
theorem in_u64 {zs : List Int} (h : zs.all (fun z => decide (0 ≤ z) && decide (z ≤ 18446744073709551615)) = true) : ∀ z ∈ zs, inR .u64 z := fun z hz => by
  have := List.all_eq_true.1 h z hz
  simp only [Bool.and_eq_true, decide_eq_true_eq] at this
  simp [inR, IntKind.min, IntKind.max, IntKind.signed, IntKind.bits]
  omega
theorem glob_subs {W : World} {ps : List MemPlace} (h : DataW.LaidVars Tryz.prog W [("metaprune/lambda.subs", Rows.laid_metaprune_lambda_subs)] ps) : GlobAt (sto W) (0, [.int .i64 0, .int .i64 0, .int .i64 1, .int .i64 2, .int .i64 0, .int .i64 0]) := glob_tab (k := .i64) (zs := [0, 0, 1, 2, 0, 0]) (by kernel_rfl) (by kernel_rfl) Tryz.underlying157 Tryz.underlying3 (by kernel_rfl) (by kernel_rfl) (in_i64 (by decide)) h
theorem glob_pow {W : World} {ps : List MemPlace} (h : DataW.LaidVars Tryz.prog W [("internal/strconv.uint64pow10", Rows.laid_internal_strconv_uint64pow10)] ps) : GlobAt (sto W) (1, pow10s) := glob_tab (k := .u64) (zs := Lib.pow10Tab) (by kernel_rfl) (by kernel_rfl) Tryz.underlying191 Tryz.underlying177 (by kernel_rfl) (by kernel_rfl) (in_u64 (by decide)) h
end Go.Proofs.YtehnjhkndbcmgaaGreatDoor

namespace Go.Proofs.YtehnjhkndbcmgaaGreatDoor
open Go Go.RowKit Go.ChangeShapes Go.WideShapes Go.ChangeAt
set_option maxHeartbeats 400000
set_option linter.unusedVariables false
section
variable {H : Type} {enc : TypeId × Value → H} {W : World} {sp : Nat → Bool} {hd : Bool} {base : Nat}
end
end Go.Proofs.YtehnjhkndbcmgaaGreatDoor

namespace Go.Proofs.YtehnjhkndbcmgaaGreatDoor
open Go Go.RowKit Go.ChangeShapes Go.WideShapes Go.ChangeAt
set_option maxHeartbeats 400000
set_option linter.unusedVariables false
section
variable {H : Type} {enc : TypeId × Value → H} {W : World} {sp : Nat → Bool} {hd : Bool} {base : Nat}
end
theorem globIn_two {W : World} {l : List (String × DataW Unit)} (hs : ("metaprune/lambda.subs", Rows.laid_metaprune_lambda_subs) ∈ l) (hin : ("internal/strconv.uint64pow10", Rows.laid_internal_strconv_uint64pow10) ∈ l) {ps : List MemPlace} (h : DataW.LaidVars Tryz.prog W l ps) : GlobIn (sto W) := by
  obtain ⟨_, h0⟩ := laid_at (x := ("metaprune/lambda.subs", Rows.laid_metaprune_lambda_subs)) h hs
  obtain ⟨_, h1⟩ := laid_at (x := ("internal/strconv.uint64pow10", Rows.laid_internal_strconv_uint64pow10)) h hin
  intro y hy
  simp only [globs, List.mem_cons, List.not_mem_nil, or_false] at hy
  rcases hy with rfl | rfl
  · exact glob_subs h0
  · exact glob_pow h1
end Go.Proofs.YtehnjhkndbcmgaaGreatDoor

namespace Go.Proofs.YtehnjhkndbcmgaaGreatDoor
open Go Go.RowKit Go.ChangeShapes Go.WideShapes Go.ChangeAt
set_option maxHeartbeats 400000
set_option linter.unusedVariables false
section
variable {H : Type} {enc : TypeId × Value → H} {W : World} {sp : Nat → Bool} {hd : Bool} {base : Nat}
set_option maxRecDepth 100000 in
theorem arg_ints {r : Reach} {b0 : Nat} {v : Value} {d : DataW H} {p : List MemPlace} (hv : Value.okWide Tryz.prog W r b0 43 v) (h : DataW.Trod enc Tryz.prog W base sp hd 43 v d p) : ∃ l : List Int, VRep (sto W) noS noH v (aInts l) :=
  arg_list (k := 1) Tryz.underlying43 (by kernel_rfl) (fun _ => rfl) (by decide) hv (int_trod Tryz.underlying3) h
end
end Go.Proofs.YtehnjhkndbcmgaaGreatDoor

namespace Go.Proofs.YtehnjhkndbcmgaaGreatDoor.inferMade
open Go Go.RowKit Go.ChangeShapes Go.WideShapes Go.ChangeAt
set_option linter.unusedVariables false
theorem globInM {W : World} (h : laidMetH Tryz.prog Rows.inferMadeRow.laid W) : GlobIn (sto W) := by
  rw [MakeChecks.laidMetH_plain _ _ _ (by kernel_rfl)] at h
  obtain ⟨ps, h, _, _⟩ := h
  exact globIn_two (by simp [Rows.inferMadeRow]) (by simp [Rows.inferMadeRow]) h
theorem own : ownKnob Tryz.prog.godebug = none := by kernel_rfl
theorem laid : laidOutB Tryz.prog = true := by kernel_rfl
set_option maxRecDepth 100000 in
theorem contract (H : Type) (enc : TypeId × Value → H) (W : World) (base : Nat) (args : Array Value) (ds gs : List (DataW H)) (before : List MemPlace) (hL : laidMetH Tryz.prog Rows.inferMadeRow.laid W)
    (hval : ∀ (j : Nat) t v, Tryz.f4.params[j]? = some t → args[j]? = some v → Value.okWide Tryz.prog W .any base t v)
    (hW : DataW.Whole enc Tryz.prog Tryz.f4.params.toList Rows.inferMadeSpec.vars false W args.toList ds gs before) :
    Calls Tryz.prog 4 args W fun e W' => ∃ v, e = .returned v ∧ Rows.inferMadeSpec.post enc Tryz.prog Tryz.f4 false true false false W args v W' := by
  have hG := globInM hL
  obtain ⟨p, q, hA0, hV, rfl, hfz, hnd⟩ := id hW
  obtain ⟨rfl, rfl⟩ := trodVars_none hV
  have hA : DataW.TrodAll enc Tryz.prog W 0 (fun _ => true) true Tryz.f4.params.toList args.toList ds p := hA0
  rw [Tryz.params4] at hA hval
  obtain ⟨v0, v1, v2, d0, d1, d2, p0, p1, p2, hargs, rfl, rfl, h0, h1, h2⟩ := trodAll_three hA
  obtain rfl : args = #[v0, v1, v2] := by cases args; simp_all
  obtain ⟨l, r0⟩ := arg_ints (hval 0 43 v0 rfl rfl) h0
  obtain ⟨m1, r1⟩ := arg_int Tryz.underlying3 (hval 1 3 v1 rfl rfl) h1
  obtain ⟨m2, r2⟩ := arg_int Tryz.underlying3 (hval 2 3 v2 rfl rfl) h2
  have k0 := known_ints r0.known
  refine (acalls_true (inferMade_a l m1 m2 k0.1 k0.2 r1.known r2.known) hG (fit_sto W) (vs := [v0, v1, v2]) (.cons r0 (.cons r1 (.cons r2 .nil)))).mono fun e W' ⟨he, hb⟩ => ⟨_, he, ?_⟩
  exact law_post hW rfl rfl Tryz.underlying4 rfl rfl rfl laid (by kernel_rfl) hb
theorem door_met (os : Os) (args : Array Value) : laidMetH Tryz.prog Rows.inferMadeRow.laid ((World.doorLaid Tryz.prog 400 os).forCall (fun _ _ => 0) ⟨#[], args, []⟩).memory :=
  laidMetH_of_parts3 (fuel := 8) (laidMet_of_run' 8 (by kernel_rfl) (by kernel_rfl)) (by kernel_rfl) (by kernel_rfl)
set_option maxRecDepth 100000 in
theorem lifted (os : Os) (started : os.Started) (H : Type) (enc : TypeId × Value → H) :
    ReturnsInHanded {} Tryz.checked os 4 .any (fun w args => (Rows.inferMadeSpec.pre enc Tryz.prog Tryz.f4 [] false w args ∧ laidMetH Tryz.prog Rows.inferMadeRow.laid w) ∧ sizedMet enc Tryz.prog Tryz.f4 (OpenSpec.ofChange Rows.inferMadeSpec) false w args)
      (Rows.inferMadeSpec.post enc Tryz.prog Tryz.f4 false true false false) := by
  refine returnsInHanded_of_change_and (C := Tryz.checked) (X := fun w _ => laidMetH Tryz.prog Rows.inferMadeRow.laid w) (fun _ _ _ hh h => h.of_heap hh) own started (by kernel_rfl) Tryz.func4
    (ChangeSpec.witness_shaped (enc := enc) (C := Tryz.checked) (os := os) (X := fun w _ => laidMetH Tryz.prog Rows.inferMadeRow.laid w) false (World.doorLaid Tryz.prog 400 os) #[.slice none 0 0, .int .i64 0, .int .i64 0] 8 rfl (World.shaped_of_RefB (by kernel_rfl) (by kernel_rfl)) (by kernel_rfl) (by kernel_rfl) (by kernel_rfl) (door_met os _)) ?_
  intro W base args ds gs before hval hW _ _ hL _
  exact contract H enc W base args ds gs before hL hval hW
theorem row_holds : Rows.InferMadeSaid :=
  OpenClaim.holds_of_wide 4 Tryz.f4 rfl rfl rfl rfl rfl rfl rfl ⟨rfl, rfl, rfl, rfl, rfl⟩ rfl rfl rfl rfl rfl (by kernel_rfl) Tryz.func4 (by kernel_rfl)
    (of_decide_eq_true (by kernel_rfl)) (by unfold Func.isWrapper; first | (rw [if_pos (by decide +kernel)]; kernel_rfl) | (rw [if_neg (by decide +kernel)]; exact ⟨rfl, rfl⟩))
    (fun os started H enc _ => lifted os started H enc)
theorem no_stand : (Tryz.f4.params.toList.all fun t => !Tryz.prog.wantsStandIn t) = true := by kernel_rfl
theorem proved : Rows.InferMadeCardSaid :=
  Claim7.holds_tied_plain_at .later [] [.data, .data, .data, .data] true Rows.inferMadeCard.stood.harness Rows.inferMadeCard.stood.looks
    row_holds (fun _ h => by cases h) (by kernel_rfl) (fun _ h => by cases h) inferMade_row_tie rfl ⟨rfl, rfl⟩ (by kernel_rfl) rfl
    (fun f fn hf hfn => by
      obtain rfl : f = 4 := Option.some.inj ((show Tryz.prog.funcNamed "metaprune/metaprunelaw.InferMade" = some 4 by kernel_rfl).symm.trans hf) |>.symm
      obtain rfl : fn = Tryz.f4 := (Option.some.inj (Tryz.func4.symm.trans hfn)).symm
      exact ⟨by kernel_rfl, fun j t ht => by
        have h1 := List.all_eq_true.1 no_stand t (by rw [Array.mem_toList_iff]; exact Array.mem_of_getElem? ht)
        have h2 : Tryz.prog.wantsStandIn t = false := by simpa using h1
        exact h2⟩)
    (by kernel_rfl)
end Go.Proofs.YtehnjhkndbcmgaaGreatDoor.inferMade
