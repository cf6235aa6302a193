/-
  Proved: all critical pairs meet, one by one, just if Join says so (HUET): the law TopLocal returns true; as a tied card. Conditions: none.
-/
import Derived.Test.YtiaopkfapnajaaaDoorToL9
import Derived.Defers
import Derived.Recover
import Derived.ChangeKeysEq
import Derived.Test.YtiaopkfapnajaaaDoorRows
import Derived.ProofKit
import Derived.OpenShut
import Derived.JoinedCond
import Derived.Deep.Slices
import Derived.Test.YtiaopkfapnajaaaDoorTie
import Derived.Test.YtiaopkfapnajaaaDoorCards
import Derived.LaidMore
import Derived.MakeChecks
import Derived.Stop.Joined
import Derived.Lib.LaidTab
import Derived.Lib.ItoaNum
import Derived.LaidLaws
namespace Go.Proofs.YtiaopkfapnajaaaDoor
open Go Go.RowKit
set_option maxRecDepth 100000
def FB : IR :=
 (.seq (.ops [.i 2 (.mov (.c (.one (.full []))))]) (.seq (.ops [.i 11 (.buildFlat [.c (.one (.st (.str (ByteArray.mk (#[102, 40, 97, 44, 88, 41]))))), .c (.one (.st (.str (ByteArray.mk (#[88]))))), .c (.one (.st (.str (ByteArray.mk (#[102, 40, 104, 40, 88, 41, 44, 89, 41]))))), .c (.one (.st (.str (ByteArray.mk (#[104, 40, 102, 40, 88, 44, 89, 41, 41])))))]), .i 12 (.buildFlat [.c (.one (.st (.str (ByteArray.mk (#[102, 40, 88, 44, 97, 41]))))), .c (.one (.st (.str (ByteArray.mk (#[88]))))), .c (.one (.st (.str (ByteArray.mk (#[102, 40, 88, 44, 104, 40, 89, 41, 41]))))), .c (.one (.st (.str (ByteArray.mk (#[104, 40, 102, 40, 88, 44, 89, 41, 41]))))), .c (.one (.st (.str (ByteArray.mk (#[102, 40, 97, 44, 88, 41]))))), .c (.one (.st (.str (ByteArray.mk (#[88])))))]), .i 13 (.buildFlat [.c (.one (.st (.str (ByteArray.mk (#[102, 40, 102, 40, 88, 44, 89, 41, 44, 90, 41]))))), .c (.one (.st (.str (ByteArray.mk (#[102, 40, 88, 44, 102, 40, 89, 44, 90, 41, 41])))))]), .i 14 (.buildFlat [.c (.one (.st (.str (ByteArray.mk (#[107, 40, 107, 40, 88, 41, 41]))))), .c (.one (.st (.str (ByteArray.mk (#[88]))))), .c (.one (.st (.str (ByteArray.mk (#[107, 40, 97, 41]))))), .c (.one (.st (.str (ByteArray.mk (#[97]))))), .c (.one (.st (.str (ByteArray.mk (#[107, 40, 102, 40, 88, 44, 89, 41, 41]))))), .c (.one (.st (.str (ByteArray.mk (#[102, 40, 107, 40, 89, 41, 44, 107, 40, 88, 41, 41])))))]), .i 15 (.buildFlat [.c (.one (.st (.str (ByteArray.mk (#[102, 40, 88, 44, 88, 41]))))), .c (.one (.st (.str (ByteArray.mk (#[88])))))]), .i 16 (.buildFlat [.c (.one (.st (.str (ByteArray.mk (#[104, 40, 107, 40, 88, 41, 41]))))), .c (.one (.st (.str (ByteArray.mk (#[107, 40, 104, 40, 88, 41, 41]))))), .c (.one (.st (.str (ByteArray.mk (#[104, 40, 104, 40, 88, 41, 41]))))), .c (.one (.st (.str (ByteArray.mk (#[104, 40, 88, 41])))))]), .i 17 (.buildFlat [.c (.one (.st (.str (ByteArray.mk (#[102, 40, 97, 44, 98, 41]))))), .c (.one (.st (.str (ByteArray.mk (#[99]))))), .c (.one (.st (.str (ByteArray.mk (#[97]))))), .c (.one (.st (.str (ByteArray.mk (#[98])))))]), .i 18 (.buildFlat [.c (.one (.st (.str (ByteArray.mk (#[103, 40, 88, 44, 89, 41]))))), .c (.one (.st (.str (ByteArray.mk (#[102, 40, 89, 44, 88, 41])))))]), .i 19 (.buildFlat [.c (.one (.st (.str (ByteArray.mk (#[104, 40, 97, 41]))))), .c (.one (.st (.str (ByteArray.mk (#[98]))))), .c (.one (.st (.str (ByteArray.mk (#[104, 40, 97, 41]))))), .c (.one (.st (.str (ByteArray.mk (#[99])))))]), .i 20 (.buildFlat [.c (.one (.st (.str (ByteArray.mk (#[102, 40, 88, 44, 103, 40, 89, 44, 90, 41, 41]))))), .c (.one (.st (.str (ByteArray.mk (#[103, 40, 102, 40, 88, 44, 89, 41, 44, 102, 40, 88, 44, 90, 41, 41])))))]), .i 21 (.buildSlice false 37 1 [.t 11, .t 12, .t 13, .t 14, .t 15, .t 16, .t 17, .t 18, .t 19, .t 20]), .m 3 21]) (.seq (.ops [.m 22 3, .m 23 0, .m 24 3, .i 25 (.len false (.t 24)), .i 26 (.call 9 [.t 23, .t 25]), .i 27 (.indexAddr 1 (.t 22) (.t 26)), .l 28 27, .m 4 28]) (.seq (.ops [.i 5 (.mov (.c (.one (.full []))))]) (.seq (.seq (.ops [.i 6 (.mov (.n 0))]) (.block 0 (.loop (.seq (.seq (.ops [.m 29 6, .i 30 (.bin .add (.t 29) (.n 1)), .m 31 4, .i 32 (.len false (.t 31)), .i 33 (.bin .lss (.t 30) (.t 32))]) (.cond (.t 33) .skip (.exit 0))) (.seq (.block 1 (.seq (.ops [.m 37 4, .m 38 6, .i 39 (.indexAddr 1 (.t 37) (.t 38)), .l 40 39, .i 41 (.call 10 [.t 40]), .m 36 41, .i 42 (.extract 0 (.t 36)), .i 43 (.extract 1 (.t 36)), .i 7 (.alloc 32 [.st (.str (ByteArray.mk (#[]))), .full []]), .s 2 7 42, .m 8 43]) (.seq (.ops [.m 45 4, .m 46 6, .i 47 (.bin .add (.t 46) (.n 1)), .i 48 (.indexAddr 1 (.t 45) (.t 47)), .l 49 48, .i 50 (.call 10 [.t 49]), .m 44 50, .i 51 (.extract 0 (.t 44)), .i 52 (.extract 1 (.t 44)), .i 9 (.alloc 32 [.st (.str (ByteArray.mk (#[]))), .full []]), .s 2 9 51, .m 10 52]) (.ops [.m 53 5, .L 54 2 7, .L 55 2 9, .i 56 (.build [.st (.str (ByteArray.mk (#[]))), .full [], .st (.str (ByteArray.mk (#[]))), .full []] [(0, 2, .t 54), (2, 2, .t 55)]), .i 57 (.buildSlice false 34 4 [.t 56]), .i 58 (.append false 34 4 80 (.t 53) (.t 57)), .m 5 58])))) (.ops [.m 34 6, .i 35 (.bin .add (.t 34) (.n 2)), .m 6 35])))))) (.seq (.ops [.m 59 5, .m 2 59]) .ret))))))
theorem JK : OkF Tryd.prog 4 60 [] FB [.t 2] := .of Tryd.func4 rfl rfl (by kernel_rfl) rfl

def KI : IR :=
 (.seq (.ops [.i 4 (.mov (.n 0))]) (.seq (.seq (.ops [.m 5 0, .i 6 (.bin .lss (.t 5) (.n 0))]) (.cond (.t 6) (.ops [.m 7 0, .i 8 (.bin .add (.t 7) (.n 1)), .i 9 (.un .neg (.t 8)), .m 0 9]) .skip)) (.seq (.ops [.m 10 0, .m 11 1, .i 12 (.bin .rem (.t 10) (.t 11)), .m 4 12]) .ret)))
theorem Qb : OkF Tryd.prog 9 13 [] KI [.t 4] := .of Tryd.func9 rfl rfl (by kernel_rfl) rfl

set_option linter.unusedVariables false
set_option linter.unusedSimpArgs false
set_option maxHeartbeats 800000
def Hu (c n : Int) : Int := (if c < 0 then -(c + 1) else c) % n
theorem M2 (c n : Int) (hn : 1 ≤ n) : 0 ≤ Hu c n ∧ Hu c n < n := ⟨Int.emod_nonneg _ (by omega), Int.emod_lt_of_pos _ (by omega)⟩
theorem Jd {x n : Int} (hx : 0 ≤ x) (hn : 1 ≤ n) : x.tmod n = x % n ∧ 0 ≤ x % n ∧ x % n < n ∧ x % n ≤ x := by
 rw [Int.tmod_eq_emod_of_nonneg hx]
 refine ⟨rfl, Int.emod_nonneg _ (by omega), Int.emod_lt_of_pos _ (by omega), ?_⟩
 by_cases h : x < n
 ·rw [Int.emod_eq_of_lt hx h]; exact Int.le_refl _
 ·have := Int.emod_lt_of_pos x (show 0 < n by omega); omega
theorem UD (c n : Int) (hc : inR .i64 c) (hn : 1 ≤ n) : Aa Tryd.prog 9 [AR c, AR n] (AR (Hu c n)) := by
 rw [Gz] at hc
 refine Qb.ac fun C hC => ?_
 unfold KI
 repeat' with_reducible first | refine W ?_ | refine Z0 ?_ | ((first | refine Wo fun K hK => ?_ | refine Wq ?_ | refine Wr ?_); (try simp only [go_sem, fN, seval, eT, iR]); (repeat refine Ai ?_); (try (refine hK _ ?_; clear hK K)))
 with_reducible refine Wp ?_
 simp only [go_sem, fN, seval, true_implies, false_implies, implies_true, dT, dF, nL]
 (try with_reducible refine iC ?_)
 refine ⟨fun h0 => ?_, fun h0 => ?_⟩
 ·have h1 := Jd (x := 0 - (c + 1)) (n := n) (by omega) hn
  repeat' with_reducible first | refine W ?_ | refine Z0 ?_ | ((first | refine Wo fun K hK => ?_ | refine Wq ?_ | refine Wr ?_); (try simp only [go_sem, fN, seval, eT, iR, h1.1]); (repeat refine Ai ?_); (try (refine hK _ ?_; clear hK K)))
  simp only [go_sem, fN, seval, AO, AS.result, AB, AD, AI]
  unfold Hu
  rw [if_pos h0]
  congr 5
  omega
 ·have h1 := Jd (x := c) (n := n) (by omega) hn
  repeat' with_reducible first | refine W ?_ | refine Z0 ?_ | ((first | refine Wo fun K hK => ?_ | refine Wq ?_ | refine Wr ?_); (try simp only [go_sem, fN, seval, eT, iR, h1.1]); (repeat refine Ai ?_); (try (refine hK _ ?_; clear hK K)))
  simp only [go_sem, fN, seval, AO, AS.result, AB, AD, AI]
  unfold Hu
  rw [if_neg h0]

set_option maxHeartbeats 1600000
def CQ : List (List ByteArray) := [[⟨#[102, 40, 97, 44, 88, 41]⟩, ⟨#[88]⟩, ⟨#[102, 40, 104, 40, 88, 41, 44, 89, 41]⟩, ⟨#[104, 40, 102, 40, 88, 44, 89, 41, 41]⟩],
 [⟨#[102, 40, 88, 44, 97, 41]⟩, ⟨#[88]⟩, ⟨#[102, 40, 88, 44, 104, 40, 89, 41, 41]⟩, ⟨#[104, 40, 102, 40, 88, 44, 89, 41, 41]⟩, ⟨#[102, 40, 97, 44, 88, 41]⟩, ⟨#[88]⟩],
 [⟨#[102, 40, 102, 40, 88, 44, 89, 41, 44, 90, 41]⟩, ⟨#[102, 40, 88, 44, 102, 40, 89, 44, 90, 41, 41]⟩],
 [⟨#[107, 40, 107, 40, 88, 41, 41]⟩, ⟨#[88]⟩, ⟨#[107, 40, 97, 41]⟩, ⟨#[97]⟩, ⟨#[107, 40, 102, 40, 88, 44, 89, 41, 41]⟩, ⟨#[102, 40, 107, 40, 89, 41, 44, 107, 40, 88, 41, 41]⟩],
 [⟨#[102, 40, 88, 44, 88, 41]⟩, ⟨#[88]⟩],
 [⟨#[104, 40, 107, 40, 88, 41, 41]⟩, ⟨#[107, 40, 104, 40, 88, 41, 41]⟩, ⟨#[104, 40, 104, 40, 88, 41, 41]⟩, ⟨#[104, 40, 88, 41]⟩],
 [⟨#[102, 40, 97, 44, 98, 41]⟩, ⟨#[99]⟩, ⟨#[97]⟩, ⟨#[98]⟩],
 [⟨#[103, 40, 88, 44, 89, 41]⟩, ⟨#[102, 40, 89, 44, 88, 41]⟩],
 [⟨#[104, 40, 97, 41]⟩, ⟨#[98]⟩, ⟨#[104, 40, 97, 41]⟩, ⟨#[99]⟩],
 [⟨#[102, 40, 88, 44, 103, 40, 89, 44, 90, 41, 41]⟩, ⟨#[103, 40, 102, 40, 88, 44, 89, 41, 44, 102, 40, 88, 44, 90, 41, 41]⟩]]
noncomputable def EL : List ByteArray → List Pr
 | a :: b :: l => ((DU a).1, (DU b).1) :: EL l
 | _ => []
noncomputable def CL (k : Nat) : List Pr := EL (CQ.getD k [])
theorem Qd {L : List ByteArray} {i : Nat} {a b : ByteArray} (ha : L[i]? = some a) (hb : L[i + 1]? = some b) : EL (L.drop i) = ((DU a).1, (DU b).1) :: EL (L.drop (i + 2)) := by
 rw [Bl ha, Bl hb, EL]
theorem Pn {L : List ByteArray} {i : Nat} (h : L.length ≤ i + 1) : EL (L.drop i) = [] := by
 have hl : (L.drop i).length ≤ 1 := by rw [List.length_drop]; omega
 match hd : L.drop i, hl with
 | [], _ => rfl
 | [x], _ => rfl
 | x :: y :: l, hl => exact absurd hl (by simp)
theorem Kx : ∀ L : List ByteArray, 2 * (EL L).length ≤ L.length
 | [] => by simp [EL]
 | [x] => by simp [EL]
 | a :: b :: l => by
  have := Kx l
  simp only [EL, List.length_cons]
  omega
theorem Jj (k : Nat) (hk : k < 10) : (CL k).length ≤ 3 := by
 have h1 := Kx (CQ.getD k [])
 have h2 : ∀ k, k < 10 → (CQ.getD k []).length ≤ 6 := by decide
 have h3 := h2 k hk
 unfold CL
 omega
theorem Hx (m : Int) (hm : inR .i64 m) : ∃ k : Nat, k < 10 ∧ Hu m 10 = (k : Int) ∧ Ek Tryd.prog 4 [AR m] 34 4 ((CL k).map BR) := by
 have r1 := M2 m 10 (by omega)
 have p1 := UD m 10 hm (by omega)
 obtain ⟨k, e1⟩ : ∃ k : Nat, Hu m 10 = k := ⟨(Hu m 10).toNat, by omega⟩
 rw [e1] at p1 r1
 refine ⟨k, by omega, e1, ?_⟩
 have key : ∀ L : List ByteArray, L.length ≤ 6 → ([[.list [[.str ⟨#[102, 40, 97, 44, 88, 41]⟩], [.str ⟨#[88]⟩], [.str ⟨#[102, 40, 104, 40, 88, 41, 44, 89, 41]⟩], [.str ⟨#[104, 40, 102, 40, 88, 44, 89, 41, 41]⟩]]], [.list [[.str ⟨#[102, 40, 88, 44, 97, 41]⟩], [.str ⟨#[88]⟩], [.str ⟨#[102, 40, 88, 44, 104, 40, 89, 41, 41]⟩], [.str ⟨#[104, 40, 102, 40, 88, 44, 89, 41, 41]⟩], [.str ⟨#[102, 40, 97, 44, 88, 41]⟩], [.str ⟨#[88]⟩]]], [.list [[.str ⟨#[102, 40, 102, 40, 88, 44, 89, 41, 44, 90, 41]⟩], [.str ⟨#[102, 40, 88, 44, 102, 40, 89, 44, 90, 41, 41]⟩]]], [.list [[.str ⟨#[107, 40, 107, 40, 88, 41, 41]⟩], [.str ⟨#[88]⟩], [.str ⟨#[107, 40, 97, 41]⟩], [.str ⟨#[97]⟩], [.str ⟨#[107, 40, 102, 40, 88, 44, 89, 41, 41]⟩], [.str ⟨#[102, 40, 107, 40, 89, 41, 44, 107, 40, 88, 41, 41]⟩]]], [.list [[.str ⟨#[102, 40, 88, 44, 88, 41]⟩], [.str ⟨#[88]⟩]]], [.list [[.str ⟨#[104, 40, 107, 40, 88, 41, 41]⟩], [.str ⟨#[107, 40, 104, 40, 88, 41, 41]⟩], [.str ⟨#[104, 40, 104, 40, 88, 41, 41]⟩], [.str ⟨#[104, 40, 88, 41]⟩]]], [.list [[.str ⟨#[102, 40, 97, 44, 98, 41]⟩], [.str ⟨#[99]⟩], [.str ⟨#[97]⟩], [.str ⟨#[98]⟩]]], [.list [[.str ⟨#[103, 40, 88, 44, 89, 41]⟩], [.str ⟨#[102, 40, 89, 44, 88, 41]⟩]]], [.list [[.str ⟨#[104, 40, 97, 41]⟩], [.str ⟨#[98]⟩], [.str ⟨#[104, 40, 97, 41]⟩], [.str ⟨#[99]⟩]]], [.list [[.str ⟨#[102, 40, 88, 44, 103, 40, 89, 44, 90, 41, 41]⟩], [.str ⟨#[103, 40, 102, 40, 88, 44, 89, 41, 44, 102, 40, 88, 44, 90, 41, 41]⟩]]]] : List (List SV))[k]? = some [.list (L.map Eb)] → Ek Tryd.prog 4 [AR m] 34 4 ((EL L).map BR) := fun L hL hrow => by
  unfold Ek
  rw [List.length_map]
  refine JK.acS fun hS C hC => ?_
  unfold FB
  repeat' (first | (with_reducible first | refine W ?_ | refine Z0 ?_ | ((first | refine Wo fun K hK => ?_ | refine Wp ?_ | refine Wq ?_ | refine Wr ?_); (try simp only [go_sem, fN, seval, eT, iR, hrow, dT, dF, nL]); (repeat refine Ai ?_); (try (refine hK _ ?_; clear hK K)); try refine iC ?_)) | refine Cg _ (p1) ?_)
  refine IWP.ghost (Ae.own 5 500 34 4 (xs := ([] : List Pr).map BR) (by rfl) (by rfl) HJ (by rw [hC]; decide)) ?_
  refine IWP.loopD [7, 9] (fun z s => ∃ i acc, i ≤ L.length + 1 ∧ z = L.length + 1 - i ∧ acc.length ≤ i ∧ EL L = acc ++ EL (L.drop i) ∧ s.env 4 = Fz L ∧ s.env 5 = .one (.row 500 acc.length) ∧ s.env 6 = AR i ∧ s.S 7 = none ∧ s.S 9 = none ∧ s.S 500 = some (.arow 34 4 (acc.map BR)) ∧ ∀ j, 1000 ≤ j → s.S j = none) (L.length + 1) ⟨0, [], Nat.zero_le _, rfl, Nat.le_refl _, rfl, rfl, rfl, rfl, rfl, rfl, rfl, ?_⟩ ?_
  ·intro j hj
   show AH _ _ _ _ = _
   rw [AK _ (by omega)]
   rfl
  rintro z ⟨env, S⟩ ⟨i, acc, hi, rfl, hal, htot, e4, e5, e6, s7, s9, s500, sh⟩
  simp only at e4 e5 e6 s7 s9 s500 sh
  have hl : (acc.map BR).length = acc.length := by simp
  by_cases hlt : i + 1 < L.length
  ·have hlt' : ((i : Int) + 1 < L.length) := by omega
   obtain ⟨a, ha⟩ := Ao (show i < L.length by omega)
   obtain ⟨b, hb⟩ := Ao hlt
   have hi0 : ((i : Int) + 1).toNat = i + 1 := by omega
   have hra := PA a
   have hrb := PA b
   unfold Fy at hra hrb
   repeat' (first | (with_reducible first | refine W ?_ | refine Z0 ?_ | ((first | refine Wo fun K hK => ?_ | refine Wp ?_ | refine Wq ?_ | refine Wr ?_); (try simp only [go_sem, fN, seval, eT, iR, e4, e5, e6, s7, s9, s500, hlt', ha, hb, hi0, BR, hl, dT, dF, nL]); (repeat refine Ai ?_); (try (refine hK _ ?_; clear hK K)); try refine iC ?_)) | refine Cg _ (hra) ?_ | refine Cg _ (hrb) ?_)
   refine AG ⟨L.length + 1 - (i + 2), by omega, i + 2, acc ++ [((DU a).1, (DU b).1)], by omega, rfl, by simp; omega, ?_, ?_⟩
   ·rw [htot, Qd ha hb, List.append_assoc]
    rfl
   ·simp only [go_sem, fN, seval, AS.drop, Ap, AC.clears, AC.clear, AC.highs, AC.high, Bool.not_false, Bool.true_and, Bool.and_self, AV.purge, AV.purges, AC.purge, AJ.purge, List.contains_cons, List.contains_nil, Nat.reduceBEq, Bool.or_self, Bool.or_false, Bool.false_or, Bool.or_true, eT, iR, e4, e5, e6, s7, s9, s500]
    refine ⟨by congr 3, ?_, fun j hj => ?_⟩
    ·rw [List.map_append]
     rfl
    ·have n7 : (j = 7) = False := eq_false (by omega)
     have n9 : (j = 9) = False := eq_false (by omega)
     have n500 : (j = 500) = False := eq_false (by omega)
     simp [n7, n9, n500, sh j hj]
  ·have hlt' : ¬ ((i : Int) + 1 < L.length) := by omega
   rw [Pn (by omega), List.append_nil] at htot
   rw [htot]
   repeat' with_reducible first | refine W ?_ | refine Z0 ?_ | ((first | refine Wo fun K hK => ?_ | refine Wp ?_ | refine Wq ?_ | refine Wr ?_); (try simp only [go_sem, fN, seval, eT, iR, e4, e5, e6, s500, hlt', hl, dT, dF, nL]); (repeat refine Ai ?_); (try (refine hK _ ?_; clear hK K)); try refine iC ?_)
   exact Uf (mu := false) trivial 500 (by decide) s500 sh (by simp [AB, AD, AI, AH])
 match k, (show k < 10 by omega) with
 | 0, _ => exact key (CQ.getD 0 []) (by decide) rfl
 | 1, _ => exact key (CQ.getD 1 []) (by decide) rfl
 | 2, _ => exact key (CQ.getD 2 []) (by decide) rfl
 | 3, _ => exact key (CQ.getD 3 []) (by decide) rfl
 | 4, _ => exact key (CQ.getD 4 []) (by decide) rfl
 | 5, _ => exact key (CQ.getD 5 []) (by decide) rfl
 | 6, _ => exact key (CQ.getD 6 []) (by decide) rfl
 | 7, _ => exact key (CQ.getD 7 []) (by decide) rfl
 | 8, _ => exact key (CQ.getD 8 []) (by decide) rfl
 | 9, _ => exact key (CQ.getD 9 []) (by decide) rfl

theorem Ae.kill {C : Ctx} {s : AS} (id : Nat) {ty : TypeId} {xs : List AC} (hS : s.S id = some (.box ty xs)) : Ae C s (s.set id (.dead 1 0)) := fun a w ⟨σ, ι, R⟩ => by
 have hb := R.blk _ _ hS
 cases hb with
 | @box _ _ g vs h1 h2 h3 h4 h5 =>
  obtain ⟨hu, R'⟩ := R.turn (w' := w) hS (.dead 1 0) (ι id) (σ' := σ) (fun _ _ h => h) (fun _ _ _ => rfl) R.fit (Nat.le_refl _) (fun _ => ⟨rfl, rfl⟩) ⟨rfl, rfl, rfl⟩ (Nat.le_refl _) (fun _ _ _ => rfl) (fun g h => .inl h)
   (fun hu => .dead fun g' hg' => by rw [h1] at hg'; cases hg'; exact ⟨_, h3, rfl⟩)
  exact ⟨σ, _, R'⟩
theorem Ot {C : Ctx} {v : Value} {s : AS} {S : AA} {a0 : Nat} (hS : At S) (ha : 1000 ≤ a0) (h3 : s.S a0 = some (.dead 1 0)) (h4 : ∀ i, 1000 ≤ i → i ≠ a0 → s.S i = S i) : Tx C v (AH S a0 (some (.dead 1 0))) (.pan v) s :=
 ⟨rfl, _, Ae.low (MQ hS rfl h3 h4), Pc hS ha h3 h4, CT hS ha rfl⟩
theorem Si {C : Ctx} {v : Value} {s : AS} {S : AA} {a0 : Nat} {ty : TypeId} {xs : List AC} (hS : At S) (ha : 1000 ≤ a0) (h3 : s.S a0 = some (.box ty xs)) (h4 : ∀ i, 1000 ≤ i → i ≠ a0 → s.S i = S i) : Tx C v (AH S a0 (some (.dead 1 0))) (.pan v) s := by
 obtain ⟨h1, s2, hg, h5, h6⟩ := Ot (C := C) (v := v) (s := s.set a0 (.dead 1 0)) hS ha (AE _ _ _) (fun i hi hne => (AK _ hne _).trans (h4 i hi hne))
 exact ⟨h1, s2, (Ae.kill a0 h3).trans hg, h5, h6⟩

def Dd (u : ByteArray) : Bool := decide (0 < u.size) && decide (CU u 0 = 40)
theorem MC {u : ByteArray} (h : 0 < u.size) : u.extract 0 1 = ⟨#[40]⟩ ↔ CU u 0 = 40 := by
 have e1 : (u.extract 0 1).data.toList = u.data.toList.take 1 := by
  rw [ByteArray.data_extract, Array.toList_extract, List.extract_eq_take_drop]
  rfl
 have hl : 0 < u.data.toList.length := h
 unfold CU
 obtain ⟨c, l, hc⟩ : ∃ c l, u.data.toList = c :: l := by
  cases hu : u.data.toList with
  | nil => rw [hu] at hl; cases hl
  | cons c l => exact ⟨c, l, rfl⟩
 rw [hc] at e1 ⊢
 constructor
 ·intro he
  rw [he] at e1
  have : c = 40 := by
   have h2 : [40] = [c] := e1
   injection h2 with h3
   exact h3.symm
  subst this
  rfl
 ·intro he
  have hc40 : c = 40 := by
   have : c.toNat = 40 := by
    have h' : ((c.toNat : Nat) : Int) = 40 := he
    omega
   exact UInt8.toNat_inj.1 this
  subst hc40
  apply ByteArray.ext
  apply Array.toList_inj.1
  rw [e1]
  rfl
theorem Lc (u : ByteArray) : Aa Tryd.prog 66 [Bg u, Bg ⟨#[40]⟩] (Af (Dd u)) := by
 have h40i : ((#[(40 : UInt8)].size : Nat) : Int) = 1 := rfl
 by_cases h0 : u.size = 0
 ·have hb : Dd u = false := by unfold Dd; rw [h0]; rfl
  rw [hb]
  have h0i : ¬ (1 : Int) ≤ u.size := by omega
  refine Bp.ac fun C hC => ?_
  unfold BF
  repeat' with_reducible first | refine W ?_ | refine Z0 ?_ | ((first | refine Wo fun K hK => ?_ | refine Wp ?_ | refine Wq ?_ | refine Wr ?_); (try simp only [go_sem, fN, seval, eT, iR, h0i, h40i, dT, dF, nL]); (repeat refine Ai ?_); (try (refine hK _ ?_; clear hK K)); try refine iC ?_)
  simp only [go_sem, fN, seval, AO, AS.result, AB, AD, AI]
 ·have h0i : (1 : Int) ≤ u.size := by omega
  have he := MC (u := u) (by omega)
  have hb : Dd u = decide (u.extract 0 1 = ⟨#[40]⟩) := by
   unfold Dd
   rw [decide_eq_true (by omega : 0 < u.size), Bool.true_and]
   exact decide_eq_decide.2 he.symm
  rw [hb]
  refine Bp.ac fun C hC => ?_
  unfold BF
  repeat' with_reducible first | refine W ?_ | refine Z0 ?_ | ((first | refine Wo fun K hK => ?_ | refine Wp ?_ | refine Wq ?_ | refine Wr ?_); (try simp only [go_sem, fN, seval, eT, iR, h0i, h40i, dT, dF, nL]); (repeat refine Ai ?_); (try (refine hK _ ?_; clear hK K)); try refine iC ?_)
  simp only [go_sem, fN, seval, AO, AS.result, AB, AD, AI]
theorem FR (u : ByteArray) : Aa Tryd.prog 58 [Bg u, Bg ⟨#[40]⟩] (Af (Dd u)) := by
 refine FS.ac fun C hC => ?_
 unfold DJ
 repeat' (first | (with_reducible first | refine W ?_ | refine Z0 ?_ | ((first | refine Wo fun K hK => ?_ | refine Wp ?_ | refine Wq ?_ | refine Wr ?_); (try simp only [go_sem, fN, seval, eT, iR, dT, dF, nL]); (repeat refine Ai ?_); (try (refine hK _ ?_; clear hK K)); try refine iC ?_)) | refine Cg _ (Lc u) ?_)
 simp only [go_sem, fN, seval, AO, AS.result, AB, AD, AI]
abbrev LT (u : ByteArray) (l : Int) : AJ := .box 76 [.st (.str u), .st (.int .i64 l)]
abbrev Im (e : Int) : Value := .iface 72 (.int .i64 e)
theorem I7 {s : ByteArray} {i : Nat} (hi : i ≤ s.size) : BG s i = ⟨#[]⟩ ↔ i = s.size := by
 constructor
 ·intro h
  have := DD s i
  rw [h] at this
  have h0 : (⟨#[]⟩ : ByteArray).size = 0 := rfl
  omega
 ·intro h
  have := DD s i
  exact ByteArray.size_eq_zero_iff.1 (by omega)
def Ug (s : ByteArray) (r : Rd) (b : Nat) (S : AA) (x : AS) : Prop := ∃ r0, (AB x [RV.cell 2 true 2]).map AI = some r0 ∧ outV x.S r0 = some (aTm r.t) ∧ x.S b = some (LT (BG s r.i) (200 - r.k)) ∧ ∀ i, 1000 ≤ i → i ≠ b → x.S i = S i
def Rj (b : Nat) (S : AA) (x : AS) : Prop := ((∃ ty xs, x.S b = some (.box ty xs)) ∨ x.S b = some (.dead 1 0)) ∧ ∀ i, 1000 ≤ i → i ≠ b → x.S i = S i
theorem Co {b : Nat} {S : AA} {x : AS} {u : ByteArray} {l : Int} (h : x.S b = some (LT u l)) (h2 : ∀ i, 1000 ≤ i → i ≠ b → x.S i = S i) : Rj b S x := ⟨.inl ⟨_, _, h⟩, h2⟩
def T4 (s : ByteArray) (r : Rd) (b : Nat) (S : AA) : Prop :=
 (r.e = 0 → Am Tryd.prog 38 [.one (.ptr b 1 0 0)] S (aTm r.t) (AH S b (some (LT (BG s r.i) (200 - r.k))))) ∧
 (r.e ≠ 0 → S7 Tryd.prog 38 [.one (.ptr b 1 0 0)] S (Im r.e) (AH S b (some (.dead 1 0))))
theorem SI {s : ByteArray} {r : Rd} {b : Nat} {S : AA} (hb : 1000 ≤ b) (h : At S → ∀ (C : Ctx) (Q : AX → AS → Prop), C.n = 125 → (r.e = 0 → ∀ x, Ug s r b S x → Q .ret x) → (r.e ≠ 0 → ∀ x, Rj b S x → Q (.pan (Im r.e)) x) → IWP Tryd.prog C [90] BW Q (AS.startS [.one (.ptr b 1 0 0)] S)) : T4 s r b S := by
 refine ⟨fun he => ?_, fun he => ?_⟩
 ·refine B5.acS fun hS C hC => h hS C _ hC (fun _ x hx => ?_) (fun hne => absurd he hne)
  obtain ⟨r0, h1, h2, h3, h4⟩ := hx
  exact BV r0 hS hb rfl trivial h1 h2 h3 h4
 ·refine B5.acP fun hS C hC => h hS C _ hC (fun h0 => absurd h0 he) (fun _ x hx => ?_)
  obtain ⟨⟨ty, xs, h1⟩ | h1, h2⟩ := hx
  ·exact Si hS hb h1 h2
  ·exact Ot hS hb h1 h2
def Uq (s : ByteArray) (r : Rd) (f : Nat) (nm : ByteArray) (acc : List Tm) (j c : Nat) (more : Bool) : Prop :=
 (more = true ∧ ∃ g, r = rdA s g nm acc j c ∧ 2 * (s.size - j) ≤ g ∧ g ≤ f ∧ j < s.size) ∨ (more = false ∧ r = ⟨.mk nm acc, j + 1, c, 0⟩ ∧ j < s.size)
theorem Th (s : ByteArray) (hs : s.size ≤ 100000) : ∀ f i k : Nat, i ≤ s.size → k ≤ 200 → 2 * (s.size - i) < f → ∀ (b : Nat) (S : AA), 1000 ≤ b → S b = some (LT (BG s i) (200 - k)) → T4 s (rd s f i k) b S := by
 intro f
 induction f using Nat.strongRecOn with
 | _ f ih =>
 intro i k hi hk hf b S hb sb
 obtain ⟨f, rfl⟩ : ∃ g, f = g + 1 := ⟨f - 1, by omega⟩
 obtain ⟨l1, l2⟩ := Iv hi
 have hus := DD s i
 refine SI hb fun hS C Q hC hok hpan => ?_
 have n2 : S 2 = none := AM hS (by omega)
 have n4 : S 4 = none := AM hS (by omega)
 have n900 : S 900 = none := AM hS (by omega)
 have e2 : ¬ b = 2 := by omega
 have e4 : ¬ b = 4 := by omega
 have e900 : ¬ b = 900 := by omega
 have d2 : ¬ 2 = b := by omega
 have d4 : ¬ 4 = b := by omega
 have d900 : ¬ 900 = b := by omega
 unfold BW
 repeat' with_reducible first | refine W ?_ | refine Z0 ?_ | ((first | refine Wx rfl fun K hK => ?_ | refine Wp ?_ | refine Wq ?_ | refine Wr ?_); (try simp only [go_sem, fN, seval, eT, iR, n2, e2, d2, dT, dF, nL]); (repeat refine Ai ?_); (try (refine hK _ ?_; clear hK K)); try refine iC ?_)
 refine IWP.cut 0 (fun x => x.env 0 = .one (.ptr b 1 0 0) ∧ x.env 2 = .one (.ptr 2 1 0 0) ∧ x.env 3 = AR ((AT s i - i : Nat) : Int) ∧ x.S 2 = some GS ∧ x.S 4 = none ∧ x.S 900 = none ∧ x.S b = some (LT (BG s i) (200 - k)) ∧ ∀ i, 1000 ≤ i → i ≠ b → x.S i = S i) ?_ ?_
 ·refine IWP.loop (fun m x => ∃ j, i + j ≤ s.size ∧ m = s.size - i - j ∧ AT s i = AT s (i + j) ∧ x.env 0 = .one (.ptr b 1 0 0) ∧ x.env 2 = .one (.ptr 2 1 0 0) ∧ x.env 3 = AR j ∧ x.S 2 = some GS ∧ x.S 4 = none ∧ x.S 900 = none ∧ x.S b = some (LT (BG s i) (200 - k)) ∧ ∀ i, 1000 ≤ i → i ≠ b → x.S i = S i) (s.size - i) ⟨0, hi, rfl, rfl, rfl, rfl, rfl, by simp only [go_sem, fN, seval, eT, iR], by simp only [go_sem, fN, seval, eT, iR, n4], by simp only [go_sem, fN, seval, eT, iR, n900], by simp only [go_sem, fN, seval, eT, iR, e2, sb], fun i hi hne => ?_⟩ ?_
  ·have i2 : ¬ i = 2 := by omega
   simp only [go_sem, fN, seval, eT, iR, i2]
  rintro m ⟨env, S1⟩ ⟨j, hj, rfl, hl, v0, v2, v3, t2, t4, t900, tb, hrest⟩
  simp only at v0 v2 v3 t2 t4 t900 tb hrest
  by_cases hlt : (j : Int) < (BG s i).size
  ·have hbt := Ej (s := s) (i := i) (k := j) (by omega)
   have hbr := DZ s (i + j)
   rw [← hbt] at hbr
   by_cases hlet : A7 (CU (BG s i) j) = true
   ·repeat' (first | (with_reducible first | refine W ?_ | refine Z0 ?_ | ((first | refine Wx rfl fun K hK => ?_ | refine Wp ?_ | refine Wq ?_ | refine Wr ?_); (try simp only [go_sem, fN, seval, eT, iR, v0, v2, v3, t2, t4, t900, tb, hlt, hlet, dT, dF, nL]); (repeat refine Ai ?_); (try (refine hK _ ?_; clear hK K)); try refine iC ?_)) | refine Cg _ (I1 (CU (BG s i) j) hbr.1) ?_)
    refine AG ⟨s.size - i - (j + 1), by omega, j + 1, by omega, rfl, ?_, ?_⟩
    ·rw [hl]
     exact Mo (by omega) (by rw [← hbt]; exact hlet)
    ·simp only [go_sem, fN, seval, eT, iR, v0, v2, v3, t2, t4, t900, tb]
     exact ⟨by congr 3, hrest⟩
   ·have hst : AT s (i + j) = i + j := JT (by omega) (by rw [← hbt]; exact hlet)
    repeat' (first | (with_reducible first | refine W ?_ | refine Z0 ?_ | ((first | refine Wx rfl fun K hK => ?_ | refine Wp ?_ | refine Wq ?_ | refine Wr ?_); (try simp only [go_sem, fN, seval, eT, iR, v0, v2, v3, t2, t4, t900, tb, hlt, hlet, dT, dF, nL]); (repeat refine Ai ?_); (try (refine hK _ ?_; clear hK K)); try refine iC ?_)) | refine Cg _ (I1 (CU (BG s i) j) hbr.1) ?_)
    refine ⟨rfl, ?_⟩
    simp only [go_sem, fN, seval, eT, iR, v0, v2, v3, t2, t4, t900, tb]
    refine ⟨?_, hrest⟩
    rw [hl, hst]
    congr 4
    omega
  ·have hst : AT s (i + j) = i + j := Kg (by omega)
   repeat' with_reducible first | refine W ?_ | refine Z0 ?_ | ((first | refine Wx rfl fun K hK => ?_ | refine Wp ?_ | refine Wq ?_ | refine Wr ?_); (try simp only [go_sem, fN, seval, eT, iR, v0, v2, v3, t2, t4, t900, tb, hlt, dT, dF, nL]); (repeat refine Ai ?_); (try (refine hK _ ?_; clear hK K)); try refine iC ?_)
   refine ⟨rfl, ?_⟩
   simp only [go_sem, fN, seval, eT, iR, v0, v2, v3, t2, t4, t900, tb]
   refine ⟨?_, hrest⟩
   rw [hl, hst]
   congr 4
   omega
 rintro ⟨env, S1⟩ ⟨v0, v2, v3, t2, t4, t900, tb, hrest⟩
 simp only at v0 v2 v3 t2 t4 t900 tb hrest
 have htn := I7 hi
 by_cases h0 : AT s i = i
 ·rw [Om h0] at hok hpan
  have hz : ((AT s i - i : Nat) : Int) = 0 := by omega
  rw [hz] at v3
  by_cases h1 : i = s.size
  ·have ht := htn.2 h1
   rw [if_pos h1] at hpan
   repeat' with_reducible first | refine W ?_ | refine Z0 ?_ | ((first | refine Wx rfl fun K hK => ?_ | refine Wp ?_ | refine Wq ?_ | refine Wr ?_); (try simp only [go_sem, fN, seval, eT, iR, v0, v2, v3, t2, t4, t900, tb, ht, dT, dF, nL]); (repeat refine Ai ?_); (try (refine hK _ ?_; clear hK K)); try refine iC ?_)
   refine IWP.opsPan 1 _ rfl (by kernel_rfl) ?_
   simp only [go_sem, fN, seval, eT, iR, B2, List.take_succ_cons, List.take_zero]
   intro envP
   repeat' (with_reducible first | refine Wy ?_ | refine Wz ?_ | refine Wv ?_)
   exact hpan (by show ¬ (13 : Int) = 0; decide) _ (Co tb hrest)
  ·have ht : ¬ BG s i = ⟨#[]⟩ := fun h => h1 (htn.1 h)
   rw [if_neg h1] at hpan
   repeat' with_reducible first | refine W ?_ | refine Z0 ?_ | ((first | refine Wx rfl fun K hK => ?_ | refine Wp ?_ | refine Wq ?_ | refine Wr ?_); (try simp only [go_sem, fN, seval, eT, iR, v0, v2, v3, t2, t4, t900, tb, ht, dT, dF, nL]); (repeat refine Ai ?_); (try (refine hK _ ?_; clear hK K)); try refine iC ?_)
   refine IWP.opsPan 1 _ rfl (by kernel_rfl) ?_
   simp only [go_sem, fN, seval, eT, iR, B2, List.take_succ_cons, List.take_zero]
   intro envP
   repeat' (with_reducible first | refine Wy ?_ | refine Wz ?_ | refine Wv ?_)
   exact hpan (by show ¬ (12 : Int) = 0; decide) _ (Co tb hrest)
 obtain ⟨n0, hn0⟩ : ∃ n0, AT s i = i + n0 := ⟨AT s i - i, by omega⟩
 have hq : AT s i - i = n0 := by omega
 rw [hq] at v3
 have q1 : ¬ (n0 : Int) = 0 := by omega
 have hin0 : i + n0 ≤ s.size := by omega
 obtain ⟨nm, hnm⟩ : ∃ nm, s.extract i (i + n0) = nm := ⟨_, rfl⟩
 have hext : (BG s i).extract 0 n0 = nm := (QW hin0).trans hnm
 have hdr := tail_drop (s := s) (i := i) (n := n0) hin0
 by_cases h1 : A0 nm = true
 case neg =>
  rw [PB h0 (by rw [hn0, hnm]; exact h1)] at hok hpan
  repeat' (first | (with_reducible first | refine W ?_ | refine Z0 ?_ | ((first | refine Wx rfl fun K hK => ?_ | refine Wp ?_ | refine Wq ?_ | refine Wr ?_); (try simp only [go_sem, fN, seval, eT, iR, v0, v2, v3, t2, t4, t900, tb, q1, hext, h1, dT, dF, nL]); (repeat refine Ai ?_); (try (refine hK _ ?_; clear hK K)); try refine iC ?_)) | refine Cg _ (HP nm) ?_)
  refine IWP.opsPan 1 _ rfl (by kernel_rfl) ?_
  simp only [go_sem, fN, seval, eT, iR, B2, List.take_succ_cons, List.take_zero]
  intro envP
  repeat' (with_reducible first | refine Wy ?_ | refine Wz ?_ | refine Wv ?_)
  refine hpan (by show ¬ (1 : Int) = 0; decide) _ (Co (u := BG s i) (l := 200 - k) ?_ fun i hi hne => ?_)
  ·simp only [go_sem, fN, seval, eT, iR, tb, e4]
  ·have i4 : ¬ i = 4 := by omega
   simp only [go_sem, fN, seval, eT, iR, i4]
   exact hrest i hi hne
 case pos =>
 have hk1 : ((200 : Int) - k - 1 < 0) ↔ 200 < k + 1 := by omega
 by_cases h2 : 200 < k + 1
 ·have h2i : (200 : Int) - k - 1 < 0 := hk1.2 h2
  rw [Nb h0 (by rw [hn0, hnm]; exact h1) h2] at hok hpan
  repeat' (first | (with_reducible first | refine W ?_ | refine Z0 ?_ | ((first | refine Wx rfl fun K hK => ?_ | refine Wp ?_ | refine Wq ?_ | refine Wr ?_); (try simp only [go_sem, fN, seval, eT, iR, v0, v2, v3, t2, t4, t900, tb, q1, hext, h1, h2i, e4, dT, dF, nL]); (repeat refine Ai ?_); (try (refine hK _ ?_; clear hK K)); try refine iC ?_)) | refine Cg _ (HP nm) ?_)
  refine IWP.opsPan 1 _ rfl (by kernel_rfl) ?_
  simp only [go_sem, fN, seval, eT, iR, B2, List.take_succ_cons, List.take_zero]
  intro envP
  repeat' (with_reducible first | refine Wy ?_ | refine Wz ?_ | refine Wv ?_)
  refine hpan (by show ¬ (3 : Int) = 0; decide) _ (Co (u := BG s i) (l := 200 - k - 1) ?_ fun i hi hne => ?_)
  ·simp only [go_sem, fN, seval, eT, iR, tb, e4]
  ·have i4 : ¬ i = 4 := by omega
   simp only [go_sem, fN, seval, eT, iR, i4, hne]
   exact hrest i hi hne
 have h2i : ¬ (200 : Int) - k - 1 < 0 := fun h => h2 (hk1.1 h)
 have hus2 := DD s (i + n0)
 by_cases h3 : Dd (BG s (i + n0)) = true
 case neg =>
  have h3' : AT s i = s.size ∨ Ac s (AT s i) ≠ 40 := by
   rw [hn0]
   by_cases hz : i + n0 = s.size
   ·exact .inl hz
   ·refine .inr fun h40 => h3 ?_
    have hbt := Ej (s := s) (i := i + n0) (k := 0) (by omega)
    rw [Nat.add_zero, h40] at hbt
    unfold Dd
    rw [hbt, hus2]
    simp
    omega
  rw [LU h0 (by rw [hn0, hnm]; exact h1) h2 h3', hn0, hnm] at hok hpan
  repeat' (first | (with_reducible first | refine W ?_ | refine Z0 ?_ | ((first | refine Wx rfl fun K hK => ?_ | refine Wp ?_ | refine Wq ?_ | refine Wr ?_); (try simp only [go_sem, fN, seval, eT, iR, v0, v2, v3, t2, t4, t900, tb, q1, hext, hdr, h1, h2i, h3, e4, d4, e2, d2, dT, dF, nL]); (repeat refine Ai ?_); (try (refine hK _ ?_; clear hK K)); try refine iC ?_)) | refine Cg _ (HP nm) ?_ | refine Cg _ (FR (BG s (i + n0))) ?_)
  refine hok rfl _ ⟨.agg [.st (.str nm), .full []], ?_, ?_, ?_, fun i hi hne => ?_⟩
  ·simp only [go_sem, fN, seval, eT, iR, AB, AD, AI, v0, v2, v3, t2, t4, t900, tb, e4, d4, e2, d2]
  ·simp only [go_sem, fN, seval, eT, iR]
   rfl
  ·simp only [go_sem, fN, seval, eT, iR, tb, e4, e2, hdr]
   rw [show (200 : Int) - ((k + 1 : Nat) : Int) = 200 - k - 1 by omega]
  ·have i4 : ¬ i = 4 := by omega
   have i2 : ¬ i = 2 := by omega
   simp only [go_sem, fN, seval, eT, iR, i4, i2, hne]
   exact hrest i hi hne
 case pos =>
 have h3n : ¬ (AT s i = s.size ∨ Ac s (AT s i) ≠ 40) := by
  unfold Dd at h3
  rw [Bool.and_eq_true, decide_eq_true_eq, decide_eq_true_eq, hus2] at h3
  have hbt := Ej (s := s) (i := i + n0) (k := 0) (by omega)
  rw [hn0]
  intro h
  rcases h with h | h
  ·omega
  ·exact h (by rw [Nat.add_zero] at hbt; rw [← hbt]; exact h3.2)
 by_cases h4 : AQ nm = true
 ·rw [Oz h0 (by rw [hn0, hnm]; exact h1) h2 h3n (by rw [hn0, hnm]; exact h4)] at hok hpan
  repeat' (first | (with_reducible first | refine W ?_ | refine Z0 ?_ | ((first | refine Wx rfl fun K hK => ?_ | refine Wp ?_ | refine Wq ?_ | refine Wr ?_); (try simp only [go_sem, fN, seval, eT, iR, v0, v2, v3, t2, t4, t900, tb, q1, hext, hdr, h1, h2i, h3, h4, e4, d4, e2, d2, dT, dF, nL]); (repeat refine Ai ?_); (try (refine hK _ ?_; clear hK K)); try refine iC ?_)) | refine Cg _ (HP nm) ?_ | refine Cg _ (FR (BG s (i + n0))) ?_ | refine Cg _ (Aj nm) ?_)
  refine IWP.opsPan 1 _ rfl (by kernel_rfl) ?_
  simp only [go_sem, fN, seval, eT, iR, B2, List.take_succ_cons, List.take_zero]
  intro envP
  repeat' (with_reducible first | refine Wy ?_ | refine Wz ?_ | refine Wv ?_)
  refine hpan (by show ¬ (2 : Int) = 0; decide) _ (Co (u := BG s (i + n0)) (l := 200 - k - 1) ?_ fun i hi hne => ?_)
  ·simp only [go_sem, fN, seval, eT, iR, tb, e4, hdr]
  ·have i4 : ¬ i = 4 := by omega
   simp only [go_sem, fN, seval, eT, iR, i4, hne]
   exact hrest i hi hne
 rw [PC h0 (by rw [hn0, hnm]; exact h1) h2 h3n (by rw [hn0, hnm]; exact h4), hn0, hnm] at hok hpan
 have hlt0 : i + n0 < s.size := by
  have : AT s i ≠ s.size := fun h => h3n (.inl h)
  omega
 have hf0 : 2 * (s.size - (i + n0)) ≤ f := by omega
 generalize i + n0 = to at *
 repeat' (first | (with_reducible first | refine W ?_ | refine Z0 ?_ | ((first | refine Wx rfl fun K hK => ?_ | refine Wp ?_ | refine Wq ?_ | refine Wr ?_); (try simp only [go_sem, fN, seval, eT, iR, v0, v2, v3, t2, t4, t900, tb, q1, hext, hdr, h1, h2i, h3, h4, e4, d4, e2, d2, dT, dF, nL]); (repeat refine Ai ?_); (try (refine hK _ ?_; clear hK K)); try refine iC ?_)) | refine Cg _ (HP nm) ?_ | refine Cg _ (FR (BG s to)) ?_ | refine Cg _ (Aj nm) ?_)
 generalize hr : rdA s f nm [] to (k + 1) = r at hok hpan
 refine IWP.ghost (Ae.ownC 4 1 900 32 2 (xs := ([] : List Tm).map Ay) (by simp only [go_sem, fN, seval, eT, iR, e4, d4, e2, d2, t4]; rfl) rfl (by simp only [go_sem, fN, seval, eT, iR, t900, d900, e900]) C8) ?_
 refine IWP.loop (fun m x => ∃ (acc : List Tm) (j c : Nat) (more : Bool), Uq s r f nm acc j c more ∧ m = s.size - j ∧ c ≤ 200 ∧ acc.length ≤ c ∧ x.env 0 = .one (.ptr b 1 0 0) ∧ x.env 2 = .one (.ptr 2 1 0 0) ∧ x.env 4 = .one (.ptr 4 1 0 0) ∧ x.env 5 = Af more ∧ x.S 2 = some GS ∧ x.S 4 = some (.box 32 [.st (.str nm), .row 900 acc.length]) ∧ x.S 900 = some (.arow 32 2 (acc.map Ay)) ∧ x.S b = some (LT (BG s j) (200 - c)) ∧ ∀ i, 1000 ≤ i → i ≠ b → x.S i = S i)
  (s.size - to) ⟨[], to, k + 1, true, .inl ⟨rfl, f, hr.symm, hf0, Nat.le_refl _, hlt0⟩, rfl, by omega, by simp, ?_⟩ ?_
 ·simp only [go_sem, fN, seval, eT, iR, v0, v2, v3, t2, t4, t900, tb, e4, d4, e2, d2, e900, d900]
  refine ⟨rfl, by rw [show (200 : Int) - ((k + 1 : Nat) : Int) = 200 - k - 1 by omega], fun i' hi' hne' => ?_⟩
  have i4 : ¬ i' = 4 := by omega
  have i900 : ¬ i' = 900 := by omega
  simp only [go_sem, fN, seval, eT, iR, i4, i900, hne']
  exact hrest i' hi' hne'
 clear hr hf0 hlt0 v0 v2 v3 t2 t4 t900 tb hrest hext hdr hnm h3 h3n hus2 hin0 hq
 rintro m ⟨env, S2⟩ ⟨acc, j, c, more, hinv, rfl, hc, hac, v0, v2, v4, v5, t2, t4, t900, tb, hrest⟩
 simp only at v0 v2 v4 v5 t2 t4 t900 tb hrest
 have hal : (acc.map Ay).length = acc.length := List.length_map _
 have husj := DD s j
 rcases hinv with ⟨rfl, g, hr, hg, hgf, hj⟩ | ⟨rfl, hr, hj⟩
 ·have hdr := tail_drop (s := s) (i := j) (n := 1) (by omega)
  obtain ⟨g, rfl⟩ : ∃ g', g = g' + 1 := ⟨g - 1, by omega⟩
  have hcall := fun S' (h : S' (up1 b) = some (LT (BG s (j + 1)) (200 - c))) => ih g (by omega) (j + 1) c (by omega) hc (by omega) (up1 b) S' (Ar b) h
  have hq := Ov s g (j + 1) c (by omega) hc (by omega)
  have hqle := hq.le
  have hqin := hq.in_
  by_cases he : (rd s g (j + 1) c).e = 0
  case neg =>
   rw [O0 he] at hr
   repeat' (first | (with_reducible first | refine W ?_ | refine Z0 ?_) | (first | refine IWP.opsPan 3 ⟨some 90, none, .callS 38 [.t 89], .keeps [4, 4]⟩ rfl (by kernel_rfl) ?_) | (with_reducible ((first | refine Wx rfl fun K hK => ?_ | refine Wp ?_ | refine Wq ?_ | refine Wr ?_); (try simp only [go_sem, fN, seval, eT, iR, v0, v2, v4, v5, t2, t4, t900, tb, hdr, e4, d4, e2, d2, e900, d900, dT, dF, nL]); (repeat refine Ai ?_); (try (refine hK _ ?_; clear hK K)); try refine iC ?_)))
   simp only [go_sem, fN, seval, eT, iR, B2, List.take_succ_cons, List.take_zero, v0, v2, v4, v5, t2, t4, t900, tb, hdr, e4, d4, e2, d2, e900, d900]
   subst hr
   refine ⟨_, _, (hcall _ (by rw [As, AE]; rfl)).2 he, fun envP => ?_⟩
   repeat' (with_reducible first | refine Wy ?_ | refine Wz ?_ | refine Wv ?_)
   refine hpan he _ ⟨.inr ?_, fun i hi hne => ?_⟩
   ·simp only [go_sem, fN, seval, eT, iR]
   ·simp only [go_sem, fN, seval, eT, iR, hne]
    exact hrest i hi hne
  case pos =>
  obtain ⟨o1, o2, o3, o4⟩ := hq.ok he
  have husq := DD s (rd s g (j + 1) c).i
  have hnq := I7 hqin
  repeat' with_reducible first | refine W ?_ | refine Z0 ?_ | ((first | refine Wx rfl fun K hK => ?_ | refine Wp ?_ | refine Wq ?_ | refine Wr ?_); (try simp only [go_sem, fN, seval, eT, iR, v0, v2, v4, v5, t2, t4, t900, tb, hdr, e4, d4, e2, d2, e900, d900, dT, dF, nL]); (repeat refine Ai ?_); (try (refine hK _ ?_; clear hK K)); try refine iC ?_)
  refine ⟨_, _, (hcall _ (by rw [As, AE]; rfl)).1 he, ?_⟩
  have c1 := fun h => hr.trans (KZ (n := nm) (acc := acc) he h)
  have c2 := fun h h' => hr.trans (KF (n := nm) (acc := acc) he h h')
  have c3 := fun h h' h'' => hr.trans (R_ (n := nm) (acc := acc) he h h' h'')
  have c4 := fun h h' h'' => hr.trans (Mc (n := nm) (acc := acc) he h h' h'')
  clear hcall ih hr
  generalize rd s g (j + 1) c = q at *
  have hal2 : acc.length + 1 ≤ 1000000 := by omega
  by_cases q1 : q.i = s.size
  ·have hq1 := hnq.2 q1
   rw [c1 q1] at hpan
   repeat' with_reducible first | refine W ?_ | refine Z0 ?_ | ((first | refine Wx rfl fun K hK => ?_ | refine Wp ?_ | refine Wq ?_ | refine Wr ?_); (try simp only [go_sem, fN, seval, eT, iR, v0, v2, v4, v5, t2, t4, t900, tb, hdr, e4, d4, e2, d2, e900, d900, hal, hq1, dT, dF, nL]); (repeat refine Ai ?_); (try (refine hK _ ?_; clear hK K)); try refine iC ?_)
   refine IWP.opsPan 1 _ rfl (by kernel_rfl) ?_
   simp only [go_sem, fN, seval, eT, iR, B2, List.take_succ_cons, List.take_zero]
   intro envP
   repeat' (with_reducible first | refine Wy ?_ | refine Wz ?_ | refine Wv ?_)
   refine hpan (by show ¬ (13 : Int) = 0; decide) _ (Co (u := BG s q.i) (l := 200 - q.k) ?_ fun i hi hne => ?_)
   ·simp only [go_sem, fN, seval, eT, iR, e4, e900, hq1]
   ·have i4 : ¬ i = 4 := by omega
    have i900 : ¬ i = 900 := by omega
    simp only [go_sem, fN, seval, eT, iR, i4, i900, hne]
    exact hrest i hi hne
  have hq1 : ¬ BG s q.i = ⟨#[]⟩ := fun h => q1 (hnq.1 h)
  have hbt := Ej (s := s) (i := q.i) (k := 0) (by omega)
  rw [Nat.add_zero] at hbt
  by_cases q2 : CU (BG s q.i) 0 = 41
  ·have hr := c2 q1 (by rw [← hbt]; exact q2)
   repeat' with_reducible first | refine W ?_ | refine Z0 ?_ | ((first | refine Wx rfl fun K hK => ?_ | refine Wp ?_ | refine Wq ?_ | refine Wr ?_); (try simp only [go_sem, fN, seval, eT, iR, v0, v2, v4, v5, t2, t4, t900, tb, hdr, e4, d4, e2, d2, e900, d900, hal, hq1, q2, dT, dF, nL]); (repeat refine Ai ?_); (try (refine hK _ ?_; clear hK K)); try refine iC ?_)
   refine AG ⟨s.size - q.i, by omega, acc ++ [q.t], q.i, q.k, false, .inr ⟨rfl, hr, by omega⟩, rfl, o2, by simp; omega, ?_⟩
   simp only [go_sem, fN, seval, eT, iR, v0, v2, v4, v5, t2, t4, t900, tb, e4, d4, e2, d2, e900, d900, hal]
   refine ⟨by rw [De], fun i hi hne => ?_⟩
   have i4 : ¬ i = 4 := by omega
   have i900 : ¬ i = 900 := by omega
   simp only [go_sem, fN, seval, eT, iR, i4, i900, hne]
   exact hrest i hi hne
  by_cases q3 : CU (BG s q.i) 0 = 44
  ·have hr := c3 q1 (by rw [← hbt]; exact q2) (by rw [← hbt]; exact q3)
   repeat' with_reducible first | refine W ?_ | refine Z0 ?_ | ((first | refine Wx rfl fun K hK => ?_ | refine Wp ?_ | refine Wq ?_ | refine Wr ?_); (try simp only [go_sem, fN, seval, eT, iR, v0, v2, v4, v5, t2, t4, t900, tb, hdr, e4, d4, e2, d2, e900, d900, hal, hq1, q2, q3, dT, dF, nL]); (repeat refine Ai ?_); (try (refine hK _ ?_; clear hK K)); try refine iC ?_)
   refine AG ⟨s.size - q.i, by omega, acc ++ [q.t], q.i, q.k, true, .inl ⟨rfl, g, hr, by omega, by omega, by omega⟩, rfl, o2, by simp; omega, ?_⟩
   simp only [go_sem, fN, seval, eT, iR, v0, v2, v4, v5, t2, t4, t900, tb, e4, d4, e2, d2, e900, d900, hal]
   refine ⟨by rw [De], fun i hi hne => ?_⟩
   have i4 : ¬ i = 4 := by omega
   have i900 : ¬ i = 900 := by omega
   simp only [go_sem, fN, seval, eT, iR, i4, i900, hne]
   exact hrest i hi hne
  ·rw [c4 q1 (by rw [← hbt]; exact q2) (by rw [← hbt]; exact q3)] at hpan
   repeat' with_reducible first | refine W ?_ | refine Z0 ?_ | ((first | refine Wx rfl fun K hK => ?_ | refine Wp ?_ | refine Wq ?_ | refine Wr ?_); (try simp only [go_sem, fN, seval, eT, iR, v0, v2, v4, v5, t2, t4, t900, tb, hdr, e4, d4, e2, d2, e900, d900, hal, hq1, q2, q3, dT, dF, nL]); (repeat refine Ai ?_); (try (refine hK _ ?_; clear hK K)); try refine iC ?_)
   refine IWP.opsPan 1 _ rfl (by kernel_rfl) ?_
   simp only [go_sem, fN, seval, eT, iR, B2, List.take_succ_cons, List.take_zero]
   intro envP
   repeat' (with_reducible first | refine Wy ?_ | refine Wz ?_ | refine Wv ?_)
   refine hpan (by show ¬ (12 : Int) = 0; decide) _ (Co (u := BG s q.i) (l := 200 - q.k) ?_ fun i hi hne => ?_)
   ·simp only [go_sem, fN, seval, eT, iR, e4, e900]
   ·have i4 : ¬ i = 4 := by omega
    have i900 : ¬ i = 900 := by omega
    simp only [go_sem, fN, seval, eT, iR, i4, i900, hne]
    exact hrest i hi hne
 ·have hdr := tail_drop (s := s) (i := j) (n := 1) (by omega)
  subst hr
  repeat' with_reducible first | refine W ?_ | refine Z0 ?_ | ((first | refine Wx rfl fun K hK => ?_ | refine Wp ?_ | refine Wq ?_ | refine Wr ?_); (try simp only [go_sem, fN, seval, eT, iR, v0, v2, v4, v5, t2, t4, t900, tb, hdr, e4, d4, e2, d2, e900, d900, dT, dF, nL]); (repeat refine Ai ?_); (try (refine hK _ ?_; clear hK K)); try refine iC ?_)
  refine hok rfl _ ⟨.agg [.st (.str nm), .row 900 acc.length], ?_, ?_, ?_, fun i hi hne => ?_⟩
  ·simp only [go_sem, fN, seval, eT, iR, AB, AD, AI, v0, v2, v4, t2, t4, t900, tb, e4, d4, e2, d2, e900, d900]
  ·simp only [go_sem, fN, seval, eT, iR, t900, e900, d900, hal]
   rfl
  ·simp only [go_sem, fN, seval, eT, iR, tb, e4, e2, e900, hdr]
  ·have i2 : ¬ i = 2 := by omega
   simp only [go_sem, fN, seval, eT, iR, i2, hne]
   exact hrest i hi hne

def Ip (S : AA) (ι : Au) (σ : Sto) (w : World) (S' : AA) (w' : World) : Prop := ∃ σ' ι', At S' ∧ Upd S ι S' ι' ∧ C2 σ' S' ι' w' ∧ Fit σ' w' ∧ (∀ p x, σ p = some x → σ' p = some x) ∧
 (∀ p : Addr, p.block < w.heap.size → Bn S ι p.block → σ' p = σ p) ∧ (w'.os = w.os ∧ w'.tape = w.tape ∧ w'.output = w.output) ∧ w.heap.size ≤ w'.heap.size ∧
 (∀ g, g < w.heap.size → Bn S ι g → w'.heap[g]? = w.heap[g]?) ∧ (∀ id b g, S' id = some b → (ι' id).g = some g → w.heap.size ≤ g ∨ ¬ Bn S ι g)
theorem Ip.refl {S : AA} {ι : Au} {σ : Sto} {w : World} (h1 : At S) (h2 : C2 σ S ι w) (h3 : Fit σ w) : Ip S ι σ w S w :=
 ⟨σ, ι, h1, Upd.refl _ _, h2, h3, fun _ _ h => h, fun _ _ _ => rfl, ⟨rfl, rfl, rfl⟩, Nat.le_refl _, fun _ _ _ => rfl, fun id b g hb hg => .inr fun hn => hn id b hb hg⟩
def SU (P : Program) (f : FuncId) (xs : List AV) (S : AA) (u u' : FrameMode) (S' : AA) : Prop :=
 At S → ∀ (σ : Sto) (w : World) (vs : List Value) (ι : Au), Br σ → Fit σ w → C2 σ S ι w → Ab (AN σ S ι) vs xs →
  CallsD P f vs.toArray u w fun e u1 w' => (∃ v, e = .returned v) ∧ u1 = u' ∧ Ip S ι σ w S' w'
section
variable {P : Program} {C : Ctx} {a : Act} {w : World} {σ : Sto} {ι : Au} {s : AS}
theorem Gl (R : AP C σ ι s a w) : C2 σ (upS s.S) (fun i => ι (dn1 i)) w := by
 have hup : ∀ i, dn1 (up1 i) = i := Hw
 have hS : ∀ i b, s.S i = some b → upS s.S (up1 i) = some (b.ren up1) := fun i b hb => FJ hb
 have hι : ∀ i b, s.S i = some b → (fun i => ι (dn1 i)) (up1 i) = ι i := fun i b _ => by show ι (dn1 (up1 i)) = _; rw [hup]
 refine ⟨fun id b hb => ?_, fun id id' b b' g h1 h2 g1 g2 => ?_⟩
 ·obtain ⟨hle, b', h1, rfl⟩ := CO hb
  exact Bv.ren (S2 := upS s.S) (ι2 := fun i => ι (dn1 i)) (ρ := up1) hS hι (R.blk _ _ h1)
 ·obtain ⟨l1, c1, k1, _⟩ := CO h1
  obtain ⟨l2, c2, k2, _⟩ := CO h2
  have := R.inj _ _ _ _ g k1 k2 g1 g2
  rw [← G5 l1, ← G5 l2, this]
theorem Ni (R : AP C σ ι s a w) {v : Value} {av : AV} (h : AN σ s.S ι v av) : AN σ (upS s.S) (fun i => ι (dn1 i)) v (av.ren up1) :=
 AN.ren (S2 := upS s.S) (ι2 := fun i => ι (dn1 i)) (ρ := up1) (fun i b hb => FJ hb) (fun i b _ => by show ι (dn1 (up1 i)) = _; rw [Hw]) h
theorem Mh {S' : AA} {w' : World} (R : AP C σ ι s a w) (h : Ip (upS s.S) (fun i => ι (dn1 i)) σ w S' w') : Az C ⟨s.env, dnS S'⟩ a w' := by
 obtain ⟨σ', ι', hclean, hupd, hown', hf', hkeep, hold, hos, hsz, hsame, hbase⟩ := h
 have hup : ∀ i, dn1 (up1 i) = i := Hw
 have hS : ∀ i b, s.S i = some b → upS s.S (up1 i) = some (b.ren up1) := fun i b hb => FJ hb
 have hSd : ∀ i b, S' i = some b → dnS S' (dn1 i) = some (b.ren dn1) := fun i b hb => Jl (hclean i b hb).1 hb
 obtain ⟨ι2, hι2⟩ : ∃ ι2 : Au, ∀ i, ι2 i = ι' (up1 i) := ⟨fun i => ι' (up1 i), fun _ => rfl⟩
 have hιd : ∀ i b, S' i = some b → ι2 (dn1 i) = ι' i := fun i b hb => by
  rw [hι2, G5 (hclean i b hb).1]
 have hu : Upd s.S ι (dnS S') ι2 := fun id b hb => by
  obtain ⟨b', h1, h2, h3⟩ := hupd _ _ (hS id b hb)
  have h4 := hSd _ _ h1
  rw [hup] at h4
  refine ⟨_, h4, by rw [BT] at h2 ⊢; exact h2, fun hl => ?_⟩
  rw [BT] at hl
  obtain ⟨q1, q2⟩ := h3 (by rw [BT]; exact hl)
  refine ⟨by rw [G9] at q1 ⊢; exact q1, ?_⟩
  rw [hι2, q2]
  show ι (dn1 (up1 id)) = _
  rw [hup]
 have hnot : ∀ g, g < C.N → ¬ C.G g → Bn (upS s.S) (fun i => ι (dn1 i)) g := fun g h1 h2 id b hb hg => by
  obtain ⟨_, b', k1, _⟩ := CO hb
  rcases R.base _ _ g k1 hg with h | h
  ·omega
  ·exact h2 h
 refine ⟨σ', ι2, R.size, fun i hi => (R.env i hi).mono hkeep hu, R.nod.mono (fun D h => (hsame D (Array.getElem?_eq_some_iff.1 h).1 (Di (Gl R).1 h)).trans h), hf', fun id b hb => ?_, fun id id' b b' g h1 h2 g1 g2 => ?_, fun id b g hb hg => ?_, fun p x hx => hkeep _ _ (R.ext p x hx), fun p h1 h2 => ?_, ⟨hos.1.trans R.os.1, hos.2.1.trans R.os.2.1, hos.2.2.trans R.os.2.2⟩, ⟨Nat.le_trans R.grown.1 hsz, Nat.le_trans R.grown.2 hsz⟩, fun g h1 h2 => ?_, R.upd.trans hu⟩
 ·obtain ⟨b', h1, rfl⟩ := Ci hb
  have := Bv.ren (S2 := dnS S') (ι2 := ι2) (ρ := dn1) hSd hιd (hown'.1 _ _ h1)
  rw [hι2]
  exact this
 ·obtain ⟨c1, k1, _⟩ := Ci h1
  obtain ⟨c2, k2, _⟩ := Ci h2
  rw [hι2] at g1 g2
  have := congrArg dn1 (hown'.2 _ _ _ _ g k1 k2 g1 g2)
  rw [hup, hup] at this
  exact this
 ·obtain ⟨b', h1, _⟩ := Ci hb
  rw [hι2] at hg
  rcases hbase _ _ g h1 hg with h2 | h2
  ·exact .inl (by have := R.grown.1; omega)
  ·by_cases hN : g < C.N
   ·by_cases hG : C.G g
    ·exact .inr hG
    ·exact absurd (hnot g hN hG) h2
   ·exact .inl (by omega)
 ·exact (hold p (by have := R.grown.1; omega) (hnot _ h1 h2)).trans (R.old p h1 h2)
 ·exact (hsame g (by have := R.grown.1; omega) (hnot g h1 h2)).trans (R.same g h1 h2)
theorem GF {fn : Func} {g : FuncId} {vs : List Value} {avs : List AV} {u u' : FrameMode} {S' : AA} {K : Ending → World → Prop} (R : AP C σ ι s a w) (hpl : Bu P g = true) (hvs : Ab (AN σ s.S ι) vs avs) (hu : u ≠ .run)
  (hd : SU P g (AV.rens up1 avs) (upS s.S) u u' S') (hset : settle u' = .returning) (hfin : ∀ w', Az C ⟨s.env, dnS S'⟩ a w' → ∃ v, (results fn a.tmps).run P w' = .ok v w' ∧ K (.returned v) w') :
  Leaves P fn a.tmps K [{ target := .fn (.func g) vs.toArray, args := #[] }] u w := by
 refine leaves_cons (f := g) (args := vs.toArray) hu ?_ ?_
 ·have := DF (P := P) (w := w) (args := vs.toArray) hpl
  simpa [invoke] using this
 ·have hargs : Ab (AN σ (upS s.S) (fun i => ι (dn1 i))) vs (AV.rens up1 avs) := by
   rw [AV.rens_eq]
   exact (hvs.mono fun _ _ x => Ni R x).map_right
  refine (hd (Ft _) σ w vs _ (C.glob.mono R.ext) R.fit (Gl R) hargs).mono fun e u1 w' he => ?_
  obtain ⟨⟨v, rfl⟩, rfl, hb⟩ := he
  dsimp only
  rw [hset]
  exact hfin w' (Mh R hb)
end
theorem JN {P : Program} {w : World} {x t : TypeId} {k : IntKind} {z : Value} (hd : P.underlying t = some (.int k)) (hz : (P.info? t).bind (·.zero) = some z) : (Instr.typeAssert .nilIface x t true).run P w = .ok (.tuple #[z, .bool false]) w := by
 rw [Option.bind_eq_some_iff] at hz
 obtain ⟨i, hi, hz⟩ := hz
 unfold Instr.typeAssert
 simp [run_underlying hd, zeroValue, run_typeInfo w hi, hz]
theorem JA {P : Program} {w : World} {x t : TypeId} {k : IntKind} {v : Value} (hd : P.underlying t = some (.int k)) : (Instr.typeAssert (.iface t v) x t true).run P w = .ok (.tuple #[v, .bool true]) w := by
 unfold Instr.typeAssert
 simp [run_underlying hd]
theorem KG {C : Ctx} {S : AA} {ι : Au} {σ : Sto} {w w' : World} {s : AS} {a : Act} (hC : C.N = w.heap.size ∧ (C.G = fun g => ¬ Bn S ι g) ∧ C.σ0 = σ ∧ C.w0 = w ∧ C.S0 = S ∧ C.ι0 = ι) (hS : At s.S) (h : Az C s a w') : Ip S ι σ w s.S w' := by
 obtain ⟨h1, h2, h3, h4, h5, h6⟩ := hC
 obtain ⟨σ', ι', R⟩ := h
 have ho := R.old
 have hu := R.upd
 have he := R.ext
 have hs := R.same
 have hb := R.base
 have hg := R.grown
 have hos := R.os
 rw [h1, h2] at ho hs hb
 rw [h3] at ho he
 rw [h4] at hs hg hos
 rw [h5, h6] at hu
 exact ⟨σ', ι', hS, hu, ⟨R.blk, R.inj⟩, R.fit, he, fun p q1 q2 => ho p q1 (fun h => h q2), hos, hg.2, fun g q1 q2 => hs g q1 (fun h => h q2), fun id b g q1 q2 => hb id b g q1 q2⟩
def Uc (P : Program) (g : FuncId) (avs : List AV) (rs : List RV) (r : AV) : AX → AS → Prop
 | .normal, s | .ret, s => ∃ S', SU P g (AV.rens up1 avs) (upS s.S) .returning .returning S' ∧ (⟨s.env, dnS S'⟩ : AS).result rs = some r
 | .pan v, s => ∃ u' S', SU P g (AV.rens up1 avs) (upS s.S) (.panicking [{ v := v, recovered := false }]) u' S' ∧ settle u' = .returning ∧ (⟨s.env, dnS S'⟩ : AS).result rs = some r
 | _, _ => False
def AS.up (s : AS) : AS := ⟨fun i => (s.env i).ren up1, upS s.S⟩
section
variable {P : Program}
theorem Dj {n : Nat} {mu : List Nat} {c : Code} {x y : IR} (h : A_ P n mu c = some (.seq x y)) : ∃ c1 c2, c = .seq c1 c2 ∧ A_ P n mu c1 = some x ∧ A_ P n mu c2 = some y := by
 cases c <;> simp only [A_] at h
 case seq c1 c2 =>
  split at h
  ·rename_i x' y' e1 e2
   cases h
   exact ⟨c1, c2, rfl, e1, e2⟩
  ·cases h
 all_goals (exfalso; revert h; (repeat' split) <;> simp)
def Ud : Code → Code
 | .seq _ (.seq _ (.seq d _)) => d
 | c => c
theorem L8 {f : FuncId} {fn : Func} {mu : List Nat} {c : Code} {xA xB xD xE : IR} {rs : List RV} {xs : List AV} {r : AV} {g t id : Nat} {caps : Array Operand} {xs' : List Opd} {oM oF : Oper} {ts : Array TypeId}
  (hf : P.funcs[f]? = some fn) (hb : fn.body = some c) (hx : A_ P fn.ntmps mu c = some (.seq xA (.seq xB (.seq xD xE)))) (hr : Dy P fn.ntmps fn.results.toList = some rs) (hn : xs.length ≤ fn.ntmps)
  (hD : Ud c = .region id #[oM, oF] false) (hM1 : oM.op = .makeFunc (.func g) #[] caps) (hM2 : oM.dst = some t) (hM3 : oM.guard = none) (hF1 : oF.op = .defer { callee := .value (.tmp t), args := #[], argTypes := ts }) (hF2 : oF.dst = none) (hF3 : oF.guard = none) (ht : t < fn.ntmps)
  (hcaps : Bq fn.ntmps caps.toList = some xs') (hpl : Bu P g = true)
  (h : ∀ C : Ctx, C.n = fn.ntmps → IWP P C mu xA (AX.then (fun s => IWP P C mu xB (AX.then (fun s => ∃ cs, s.caps xs' = some cs ∧ ∀ C' : Ctx, C'.n = fn.ntmps → IWP P C' mu xE (Uc P g (cs.map fun c => (AV.one c).ren up1) rs r) (s.put (some t) (.one (.fn g cs))).up) (AO rs r)) s) (AO rs r)) (AS.start xs)) : Aa P f xs r := by
 intro σ w vs hglob hfit hvs
 have hl := hvs.len
 let C : Ctx := ⟨fn.ntmps, w.heap.size, fun _ => False, σ, w, noS, noH, fun i b h => by simp [noS] at h, hglob, [], none, true⟩
 obtain ⟨A, c2, rfl, hA, h2⟩ := Dj hx
 obtain ⟨B, c3, rfl, hB, h3⟩ := Dj h2
 obtain ⟨D, E, rfl, hD', hE⟩ := Dj h3
 have hD : D = .region id #[oM, oF] false := hD
 subst hD
 refine calls_of_wp_defers hf hb ?_
 have R0 : AP C σ noH (AS.start xs) { tmps := vs.toArray ++ Array.replicate (fn.ntmps - vs.toArray.size) undef, defers := [] } w := by
  refine ⟨by simp [C]; omega, fun i hi => ?_, ER, hfit, fun id b h => by simp [AS.start, noS] at h, fun id id' b b' g h => by simp [AS.start, noS] at h, fun id b g h => by simp [AS.start, noS] at h, fun _ _ h => h, fun _ _ _ => rfl, ⟨rfl, rfl, rfl⟩, ⟨Nat.le_refl _, Nat.le_refl _⟩, fun _ _ _ => rfl, Upd.refl _ _⟩
  show AN σ noS noH _ ((xs[i]?).getD (.tup []))
  rw [Array.getD_eq_getD_getElem?]
  by_cases hlt : i < vs.length
  ·rw [Array.getElem?_append_left (by simpa using hlt)]
   obtain ⟨b, hb1, hb2⟩ := hvs.get' (List.getElem?_eq_getElem hlt)
   rw [hb1]
   simpa [hlt] using hb2
  ·rw [Array.getElem?_append_right (by simp; omega), List.getElem?_eq_none (by omega)]
   have hi' : i < fn.ntmps := hi
   rw [Array.getElem?_replicate, if_pos (by simp; omega)]
   exact .tup (fun _ => undef) rfl (by simp) (by simp)
 have early : ∀ (s : AS) (a' : Act) (w' : World), s.result rs = some r → Az C s a' w' → Leaves P fn a'.tmps (fun e w' => ∃ v σ', e = .returned v ∧ AN σ' noS noH v r ∧ Fit σ' w' ∧ Ext w.heap.size σ σ' ∧ Below w.heap.size w w') a'.defers .returning w' := by
  intro s a' w' hs hH
  obtain ⟨σ', ι', R'⟩ := hH
  obtain ⟨v, v1, v2⟩ := Lk R' (fn := fn) hr hs
  have hnod : a'.defers = [] := R'.nod.none rfl
  rw [hnod]
  exact ⟨v, v1, v, σ', rfl, v2, R'.fit, ⟨R'.ext, fun p hp => R'.old p hp (fun h => h)⟩, ⟨R'.os.1, R'.os.2.1, R'.os.2.2, R'.grown.2, fun k hk => R'.same k hk (fun h => h)⟩⟩
 refine wp_seq (wp_mono (wpIn_wide.1 (h C rfl A hA _ w ⟨σ, noH, R0⟩)) fun e a' w' he => ?_)
 cases e with
 | normal =>
  obtain ⟨s, hs, hH⟩ := he
  refine wp_seq (wp_mono (wpIn_wide.1 (hs B hB a' w' hH)) fun e a' w' he => ?_)
  cases e with
  | normal =>
   obtain ⟨s, ⟨cs, hcs, hwalk⟩, ⟨σ1, ι1, R⟩⟩ := he
   refine wp_seq ?_
   have rc := JX R hcaps hcs
   have ecap : (caps.toList.map a'.eval).toArray = caps.map a'.eval := by rw [← Array.toList_map, Array.toArray_toList]
   have hv : AN σ1 s.S ι1 (.func (.func g) #[] (caps.map a'.eval)) (.one (.fn g cs)) := by
    rw [← ecap]
    refine .one (.fn (fun j => ((caps.toList.map a'.eval)[j]?).getD undef) (by simpa using rc.len) (fun j b hb => ?_) (fun j b hb => ?_))
    ·obtain ⟨v, v1, v2⟩ := rc.get hb
     rw [v1]
     simpa using v1
    ·obtain ⟨v, v1, v2⟩ := rc.get hb
     rw [v1]
     exact v2
   have rf : (execOp a'.eval oM).run P w' = .ok (.value (.func (.func g) #[] (caps.map a'.eval))) w' := by
    simp [execOp, hM1, Instr.makeFunc]
   have R1 := R.put (d := some t) hv
   have hta : t < a'.tmps.size := Nat.lt_of_lt_of_le ht R.size
   have hev : (a'.put (some t) (.func (.func g) #[] (caps.map a'.eval))).eval (.tmp t) = .func (.func g) #[] (caps.map a'.eval) := by
    simp [Act.eval, Act.put, hta]
   have rF : (execOp (a'.put (some t) (.func (.func g) #[] (caps.map a'.eval))).eval oF).run P w' = .ok (.defer { target := .fn (.func g) (caps.map a'.eval), args := #[] }) w' := by
    simp [execOp, hF1, resolve, hev, Deferred.ofValue]
   refine wp_region ?_
   show wpOps P #[oM, oF] _ [0, 1] a' w'
   rw [wpOps_cons]
   show (if Region.wanted oM _ then _ else _)
   rw [if_pos (by simp [Region.wanted, hM3])]
   refine .inl ?_
   show Oper.wp P oM a' w' _ _
   unfold Oper.wp
   rw [rf, Oper.upon_value, hM2, wpOps_cons]
   show (if Region.wanted oF _ then _ else _)
   rw [if_pos (by simp [Region.wanted, hF3])]
   refine .inl ?_
   show Oper.wp P oF _ w' _ _
   unfold Oper.wp
   rw [rF, Oper.upon_defer, hF2]
   let C' : Ctx := ⟨fn.ntmps, w.heap.size, fun _ => False, σ1, w', upS s.S, fun i => ι1 (dn1 i), Ft _, hglob.mono R.ext, [{ target := .fn (.func g) (caps.toList.map a'.eval).toArray, args := #[] }], none, true⟩
   have hnod0 : a'.defers = [] := R.nod.none rfl
   have RC : AP C' σ1 (fun i => ι1 (dn1 i)) (s.put (some t) (.one (.fn g cs))).up { a'.put (some t) (.func (.func g) #[] (caps.map a'.eval)) with defers := { target := .fn (.func g) (caps.map a'.eval), args := #[] } :: (a'.put (some t) (.func (.func g) #[] (caps.map a'.eval))).defers } w' := by
    refine ⟨R1.size, fun i hi => Ni R1 (R1.env i hi), ?_, R1.fit, (Gl R1).1, (Gl R1).2, fun id b g hb hg => ?_, fun _ _ h => h, fun _ _ _ => rfl, ⟨rfl, rfl, rfl⟩, ⟨R.grown.1, Nat.le_refl _⟩, fun _ _ _ => rfl, Upd.refl _ _⟩
    ·have e0 : ({ target := .fn (.func g) (caps.map a'.eval), args := #[] } : Deferred) :: a'.defers = C'.ds := by rw [hnod0, ← ecap]
     have m0 : Gh C' C'.ds w' := ER
     rw [← e0] at m0
     exact m0
    ·obtain ⟨_, b', k1, _⟩ := CO hb
     exact R1.base _ _ g k1 hg
   have hvs1 : Ab (AN σ1 (upS s.S) (fun i => ι1 (dn1 i))) (caps.toList.map a'.eval) (cs.map fun c => (AV.one c).ren up1) := (rc.mono fun _ _ x => Ni R (.one x)).map_right
   have fin : ∀ (s4 : AS) (a4 : Act) (w4 : World), s4.result rs = some r → Az C' s4 a4 w4 → ∃ v, (results fn a4.tmps).run P w4 = .ok v w4 ∧ ∃ v1 σ', Ending.returned v = .returned v1 ∧ AN σ' noS noH v1 r ∧ Fit σ' w4 ∧ Ext w.heap.size σ σ' ∧ Below w.heap.size w w4 := fun s4 a4 w4 hs4 hH4 => by
    obtain ⟨σ4, ι4, R4⟩ := hH4
    obtain ⟨v, v1, v2⟩ := Lk R4 (fn := fn) hr hs4
    exact ⟨v, v1, v, σ4, rfl, v2, R4.fit, ⟨fun p x hp => R4.ext p x (R.ext p x hp), fun p hp => (R4.old p hp (fun h => h)).trans (R.old p hp (fun h => h))⟩, ⟨R4.os.1.trans R.os.1, R4.os.2.1.trans R.os.2.1, R4.os.2.2.trans R.os.2.2, Nat.le_trans R.grown.2 R4.grown.2, fun k hk => (R4.same k hk (fun h => h)).trans (R.same k hk (fun h => h))⟩⟩
   refine wp_mono (wpIn_wide.1 (hwalk C' rfl E hE _ w' ⟨σ1, _, RC⟩)) fun e a3 w3 he => ?_
   cases e with
   | normal =>
    obtain ⟨s3, ⟨S', hdef, hres⟩, ⟨σ3, ι3, R3⟩⟩ := he
    show Leaves P fn a3.tmps _ a3.defers .returning w3
    rw [R3.nod.none rfl]
    exact GF R3 hpl (hvs1.mono fun _ _ x => x.mono R3.ext R3.upd) (by simp) hdef rfl fun w4 hH4 => fin _ _ _ hres hH4
   | ret =>
    obtain ⟨s3, ⟨S', hdef, hres⟩, ⟨σ3, ι3, R3⟩⟩ := he
    show Leaves P fn a3.tmps _ a3.defers .returning w3
    rw [R3.nod.none rfl]
    exact GF R3 hpl (hvs1.mono fun _ _ x => x.mono R3.ext R3.upd) (by simp) hdef rfl fun w4 hH4 => fin _ _ _ hres hH4
   | exit id =>
    obtain ⟨s3, h3, _⟩ := he
    exact h3.elim
   | panic ch =>
    obtain ⟨s3, v, ⟨⟨u', S', hdef, hset, hres⟩, rfl⟩, ⟨σ3, ι3, R3⟩⟩ := he
    show Leaves P fn a3.tmps _ a3.defers (.panicking _) w3
    rw [R3.nod.none rfl]
    exact GF R3 hpl (hvs1.mono fun _ _ x => x.mono R3.ext R3.upd) (by simp) hdef hset fun w4 hH4 => fin _ _ _ hres hH4
   | goto l => exact he.elim
   | outgrown => exact he.elim
  | ret =>
   obtain ⟨s, h1, h2⟩ := he
   exact early s _ _ (show AO rs r .ret s from h1).2 h2
  | exit id =>
   obtain ⟨s, h1, h2⟩ := he
   exact (show AO rs r (.exit id) s from h1).1.elim
  | panic ch =>
   obtain ⟨s, v, h1, h2⟩ := he
   exact (show AO rs r (.pan v) s from h1.1).1.elim
  | goto l => exact he.elim
  | outgrown => exact he.elim
 | ret =>
  obtain ⟨s, h1, h2⟩ := he
  exact early s _ _ (show AO rs r .ret s from h1).2 h2
 | exit id =>
  obtain ⟨s, h1, h2⟩ := he
  exact (show AO rs r (.exit id) s from h1).1.elim
 | panic ch =>
  obtain ⟨s, v, h1, h2⟩ := he
  exact (show AO rs r (.pan v) s from h1.1).1.elim
 | goto l => exact he.elim
 | outgrown => exact he.elim
end

def Rf (b c : Nat) (n : Int) (ok : Bool) : Nat → AV
 | 0 => .one (.ptr b 1 0 0)
 | 1 => .one (.ptr c 1 0 0)
 | 2 => AR n
 | 3 => Af ok
 | _ => .any
theorem S8 {b c : Nat} {n : Int} {ok : Bool} {S : AA} {σ : Sto} {ι : Au} {w : World} {v1 v2 : Value} {a : Act} (hclean : At S) (hglob : Br σ) (hfit : Fit σ w) (hown : C2 σ S ι w) (h1 : AN σ S ι v1 (.one (.ptr b 1 0 0))) (h2 : AN σ S ι v2 (.one (.ptr c 1 0 0))) (hn : inR .i64 n)
  (hs : 12 ≤ a.tmps.size) (g0 : a.tmps.getD 0 undef = v1) (g1 : a.tmps.getD 1 undef = v2) (g2 : a.tmps.getD 2 undef = .int .i64 n) (g3 : a.tmps.getD 3 undef = .bool ok) (hd : a.defers = []) :
  Az ⟨12, w.heap.size, fun g => ¬ Bn S ι g, σ, w, S, ι, hclean, hglob, [], none, true⟩ ⟨Rf b c n ok, S⟩ a w := by
 refine ⟨σ, ι, hs, fun i hi => ?_, ⟨[], by rw [hd]; rfl, List.nodup_nil, fun D h => (by simp at h), fun _ => rfl⟩, hfit, hown.1, hown.2, fun id b g h hg => .inr (fun hno => hno id b h hg), fun _ _ h => h, fun _ _ _ => rfl, ⟨rfl, rfl, rfl⟩, ⟨Nat.le_refl _, Nat.le_refl _⟩, fun _ _ _ => rfl, Upd.refl _ _⟩
 match i with
 | 0 => rw [g0]; exact h1
 | 1 => rw [g1]; exact h2
 | 2 => rw [g2]; exact .one (.st (.int hn))
 | 3 => rw [g3]; exact .one (.st .bool)
 | _ + 4 => exact .any
set_option maxRecDepth 100000 in
theorem Mn (b c : Nat) (S : AA) : SU Tryd.prog 37 [.one (.ptr b 1 0 0), .one (.ptr c 1 0 0)] S .returning .returning S := by
 intro hclean σ w vs ι hglob hfit hown hvs
 obtain ⟨v1, v2, rfl, r1, r2⟩ : ∃ v1 v2, vs = [v1, v2] ∧ AN σ S ι v1 (.one (.ptr b 1 0 0)) ∧ AN σ S ι v2 (.one (.ptr c 1 0 0)) := by
  cases hvs with
  | cons h1 hvs => cases hvs with
   | cons h2 hvs => cases hvs with
    | nil => exact ⟨_, _, rfl, h1, h2⟩
 have hta : ∀ w, (Instr.typeAssert .nilIface 20 72 true).run Tryd.prog w = .ok (.tuple #[.int .i64 0, .bool false]) w := fun w => JN (P := Tryd.prog) (t := 72) Tryd.underlying72 (by kernel_rfl)
 obtain ⟨c1, c2, hc, h1, h2⟩ := Dj E2
 have hb : Tryd.f37.body = some (.seq c1 c2) := congrArg some hc
 injection hc with e1 e2
 subst e1
 clear e2 h1
 refine callsD_of_wpS Tryd.func37 hb fun c₀ cs hu => ?_
 apply wpS_seq
 apply wpS_region
 simp [wpOpsS, go_sem, recoverD, hu, hta, Tryd.ntmps37, Exit.thenS]
 have hH := S8 (b := b) (c := c) (n := 0) (ok := false) (a := { tmps := #[v1, v2] ++ (((((((Array.replicate 10 undef).setIfInBounds 3 Value.nilIface).setIfInBounds 4 (Value.tuple #[Value.int IntKind.i64 0, Value.bool false])).setIfInBounds 2 (Value.tuple #[Value.int IntKind.i64 0, Value.bool false])).setIfInBounds 5 (Value.int IntKind.i64 0)).setIfInBounds 6 (Value.bool false)).setIfInBounds 0 (Value.int IntKind.i64 0)).setIfInBounds 1 (Value.bool false), defers := [] }) hclean hglob hfit hown r1 r2 (by rw [Gz]; omega) (by simp) (by simp) (by simp) (by simp) (by simp) rfl
 refine wpS_of_wp (wp_mono (wpIn_wide.1 ((?hw : IWP Tryd.prog _ [] _ (fun e s => e = .normal ∧ s.S = S) ⟨Rf b c 0 false, S⟩) c2 h2 _ w hH)) fun e a' w' he => ?_)
 case' hw => skip
 rotate_left
 ·skip
  cases e with
  | normal =>
   obtain ⟨s, ⟨_, hS⟩, hH'⟩ := he
   have hbe := KG ⟨rfl, rfl, rfl, rfl, rfl, rfl⟩ (by rw [hS]; exact hclean) hH'
   rw [hS] at hbe
   obtain ⟨σ', ι', R'⟩ := hH'
   refine ⟨R'.nod.none rfl, .returning, by rw [← hu], .tuple #[], by simp [results, Tryd.results37], ⟨_, rfl⟩, rfl, hbe⟩
  | ret => obtain ⟨s, h, _⟩ := he; cases h.1
  | exit id => obtain ⟨s, h, _⟩ := he; cases h.1
  | panic ch => obtain ⟨s, v, h, _⟩ := he; cases h.1.1
  | goto l => exact he.elim
  | outgrown => exact he.elim
 ·repeat' with_reducible first | refine W ?_ | refine Z0 ?_ | ((first | refine Wo fun K hK => ?_ | refine Wp ?_ | refine Wq ?_ | refine Wr ?_); (try simp only [go_sem, fN, seval, eT, iR, Rf, dT, dF, nL]); (repeat refine Ai ?_); (try (refine hK _ ?_; clear hK K)); try refine iC ?_)
  exact ⟨rfl, rfl⟩
def UR (S : AA) (b c : Nat) (n : Int) : AA := AH (AH S b (some (.box 32 [.st (.str ⟨#[]⟩), .full []]))) c (some (.box 24 [.st (.int .i64 n)]))
set_option maxRecDepth 100000 in
theorem OL (n : Int) (hn : inR .i64 n) (b c : Nat) (S : AA) (hb1 : 1000 ≤ b) (hc1 : 1000 ≤ c) (hbc : b ≠ c) {cs1 : List AC} {x1 : AC} (sb : S b = some (.box 32 cs1)) (hl : cs1.length = 2) (sc : S c = some (.box 24 [x1])) :
  SU Tryd.prog 37 [.one (.ptr b 1 0 0), .one (.ptr c 1 0 0)] S (.panicking [{ v := Im n, recovered := false }]) (.panicking [{ v := Im n, recovered := true }]) (UR S b c n) := by
 intro hclean σ w vs ι hglob hfit hown hvs
 obtain ⟨v1, v2, rfl, r1, r2⟩ : ∃ v1 v2, vs = [v1, v2] ∧ AN σ S ι v1 (.one (.ptr b 1 0 0)) ∧ AN σ S ι v2 (.one (.ptr c 1 0 0)) := by
  cases hvs with
  | cons h1 hvs => cases hvs with
   | cons h2 hvs => cases hvs with
    | nil => exact ⟨_, _, rfl, h1, h2⟩
 have hta : ∀ w, (Instr.typeAssert (.iface 72 (.int .i64 n)) 20 72 true).run Tryd.prog w = .ok (.tuple #[.int .i64 n, .bool true]) w := fun w => JA (P := Tryd.prog) (t := 72) Tryd.underlying72
 obtain ⟨c1, c2, hc, h1, h2⟩ := Dj E2
 have hb : Tryd.f37.body = some (.seq c1 c2) := congrArg some hc
 injection hc with e1 e2
 subst e1
 clear e2 h1
 refine callsD_of_wpS Tryd.func37 hb fun c₀ cs hu => ?_
 apply wpS_seq
 apply wpS_region
 simp [wpOpsS, go_sem, recoverD, hu, hta, Tryd.ntmps37, Exit.thenS]
 have hH := S8 (b := b) (c := c) (n := n) (ok := true) (a := { tmps := #[v1, v2] ++ (((((((Array.replicate 10 undef).setIfInBounds 3 (Im n)).setIfInBounds 4 (Value.tuple #[Value.int IntKind.i64 n, Value.bool true])).setIfInBounds 2 (Value.tuple #[Value.int IntKind.i64 n, Value.bool true])).setIfInBounds 5 (Value.int IntKind.i64 n)).setIfInBounds 6 (Value.bool true)).setIfInBounds 0 (Value.int IntKind.i64 n)).setIfInBounds 1 (Value.bool true), defers := [] }) hclean hglob hfit hown r1 r2 hn (by simp) (by simp) (by simp) (by simp) (by simp) rfl
 refine wpS_of_wp (wp_mono (wpIn_wide.1 ((?hw : IWP Tryd.prog _ [] _ (fun e s => e = .normal ∧ s.S = UR S b c n) ⟨Rf b c n true, S⟩) c2 h2 _ w hH)) fun e a' w' he => ?_)
 case' hw => skip
 rotate_left
 ·cases e with
  | normal =>
   obtain ⟨s, ⟨_, hS⟩, hH'⟩ := he
   have hbe := KG ⟨rfl, rfl, rfl, rfl, rfl, rfl⟩ (by rw [hS]; exact CT (CT hclean hb1 (by simp [AJ.high, AC.highs, AC.high])) hc1 (by simp [AJ.high, AC.highs, AC.high])) hH'
   rw [hS] at hbe
   obtain ⟨σ', ι', R'⟩ := hH'
   refine ⟨R'.nod.none rfl, _, rfl, .tuple #[], by simp [results, Tryd.results37], ⟨_, rfl⟩, rfl, hbe⟩
  | ret => obtain ⟨s, h, _⟩ := he; cases h.1
  | exit id => obtain ⟨s, h, _⟩ := he; cases h.1
  | panic ch => obtain ⟨s, v, h, _⟩ := he; cases h.1.1
  | goto l => exact he.elim
  | outgrown => exact he.elim
 ·have hcb : ¬ c = b := fun h => hbc h.symm
  repeat' with_reducible first | refine W ?_ | refine Z0 ?_ | ((first | refine Wo fun K hK => ?_ | refine Wp ?_ | refine Wq ?_ | refine Wr ?_); (try simp only [go_sem, fN, seval, eT, iR, Rf, sb, sc, hl, hcb, dT, dF, nL]); (repeat refine Ai ?_); (try (refine hK _ ?_; clear hK K)); try refine iC ?_)
  refine ⟨rfl, ?_⟩
  have hdl : List.drop 2 cs1 = [] := List.drop_eq_nil_of_le (by omega)
  rw [hdl]
  rfl
theorem TW (n : Int) : settle (.panicking [{ v := Im n, recovered := true }]) = .returning := by
 rfl
theorem MT {n : Int} (hn : inR .i64 n) {x : AS} {c1 c2 : AC} {x1 : AC} (e2 : x.env 2 = .one (.ptr 1002 1 0 0)) (e3 : x.env 3 = .one (.ptr 1003 1 0 0)) (t2 : x.S 1002 = some (.box 32 [c1, c2])) (t3 : x.S 1003 = some (.box 24 [x1])) :
  Uc Tryd.prog 37 [.one (.ptr 1002 1 0 0), .one (.ptr 1003 1 0 0)] [RV.cell 2 true 2, RV.cell 3 false 1] (Fy (.mk ⟨#[]⟩ [], n)) (.pan (Im n)) x := by
 refine ⟨_, _, OL n hn 2002 2003 (upS x.S) (cs1 := [c1.ren up1, c2.ren up1]) (x1 := x1.ren up1) (by decide) (by decide) (by decide) ?_ rfl ?_, TW n, ?_⟩
 ·rw [show (2002 : Nat) = up1 1002 from rfl, As, t2]
  rfl
 ·rw [show (2003 : Nat) = up1 1003 from rfl, As, t3]
  rfl
 ·unfold UR
  rw [show (2002 : Nat) = up1 1002 from rfl, show (2003 : Nat) = up1 1003 from rfl, LZ, LZ, Jm]
  unfold AS.result
  simp only [go_sem, fN, seval, eT, iR, AB, AD, AI, e2, e3]
  rfl
set_option maxRecDepth 100000 in
theorem O4 (s : ByteArray) : Aa Tryd.prog 17 [Bg s] (Fy (DU s)) := by
 have hro : DU s = if 4000 < s.size then (.mk ⟨#[]⟩ [], 3) else if (rdS s).e = 0 then (if (rdS s).i < s.size then (.mk ⟨#[]⟩ [], 12) else ((rdS s).t, 0)) else (.mk ⟨#[]⟩ [], (rdS s).e) := rfl
 refine L8 (f := 17) (g := 37) (t := 9) (rs := [.cell 2 true 2, .cell 3 false 1]) Tryd.func17 rfl Jx rfl (Nat.le_of_ble_eq_true rfl) rfl rfl rfl rfl rfl rfl rfl (Nat.le_of_ble_eq_true rfl) rfl (by kernel_rfl) fun C hC => ?_
 have hC : C.n = 22 := hC
 by_cases h0 : (4000 : Int) < s.size
 ·rw [hro, if_pos (by omega)]
  unfold Fy
  repeat' with_reducible first | refine W ?_ | refine Z0 ?_ | ((first | refine Wx rfl fun K hK => ?_ | refine Wp ?_ | refine Wq ?_ | refine Wr ?_); (try simp only [go_sem, fN, seval, eT, iR, h0, dT, dF, nL]); (repeat refine Ai ?_); (try (refine hK _ ?_; clear hK K)); try refine iC ?_)
  refine AG ?_
  repeat' with_reducible first | refine W ?_ | refine Z0 ?_ | ((first | refine Wx rfl fun K hK => ?_ | refine Wp ?_ | refine Wq ?_ | refine Wr ?_); (try simp only [go_sem, fN, seval, eT, iR, h0, dT, dF, nL]); (repeat refine Ai ?_); (try (refine hK _ ?_; clear hK K)); try refine iC ?_)
  simp only [go_sem, fN, seval, AO, AS.result, AB, AD, AI]
  rfl
 have hs : s.size ≤ 100000 := by omega
 rw [hro, if_neg (by omega)]
 repeat' with_reducible first | refine W ?_ | refine Z0 ?_ | ((first | refine Wx rfl fun K hK => ?_ | refine Wp ?_ | refine Wq ?_ | refine Wr ?_); (try simp only [go_sem, fN, seval, eT, iR, h0, dT, dF, nL]); (repeat refine Ai ?_); (try (refine hK _ ?_; clear hK K)); try refine iC ?_)
 refine AG ?_
 repeat' with_reducible first | refine W ?_ | refine Z0 ?_ | ((first | refine Wx rfl fun K hK => ?_ | refine Wp ?_ | refine Wq ?_ | refine Wr ?_); (try simp only [go_sem, fN, seval, eT, iR, h0, dT, dF, nL]); (repeat refine Ai ?_); (try (refine hK _ ?_; clear hK K)); try refine iC ?_)
 refine AG ⟨_, by simp [AS.caps]; rfl, fun C' hC' => ?_⟩
 have hC' : C'.n = 22 := hC'
 generalize hT : AS.up _ = T
 have e0 : T.env 0 = Bg s := by subst hT; rfl
 have e2 : T.env 2 = .one (.ptr 1002 1 0 0) := by subst hT; rfl
 have e3 : T.env 3 = .one (.ptr 1003 1 0 0) := by subst hT; rfl
 have t2 : T.S 1002 = some GS := by subst hT; rfl
 have t3 : T.S 1003 = some (.box 24 [.st (.int .i64 0)]) := by subst hT; rfl
 have t12 : T.S 12 = none := by subst hT; rfl
 obtain ⟨env, S⟩ := T
 simp only at e0 e2 e3 t2 t3 t12
 clear hT
 have hcall := fun S' (h : S' (up1 12) = some (LT s 200)) => Th s hs (2 * s.size + 1) 0 0 (by omega) (by omega) (by omega) (up1 12) S' (Ar 12) (by rw [h, QX]; rfl)
 have hr : rd s (2 * s.size + 1) 0 0 = rdS s := rfl
 rw [hr] at hcall
 have hok := Ov s (2 * s.size + 1) 0 0 (by omega) (by omega) (by omega)
 rw [hr] at hok
 have hrange : inR .i64 (rdS s).e := by
  rw [Gz]
  have := hok.err
  omega
 by_cases h1 : (rdS s).e = 0
 case neg =>
  rw [if_neg h1]
  repeat' (first | (with_reducible first | refine W ?_ | refine Z0 ?_) | (first | refine IWP.opsPanE 1 ⟨some 14, none, .callS 38 [.t 13], .no⟩ rfl (by kernel_rfl) ?_) | (with_reducible ((first | refine Wx rfl fun K hK => ?_ | refine Wp ?_ | refine Wq ?_ | refine Wr ?_); (try simp only [go_sem, fN, seval, eT, iR, e0, e2, e3, t2, t3, t12, dT, dF, nL]); (repeat refine Ai ?_); (try (refine hK _ ?_; clear hK K)); try refine iC ?_)))
  simp only [go_sem, fN, seval, eT, iR, B2, List.take_succ_cons, List.take_zero, e0, e2, e3, t2, t3, t12]
  refine ⟨_, _, (hcall _ (by rw [As, AE]; rfl)).2 h1, fun envP hE => ?_⟩
  refine Wy (MT (c1 := .st (.str ⟨#[]⟩)) (c2 := .full []) (x1 := .st (.int .i64 0)) hrange ((hE 2 rfl).trans (by simp only [go_sem, fN, seval, eT, iR, e2])) ((hE 3 rfl).trans (by simp only [go_sem, fN, seval, eT, iR, e3])) ?_ ?_)
  ·simp only [go_sem, fN, seval, eT, iR, t2]
  ·simp only [go_sem, fN, seval, eT, iR, t3]
 case pos =>
 rw [if_pos h1]
 obtain ⟨o1, o2, o3, o4⟩ := hok.ok h1
 have hiq := hok.in_
 have hnq := I7 hiq
 by_cases h2 : (rdS s).i < s.size
 ·have h2n : ¬ BG s (rdS s).i = ⟨#[]⟩ := fun h => by have := hnq.1 h; omega
  rw [if_pos h2]
  repeat' with_reducible first | refine W ?_ | refine Z0 ?_ | ((first | refine Wx rfl fun K hK => ?_ | refine Wp ?_ | refine Wq ?_ | refine Wr ?_); (try simp only [go_sem, fN, seval, eT, iR, e0, e2, e3, t2, t3, t12, dT, dF, nL]); (repeat refine Ai ?_); (try (refine hK _ ?_; clear hK K)); try refine iC ?_)
  refine ⟨_, _, (hcall _ (by rw [As, AE]; rfl)).1 h1, ?_⟩
  repeat' with_reducible first | refine W ?_ | refine Z0 ?_ | ((first | refine Wx rfl fun K hK => ?_ | refine Wp ?_ | refine Wq ?_ | refine Wr ?_); (try simp only [go_sem, fN, seval, eT, iR, e0, e2, e3, t2, t3, t12, h2n, dT, dF, nL]); (repeat refine Ai ?_); (try (refine hK _ ?_; clear hK K)); try refine iC ?_)
  refine IWP.opsPanE 1 _ rfl (by kernel_rfl) ?_
  simp only [go_sem, fN, seval, eT, iR, B2, List.take_succ_cons, List.take_zero, e0, e2, e3, t2, t3, t12]
  intro envP hE
  refine Wy (MT (n := 12) (c1 := .st (.str (rdS s).t.name)) (c2 := .st (.list (List.map Ay (rdS s).t.args))) (x1 := .st (.int .i64 0)) (by decide) ((hE 2 rfl).trans (by simp only [go_sem, fN, seval, eT, iR, e2])) ((hE 3 rfl).trans (by simp only [go_sem, fN, seval, eT, iR, e3])) ?_ ?_)
  ·simp only [go_sem, fN, seval, eT, iR, t2]
  ·simp only [go_sem, fN, seval, eT, iR, t3]
 ·have h2n : BG s (rdS s).i = ⟨#[]⟩ := hnq.2 (by omega)
  rw [if_neg h2]
  repeat' with_reducible first | refine W ?_ | refine Z0 ?_ | ((first | refine Wx rfl fun K hK => ?_ | refine Wp ?_ | refine Wq ?_ | refine Wr ?_); (try simp only [go_sem, fN, seval, eT, iR, e0, e2, e3, t2, t3, t12, dT, dF, nL]); (repeat refine Ai ?_); (try (refine hK _ ?_; clear hK K)); try refine iC ?_)
  refine ⟨_, _, (hcall _ (by rw [As, AE]; rfl)).1 h1, ?_⟩
  repeat' with_reducible first | refine W ?_ | refine Z0 ?_ | ((first | refine Wx rfl fun K hK => ?_ | refine Wp ?_ | refine Wq ?_ | refine Wr ?_); (try simp only [go_sem, fN, seval, eT, iR, e0, e2, e3, t2, t3, t12, h2n, dT, dF, nL]); (repeat refine Ai ?_); (try (refine hK _ ?_; clear hK K)); try refine iC ?_)
  refine ⟨_, Mn _ _ _, ?_⟩
  rw [Jm]
  unfold AS.result
  simp only [go_sem, fN, seval, eT, iR, AB, AD, AI, e2, e3]
  rfl

def DP : IR :=
 (.seq (.ops [.i 0 (.mov (.c (.one (.st (.bool false)))))]) (.seq (.ops [.i 8 (.call 17 [.c (.one (.st (.str (ByteArray.mk (#[102, 40, 97, 44, 88, 41])))))]), .m 7 8, .i 9 (.extract 0 (.t 7)), .i 10 (.extract 1 (.t 7)), .i 1 (.alloc 32 [.st (.str (ByteArray.mk (#[]))), .full []]), .s 2 1 9, .m 2 10]) (.seq (.ops [.i 12 (.call 17 [.c (.one (.st (.str (ByteArray.mk (#[102, 40, 89, 44, 98, 41])))))]), .m 11 12, .i 13 (.extract 0 (.t 11)), .i 14 (.extract 1 (.t 11)), .i 3 (.alloc 32 [.st (.str (ByteArray.mk (#[]))), .full []]), .s 2 3 13, .m 4 14]) (.seq (.ops [.L 16 2 1, .L 17 2 3, .i 18 (.build [.st (.str (ByteArray.mk (#[]))), .full [], .st (.str (ByteArray.mk (#[]))), .full []] [(0, 2, .t 16), (2, 2, .t 17)]), .i 19 (.buildSlice false 34 4 [.t 18]), .i 20 (.call 18 [.t 19]), .m 15 20, .i 21 (.extract 0 (.t 15)), .i 22 (.extract 1 (.t 15)), .m 5 21, .m 6 22]) (.seq (.ops [.m 23 2, .i 24 (.bin .eql (.t 23) (.n 0)), .m 25 24, .mk (some 26) (some (25, true)) (.mov (.t 4)) .no, .mk (some 27) (some (25, true)) (.bin .eql (.t 26) (.n 0)) .no, .i 28 (.pick (.t 25) (.t 27) (.c (.one (.st (.bool false))))), .m 29 28, .mk (some 30) (some (29, true)) (.mov (.t 6)) .no, .mk (some 31) (some (29, true)) (.bin .eql (.t 30) (.n 0)) .no, .i 32 (.pick (.t 29) (.t 31) (.c (.one (.st (.bool false))))), .m 33 32, .mk (some 34) (some (33, true)) (.mov (.t 5)) .no, .mk (some 35) (some (33, true)) (.len false (.t 34)) .no, .mk (some 36) (some (33, true)) (.bin .eql (.t 35) (.n 2)) .no, .i 37 (.pick (.t 33) (.t 36) (.c (.one (.st (.bool false))))), .m 38 37, .mk (some 39) (some (38, true)) (.mov (.t 5)) .no, .mk (some 40) (some (38, true)) (.indexAddr 3 (.t 39) (.n 0)) .no, .mk (some 41) (some (38, true)) (.fieldAddr 0 (.t 40)) .no, .mk (some 42) (some (38, true)) (.load false 1 (.t 41)) .no, .mk (some 43) (some (38, true)) (.bin .eql (.t 42) (.c (.one (.st (.str (ByteArray.mk (#[88]))))))) .no, .i 44 (.pick (.t 38) (.t 43) (.c (.one (.st (.bool false))))), .m 45 44, .mk (some 46) (some (45, true)) (.mov (.t 5)) .no, .mk (some 47) (some (45, true)) (.indexAddr 3 (.t 46) (.n 0)) .no, .mk (some 48) (some (45, true)) (.fieldAddr 1 (.t 47)) .no, .mk (some 49) (some (45, true)) (.fieldAddr 0 (.t 48)) .no, .mk (some 50) (some (45, true)) (.load false 1 (.t 49)) .no, .mk (some 51) (some (45, true)) (.bin .eql (.t 50) (.c (.one (.st (.str (ByteArray.mk (#[98]))))))) .no, .i 52 (.pick (.t 45) (.t 51) (.c (.one (.st (.bool false))))), .m 53 52, .mk (some 54) (some (53, true)) (.mov (.t 5)) .no, .mk (some 55) (some (53, true)) (.indexAddr 3 (.t 54) (.n 1)) .no, .mk (some 56) (some (53, true)) (.fieldAddr 1 (.t 55)) .no, .mk (some 57) (some (53, true)) (.fieldAddr 0 (.t 56)) .no, .mk (some 58) (some (53, true)) (.load false 1 (.t 57)) .no, .mk (some 59) (some (53, true)) (.bin .eql (.t 58) (.c (.one (.st (.str (ByteArray.mk (#[97]))))))) .no, .i 60 (.pick (.t 53) (.t 59) (.c (.one (.st (.bool false))))), .m 0 60]) .ret)))))
theorem FH : OkF Tryd.prog 8 61 [] DP [.t 0] := .of Tryd.func8 rfl rfl (by kernel_rfl) rfl

abbrev nA : ByteArray := ⟨#[97]⟩
abbrev nB : ByteArray := ⟨#[98]⟩
abbrev nF : ByteArray := ⟨#[102]⟩
abbrev nX : ByteArray := ⟨#[88]⟩
abbrev nY : ByteArray := ⟨#[89]⟩
abbrev SW : Tm := .mk nF [.mk nA [], .mk nX []]
abbrev Rt : Tm := .mk nF [.mk nY [], .mk nB []]
set_option maxRecDepth 100000 in
theorem OH : DU ⟨#[102,40,97,44,88,41]⟩ = (SW, 0) := by kernel_rfl
set_option maxRecDepth 100000 in
theorem N0 : DU ⟨#[102,40,89,44,98,41]⟩ = (Rt, 0) := by kernel_rfl
theorem S_ : B_ [(SW, Rt)] = 0 := by kernel_rfl
abbrev T7 : List Bd := [(nX, .mk nB []), (nY, .mk nA [])]
theorem Pu : Cq 3 [] [(SW, Rt)] (T7, 0) := by
 refine .go (s' := []) (ps := [(.mk nA [], .mk nY []), (.mk nX [], .mk nB [])]) (by kernel_rfl) ?_
 refine .go (s' := [(nY, .mk nA [])]) (ps := []) (by kernel_rfl) ?_
 refine .go (s' := T7) (ps := []) (by kernel_rfl) ?_
 exact .nil
set_option maxRecDepth 20000 in
theorem Sh : Aa Tryd.prog 8 [] (Af true) := by
 have h1 := O4 ⟨#[102,40,97,44,88,41]⟩
 have h2 := O4 ⟨#[102,40,89,44,98,41]⟩
 rw [OH] at h1
 rw [N0] at h2
 have h3 := Qj S_ Pu
 unfold Fy at h1 h2
 refine FH.ac fun C hC => ?_
 unfold DP
 repeat' (first | (with_reducible first | refine W ?_ | refine Z0 ?_ | ((first | refine Wo fun K hK => ?_ | refine Wp ?_ | refine Wq ?_ | refine Wr ?_); (try simp only [go_sem, fN, seval, eT, iR, CX, dT, dF, nL]); (repeat refine Ai ?_); (try (refine hK _ ?_; clear hK K)); try refine iC ?_)) | refine Cg _ (h1) ?_ | refine Cg _ (h2) ?_ | refine Cg _ (h3) ?_)
 simp only [go_sem, fN, seval, AO, AS.result, AB, AD, AI]

def Av : IR :=
 (.seq (.ops [.i 6 (.mov (.c (.one (.st (.bool false)))))]) (.seq (.ops [.m 16 0, .i 17 (.callN 4 [.t 16]), .m 18 1, .i 19 (.callN 4 [.t 18]), .i 20 (.append false 34 4 80 (.t 17) (.t 19)), .m 7 20]) (.seq (.ops [.m 22 7, .i 23 (.call 5 [.t 22]), .m 21 23, .i 24 (.extract 0 (.t 21)), .i 25 (.extract 1 (.t 21)), .m 8 24, .m 9 25]) (.seq (.ops [.m 27 7, .i 28 (.call 6 [.t 27, .n 100]), .m 26 28, .i 29 (.extract 0 (.t 26)), .i 30 (.extract 1 (.t 26)), .m 10 29, .m 11 30]) (.seq (.seq (.ops [.m 31 9, .i 32 (.bin .neq (.t 31) (.n 0))]) (.cond (.t 32) (.seq (.ops [.m 33 11, .m 34 9, .i 35 (.bin .eql (.t 33) (.t 34)), .m 6 35]) .ret) .skip)) (.seq (.seq (.ops [.m 36 11, .i 37 (.bin .neq (.t 36) (.n 0))]) (.cond (.t 37) (.seq (.ops [.m 38 11, .i 39 (.bin .eql (.t 38) (.n 9)), .m 40 39, .mk (some 41) (some (40, false)) (.mov (.t 11)) .no, .mk (some 42) (some (40, false)) (.bin .eql (.t 41) (.n 8)) .no, .i 43 (.pick (.t 40) (.c (.one (.st (.bool true)))) (.t 42)), .m 6 43]) .ret) .skip)) (.seq (.ops [.i 12 (.mov (.c (.one (.st (.bool true)))))]) (.seq (.seq (.ops [.i 13 (.mov (.n 0))]) (.block 0 (.loop (.seq (.seq (.ops [.m 44 13, .m 45 8, .i 46 (.len false (.t 45)), .i 47 (.bin .lss (.t 44) (.t 46))]) (.cond (.t 47) .skip (.exit 0))) (.seq (.block 1 (.seq (.ops [.m 51 7, .m 52 8, .m 53 13, .i 54 (.indexAddr 4 (.t 52) (.t 53)), .f 55 0 54, .L 56 2 55, .m 57 8, .m 58 13, .i 59 (.indexAddr 4 (.t 57) (.t 58)), .f 60 2 59, .L 61 2 60, .i 62 (.call 7 [.t 51, .t 56, .t 61, .n 100]), .m 50 62, .i 63 (.extract 0 (.t 50)), .i 64 (.extract 1 (.t 50)), .m 14 63, .m 15 64]) (.seq (.seq (.ops [.m 65 15, .i 66 (.bin .neq (.t 65) (.n 0))]) (.cond (.t 66) (.seq (.ops [.m 67 12, .i 68 (.un .not (.t 67)), .m 69 68, .mk (some 70) (some (69, true)) (.mov (.t 10)) .no, .mk (some 71) (some (69, true)) (.un .not (.t 70)) .no, .i 72 (.pick (.t 69) (.t 71) (.c (.one (.st (.bool false))))), .m 73 72, .mk (some 74) (some (73, false)) (.mov (.t 15)) .no, .mk (some 75) (some (73, false)) (.bin .eql (.t 74) (.n 3)) .no, .i 76 (.pick (.t 73) (.c (.one (.st (.bool true)))) (.t 75)), .m 6 76]) .ret) .skip)) (.ops [.m 77 12, .m 78 77, .mk (some 79) (some (78, true)) (.mov (.t 14)) .no, .i 80 (.pick (.t 78) (.t 79) (.c (.one (.st (.bool false))))), .m 12 80])))) (.ops [.m 48 13, .i 49 (.bin .add (.t 48) (.n 1)), .m 13 49])))))) (.seq (.ops [.m 81 12, .m 82 10, .i 83 (.eqB false (.t 81) (.t 82)), .m 84 83, .mk (some 85) (some (84, true)) (.call 8 []) .no, .i 86 (.pick (.t 84) (.t 85) (.c (.one (.st (.bool false))))), .m 6 86]) .ret)))))))))
theorem BA : OkF Tryd.prog 3 87 [20000017, 20000019] Av [.t 6] := .of Tryd.func3 rfl rfl (by kernel_rfl) rfl

theorem Rk (a b : List Pr) : AV.one (.st (.list (a.map BR ++ b.map BR))) = CG (a ++ b) := by
 show _ = AV.one (.st (.list ((a ++ b).map BR)))
 rw [List.map_append]
theorem OK (m1 m2 m3 : Int) (h1 : inR .i64 m1) (h2 : inR .i64 m2) : Aa Tryd.prog 3 [AR m1, AR m2, AR m3] (Af true) := by
 obtain ⟨k1, q1, -, c1⟩ := Hx m1 h1
 obtain ⟨k2, q2, -, c2⟩ := Hx m2 h2
 have z1 : (CL k1).length ≤ 3 := Jj k1 q1
 have z2 : (CL k2).length ≤ 3 := Jj k2 q2
 have l1 : ((CL k1).map BR).length = (CL k1).length := List.length_map _
 have l2 : ((CL k2).map BR).length = (CL k2).length := List.length_map _
 obtain ⟨R, hRe⟩ : ∃ R, CL k1 ++ CL k2 = R := ⟨_, rfl⟩
 have hap := Rk (CL k1) (CL k2)
 rw [hRe] at hap
 by_cases h0 : BM R = 0
 case neg =>
  have p1 := Ku h0
  have p2 := Ru h0 100
  refine BA.ac fun C hC => ?_
  unfold Av
  repeat' (first | (with_reducible first | refine W ?_ | refine Z0 ?_ | ((first | refine Wo fun K hK => ?_ | refine Wp ?_ | refine Wq ?_ | refine Wr ?_); (try simp only [go_sem, fN, seval, eT, iR, h0, l1, l2, hap, dT, dF, nL]); (repeat refine Ai ?_); (try (refine hK _ ?_; clear hK K)); try refine iC ?_)) | (first | refine ⟨_, _, _, _, c1, by simp [AH, noS], ?_⟩ | refine ⟨_, _, _, _, c2, by simp [AH, noS], ?_⟩) | refine Cg _ (p1) ?_ | refine Cg _ (p2) ?_)
  simp only [go_sem, fN, seval, AO, AS.result, AB, AD, AI]
 have hR := LH h0
 have p1 := MB hR h0
 have p2 := TO hR h0 100
 obtain ⟨hok, hlen⟩ := Ko hR
 have hj : O6 R 100 = if (Cy R 88 89 1).2 = 0 then D4 R 100 (Cy R 88 89 1).1 else (false, (Cy R 88 89 1).2) := by
  unfold O6
  rw [show Bw 100 = 0 from by decide, if_pos rfl]
  rfl
 rw [hj] at p2
 unfold prV at p1
 unfold joV at p2
 generalize Cy R 88 89 1 = X at *
 obtain ⟨l, e⟩ := X
 simp only at p1 p2 hok hlen
 by_cases he : e = 0
 case neg =>
  rw [if_neg he] at p2
  refine BA.ac fun C hC => ?_
  unfold Av
  repeat' (first | (with_reducible first | refine W ?_ | refine Z0 ?_ | ((first | refine Wo fun K hK => ?_ | refine Wp ?_ | refine Wq ?_ | refine Wr ?_); (try simp only [go_sem, fN, seval, eT, iR, he, l1, l2, hap, dT, dF, nL]); (repeat refine Ai ?_); (try (refine hK _ ?_; clear hK K)); try refine iC ?_)) | (first | refine ⟨_, _, _, _, c1, by simp [AH, noS], ?_⟩ | refine ⟨_, _, _, _, c2, by simp [AH, noS], ?_⟩) | refine Cg _ (p1) ?_ | refine Cg _ (p2) ?_)
  simp only [go_sem, fN, seval, AO, AS.result, AB, AD, AI]
 subst he
 rw [if_pos rfl] at p2
 have herr := LA hR 100 l hok
 obtain ⟨J, hJ⟩ : ∃ J, D4 R 100 l = J := ⟨_, rfl⟩
 rw [hJ] at p2 herr
 obtain ⟨ok, f⟩ := J
 simp only at p2 herr
 rcases herr with rfl | rfl | rfl
 case inr.inl =>
  refine BA.ac fun C hC => ?_
  unfold Av
  repeat' (first | (with_reducible first | refine W ?_ | refine Z0 ?_ | ((first | refine Wo fun K hK => ?_ | refine Wp ?_ | refine Wq ?_ | refine Wr ?_); (try simp only [go_sem, fN, seval, eT, iR, l1, l2, hap, dT, dF, nL]); (repeat refine Ai ?_); (try (refine hK _ ?_; clear hK K)); try refine iC ?_)) | (first | refine ⟨_, _, _, _, c1, by simp [AH, noS], ?_⟩ | refine ⟨_, _, _, _, c2, by simp [AH, noS], ?_⟩) | refine Cg _ (p1) ?_ | refine Cg _ (p2) ?_)
  simp only [go_sem, fN, seval, AO, AS.result, AB, AD, AI]
 case inr.inr =>
  refine BA.ac fun C hC => ?_
  unfold Av
  repeat' (first | (with_reducible first | refine W ?_ | refine Z0 ?_ | ((first | refine Wo fun K hK => ?_ | refine Wp ?_ | refine Wq ?_ | refine Wr ?_); (try simp only [go_sem, fN, seval, eT, iR, l1, l2, hap, dT, dF, nL]); (repeat refine Ai ?_); (try (refine hK _ ?_; clear hK K)); try refine iC ?_)) | (first | refine ⟨_, _, _, _, c1, by simp [AH, noS], ?_⟩ | refine ⟨_, _, _, _, c2, by simp [AH, noS], ?_⟩) | refine Cg _ (p1) ?_ | refine Cg _ (p2) ?_)
  simp only [go_sem, fN, seval, AO, AS.result, AB, AD, AI]
 refine BA.ac fun C hC => ?_
 unfold Av
 repeat' (first | (with_reducible first | refine W ?_ | refine Z0 ?_ | ((first | refine Wo fun K hK => ?_ | refine Wp ?_ | refine Wq ?_ | refine Wr ?_); (try simp only [go_sem, fN, seval, eT, iR, l1, l2, hap, dT, dF, nL]); (repeat refine Ai ?_); (try (refine hK _ ?_; clear hK K)); try refine iC ?_)) | (first | refine ⟨_, _, _, _, c1, by simp [AH, noS], ?_⟩ | refine ⟨_, _, _, _, c2, by simp [AH, noS], ?_⟩) | refine Cg _ (p1) ?_ | refine Cg _ (p2) ?_)
 have hS7 : ∀ (env : Nat → AV) (S : AA), env 7 = .one (.row 17 ((CL k1).length + (CL k2).length)) → S 17 = some (.arow 34 4 ((CL k1).map BR ++ (CL k2).map BR)) → outV S (env 7) = some (CG R) := fun env S a b => by
  rw [a]
  simp [outV, outC, stC, b, l1, l2, ← hRe]
 refine IWP.ghost (Ae.settle 7 (hS7 _ _ (by simp [AH]) (by simp [AH]))) ?_
 refine IWP.loop (fun m s => ∃ k, k ≤ l.length ∧ m = l.length - k ∧ s.env 7 = CG R ∧ s.env 8 = CG l ∧ s.env 10 = Af ok ∧ s.env 13 = AR k ∧ ((s.env 12 = Af true ∧ D4 R 100 (l.drop k) = (ok, 0)) ∨ (s.env 12 = Af false ∧ ok = false))) l.length ⟨0, Nat.zero_le _, rfl, rfl, rfl, rfl, rfl, .inl ⟨rfl, hJ⟩⟩ ?_
 rintro m ⟨env, S⟩ ⟨k, hk, rfl, e7, e8, e10, e13, hall⟩
 simp only at e7 e8 e10 e13 hall
 by_cases hkl : k < l.length
 case neg =>
  have hkl' : ¬ (k : Int) < l.length := by omega
  rw [List.drop_of_length_le (by omega)] at hall
  rcases hall with ⟨e12, hj2⟩ | ⟨e12, hj2⟩
  ·rw [D4] at hj2
   cases hj2
   repeat' (first | (with_reducible first | refine W ?_ | refine Z0 ?_ | ((first | refine Wo fun K hK => ?_ | refine Wp ?_ | refine Wq ?_ | refine Wr ?_); (try simp only [go_sem, fN, seval, eT, iR, e7, e8, e10, e12, e13, hkl', dT, dF, nL]); (repeat refine Ai ?_); (try (refine hK _ ?_; clear hK K)); try refine iC ?_)) | refine Cg _ (Sh) ?_)
   simp only [go_sem, fN, seval, AO, AS.result, AB, AD, AI]
  ·subst hj2
   repeat' (first | (with_reducible first | refine W ?_ | refine Z0 ?_ | ((first | refine Wo fun K hK => ?_ | refine Wp ?_ | refine Wq ?_ | refine Wr ?_); (try simp only [go_sem, fN, seval, eT, iR, e7, e8, e10, e12, e13, hkl', dT, dF, nL]); (repeat refine Ai ?_); (try (refine hK _ ?_; clear hK K)); try refine iC ?_)) | refine Cg _ (Sh) ?_)
   simp only [go_sem, fN, seval, AO, AS.result, AB, AD, AI]
 have hkl' : (k : Int) < l.length := by omega
 obtain ⟨q, hq⟩ := Ao hkl
 have hqo := hok q (AW hq)
 have hm := UT R q.1 q.2 100
 have hme := KN hR 100 hqo.c1 hqo.c2
 rcases MR h0 hqo 100 (by omega) with hw | hw
 ·rw [show ((100 : Nat) : Int) = 100 from rfl] at hw
  rw [hw] at hm
  rcases hall with ⟨e12, hj2⟩ | ⟨e12, hj2⟩
  ·repeat' (first | (with_reducible first | refine W ?_ | refine Z0 ?_ | ((first | refine Wo fun K hK => ?_ | refine Wp ?_ | refine Wq ?_ | refine Wr ?_); (try simp only [go_sem, fN, seval, eT, iR, e7, e8, e10, e12, e13, hkl', hq, BR, dT, dF, nL]); (repeat refine Ai ?_); (try (refine hK _ ?_; clear hK K)); try refine iC ?_)) | refine Cg _ (hm) ?_)
   simp only [go_sem, fN, seval, AO, AS.result, AB, AD, AI]
  ·repeat' (first | (with_reducible first | refine W ?_ | refine Z0 ?_ | ((first | refine Wo fun K hK => ?_ | refine Wp ?_ | refine Wq ?_ | refine Wr ?_); (try simp only [go_sem, fN, seval, eT, iR, e7, e8, e10, e12, e13, hkl', hq, BR, hj2, dT, dF, nL]); (repeat refine Ai ?_); (try (refine hK _ ?_; clear hK K)); try refine iC ?_)) | refine Cg _ (hm) ?_)
   simp only [go_sem, fN, seval, AO, AS.result, AB, AD, AI]
 rw [show ((100 : Nat) : Int) = 100 from rfl] at hw
 rw [hw] at hm
 rw [Bl hq, D4] at hall
 generalize D1 R 100 q.1 q.2 = y at *
 obtain ⟨y1, y2⟩ := y
 simp only at hm hme hall
 rcases hall with ⟨e12, hj2⟩ | ⟨e12, hj2⟩
 ·by_cases hy : y2 = 0
  ·subst hy
   rw [if_pos rfl] at hj2
   cases y1 with
   | true =>
    rw [if_pos rfl] at hj2
    repeat' (first | (with_reducible first | refine W ?_ | refine Z0 ?_ | ((first | refine Wo fun K hK => ?_ | refine Wp ?_ | refine Wq ?_ | refine Wr ?_); (try simp only [go_sem, fN, seval, eT, iR, e7, e8, e10, e12, e13, hkl', hq, BR, dT, dF, nL]); (repeat refine Ai ?_); (try (refine hK _ ?_; clear hK K)); try refine iC ?_)) | refine Cg _ (hm) ?_)
    refine AG ⟨l.length - (k + 1), by omega, k + 1, by omega, rfl, ?_⟩
    simp only [go_sem, fN, seval, eT, iR, e7, e8, e10, e12, e13]
    refine ⟨by congr 3, .inl hj2⟩
   | false =>
    rw [if_neg (by decide)] at hj2
    cases hj2
    repeat' (first | (with_reducible first | refine W ?_ | refine Z0 ?_ | ((first | refine Wo fun K hK => ?_ | refine Wp ?_ | refine Wq ?_ | refine Wr ?_); (try simp only [go_sem, fN, seval, eT, iR, e7, e8, e10, e12, e13, hkl', hq, BR, dT, dF, nL]); (repeat refine Ai ?_); (try (refine hK _ ?_; clear hK K)); try refine iC ?_)) | refine Cg _ (hm) ?_)
    refine AG ⟨l.length - (k + 1), by omega, k + 1, by omega, rfl, ?_⟩
    simp only [go_sem, fN, seval, eT, iR, e7, e8, e10, e12, e13]
    exact ⟨by congr 3, .inr trivial⟩
  ·rw [if_neg hy] at hj2
   cases hj2
   exact absurd rfl hy
 ·subst hj2
  by_cases hy : y2 = 0
  ·subst hy
   repeat' (first | (with_reducible first | refine W ?_ | refine Z0 ?_ | ((first | refine Wo fun K hK => ?_ | refine Wp ?_ | refine Wq ?_ | refine Wr ?_); (try simp only [go_sem, fN, seval, eT, iR, e7, e8, e10, e12, e13, hkl', hq, BR, dT, dF, nL]); (repeat refine Ai ?_); (try (refine hK _ ?_; clear hK K)); try refine iC ?_)) | refine Cg _ (hm) ?_)
   refine AG ⟨l.length - (k + 1), by omega, k + 1, by omega, rfl, ?_⟩
   simp only [go_sem, fN, seval, eT, iR, e7, e8, e10, e12, e13]
   exact ⟨by congr 3, .inr trivial⟩
  ·repeat' (first | (with_reducible first | refine W ?_ | refine Z0 ?_ | ((first | refine Wo fun K hK => ?_ | refine Wp ?_ | refine Wq ?_ | refine Wr ?_); (try simp only [go_sem, fN, seval, eT, iR, e7, e8, e10, e12, e13, hkl', hq, BR, hy, dT, dF, nL]); (repeat refine Ai ?_); (try (refine hK _ ?_; clear hK K)); try refine iC ?_)) | refine Cg _ (hm) ?_)
   simp only [go_sem, fN, seval, AO, AS.result, AB, AD, AI]

open Go.ChangeShapes Go.WideShapes Go.ChangeAt
section
variable {H : Type} {enc : TypeId × Value → H} {P : Program}
theorem F9 (hl : laidOutB P = true) : ∀ {ts : List TypeId} {vs : List Value} {ds : List (DataW H)} {ps : List MemPlace} {W W' : World} {sp : Nat → Bool},
  (∀ t ∈ ts, P.readableRec t = true ∧ t < P.types.size) → DataW.TrodAll enc P W 0 (fun _ => true) true ts vs ds ps → (∀ p ∈ ps, W.sameAt W' p) → (∀ p ∈ ps, sp p.block = true) → DataW.TrodAll enc P W' 0 sp true ts vs ds ps
 | [], [], [], _, _, _, _, _, h, _, _ => h
 | _ :: _, _ :: _, _ :: _, _, _, _, _, hT, ⟨p, q, h1, h2, e⟩, hsame, hs => ⟨p, q, WideElems.Trod_stays hl (hT _ (List.mem_cons.2 (Or.inl rfl))).1 (hT _ (List.mem_cons.2 (Or.inl rfl))).2 h1 (fun x hx => hsame x (by rw [e]; exact List.mem_append_left _ hx)) (fun x hx => hs x (by rw [e]; exact List.mem_append_left _ hx)),
   F9 hl (fun t ht => hT t (List.mem_cons.2 (Or.inr ht))) h2 (fun x hx => hsame x (by rw [e]; exact List.mem_append_right _ hx)) (fun x hx => hs x (by rw [e]; exact List.mem_append_right _ hx)), e⟩
 | [], _ :: _, _, _, _, _, _, _, h, _, _ => h.elim
 | [], [], _ :: _, _, _, _, _, _, h, _, _ => h.elim
 | _ :: _, [], _, _, _, _, _, _, h, _, _ => h.elim
 | _ :: _, _ :: _, [], _, _, _, _, _, h, _, _ => h.elim
theorem SM {f : Func} {s : ChangeSpec} {apart fresh handsOn : Bool} {W W' : World} {args : Array Value} {ds : List (DataW H)} {before : List MemPlace} {tb : TypeId}
  (hW : DataW.Whole enc P f.params.toList s.vars apart W args.toList ds [] before) (hv : s.vars = []) (hr : f.resultTypes = #[tb]) (htb : P.underlying tb = some .bool)
  (hres : (s.fn H (ds ++ [])).results = [.lit (.bool true)]) (hargs : (s.fn H (ds ++ [])).args = ds) (hvs : (s.fn H (ds ++ [])).vars = [])
  (hl : laidOutB P = true) (hT : (f.params.toList.all fun t => P.readableRec t && decide (t < P.types.size)) = true) (hb : Below W.heap.size W W') :
  s.post enc P f apart fresh handsOn false W args (.bool true) W' := by
 have hlt : ∀ p ∈ before, p.block < W.heap.size := fun p hp => hW.lt p hp
 have hT' : ∀ t ∈ f.params.toList, P.readableRec t = true ∧ t < P.types.size := fun t ht => by
  have := List.all_eq_true.1 hT t ht
  simpa using this
 obtain ⟨p, q, hA, hV, rfl, hz, hn⟩ := hW
 rw [hv] at hV
 obtain ⟨_, rfl⟩ := trodVars_none hV
 have hargs' : ∀ sp : Nat → Bool, (∀ x ∈ p, sp x.block = true) → DataW.TrodAll enc P W' 0 sp true f.params.toList args.toList ds p := fun sp hsp =>
  F9 hl hT' hA (fun x hx => hb.same (hlt x (by simpa using hx))) hsp
 have hres' : ∀ (b : Nat) (sp : Nat → Bool) (hd : Bool), DataW.TrodAll enc P W' b sp hd f.resultTypes.toList ((Value.bool true).resultList f.resultTypes.size) (s.fn H (ds ++ [])).results [] := fun b sp hd => by
  rw [hres, hr]
  exact trodAll_cons_mk (shut_bool htb true) trodAll_mk0
 refine ⟨ds, [], p ++ [], [], p, [], ⟨p, [], hA, by rw [hv]; exact rfl, rfl, hz, hn⟩, hres' _ _ _, by rw [hargs]; exact hargs' _ (fun x hx => by simpa using hlt x (by simpa using hx)), by rw [hv, hvs]; exact rfl,
  World.keptBut_mono (fun x hx => ⟨hx, Or.inr (by simpa using hx)⟩) (hb.frame (· ∈ p ++ [])), fun h => by cases h⟩
variable {W : World} {sp : Nat → Bool} {hd : Bool} {base : Nat}
def sto (W : World) : Sto := Cb W
theorem Ty (W : World) : Fit (sto W) W := fun _ _ h => h
theorem Sm {t : TypeId} (ht : P.underlying t = some (.int .i64)) (fuel : Nat) (cs : List Value) (x : DataW H × List MemPlace) (h : DataW.trod enc P W base sp hd fuel t cs = some x) : ∃ n : Int, Ab (Ax (sto W)) cs (Nq n) := by
 obtain ⟨n, rfl, _, hn⟩ := DataW.trod_int ht h
 exact ⟨n, .cons (.int (by rw [Gz]; simpa [Lit.wf, IntKind.min, IntKind.max, IntKind.signed, IntKind.bits] using hn)) .nil⟩
theorem Lb {t : TypeId} (ht : P.underlying t = some (.int .i64)) {r : Reach} {b0 : Nat} {v : Value} {d : DataW H} {p : List MemPlace} (hv : Value.okWide P W r b0 t v) (h : DataW.Trod enc P W base sp hd t v d p) : ∃ n : Int, AN (sto W) noS noH v (AR n) := by
 obtain ⟨n, rfl⟩ := okWide_int ht hv
 obtain ⟨fuel, hf⟩ := h
 obtain ⟨m, hm⟩ := Sm ht fuel _ _ hf
 have : Ab (Ax (sto W)) [.int .i64 n] (Nq m) := hm
 cases this with
 | cons h1 h2 => exact ⟨m, .one (.st h1)⟩
end
theorem MG {P : Program} {f : FuncId} {xs : List AV} {b : Bool} (h : Aa P f xs (Af b)) {σ : Sto} {w : World} {vs : List Value} (hg : Br σ) (hf : Fit σ w) (hv : Ab (AN σ noS noH) vs xs) :
  Calls P f vs.toArray w fun e w' => e = .returned (.bool b) ∧ Below w.heap.size w w' := (h σ w vs hg hf hv).mono fun e w' ⟨v, σ', he, hv, _, _, hb⟩ => by
 rw [C_ hv] at he
 exact ⟨he, hb⟩

theorem PI {P : Program} {W : World} {x : String × DataW Unit} : ∀ {l : List (String × DataW Unit)} {ps : List MemPlace}, DataW.LaidVars P W l ps → x ∈ l → ∃ q, DataW.LaidVars P W [x] q
 | [], _, _, hx => by simp at hx
 | y :: l, ps, h, hx => by
  obtain ⟨n, d⟩ := y
  obtain ⟨g, t, cs, fuel, p, q, a1, a2, a3, a4, a5, a6⟩ := h
  rcases List.mem_cons.1 hx with rfl | hx
  ·exact ⟨_, g, t, cs, fuel, p, [], a1, a2, a3, a4, rfl, rfl⟩
  ·exact PI a5 hx
theorem Qz {P : Program} {W : World} {n : String} {g : Nat} {cs : Array Value} (hg : P.globalNamed n = some g) (h : W.var? P n = some cs) : sto W ⟨g, cs.size, some 0⟩ = some .nilFunc := by
 unfold World.var? at h
 rw [hg] at h
 simp only [Option.bind_some] at h
 show Cb W _ = _
 unfold Cb
 simp only
 cases hb : W.heap[g]? with
 | none => rw [hb] at h; cases h
 | some o =>
  rw [hb] at h
  cases o <;> simp_all
theorem Rw {P : Program} {W : World} {name : String} {g : Nat} {t e : TypeId} {n : Nat} {k : IntKind} {zs : List Int} (hg : P.globalNamed name = some g) (hty : (P.globals[g]?).map (·.type) = some t) (ht : P.underlying t = some (.array n e)) (he : P.underlying e = some (.int k))
  (hce : P.cellsOf e = 1) (hct : P.cellsOf t = n) (hin : ∀ z ∈ zs, inR k z) {ps : List MemPlace} (h : DataW.LaidVars P W [(name, Lib.tabData k zs)] ps) : Lm (sto W) (g, zs.map fun z => .int k z) := by
 obtain ⟨g0, t0, cs0, f0, p0, q0, hg0, ht0, hv0, hd0, _, _⟩ := h
 obtain rfl := Option.some.inj (hg.symm.trans hg0)
 obtain rfl := Option.some.inj (hty.symm.trans ht0)
 have hc := Lib.cells_of_tab ht he hce hct hd0
 have hs : cs0.size = zs.length := by
  have := congrArg List.length hc
  simpa using this
 refine ⟨⟨fun j => (zs[j]?).elim .nilFunc (.int k), fun j a ha => ?_, fun j a ha => ?_⟩, ?_⟩
 ·rw [List.getElem?_map, Option.map_eq_some_iff] at ha
  obtain ⟨z, hz, rfl⟩ := ha
  have h1 := World.var?_cell hg0 hv0 j
  have h2 : cs0[j]? = some (.int k z) := by
   have h3 := congrArg (fun l : List Value => l[j]?) hc
   simpa [hz] using h3
  show Cb W _ = _
  rw [CC rfl, Nat.zero_add, h1, h2]
  simp only [hz, Option.elim]
 ·rw [List.getElem?_map, Option.map_eq_some_iff] at ha
  obtain ⟨z, hz, rfl⟩ := ha
  simp only [hz, Option.elim]
  exact .int (hin z (List.mem_of_getElem? hz))
 ·have := Qz hg0 hv0
  rw [hs] at this
  simpa using this
theorem UY {zs : List Int} (h : zs.all (fun z => decide (0 ≤ z) && decide (z ≤ 18446744073709551615)) = true) : ∀ z ∈ zs, inR .u64 z := fun z hz => by
 have := List.all_eq_true.1 h z hz
 simp only [Bool.and_eq_true, decide_eq_true_eq] at this
 simp [inR, IntKind.min, IntKind.max, IntKind.signed, IntKind.bits]
 omega
theorem SX {W : World} {ps : List MemPlace} (h : DataW.LaidVars Tryd.prog W [("internal/strconv.uint64pow10", Rows.laid_internal_strconv_uint64pow10)] ps) : Lm (sto W) (0, Sb) := Rw (k := .u64) (zs := Lib.pow10Tab) (by kernel_rfl) (by kernel_rfl) Tryd.underlying129 Tryd.underlying110 (by kernel_rfl) (by kernel_rfl) (UY (by decide)) h

theorem ON {W : World} {l : List (String × DataW Unit)} (hp : (l.all fun x => true) = true) (hin : ("internal/strconv.uint64pow10", Rows.laid_internal_strconv_uint64pow10) ∈ l) {ps : List MemPlace} (h : DataW.LaidVars Tryd.prog W l ps) : Br (sto W) := by
 obtain ⟨_, h1⟩ := PI (x := ("internal/strconv.uint64pow10", Rows.laid_internal_strconv_uint64pow10)) h hin
 intro y hy
 simp only [Mz, List.mem_cons, List.not_mem_nil, or_false] at hy
 subst hy
 exact SX h1

section
variable {H : Type} {enc : TypeId × Value → H} {W : World} {sp : Nat → Bool} {hd : Bool} {base : Nat}
end

end Go.Proofs.YtiaopkfapnajaaaDoor
namespace Go.Proofs.YtiaopkfapnajaaaDoor.topLocal
open Go Go.RowKit Go.ChangeShapes Go.WideShapes Go.ChangeAt
set_option linter.unusedVariables false
theorem Tv {W : World} (h : laidMetH Tryd.prog Rows.topLocalRow.laid W) : Br (sto W) := by
 rw [MakeChecks.laidMetH_plain _ _ _ (by kernel_rfl)] at h
 obtain ⟨ps, h, _, _⟩ := h
 exact ON (by kernel_rfl) (by simp [Rows.topLocalRow]) h
theorem own : ownKnob Tryd.prog.godebug = none := by kernel_rfl
theorem laid : laidOutB Tryd.prog = true := by kernel_rfl
set_option maxRecDepth 100000 in
theorem S6 (H : Type) (enc : TypeId × Value → H) (W : World) (base : Nat) (args : Array Value) (ds gs : List (DataW H)) (before : List MemPlace) (hL : laidMetH Tryd.prog Rows.topLocalRow.laid W)
  (hval : ∀ (j : Nat) t v, Tryd.f3.params[j]? = some t → args[j]? = some v → Value.okWide Tryd.prog W .any base t v)
  (hW : DataW.Whole enc Tryd.prog Tryd.f3.params.toList Rows.topLocalSpec.vars false W args.toList ds gs before) :
  Calls Tryd.prog 3 args W fun e W' => ∃ v, e = .returned v ∧ Rows.topLocalSpec.post enc Tryd.prog Tryd.f3 false true false false W args v W' := by
 have hG := Tv hL
 obtain ⟨p, q, hA0, hV, rfl, hfz, hnd⟩ := id hW
 obtain ⟨rfl, rfl⟩ := trodVars_none hV
 have hA : DataW.TrodAll enc Tryd.prog W 0 (fun _ => true) true Tryd.f3.params.toList args.toList ds p := hA0
 rw [Tryd.params3] at hA hval
 obtain ⟨v0, v1, v2, d0, d1, d2, p0, p1, p2, hargs, rfl, rfl, h0, h1, h2⟩ := trodAll_three hA
 obtain rfl : args = #[v0, v1, v2] := by cases args; simp_all
 obtain ⟨m1, r0⟩ := Lb Tryd.underlying3 (hval 0 3 v0 rfl rfl) h0
 obtain ⟨m2, r1⟩ := Lb Tryd.underlying3 (hval 1 3 v1 rfl rfl) h1
 obtain ⟨m3, r2⟩ := Lb Tryd.underlying3 (hval 2 3 v2 rfl rfl) h2
 refine (MG (OK m1 m2 m3 r0.known r1.known) hG (Ty W) (vs := [v0, v1, v2]) (.cons r0 (.cons r1 (.cons r2 .nil)))).mono fun e W' ⟨he, hb⟩ => ⟨_, he, ?_⟩
 exact SM hW rfl rfl Tryd.underlying4 rfl rfl rfl laid (by kernel_rfl) hb
theorem Su (os : Os) (args : Array Value) : laidMetH Tryd.prog Rows.topLocalRow.laid ((World.doorLaid Tryd.prog 400 os).forCall (fun _ _ => 0) ⟨#[], args, []⟩).memory :=
 laidMetH_of_parts3 (fuel := 8) (laidMet_of_run' 8 (by kernel_rfl) (by kernel_rfl)) (by kernel_rfl) (by kernel_rfl)
set_option maxRecDepth 100000 in
theorem UG (os : Os) (started : os.Started) (H : Type) (enc : TypeId × Value → H) :
  ReturnsInHanded {} Tryd.checked os 3 .any (fun w args => (Rows.topLocalSpec.pre enc Tryd.prog Tryd.f3 [] false w args ∧ laidMetH Tryd.prog Rows.topLocalRow.laid w) ∧ sizedMet enc Tryd.prog Tryd.f3 (OpenSpec.ofChange Rows.topLocalSpec) false w args)
   (Rows.topLocalSpec.post enc Tryd.prog Tryd.f3 false true false false) := by
 refine returnsInHanded_of_change_and (C := Tryd.checked) (X := fun w _ => laidMetH Tryd.prog Rows.topLocalRow.laid w) (fun _ _ _ hh h => h.of_heap hh) own started (by kernel_rfl) Tryd.func3
  (ChangeSpec.witness_shaped (enc := enc) (C := Tryd.checked) (os := os) (X := fun w _ => laidMetH Tryd.prog Rows.topLocalRow.laid w) false (World.doorLaid Tryd.prog 400 os) #[.int .i64 0, .int .i64 0, .int .i64 0] 8 rfl (World.shaped_of_RefB (by kernel_rfl) (by kernel_rfl)) (by kernel_rfl) (by kernel_rfl) (by kernel_rfl) (Su os _)) ?_
 intro W base args ds gs before hval hW _ _ hL _
 exact S6 H enc W base args ds gs before hL hval hW
theorem Pk : Rows.TopLocalSaid :=
 OpenClaim.holds_of_wide 3 Tryd.f3 rfl rfl rfl rfl rfl rfl rfl ⟨rfl, rfl, rfl, rfl, rfl⟩ rfl rfl rfl rfl rfl (by kernel_rfl) Tryd.func3 (by kernel_rfl)
  (of_decide_eq_true (by kernel_rfl)) (by unfold Func.isWrapper; first | (rw [if_pos (by decide +kernel)]; kernel_rfl) | (rw [if_neg (by decide +kernel)]; exact ⟨rfl, rfl⟩))
  (fun os started H enc _ => UG os started H enc)
theorem SS : (Tryd.f3.params.toList.all fun t => !Tryd.prog.wantsStandIn t) = true := by kernel_rfl
theorem proved : Rows.TopLocalCardSaid :=
 Claim7.holds_tied_plain_at .later [] [.data, .data, .data] true Rows.topLocalCard.stood.harness Rows.topLocalCard.stood.looks
  Pk (fun _ h => by cases h) (by kernel_rfl) (fun _ h => by cases h) topLocal_row_tie rfl ⟨rfl, rfl⟩ (by kernel_rfl) rfl
  (fun f fn hf hfn => by
   obtain rfl : f = 3 := Option.some.inj ((show Tryd.prog.funcNamed "metaprune/metaprunetop.TopLocal" = some 3 by kernel_rfl).symm.trans hf) |>.symm
   obtain rfl : fn = Tryd.f3 := (Option.some.inj (Tryd.func3.symm.trans hfn)).symm
   exact ⟨by kernel_rfl, fun j t ht => by
    have h1 := List.all_eq_true.1 SS t (by rw [Array.mem_toList_iff]; exact Array.mem_of_getElem? ht)
    have h2 : Tryd.prog.wantsStandIn t = false := by simpa using h1
    exact h2⟩)
  (by kernel_rfl)

end Go.Proofs.YtiaopkfapnajaaaDoor.topLocal
