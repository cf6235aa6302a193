/-
  Part 8 of the texts. Conditions: none.
-/
import Derived.Test.YtkegjgodjigjfaaWit7
import Derived.Shelf.SlSortCmp.WholeK
import Derived.Shelf.SlSortCmp.NoneTotal
import Derived.Test.YtkegjgodjigjfaaProg
namespace Go.Proofs.Ytkegjgodjigjfaa
open Go Go.RowKit
set_option linter.unusedVariables false
set_option linter.unusedSimpArgs false
set_option maxHeartbeats 400000
def A6 (l : List Nat) : List (List SV) := l.map fun (x : Nat) => BE (x : Int)
theorem Ed (l : List Nat) : (A6 l).length = l.length := by simp [A6]
theorem GH {l : List Nat} {i x : Nat} (h : l[i]? = some x) : (A6 l)[i]? = some (BE (x : Int)) := by simp [A6, h]
theorem Iy (l : List Nat) (i x : Nat) : (A6 l).set i [.int .i64 (x : Int)] = A6 (l.set i x) := by
 unfold A6
 rw [List.map_set]
theorem Qm (n m : Nat) (hm : m ≤ 2) : List.replicate m [SV.int .i64 0] = A6 (BK n m 0) := by
 match m, hm with
 | 0, _ => rfl
 | 1, _ => rfl
 | 2, _ => simp [A6, BK, List.replicate]
theorem Jt {n m : Nat} (hm : m ≤ 2) : 0 < Cs n m ↔ (0 < n ∨ m = 0) := by
 match m, hm with
 | 0, _ => simp [Cs]
 | 1, _ => simp [Cs]
 | 2, _ =>
  show 0 < n * n ↔ _
  constructor
  ·intro h
   rcases Nat.eq_zero_or_pos n with h0 | h0
   ·subst h0; omega
   ·exact .inl h0
  ·rintro (h | h)
   ·exact Nat.mul_pos h h
   ·omega
theorem JX (n m : Nat) (hm : m ≤ 2) (hn : n ≤ 1000000) : Pj Try.prog 57 [.one (.eptr [.int .i64 m]), .one (.eptr [.int .i64 n])] (fun _ => True) 3 1 A6 (F2 n m) := by
 intro y rid Inv Jx T0 hy hrid _ hfr hround h0
 refine GF.acR fun hclean C hC htop => ?_
 unfold Dd
 have s7 : T0 7 = none := B5 hclean (by omega)
 have hr7 : rid ≠ 7 := by omega
 refine W ?_
 refine Wo (fun K hK => ?_)
 (try simp only [go_sem, fN, seval, eT, iR, AS.startS, s7])
 (repeat with_reducible refine Ai ?_)
 refine hK _ ?_
 clear hK K
 refine W ?_
 refine IWP.ghost (Aa.renameM 4 7 rid 5 (e := 3) (wd := 1) (xs := List.replicate m [SV.int .i64 0]) (by simp [AB]) (by simp [AB]) (by
  show AB T0 7 _ rid = none
  rw [AE _ hr7]
  exact hfr _ _ h0) (by simp; omega) (by rw [hC]; decide)) ?_
 repeat' with_reducible first | refine W ?_ | refine Z0 ?_ | ((first | refine Wo fun K hK => ?_ | refine Wq ?_ | refine Wr ?_); (try simp only [go_sem, fN, seval, eT, iR]); (repeat refine Ai ?_); (try (refine hK _ ?_; clear hK K)))
 refine IWP.loop (fun q s => ∃ k T row, (k < Cs n m ∨ (k = 0 ∧ Cs n m = 0)) ∧ q = Cs n m - k ∧ s.env 0 = .one (.yld y) ∧ s.env 1 = .one (.eptr [.int .i64 m]) ∧ s.env 2 = .one (.eptr [.int .i64 n]) ∧ s.env 4 = .one (.row rid m) ∧ s.S rid = some (.mrow 3 1 (A6 row)) ∧ row.length = m ∧ (k < Cs n m → row = BK n m k) ∧ (∀ i, 1000 ≤ i → i ≠ rid → s.S i = T i) ∧ Ad T ∧ T rid = none ∧ Inv ((List.range k).map (BK n m)) T) (Cs n m)
  ⟨0, T0, BK n m 0, by omega, rfl, rfl, rfl, rfl, by simp [AB], by rw [← Qm n m hm]; exact AD _ _ _, F1 n m 0 hm, fun _ => rfl, fun i hi hne => by
   show AB (AB (AB T0 7 _) 7 _) rid _ i = _
   rw [AE _ hne, AE _ (by omega), AE _ (by omega)], hclean, hfr _ _ h0, by simpa using h0⟩ ?_
 rintro q ⟨env, S⟩ ⟨k, T, row, hk, rfl, e0, e1, e2, e4, sr, hrl, hrow, hST, hT, hTr, hI⟩
 simp only at e0 e1 e2 e4 sr hST
 have fin0 : ∀ {e : AX} {env' : Nat → AV} {S' : AA} {V : AA} {r : List Nat}, (match e with | .normal => True | .ret => True | _ => False) → Ad V → (∀ i, 1000 ≤ i → i ≠ rid → S' i = V i) → S' rid = some (.mrow 3 1 (A6 r)) → (Inv (F2 n m) V ∨ Jx V) → PT C [] (fun _ T' => ∃ V b, T' = AB V rid (some b) ∧ (Inv (F2 n m) V ∨ Jx V)) e ⟨env', S'⟩ := fun {e env' S' V r} he hV hs hr hp => ⟨.tup [], AB V rid (some (.mrow 3 1 (A6 r))), ⟨V, _, rfl, hp⟩, CS (.tup []) (A2 hV hrid rfl) he rfl rfl fun i hi => by
  by_cases e : i = rid
  ·subst e
   rw [AD]
   exact hr
  ·rw [AE _ e]
   exact hs i hi e⟩
 by_cases hpos : 0 < n ∨ m = 0
 case neg =>
  have h1 : ¬ (0 : Int) < n := by omega
  have h2 : ¬ (m : Int) = 0 := by omega
  have h3 : Cs n m = 0 := by
   have := fun h => hpos ((Jt (n := n) hm).1 h)
   exact Nat.eq_zero_of_not_pos this
  have hk0 : k = 0 := by omega
  subst hk0
  have hall : F2 n m = [] := by rw [F2, h3]; rfl
  repeat' with_reducible first | refine W ?_ | refine Z0 ?_ | ((first | refine Wo fun K hK => ?_ | refine Wp ?_ | refine Wq ?_ | refine Wr ?_); (try simp only [go_sem, fN, seval, eT, iR, e0, e1, e2, e4, h1, h2, dT, dF, nL]); (repeat refine Ai ?_); (try (refine hK _ ?_; clear hK K)); try refine iC ?_)
  exact fin0 trivial hT hST sr (.inl (by rw [hall]; exact hI))
 case pos =>
  have hpn : 0 < Cs n m := (Jt hm).2 hpos
  have hkl : k < Cs n m := by omega
  obtain rfl := hrow hkl
  have hlen : (A6 (BK n m k)).length = m := by rw [Ed, F1 n m k hm]
  have hpre : ((List.range k).map (BK n m)) ++ [BK n m k] = (List.range (k + 1)).map (BK n m) := by
   rw [List.range_succ, List.map_append]
   rfl
  have hy' := hround ((List.range k).map (BK n m)) (BK n m k) (by rw [hpre]; exact Pa (by omega)) T hI
  rw [hpre, hlen] at hy'
  have harg : FK S (.one (.row rid m)) = .one (.row rid m) := by simp [FK, outV, outC, stC, sr]
  have hSx : ∀ i, 1000 ≤ i → S i = AB T rid (some (.mrow 3 1 (A6 (BK n m k)))) i := fun i hi => by
   by_cases e : i = rid
   ·subst e
    rw [AD]
    exact sr
   ·rw [AE _ e]
    exact hST i hi e
  have hhi : ((AV.one (AC.yld y)).high && AV.highs [.one (.row rid m)]) = true := by
   show ((AC.yld y).high && ((AC.row rid m).high && true)) = true
   rw [J6 hy, LI hrid]
   rfl
  by_cases h1 : (0 : Int) < n
  ·repeat' with_reducible first | refine W ?_ | refine Z0 ?_ | ((first | refine Wo fun K hK => ?_ | refine Wp ?_ | refine Wq ?_ | refine Wr ?_); (try simp only [go_sem, fN, seval, eT, iR, e0, e1, e2, e4, h1, sr, hlen, dT, dF, nL]); (repeat refine Ai ?_); (try (refine hK _ ?_; clear hK K)); try refine iC ?_)
   rw [harg]
   refine JS.mk (AB T rid (some (.mrow 3 1 (A6 (BK n m k))))) _ (A2 hT hrid rfl) hSx hhi hy' ?_
   rintro r S' hS' ⟨V, rfl, hVr, ⟨rfl, hI'⟩ | ⟨rfl, hJ⟩⟩
   ·have hVc : Ad V := Ca hS' hVr
    have hj : ∀ i, 1000 ≤ i → i ≠ rid → CO S (AB V rid (some (.mrow 3 1 (A6 (BK n m k))))) i = V i := fun i hi hne => by rw [Aw hi, AE _ hne]
    have hjr : CO S (AB V rid (some (.mrow 3 1 (A6 (BK n m k))))) rid = some (.mrow 3 1 (A6 (BK n m k))) := by rw [Aw hrid, AD]
    generalize CO S (AB V rid (some (.mrow 3 1 (A6 (BK n m k))))) = S1 at hj hjr ⊢
    repeat' with_reducible first | refine W ?_ | refine Z0 ?_ | ((first | refine Wo fun K hK => ?_ | refine Wp ?_ | refine Wq ?_ | refine Wr ?_); (try simp only [go_sem, fN, seval, eT, iR, e0, e1, e2, e4, dT, dF, nL]); (repeat refine Ai ?_); (try (refine hK _ ?_; clear hK K)); try refine iC ?_)
    refine IWP.loop (fun q s => ∃ (i : Int) (row : List Nat), Ds n m k i row ∧ q = (i + 1).toNat ∧ s.env 0 = .one (.yld y) ∧ s.env 1 = .one (.eptr [.int .i64 m]) ∧ s.env 2 = .one (.eptr [.int .i64 n]) ∧ s.env 4 = .one (.row rid m) ∧ s.env 5 = AR i ∧ s.S rid = some (.mrow 3 1 (A6 row)) ∧ ∀ i, 1000 ≤ i → i ≠ rid → s.S i = V i) _ ⟨(m : Int) - 1, BK n m k, Jo hm, rfl, e0, e1, e2, e4, rfl, hjr, hj⟩ ?_
    clear hj hjr hSx hST sr hI hT e0 e1 e2 e4 harg
    rintro q ⟨env, S⟩ ⟨i, row, htu, rfl, e0, e1, e2, e4, e5, sr, hST⟩
    simp only at e0 e1 e2 e4 e5 sr hST
    have hil := Mw hm htu
    have hrl := Ln hm htu
    have hel : (A6 row).length = m := by rw [Ed, hrl]
    by_cases hi0 : 0 ≤ i
    ·obtain ⟨j, rfl⟩ : ∃ j : Nat, i = j := ⟨i.toNat, by omega⟩
     obtain ⟨x, hx⟩ := Ap (show j < row.length by omega)
     have hx' := GH hx
     have hjl : j < (A6 row).length := by omega
     have hset : (A6 row).set j [.int .i64 ((x : Int) + 1)] = A6 (row.set j (x + 1)) := Iy row j (x + 1)
     have hjm : (j : Int) < m := hil.2
     have hxn : x < n := L7 hm hkl htu x (AT hx)
     have hel2 : (A6 (row.set j (x + 1))).length = m := by rw [Ed, List.length_set, hrl]
     have hj2 : (row.set j (x + 1))[j]? = some (x + 1) := by
      rw [List.getElem?_set_self (by omega)]
     have hg2 : (A6 (row.set j (x + 1)))[j]? = some (BE ((x : Int) + 1)) := GH hj2
     have hset2 : (A6 (row.set j (x + 1))).set j [.int .i64 0] = A6 ((row.set j (x + 1)).set j 0) := Iy (row.set j (x + 1)) j 0
     by_cases hfit : (x : Int) + 1 < n
     ·have hff := Lm hm hkl htu hx (by omega)
      have hj0 : ¬ (j : Int) < 0 := by omega
      repeat' with_reducible first | refine W ?_ | refine Z0 ?_ | ((first | refine Wo fun K hK => ?_ | refine Wp ?_ | refine Wq ?_ | refine Wr ?_); (try simp only [go_sem, fN, seval, eT, iR, e0, e1, e2, e4, e5, sr, hx', hjl, hel, hset, hi0, hfit, hrl, hel2, hg2, hjm, hj0, dT, dF, nL]); (repeat refine Ai ?_); (try (refine hK _ ?_; clear hK K)); try refine iC ?_)
      refine AH ⟨Cs n m - (k + 1), by omega, k + 1, V, row.set j (x + 1), .inl hff.1, rfl, e0, e1, e2, e4, AD _ _ _, by rw [List.length_set, hrl], fun _ => hff.2, fun i hi hne => (AE _ hne _).trans (hST i hi hne), hVc, hVr, hI'⟩
     ·have hff := Jw hm hkl htu hx (by omega)
      repeat' with_reducible first | refine W ?_ | refine Z0 ?_ | ((first | refine Wo fun K hK => ?_ | refine Wp ?_ | refine Wq ?_ | refine Wr ?_); (try simp only [go_sem, fN, seval, eT, iR, e0, e1, e2, e4, e5, sr, hx', hjl, hel, hset, hi0, hfit, hrl, hel2, hg2, hset2, hjm, dT, dF, nL]); (repeat refine Ai ?_); (try (refine hK _ ?_; clear hK K)); try refine iC ?_)
      refine AH ⟨((j : Int) - 1 + 1).toNat, by omega, (j : Int) - 1, (row.set j (x + 1)).set j 0, hff, rfl, e0, e1, e2, e4, rfl, AD _ _ _, fun i hi hne => (AE _ hne _).trans ((AE _ hne _).trans (hST i hi hne))⟩
    ·have hi1 : i = -1 := by omega
     subst hi1
     have hend := L9 hm hkl htu
     have hall : (List.range (k + 1)).map (BK n m) = F2 n m := by rw [hend]; rfl
     rw [hall] at hI'
     repeat' with_reducible first | refine W ?_ | refine Z0 ?_ | ((first | refine Wo fun K hK => ?_ | refine Wp ?_ | refine Wq ?_ | refine Wr ?_); (try simp only [go_sem, fN, seval, eT, iR, e0, e1, e2, e4, e5, dT, dF, nL]); (repeat refine Ai ?_); (try (refine hK _ ?_; clear hK K)); try refine iC ?_)
     exact fin0 trivial hVc hST sr (.inl hI')
   ·have hVc : Ad V := Ca hS' hVr
    repeat' with_reducible first | refine W ?_ | refine Z0 ?_ | ((first | refine Wo fun K hK => ?_ | refine Wp ?_ | refine Wq ?_ | refine Wr ?_); (try simp only [go_sem, fN, seval, eT, iR, e0, e1, e2, e4, dT, dF, nL]); (repeat refine Ai ?_); (try (refine hK _ ?_; clear hK K)); try refine iC ?_)
    refine fin0 trivial hVc (fun i hi hne => by rw [Aw hi, AE _ hne]) (by rw [Aw hrid, AD]) (.inr hJ)
  ·have h2 : m = 0 := by omega
   subst h2
   have h3 : (((0 : Nat) : Int) = 0) := rfl
   have hk0 : k = 0 := by
    have : k < 1 := hkl
    omega
   subst hk0
   repeat' with_reducible first | refine W ?_ | refine Z0 ?_ | ((first | refine Wo fun K hK => ?_ | refine Wp ?_ | refine Wq ?_ | refine Wr ?_); (try simp only [go_sem, fN, seval, eT, iR, e0, e1, e2, e4, h1, h3, sr, hlen, dT, dF, nL]); (repeat refine Ai ?_); (try (refine hK _ ?_; clear hK K)); try refine iC ?_)
   rw [harg]
   refine JS.mk (AB T rid (some (.mrow 3 1 (A6 (BK n 0 0))))) _ (A2 hT hrid rfl) hSx hhi hy' ?_
   rintro r S' hS' ⟨V, rfl, hVr, ⟨rfl, hI'⟩ | ⟨rfl, hJ⟩⟩
   ·have hVc : Ad V := Ca hS' hVr
    repeat' with_reducible first | refine W ?_ | refine Z0 ?_ | ((first | refine Wo fun K hK => ?_ | refine Wp ?_ | refine Wq ?_ | refine Wr ?_); (try simp only [go_sem, fN, seval, eT, iR, e0, e1, e2, e4, h1, h3, dT, dF, nL]); (repeat refine Ai ?_); (try (refine hK _ ?_; clear hK K)); try refine iC ?_)
    refine IWP.loop (fun q s => s.env 5 = AR (-1) ∧ s.S rid = some (.mrow 3 1 (A6 (BK n 0 0))) ∧ ∀ i, 1000 ≤ i → i ≠ rid → s.S i = V i) 0 ⟨rfl, by show CO S _ rid = _; rw [Aw hrid, AD], fun i hi hne => by show CO S _ i = _; rw [Aw hi, AE _ hne]⟩ ?_
    rintro q ⟨env, S⟩ ⟨e5, sr, hST⟩
    simp only at e5 sr hST
    repeat' with_reducible first | refine W ?_ | refine Z0 ?_ | ((first | refine Wo fun K hK => ?_ | refine Wp ?_ | refine Wq ?_ | refine Wr ?_); (try simp only [go_sem, fN, seval, eT, iR, e5, dT, dF, nL]); (repeat refine Ai ?_); (try (refine hK _ ?_; clear hK K)); try refine iC ?_)
    exact fin0 trivial hVc hST sr (.inl hI')
   ·have hVc : Ad V := Ca hS' hVr
    repeat' with_reducible first | refine W ?_ | refine Z0 ?_ | ((first | refine Wo fun K hK => ?_ | refine Wp ?_ | refine Wq ?_ | refine Wr ?_); (try simp only [go_sem, fN, seval, eT, iR, e0, e1, e2, e4, h1, h3, dT, dF, nL]); (repeat refine Ai ?_); (try (refine hK _ ?_; clear hK K)); try refine iC ?_)
    refine fin0 trivial hVc (fun i hi hne => by rw [Aw hi, AE _ hne]) (by rw [Aw hrid, AD]) (.inr hJ)
theorem OX (n m : Nat) : Ac Try.prog 35 [AR n, AR m] (.one (.fn 57 [.eptr [.int .i64 m], .eptr [.int .i64 n]])) := by
 refine Hn.ac fun C hC => ?_
 unfold D8
 refine W ?_
 refine Wo (fun K hK => ?_)
 (try simp only [go_sem, fN, seval, eT, iR, AS.start])
 (repeat with_reducible refine Ai ?_)
 refine hK _ ?_
 clear hK K
 refine W ?_
 refine IWP.ghost (Aa.freeze 2 [2] (xs := [.int .i64 n]) rfl (by simp) (by simp [AB])) ?_
 refine IWP.ghost (Aa.freeze 3 [3] (xs := [.int .i64 m]) rfl (by simp) (by simp [AB])) ?_
 repeat' with_reducible first | refine W ?_ | refine Z0 ?_ | ((first | refine Wo fun K hK => ?_ | refine Wq ?_ | refine Wr ?_); (try simp only [go_sem, fN, seval, eT, iR, List.mem_singleton, AS.caps]); (repeat refine Ai ?_); (try (refine hK _ ?_; clear hK K)))
 simp only [go_sem, fN, seval, Ae, AS.result, AK, AL, AZ, List.all_cons, List.all_nil, AC.stay]
 rfl

open Go.Proofs Go.Shelf
def Try.sortBd_ren : Go.Shelf.Ren := ⟨fun | 6 => 54 | 15 => 68 | 14 => 67 | 28 => 84 | 29 => 85 | 20 => 76 | 21 => 77 | 22 => 78 | 23 => 79 | 24 => 80 | 25 => 81 | 26 => 82 | 27 => 83 | 46 => 91 | 47 => 92 | 48 => 93 | 49 => 94 | 50 => 95 | 57 => 98 | n => n, fun | 22 => 63 | 24 => 72 | 25 => 100 | 3 => 3 | 39 => 111 | 0 => 0 | 53 => 124 | 55 => 65 | 4 => 4 | 46 => 118 | 45 => 117 | 50 => 77 | 5 => 5 | 9 => 9 | 66 => 134 | 70 => 138 | 76 => 146 | 77 => 147 | n => n, fun | n => n⟩
theorem Try.sortBd : Go.Proofs.SlLaysF0.n6 Try.prog Try.sortBd_ren := {
 mixed := by kernel_rfl
 f6 := ⟨Try.f54.name, by decide, Try.func54.trans (congrArg some (by kernel_rfl))⟩
 f14 := ⟨Try.f67.name, by decide, Try.func67.trans (congrArg some (by kernel_rfl))⟩
 f15 := Try.func68.trans (congrArg some (by kernel_rfl))
 f20 := ⟨Try.f76.name, by decide, Try.func76.trans (congrArg some (by kernel_rfl))⟩
 f21 := ⟨Try.f77.name, by decide, Try.func77.trans (congrArg some (by kernel_rfl))⟩
 f22 := ⟨Try.f78.name, by decide, Try.func78.trans (congrArg some (by kernel_rfl))⟩
 f23 := ⟨Try.f79.name, by decide, Try.func79.trans (congrArg some (by kernel_rfl))⟩
 f24 := ⟨Try.f80.name, by decide, Try.func80.trans (congrArg some (by kernel_rfl))⟩
 f25 := ⟨Try.f81.name, by decide, Try.func81.trans (congrArg some (by kernel_rfl))⟩
 f26 := ⟨Try.f82.name, by decide, Try.func82.trans (congrArg some (by kernel_rfl))⟩
 f27 := ⟨Try.f83.name, by decide, Try.func83.trans (congrArg some (by kernel_rfl))⟩
 f28 := Try.func84.trans (congrArg some (by kernel_rfl))
 f29 := Try.func85.trans (congrArg some (by kernel_rfl))
 f46 := ⟨Try.f91.name, by decide, Try.func91.trans (congrArg some (by kernel_rfl))⟩
 f47 := Try.func92.trans (congrArg some (by kernel_rfl))
 f48 := Try.func93.trans (congrArg some (by kernel_rfl))
 f49 := ⟨Try.f94.name, by decide, Try.func94.trans (congrArg some (by kernel_rfl))⟩
 f50 := ⟨Try.f95.name, by decide, Try.func95.trans (congrArg some (by kernel_rfl))⟩
 f57 := ⟨Try.f98.name, by decide, Try.func98.trans (congrArg some (by kernel_rfl))⟩
 t0 := Try.underlying0
 a0 := Try.isAgg0
 z0 := Try.sizeOf0
 v0 := Try.zeroValue0
 t3 := Try.underlying3
 a3 := Try.isAgg3
 z3 := Try.sizeOf3
 v3 := Try.zeroValue3
 t4 := Try.underlying4
 a4 := Try.isAgg4
 z4 := Try.sizeOf4
 v4 := Try.zeroValue4
 t5 := Try.underlying5
 a5 := Try.isAgg5
 z5 := Try.sizeOf5
 v5 := Try.zeroValue5
 t9 := Try.underlying9
 a9 := Try.isAgg9
 z9 := Try.sizeOf9
 v9 := Try.zeroValue9
 t22 := Try.underlying63
 a22 := Try.isAgg63
 z22 := Try.sizeOf63
 v22 := Try.zeroValue63
 t25 := Try.underlying100
 a25 := Try.isAgg100
 z25 := Try.sizeOf100
 v25 := Try.zeroValue100
 t39 := Try.underlying111
 a39 := Try.isAgg111
 z39 := Try.sizeOf111
 v39 := Try.zeroValue111
 t45 := Try.underlying117
 a45 := Try.isAgg117
 z45 := Try.sizeOf117
 v45 := Try.zeroValue117
 t46 := Try.underlying118
 a46 := Try.isAgg118
 z46 := Try.sizeOf118
 v46 := Try.zeroValue118
 t50 := Try.underlying77
 a50 := Try.isAgg77
 z50 := Try.sizeOf77
 v50 := Try.zeroValue77
 t53 := Try.underlying124
 a53 := Try.isAgg124
 z53 := Try.sizeOf124
 v53 := Try.zeroValue124
 t55 := Try.underlying65
 a55 := Try.isAgg65
 z55 := Try.sizeOf65
 v55 := Try.zeroValue65
 t66 := Try.underlying134
 a66 := Try.isAgg134
 z66 := Try.sizeOf134
 v66 := Try.zeroValue134
 t70 := Try.underlying138
 a70 := Try.isAgg138
 z70 := Try.sizeOf138
 v70 := Try.zeroValue138
 t76 := Try.underlying146
 a76 := Try.isAgg146
 z76 := Try.sizeOf146
 v76 := Try.zeroValue146
 t77 := Try.underlying147
 a77 := Try.isAgg147
 z77 := Try.sizeOf147
 v77 := Try.zeroValue147 }

theorem Ic : ∀ l : List UInt8, Op.bytesLess l l = false
 | [] => by simp [Op.bytesLess]
 | x :: xs => by simp [Op.bytesLess, Ic xs]
theorem KE : ∀ (a b c : List UInt8), Op.bytesLess a b = true → Op.bytesLess b c = true → Op.bytesLess a c = true
 | _, [], _, h, _ => by simp [Op.bytesLess] at h
 | _, _ :: _, [], _, k => by simp [Op.bytesLess] at k
 | [], _ :: _, _ :: _, _, _ => by simp [Op.bytesLess]
 | x :: xs, y :: ys, z :: zs, h, k => by
  simp only [Op.bytesLess, Bool.or_eq_true, Bool.and_eq_true, decide_eq_true_eq, beq_iff_eq] at h k ⊢
  rcases h with h | ⟨rfl, h⟩
  ·rcases k with k | ⟨rfl, k⟩
   ·exact .inl (UInt8.lt_trans h k)
   ·exact .inl h
  ·rcases k with k | ⟨rfl, k⟩
   ·exact .inl k
   ·exact .inr ⟨rfl, KE xs ys zs h k⟩
theorem Kx : ∀ (a b : List UInt8), Op.bytesLess a b = true ∨ a = b ∨ Op.bytesLess b a = true
 | [], [] => .inr (.inl rfl)
 | [], _ :: _ => .inl (by simp [Op.bytesLess])
 | _ :: _, [] => .inr (.inr (by simp [Op.bytesLess]))
 | x :: xs, y :: ys => by
  simp only [Op.bytesLess, Bool.or_eq_true, Bool.and_eq_true, decide_eq_true_eq, beq_iff_eq, List.cons.injEq]
  rcases Nat.lt_trichotomy x.toNat y.toNat with h | h | h
  ·exact .inl (.inl h)
  ·have e : x = y := UInt8.toNat_inj.1 h
   subst e
   rcases Kx xs ys with h | h | h
   ·exact .inl (.inr ⟨rfl, h⟩)
   ·exact .inr (.inl ⟨rfl, h⟩)
   ·exact .inr (.inr (.inr ⟨rfl, h⟩))
  ·exact .inr (.inr (.inl h))
theorem PH {a b : ByteArray} (h : a.toList = b.toList) : a = b := by
 rw [ByteArray.toList_eq, ByteArray.toList_eq] at h
 cases a; cases b
 simp only at h
 congr 1
 exact Array.toList_inj.1 h
theorem Lp (a : ByteArray) : sLt a a = false := Ic _
theorem NO {a b c : ByteArray} (h : sLt a b = true) (k : sLt b c = true) : sLt a c = true := KE _ _ _ h k
theorem Nk (a b : ByteArray) : sLt a b = true ∨ a = b ∨ sLt b a = true := by
 rcases Kx a.toList b.toList with h | h | h
 ·exact .inl h
 ·exact .inr (.inl (PH h))
 ·exact .inr (.inr h)
abbrev Bd := ByteArray × Tm
def Qj (b : Bd) : List SV := [.str b.1, .str b.2.name, .list (b.2.args.map EM)]
instance : Lg Qj 3 := ⟨fun _ => rfl⟩
def lookup (l : List Bd) (n : ByteArray) : Option Tm := (l.find? fun b => decide (b.1 = n)).map (·.2)
mutual
def Tm.on (s : List Bd) : Tm → Tm
 | .mk n xs => match (if xs.isEmpty then lookup s n else none) with
  | some x => x
  | none => .mk n (Tm.onL s xs)
def Tm.onL (s : List Bd) : List Tm → List Tm
 | [] => []
 | t :: ts => t.on s :: Tm.onL s ts
end


set_option maxRecDepth 100000
def D3 : IR :=
 (.seq (.ops [.i 2 (.mov (.c (.one (.full []))))]) (.seq (.ops [.i 10 (.makeMap (some (Go.Proofs.Ytkegjgodjigjfaa.KK.two none (some .i64)))), .m 3 10]) (.seq (.seq (.ops [.m 11 0, .i 12 (.len false (.t 11)), .i 13 (.mov (.n 0))]) (.block 0 (.loop (.seq (.ops [.i 14 (.bin .lss (.t 13) (.t 12))]) (.seq (.cond (.t 14) .skip (.exit 0)) (.seq (.block 1 (.seq (.ops [.i 15 (.indexAddr 3 (.t 11) (.t 13)), .L 16 3 15, .i 5 (.alloc 25 [.st (.int .i64 0), .full [], .full []]), .s 3 5 16]) (.seq (.ops [.f 17 1 5, .l 18 17, .i 19 (.len false (.t 18)), .i 20 (.mov (.n 0))]) (.block 2 (.loop (.seq (.ops [.i 21 (.bin .lss (.t 20) (.t 19))]) (.seq (.cond (.t 21) .skip (.exit 2)) (.seq (.block 3 (.seq (.ops [.i 22 (.indexAddr 3 (.t 18) (.t 20)), .L 23 3 22, .i 7 (.alloc 46 [.st (.str (ByteArray.mk (#[]))), .full [], .st (.int .i64 0)]), .s 3 7 23]) (.ops [.m 24 3, .f 25 0 7, .l 26 25, .f 27 1 7, .l 28 27, .i 29 (.len false (.t 28)), .i 30 (.build [.st (.str (ByteArray.mk (#[]))), .st (.int .i64 0)] [(0, 1, .t 26), (1, 1, .t 29)]), .mk none none (.mapSet (some (Go.Proofs.Ytkegjgodjigjfaa.KK.two none (some .i64))) (.t 24) (.t 30) (.c (.one (.st (.bool true))))) .no]))) (.ops [.i 31 (.bin .add (.t 20) (.n 1)), .m 20 31]))))))))) (.ops [.i 32 (.bin .add (.t 13) (.n 1)), .m 13 32]))))))) (.seq (.ops [.i 8 (.mov (.c (.one (.full []))))]) (.seq (.seq (.ops [.m 33 3, .i 34 (.rangeM (.t 33))]) (.block 4 (.loop (.seq (.ops [.i 35 (.next (.t 34)), .i 36 (.extract 0 (.t 35))]) (.seq (.cond (.t 36) .skip (.exit 4)) (.block 5 (.seq (.ops [.i 37 (.entry (.t 34)), .i 38 (.extract 0 (.t 37)), .i 9 (.alloc 72 [.st (.str (ByteArray.mk (#[]))), .st (.int .i64 0)]), .s 2 9 38]) (.ops [.m 39 8, .L 40 2 9, .i 41 (.buildSlice false 72 2 [.t 40]), .i 42 (.append true 72 2 24 (.t 39) (.t 41)), .m 8 42])))))))) (.seq (.ops [.m 43 8, .i 44 (.callS 54 [.t 43, .c (.one (.fn 55 []))])]) (.seq (.ops [.m 45 8, .m 2 45]) .ret)))))))
theorem Gj : OkF Try.prog 32 46 [42, 44] D3 [.t 2] := .of Try.func32 rfl rfl (by kernel_rfl) rfl



abbrev Sym := ByteArray × Nat
def C1 (a b : Sym) : Bool := if a.1 = b.1 then decide (a.2 < b.2) else sLt a.1 b.1
theorem FU (a : Sym) : C1 a a = false := by simp [C1]
theorem DF {a b c : Sym} (h : C1 a b = true) (k : C1 b c = true) : C1 a c = true := by
 unfold C1 at *
 by_cases e1 : a.1 = b.1
 ·rw [if_pos e1] at h
  by_cases e2 : b.1 = c.1
  ·rw [if_pos e2] at k
   rw [if_pos (e1.trans e2)]
   simp at h k ⊢
   omega
  ·rw [if_neg e2] at k
   rw [if_neg (fun e => e2 (e1.symm.trans e)), e1]
   exact k
 ·rw [if_neg e1] at h
  by_cases e2 : b.1 = c.1
  ·rw [if_pos e2] at k
   rw [if_neg (fun e => e1 (e.trans e2.symm)), ← e2]
   exact h
  ·rw [if_neg e2] at k
   have := NO h k
   rw [if_neg (fun e => by rw [e, Lp] at this; cases this)]
   exact this
theorem EF (a b : Sym) : C1 a b = true ∨ a = b ∨ C1 b a = true := by
 obtain ⟨a, i⟩ := a
 obtain ⟨b, j⟩ := b
 unfold C1
 by_cases e : a = b
 ·subst e
  simp only [if_true, decide_eq_true_eq, Prod.mk.injEq, true_and]
  omega
 ·have e' : ¬ b = a := fun h => e h.symm
  show (if a = b then _ else sLt a b) = true ∨ _ ∨ (if b = a then _ else sLt b a) = true
  rw [if_neg e, if_neg e']
  rcases Nk a b with h | h | h
  ·exact .inl h
  ·exact absurd h e
  ·exact .inr (.inr h)
def D9 (l : List Sym) : Prop := l.Pairwise fun a b => C1 a b = true
theorem E4 : ∀ {l m : List Sym}, D9 l → D9 m → (∀ x, x ∈ l ↔ x ∈ m) → l = m
 | [], [], _, _, _ => rfl
 | [], b :: m, _, _, h => absurd ((h b).2 (by simp)) (by simp)
 | a :: l, [], _, _, h => absurd ((h a).1 (by simp)) (by simp)
 | a :: l, c :: m, hl, hm, h => by
  obtain ⟨l1, l2⟩ := List.pairwise_cons.1 hl
  obtain ⟨m1, m2⟩ := List.pairwise_cons.1 hm
  have hirr : ∀ {a : Sym}, ¬ C1 a a = true := fun {a} h => by rw [FU] at h; cases h
  have e : a = c := by
   rcases List.mem_cons.1 ((h a).1 (by simp)) with e | e
   ·exact e
   ·rcases List.mem_cons.1 ((h c).2 (by simp)) with e2 | e2
    ·exact e2.symm
    ·exact absurd (DF (m1 a e) (l1 c e2)) hirr
  subst e
  refine congrArg (a :: ·) (E4 l2 m2 fun x => ?_)
  constructor
  ·intro hx
   rcases List.mem_cons.1 ((h x).1 (List.mem_cons_of_mem _ hx)) with e | e
   ·subst e; exact absurd (l1 _ hx) hirr
   ·exact e
  ·intro hx
   rcases List.mem_cons.1 ((h x).2 (List.mem_cons_of_mem _ hx)) with e | e
   ·subst e; exact absurd (m1 _ hx) hirr
   ·exact e
def GM (x : Sym) : List Sym → List Sym
 | [] => [x]
 | y :: l => if x = y then y :: l else if C1 x y = true then x :: y :: l else y :: GM x l
theorem LC {x z : Sym} {l : List Sym} : z ∈ GM x l ↔ z = x ∨ z ∈ l := by
 induction l with
 | nil => simp [GM]
 | cons y l ih =>
  unfold GM
  split
  ·rename_i e; subst e; simp
  ·split
   ·simp
   ·simp only [List.mem_cons, ih]
    constructor
    ·rintro (h | h | h) <;> simp [h]
    ·rintro (h | h | h) <;> simp [h]
theorem Oj {x : Sym} {l : List Sym} (h : D9 l) : D9 (GM x l) := by
 induction l with
 | nil => exact List.pairwise_singleton _ _
 | cons y l ih =>
  obtain ⟨h1, h2⟩ := List.pairwise_cons.1 h
  unfold GM
  split
  ·exact h
  ·rename_i e
   split
   ·rename_i hlt
    exact List.pairwise_cons.2 ⟨fun z hz => by
     rcases List.mem_cons.1 hz with rfl | hz
     ·exact hlt
     ·exact DF hlt (h1 z hz), h⟩
   ·rename_i hlt
    refine List.pairwise_cons.2 ⟨fun z hz => ?_, ih h2⟩
    rcases LC.1 hz with rfl | hz
    ·rcases EF z y with q | q | q
     ·exact absurd q hlt
     ·exact absurd q e
     ·exact q
    ·exact h1 z hz
def BQ (l : List Sym) : List Sym := l.foldr GM []
theorem Er {l : List Sym} {x : Sym} : x ∈ BQ l ↔ x ∈ l := by
 induction l with
 | nil => simp [BQ]
 | cons y l ih =>
  show x ∈ GM y (BQ l) ↔ _
  rw [LC, ih, List.mem_cons]
theorem Iq (l : List Sym) : D9 (BQ l) := by
 induction l with
 | nil => exact List.Pairwise.nil
 | cons y l ih => exact Oj ih
theorem Fe {l m : List Sym} (h : D9 m) (hm : ∀ x, x ∈ m ↔ x ∈ l) : m = BQ l :=
 E4 h (Iq l) fun x => (hm x).trans Er.symm
theorem He {l m : List Sym} (h : ∀ x, x ∈ l ↔ x ∈ m) : BQ l = BQ m :=
 Fe (Iq l) fun x => Er.trans (h x)
theorem Bp {l : List Sym} (h : l.Nodup) : (BQ l).length = l.length := by
 have hp : (BQ l).Perm l := by
  induction l with
  | nil => exact List.Perm.nil
  | cons y l ih =>
   obtain ⟨h1, h2⟩ := List.nodup_cons.1 h
   have key : ∀ {m : List Sym}, y ∉ m → (GM y m).Perm (y :: m) := fun {m} hy => by
    induction m with
    | nil => exact List.Perm.refl _
    | cons z m ih2 =>
     unfold GM
     rw [if_neg (fun e => hy (by simp [e]))]
     split
     ·exact List.Perm.refl _
     ·exact ((ih2 (fun hm => hy (by simp [hm]))).cons z).trans (List.Perm.swap _ _ _)
   exact (key (fun hm => h1 (Er.1 hm))).trans ((ih h2).cons y)
 exact hp.length_eq
def Mv.sym (m : Mv) : Sym := (m.name, m.frm.length)
def C_ (l : List Au) : List Sym := BQ (l.flatMap fun a => a.moves.map Mv.sym)
theorem HB {l : List Au} {s : Sym} : s ∈ C_ l ↔ ∃ a ∈ l, ∃ m ∈ a.moves, s = m.sym := by
 unfold C_
 rw [Er, List.mem_flatMap]
 simp only [List.mem_map, eq_comm]

open Go.Lib Go.Sort
set_option maxHeartbeats 1000000
abbrev Ce := ByteArray × Fin 100
def Bk (x : Ce) : List Value := [.string x.1, .int .i64 (x.2.val : Int)]
def Lt (x y : Ce) : Int := if x.1 = y.1 then (x.2.val : Int) - y.2.val else if sLt x.1 y.1 = true then -1 else 1
def Ce.sym (x : Ce) : Sym := (x.1, x.2.val)
theorem CK {x y : Ce} : Lt x y < 0 ↔ C1 x.sym y.sym = true := by
 unfold Lt C1 Ce.sym
 dsimp only
 split
 ·simp only [decide_eq_true_eq]; omega
 ·split
  ·rename_i h; simp [h]
  ·rename_i h; simp [h]
theorem PJ (x y : Ce) (W : World) : Calls Try.prog 55 #[.agg (Bk x).toArray, .agg (Bk y).toArray] W fun e w' => e = .returned (.int .i64 (Lt x y)) ∧ ∃ q os', w' = grow (W.drewN q) os' := by
 obtain ⟨x, i⟩ := x
 obtain ⟨y, j⟩ := y
 have hi := i.isLt
 have hj := j.isLt
 generalize hr : Lt (x, i) (y, j) = r
 unfold Lt at hr
 dsimp only at hr
 unfold Bk
 have hlt : sLt x y = Op.bytesLess x.toList y.toList := rfl
 have hin : inR .i64 ((i.val : Int) - j.val) := by rw [Cd]; omega
 have hw := Bw hin
 go_enter Try.func55, Try.ntmps55
 go_wp2_with fail
 all_goals go_ret
 all_goals refine ⟨?_, 0, _, by rw [alloc_eq_grow, alloc_eq_grow, grow_grow]; rfl⟩
 all_goals rw [B0] at *
 all_goals simp_all
theorem PV : SWO (ltOf Lt) where
 irrefl x := by
  simp only [ltOf, decide_eq_false_iff_not]
  intro h
  have := CK.1 h
  rw [FU] at this
  cases this
 trans x y z h k := by
  simp only [ltOf, decide_eq_true_eq] at *
  exact CK.2 (DF (CK.1 h) (CK.1 k))
 ntrans x y z h k := by
  simp only [ltOf, decide_eq_false_iff_not] at *
  intro e
  have e := CK.1 e
  rcases EF y.sym z.sym with q | q | q
  ·exact k (CK.2 q)
  ·rw [← q] at e; exact h (CK.2 e)
  ·exact h (CK.2 (DF e q))
def Gi (s : Sym) : List SV := [.str s.1, .int .i64 (s.2 : Int)]
abbrev Qh (s : Sym) : AV := .agg [.st (.str s.1), .st (.int .i64 (s.2 : Int))]
abbrev Gc (l : List Sym) : AV := .one (.st (.list (l.map Gi)))
instance lensEncY : Lg Gi 2 := ⟨fun _ => rfl⟩
def Mq (σ : Sto) (x : Ce) (b : Sym) : Prop := x.sym = b ∧ AU (Ag σ) (Bk x) (Gi b)
theorem LP {α β : Type} {R : α → β → Prop} {l1 l2 : List α} (hp : l1.Perm l2) : ∀ {m1 : List β}, AU R l1 m1 → ∃ m2, AU R l2 m2 ∧ m1.Perm m2 := by
 induction hp with
 | nil => intro m1 h; exact ⟨m1, h, List.Perm.refl _⟩
 | cons x _ ih =>
  intro m1 h
  cases h with
  | cons h1 h2 =>
   obtain ⟨m2, q1, q2⟩ := ih h2
   exact ⟨_ :: m2, .cons h1 q1, q2.cons _⟩
 | swap x y l =>
  intro m1 h
  cases h with
  | cons h1 h2 =>
   cases h2 with
   | cons h2 h3 => exact ⟨_, .cons h2 (.cons h1 h3), List.Perm.swap _ _ _⟩
 | trans _ _ ih1 ih2 =>
  intro m1 h
  obtain ⟨m2, q1, q2⟩ := ih1 h
  obtain ⟨m3, q3, q4⟩ := ih2 q1
  exact ⟨m3, q3, q2.trans q4⟩
theorem Pk {σ : Sto} {b : Sym} (hb : b.2 < 100) {v1 v2 : Value} (h1 : Ag σ v1 (.str b.1)) (h2 : Ag σ v2 (.int .i64 (b.2 : Int))) : ∃ x : Ce, [v1, v2] = Bk x ∧ Mq σ x b := by
 have e1 := (DU (S := noS) (ι := noH) (.one (.st h1))).1
 have e2 := (Ao (S := noS) (ι := noH) (.one (.st h2))).1
 subst e1 e2
 exact ⟨(b.1, ⟨b.2, hb⟩), rfl, rfl, .cons h1 (.cons h2 .nil)⟩
theorem GY {σ : Sto} {vs : Array Value} : ∀ (l : List Sym) (base : Nat), (∀ s ∈ l, s.2 < 100) → (∀ k b, l[k]? = some b → ∀ j a, (Gi b)[j]? = some a → ∃ v, vs[base + k * 2 + j]? = some v ∧ Ag σ v a) →
  ∃ d : List Ce, AU (Mq σ) d l ∧ ∀ k x j v, d[k]? = some x → (Bk x)[j]? = some v → vs[base + k * 2 + j]? = some v
 | [], base, _, _ => ⟨[], .nil, by simp⟩
 | b :: l, base, hb, h => by
  obtain ⟨d, d1, d2⟩ := GY l (base + 2) (fun s hs => hb s (by simp [hs])) (fun k c hc j a ha => by
   obtain ⟨v, v1, v2⟩ := h (k + 1) c (by simpa using hc) j a ha
   exact ⟨v, by rw [← v1]; congr 1; omega, v2⟩)
  obtain ⟨u1, p1, q1⟩ := h 0 b rfl 0 _ rfl
  obtain ⟨u2, p2, q2⟩ := h 0 b rfl 1 _ rfl
  obtain ⟨x, x1, x2⟩ := Pk (hb b (by simp)) q1 q2
  refine ⟨x :: d, .cons x2 d1, fun k y j v hy hv => ?_⟩
  cases k with
  | zero =>
   simp only [List.getElem?_cons_zero, Option.some.injEq] at hy
   subst hy
   rw [← x1] at hv
   match j, hv with
   | 0, hv => cases hv; exact p1
   | 1, hv => cases hv; exact p2
   | j + 2, hv => simp at hv
  | succ k =>
   have := d2 k y j v (by simpa using hy) hv
   rw [← this]
   congr 1
   omega
theorem F9 (x : Ce) : (Bk x).length = 2 := rfl
theorem Ix {d : Array Ce} {t : Nat} (h : t < d.size * 2) : ∃ x v, d[t / 2]? = some x ∧ (Bk x)[t % 2]? = some v ∧ (flatK Bk 2 d)[t]! = v := by
 have hk : t / 2 < d.size := by omega
 have hj : t % 2 < (Bk d[t / 2]).length := by rw [F9]; omega
 refine ⟨d[t / 2], (Bk d[t / 2])[t % 2], Array.getElem?_eq_getElem hk, List.getElem?_eq_getElem hj, ?_⟩
 rw [get_flatK _ _ _ _ h, getElem!_pos d (t / 2) hk, getElem!_pos (Bk d[t / 2]) (t % 2) hj]
theorem LS (w : World) (g n : Nat) (d : Array Ce) (os : Array Obj) (vs : Array Value) (e : TypeId) (hg : w.heap[g]? = some (.cells vs e (0, 0))) :
  (sortWorldK Bk 2 w g 0 n d os).heap[g]? = some (.cells (putCells id 0 (flatK Bk 2 d) vs) e (0, 0)) ∧ (∀ k, k < w.heap.size → k ≠ g → (sortWorldK Bk 2 w g 0 n d os).heap[k]? = w.heap[k]?) ∧ w.heap.size ≤ (sortWorldK Bk 2 w g 0 n d os).heap.size := by
 have hlt := (Array.getElem?_eq_some_iff.1 hg).1
 have hsz : (putRowK Bk 2 (Sort.ahead w n) g 0 d).heap.size = w.heap.size := by simp [putRowK, putRow, mapBlock, Sort.ahead]
 refine ⟨?_, fun k hk hne => ?_, ?_⟩
 ·unfold sortWorldK
  rw [heap_grow_old _ _ (by rw [hsz]; exact hlt)]
  simp [putRowK, putRow, mapBlock, Sort.ahead, Array.getElem?_modify, hg, onCells]
 ·unfold sortWorldK
  rw [heap_grow_old _ _ (by rw [hsz]; exact hk)]
  simp [putRowK, putRow, mapBlock, Sort.ahead, Array.getElem?_modify, Ne.symm hne]
 ·unfold sortWorldK
  rw [Go.Sort.size_grow, hsz]
  omega
theorem N4 {d : Array Ce} {vs : Array Value} (hs : d.size * 2 ≤ vs.size) {k : Nat} {x : Ce} {j : Nat} {v : Value} (hx : d[k]? = some x) (hv : (Bk x)[j]? = some v) : (putCells id 0 (flatK Bk 2 d) vs)[k * 2 + j]? = some v := by
 have hk := (Array.getElem?_eq_some_iff.1 hx).1
 have hj : j < 2 := by have := (List.getElem?_eq_some_iff.1 hv).1; rw [F9] at this; exact this
 have hlt : k * 2 + j < d.size * 2 := by omega
 obtain ⟨y, u, h1, h2, h3⟩ := Ix hlt
 have e1 : (k * 2 + j) / 2 = k := by omega
 have e2 : (k * 2 + j) % 2 = j := by omega
 rw [e1, hx] at h1
 cases h1
 rw [e2, hv] at h2
 cases h2
 unfold putCells
 rw [Array.getElem?_mapIdx, Array.getElem?_eq_getElem (by omega), Option.map_some, if_pos (by rw [size_flatK]; omega)]
 simp only [Nat.sub_zero, id, h3]
theorem ND (d : Array Ce) (vs : Array Value) : (putCells id 0 (flatK Bk 2 d) vs).size = vs.size := by simp [putCells]
theorem PQ {S : AA} {r : Nat} {b : AJ} (h : S r = some b) : AB S r (some b) = S := by
 funext k
 unfold AB
 split
 ·rename_i e; rw [e, h]
 ·rfl
theorem Lz {d : Array Ce} {vs : Array Value} {t : Nat} (h : d.size * 2 ≤ t) : (putCells id 0 (flatK Bk 2 d) vs)[t]? = vs[t]? := by
 unfold putCells
 rw [Array.getElem?_mapIdx]
 cases hv : vs[t]? with
 | none => rfl
 | some v => rw [Option.map_some, if_neg (by rw [size_flatK]; omega)]
abbrev Nr (l : List Sym) : AJ := .mrow 72 2 (l.map Gi)
abbrev D0 (l : List Sym) (ys : List (List SV)) : AJ := .mrow 72 2 (l.map Gi ++ ys)
theorem Lu (l : List Sym) (ys : List (List SV)) (hys : ∀ y ∈ ys, y.length = 2) (hn : l.Nodup) (hb : ∀ s ∈ l, s.2 < 100) (hl : l.length ≤ 100000) (r : Nat) (hr : 1000 ≤ r) (S : AA) (sr : S r = some (D0 l ys)) (hS : Ad S) (σ : Sto) (w : World) (ι : Ah) (hF : Fit σ w) (hO : DX σ S ι w) :
  Calls Try.prog 54 #[.slice (ι r).p l.length (ι r).cap, .func (.func 55) #[] #[]] w fun e w' => ∃ v σ' ι', e = .returned v ∧ Ad (AB S r (some (D0 (BQ l) ys))) ∧ Upd S ι (AB S r (some (D0 (BQ l) ys))) ι' ∧ DX σ' (AB S r (some (D0 (BQ l) ys))) ι' w' ∧ AO σ' (AB S r (some (D0 (BQ l) ys))) ι' v (.tup []) ∧ Fit σ' w' ∧ (∀ p x, σ p = some x → σ' p = some x) ∧
   (∀ p : Addr, p.block < w.heap.size → Bj S ι p.block → σ' p = σ p) ∧ (w'.os = w.os ∧ w'.tape = w.tape ∧ w'.output = w.output) ∧ w.heap.size ≤ w'.heap.size ∧
   (∀ g, g < w.heap.size → Bj S ι g → w'.heap[g]? = w.heap[g]?) ∧ (∀ id b g, AB S r (some (D0 (BQ l) ys)) id = some b → (ι' id).g = some g → w.heap.size ≤ g ∨ ¬ Bj S ι g) := by
 have hS' : Ad (AB S r (some (D0 (BQ l) ys))) := A2 hS hr rfl
 have hb : BR σ S ι w (ι r) (.mrow 72 2 (l.map Gi ++ ys)) := hO.1 r _ sr
 generalize hxs : l.map Gi ++ ys = xs at hb
 have hlen : xs.length = l.length + ys.length := by rw [← hxs, List.length_append, List.length_map]
 generalize hh : ι r = hd at hb
 cases hb with
 | mnil k1 k2 =>
  obtain ⟨hl0, hy0⟩ : l = [] ∧ ys = [] := by simpa using hxs
  subst hl0 hy0
  refine (AnyF.slices_SortFunc_none Try.sortBd hd.p hd.cap _ w).mono fun e w' ⟨he, hw⟩ => ?_
  subst hw
  have hid : AB S r (some (D0 (BQ []) [])) = S := PQ sr
  rw [hid]
  exact ⟨_, σ, ι, he, hS, Upd.refl _ _, hO, .tup (fun _ => undef) rfl (by simp) (by simp), hF, fun _ _ h => h, fun _ _ _ => rfl, ⟨rfl, rfl, rfl⟩, Nat.le_refl _, fun _ _ _ => rfl, fun id b g h1 h2 => .inr fun hno => hno id b h1 h2⟩
 | @mrow _ _ _ g cs k1 k2 k3 k4 k5 k6 k7 k8 k9 =>
  subst hxs
  obtain ⟨d, d1, d2⟩ := GY (σ := σ) (vs := cs) l 0 hb (fun k b hb j a ha => by
   obtain ⟨v, v1, v2⟩ := k8 k (Gi b) j a (by rw [List.getElem?_append_left (by rw [List.length_map]; exact F7 hb), List.getElem?_map, hb]; rfl) ha
   exact ⟨v, by rw [Nat.zero_add]; exact v1, v2⟩)
  have dlen : d.length = l.length := d1.len
  have hcap : l.length ≤ hd.cap := by omega
  have hfits : d.toArray.size * 2 ≤ cs.size := by
   rw [k6]
   simp only [List.size_toArray, dlen]
   exact Nat.mul_le_mul_right 2 hcap
  have hH : HoldsK Bk 2 w g 0 d.toArray := fun j hj => by
   rw [size_flatK] at hj
   obtain ⟨x, v, q1, q2, q3⟩ := Ix hj
   have q1 : d[j / 2]? = some x := by simpa using q1
   have hc := d2 _ _ _ _ q1 q2
   have e : 0 + j / 2 * 2 + j % 2 = j := by omega
   rw [e] at hc
   refine ⟨?_, ?_⟩
   ·rw [cell_of_row w g _ _ _ _ k3, Nat.zero_add, hc, q3]
    rfl
   ·exact Blk.frozen k3 _
  have eg : ∀ args w, (callFunc 55 args).run Try.prog w = .ok (.enter 55 args) w := enters_of Try.func55 (by kernel_rfl) rfl
  have hgl : g < w.heap.size := (Array.getElem?_eq_some_iff.1 k3).1
  have hcon := AnyQ.slices_SortFunc Try.sortBd 2 Try.isAgg72 Try.sizeOf72 Bk F9 (fun x v hv => by simp [Bk] at hv; rcases hv with rfl | rfl <;> rfl) Lt PV 55 #[] g 0 hd.cap d.toArray w eg (fun _ _ _ _ x y => PJ x y _) hH hgl (by simp [dlen]; omega)
  rw [show d.toArray.size = l.length by simp [dlen]] at hcon
  rw [k2, show (l.length) = l.length from rfl]
  refine Calls.mono hcon fun e w' ⟨he, d', n, os, hp, hs, hw⟩ => ?_
  obtain ⟨hp1, hp2, hp3⟩ := hp
  have hd'l : d'.size = l.length := by rw [hp1]; simp [dlen]
  have hperm : d.Perm d'.toList := by
   have e1 : d'.extract 0 l.length = d' := by rw [← hd'l]; exact Array.extract_size
   have e2 : d.toArray.extract 0 l.length = d.toArray := by
    rw [show l.length = d.toArray.size by simp [dlen]]
    exact Array.extract_size
   rw [e1, e2] at hp3
   exact hp3.symm
  obtain ⟨l', l1, l2⟩ := LP hperm d1
  have hl'len : l'.length = l.length := l2.length_eq.symm
  have hord : D9 l' := by
   unfold D9
   rw [List.pairwise_iff_getElem]
   intro i j hi hj hij
   obtain ⟨x, x1, x2, _⟩ := l1.get (List.getElem?_eq_getElem hi)
   obtain ⟨y, y1, y2, _⟩ := l1.get (List.getElem?_eq_getElem hj)
   have hso := hs i j (Nat.zero_le _) hij (by omega)
   have e1 : d'[i]! = x := by
    rw [Array.getElem?_toList] at x1
    rw [getElem!_def, x1]
   have e2 : d'[j]! = y := by
    rw [Array.getElem?_toList] at y1
    rw [getElem!_def, y1]
   rw [e1, e2] at hso
   simp only [ltOf, decide_eq_false_iff_not] at hso
   have hno : ¬ C1 l'[j] l'[i] = true := fun h => hso (CK.2 (by rw [x2, y2]; exact h))
   have hdiff : l'[i] ≠ l'[j] := by
    have hn' := l2.nodup_iff.1 hn
    rw [List.nodup_iff_pairwise_ne, List.pairwise_iff_getElem] at hn'
    exact hn' i j hi hj hij
   rcases EF l'[i] l'[j] with q | q | q
   ·exact q
   ·exact absurd q hdiff
   ·exact absurd q hno
  have hl' : l' = BQ l := Fe hord fun x => l2.mem_iff.symm
  subst hl'
  obtain ⟨w1, w2, w3⟩ := LS w g n d' os cs _ k3
  rw [← hw] at w1 w2 w3
  have hfits' : d'.size * 2 ≤ cs.size := by rw [hd'l]; rw [← dlen]; simpa using hfits
  have hupd : Upd S ι (AB S r (some (D0 (BQ l) ys))) ι := fun id b hb => by
   by_cases e : id = r
   ·subst e
    rw [sr] at hb
    cases hb
    exact ⟨_, AD _ _ _, by simp [AJ.len, Bp hn], fun _ => ⟨rfl, rfl⟩⟩
   ·exact ⟨b, by rw [AE _ e]; exact hb, Nat.le_refl _, fun _ => ⟨rfl, rfl⟩⟩
  have hotherg : ∀ id b g', id ≠ r → S id = some b → (ι id).g = some g' → g' ≠ g := fun id b g' hne hb hg' e => by
   subst e
   exact hne (hO.2 id r b _ g' hb sr hg' (by rw [hh]; exact k1))
  have hFit : Fit σ w' := fun p x hp => by
   have hlt := hF.lt hp
   by_cases e : p.block = g
   ·rw [k9 p e] at hp; cases hp
   ·exact (Bx (w2 _ hlt e)).trans (hF p x hp)
  refine ⟨_, σ, ι, he, hS', hupd, ⟨fun id b hb => ?_, fun id id' b b' g' q1 q2 q3 q4 => ?_⟩, .tup (fun _ => undef) rfl (by simp) (by simp), hFit, fun _ _ h => h, fun _ _ _ => rfl, ?_, w3, fun g' q1 q2 => ?_, fun id b g' q1 q2 => ?_⟩
  ·by_cases e : id = r
   ·subst e
    rw [AD] at hb
    cases hb
    rw [hh]
    have hlen' : ((BQ l).map Gi ++ ys).length = l.length + ys.length := by rw [List.length_append, List.length_map, Bp hn]
    refine .mrow k1 k2 w1 (by rw [hlen', ← hlen]; exact k4) k5 (by rw [ND]; exact k6) (fun x hx => ?_) (fun k x j a hx ha => ?_) k9
    ·rcases List.mem_append.1 hx with hx | hx
     ·exact Qa (f := Gi) x hx
     ·exact hys x hx
    rcases Nat.lt_or_ge k l.length with hk | hk
    ·rw [List.getElem?_append_left (by rw [List.length_map, Bp hn]; exact hk), List.getElem?_map, Option.map_eq_some_iff] at hx
     obtain ⟨b, hb, rfl⟩ := hx
     obtain ⟨y, y1, y2, y3⟩ := l1.get hb
     obtain ⟨v, v1, v2⟩ := y3.get ha
     exact ⟨v, N4 hfits' (by simpa using y1) v1, v2⟩
    ·rw [List.getElem?_append_right (by rw [List.length_map, Bp hn]; exact hk), List.length_map, Bp hn] at hx
     obtain ⟨v, v1, v2⟩ := k8 k x j a (by rw [List.getElem?_append_right (by rw [List.length_map]; exact hk), List.length_map]; exact hx) ha
     exact ⟨v, by rw [Lz (by rw [hd'l]; omega)]; exact v1, v2⟩
   ·rw [AE _ e] at hb
    refine (hO.1 id b hb).mono (fun _ _ h => h) hupd (fun g' hg' => w2 g' ((hO.1 id b hb).gsome hg') (hotherg id b g' e hb hg')) (fun _ _ _ _ => rfl)
  ·have back : ∀ i c, AB S r (some (D0 (BQ l) ys)) i = some c → ∃ c', S i = some c' := fun i c hc => by
    by_cases e : i = r
    ·subst e; exact ⟨_, sr⟩
    ·rw [AE _ e] at hc; exact ⟨c, hc⟩
   obtain ⟨c1, c1'⟩ := back _ _ q1
   obtain ⟨c2, c2'⟩ := back _ _ q2
   exact hO.2 _ _ _ _ _ c1' c2' q3 q4
  ·rw [hw]
   exact ⟨rfl, rfl, rfl⟩
  ·exact w2 g' q1 fun e => q2 r _ sr (by rw [hh, e]; exact k1)
  ·refine .inr fun hno => ?_
   by_cases e : id = r
   ·subst e; exact hno id _ sr q2
   ·rw [AE _ e] at q1; exact hno id _ q1 q2
theorem KX (l : List Sym) (hn : l.Nodup) (hb : ∀ s ∈ l, s.2 < 100) (hl : l.length ≤ 100000) (r : Nat) (hr : 1000 ≤ r) (S : AA) (sr : S r = some (Nr l)) :
  BM Try.prog 54 [.one (.row r l.length), .one (.fn 55 [])] S (.tup []) (AB S r (some (Nr (BQ l)))) := by
 intro hS σ w vs ι hG hF hO hv
 cases hv with
 | @cons v1 _ _ _ h1 hv =>
 cases hv with
 | @cons v2 _ _ _ h2 hv =>
 cases hv
 obtain ⟨b, b1, b2, b3⟩ := By (AP h1)
 rw [sr] at b1
 cases b1
 have hv1 := b3 (by simp [AJ.len])
 subst hv1
 have hv2 : v2 = .func (.func 55) #[] #[] := by
  cases AP h2 with
  | @fn _ vs _ c q1 q2 q3 =>
   have e : vs = #[] := Array.eq_empty_of_size_eq_zero (by simpa using q1)
   rw [e]
 subst hv2
 have e : ∀ m : List Sym, Nr m = D0 m [] := fun m => by rw [D0, List.append_nil]
 rw [e] at sr ⊢
 exact Lu l [] (by simp) hn hb hl r hr S sr hS σ w ι hF hO

def met {α : Type} (l : List α) (seen : List Nat) : List α := seen.filterMap fun j => l[j]?
theorem Od {α : Type} {l : List α} {seen : List Nat} {j : Nat} {b : α} (h : l[j]? = some b) : met l (seen ++ [j]) = met l seen ++ [b] := by
 unfold met
 rw [List.filterMap_append, List.filterMap_cons_some h]
 rfl
theorem MY {α : Type} {l : List α} : ∀ {seen : List Nat}, (∀ j ∈ seen, j < l.length) → (met l seen).length = seen.length
 | [], _ => rfl
 | j :: seen, h => by
  have hj := h j (by simp)
  unfold met
  rw [List.filterMap_cons_some (List.getElem?_eq_getElem hj), List.length_cons, List.length_cons]
  exact congrArg (· + 1) (MY fun i hi => h i (by simp [hi]))
theorem HL {n : Nat} {seen : List Nat} (hn : seen.Nodup) (h : ∀ j ∈ seen, j < n) : seen.length ≤ n := by
 have h1 : seen.Perm ((List.range n).filter fun j => decide (j ∈ seen)) := (List.perm_ext_iff_of_nodup hn (List.nodup_range.filter _)).2 fun j => by
  rw [List.mem_filter, List.mem_range, decide_eq_true_eq]
  exact ⟨fun hj => ⟨h j hj, hj⟩, fun hj => hj.2⟩
 rw [h1.length_eq]
 exact Nat.le_trans (List.length_filter_le _ _) (Nat.le_of_eq List.length_range)
theorem O2 {α : Type} {l : List α} {seen : List Nat} (hn : seen.Nodup) (h : ∀ j ∈ seen, j < l.length) (hall : ∀ j, j < l.length → j ∈ seen) : (met l seen).Perm l := by
 have hp : seen.Perm (List.range l.length) := (List.perm_ext_iff_of_nodup hn List.nodup_range).2 fun j => ⟨fun hj => List.mem_range.2 (h j hj), fun hj => hall j (List.mem_range.1 hj)⟩
 have := hp.filterMap fun j => l[j]?
 rw [Ck] at this
 exact this

def KJ (a : Au) : List SV := [.int .i64 a.states, .list (a.moves.map Ab), .list (a.last.map BE)]
instance lensEncAu : Lg KJ 3 := ⟨fun _ => rfl⟩
instance lensEncMv : Lg Ab 3 := ⟨fun _ => rfl⟩
abbrev NP (l : List Au) : AV := .one (.st (.list (l.map KJ)))
def NR (s : Sym) : KV := .p (.s s.1) (.i (s.2 : Int))
def Hv (s : Sym) : KV × AV := (NR s, BJ true)
abbrev QR (l : List Sym) : AJ := .map (some (.two none (some .i64))) (l.map Hv)
open Classical in
noncomputable def FJ (l : List Sym) (s : Sym) : List Sym := if s ∈ l then l else l ++ [s]
theorem OQ {a b : Sym} : NR a = NR b ↔ a = b := by
 obtain ⟨a, i⟩ := a
 obtain ⟨b, j⟩ := b
 simp only [NR, KV.p.injEq, KV.s.injEq, KV.i.injEq, Prod.mk.injEq]
 exact and_congr_right fun _ => by omega
theorem NV (l : List Sym) (s : Sym) : GE (l.map Hv) (NR s) (BJ true) = (FJ l s).map Hv := by
 induction l with
 | nil => simp [FJ, GE, Hv]
 | cons x l ih =>
  simp only [List.map_cons, GE, Hv, OQ]
  by_cases e : x = s
  ·subst e
   simp [FJ, Hv]
  ·rw [if_neg e]
   unfold FJ at ih ⊢
   have e' : ¬ s = x := fun h => e h.symm
   by_cases hm : s ∈ l
   ·rw [if_pos hm] at ih
    rw [if_pos (by simp [hm]), List.map_cons]
    exact congrArg (Hv x :: ·) ih
   ·rw [if_neg hm] at ih
    rw [if_neg (by simp [hm, e']), List.cons_append, List.map_cons]
    exact congrArg (Hv x :: ·) ih
theorem MJ {l : List Sym} {s : Sym} (h : l.Nodup) : (FJ l s).Nodup := by
 unfold FJ
 split
 ·exact h
 ·rename_i hm
  rw [List.nodup_append]
  exact ⟨h, by simp, fun a ha b hb e => hm (by rw [← List.mem_singleton.1 hb, ← e]; exact ha)⟩
theorem OA {l : List Sym} {s x : Sym} : x ∈ FJ l s ↔ x ∈ l ∨ x = s := by
 unfold FJ
 split
 ·rename_i hm
  constructor
  ·exact .inl
  ·rintro (h | rfl)
   ·exact h
   ·exact hm
 ·simp
theorem Pl (l : List Sym) (s : Sym) : (FJ l s).length ≤ l.length + 1 := by
 unfold FJ
 split <;> simp
noncomputable def CD (l : List Sym) (ms : List Mv) : List Sym := ms.foldl (fun l m => FJ l m.sym) l
theorem GS : ∀ {ms : List Mv} {l : List Sym}, l.Nodup → (CD l ms).Nodup
 | [], l, h => h
 | m :: ms, l, h => GS (ms := ms) (MJ h)
theorem Iu : ∀ {ms : List Mv} {l : List Sym} {x : Sym}, x ∈ CD l ms ↔ x ∈ l ∨ ∃ m ∈ ms, x = m.sym
 | [], l, x => by simp [CD]
 | m :: ms, l, x => by
  show x ∈ CD (FJ l m.sym) ms ↔ _
  rw [Iu, OA]
  simp only [List.mem_cons, exists_eq_or_imp, or_assoc]
theorem I0 : ∀ {ms : List Mv} {l : List Sym}, (CD l ms).length ≤ l.length + ms.length
 | [], l => by simp [CD]
 | m :: ms, l => by
  have := I0 (ms := ms) (l := FJ l m.sym)
  have h2 := Pl l m.sym
  show (CD (FJ l m.sym) ms).length ≤ _
  simp only [List.length_cons]
  omega
noncomputable def CT (l : List Sym) (aus : List Au) : List Sym := aus.foldl (fun l a => CD l a.moves) l
theorem HJ : ∀ {aus : List Au} {l : List Sym} {x : Sym}, x ∈ CT l aus ↔ x ∈ l ∨ ∃ a ∈ aus, ∃ m ∈ a.moves, x = m.sym
 | [], l, x => by simp [CT]
 | a :: aus, l, x => by
  show x ∈ CT (CD l a.moves) aus ↔ _
  rw [HJ, Iu]
  simp only [List.mem_cons, exists_eq_or_imp, or_assoc]
theorem KI {aus : List Au} {k : Nat} {a : Au} {l : List Sym} (h : aus[k]? = some a) : CT l (aus.take (k + 1)) = CD (CT l (aus.take k)) a.moves := by
 rw [Aj h, CT, List.foldl_append]
 rfl
theorem Lf {ms : List Mv} {k : Nat} {m : Mv} {l : List Sym} (h : ms[k]? = some m) : CD l (ms.take (k + 1)) = FJ (CD l (ms.take k)) m.sym := by
 rw [Aj h, CD, List.foldl_append]
 rfl
theorem Fo : ∀ {aus : List Au} {l : List Sym}, l.Nodup → (CT l aus).Nodup
 | [], l, h => h
 | a :: aus, l, h => Fo (aus := aus) (GS h)
theorem HH {n : Nat} : ∀ {aus : List Au} {l : List Sym}, (∀ a ∈ aus, a.moves.length ≤ n) → (CT l aus).length ≤ l.length + aus.length * n
 | [], l, h => by simp [CT]
 | a :: aus, l, h => by
  have h1 := HH (aus := aus) (l := CD l a.moves) (fun b hb => h b (by simp [hb]))
  have h2 := I0 (ms := a.moves) (l := l)
  have h3 := h a (by simp)
  show (CT (CD l a.moves) aus).length ≤ _
  rw [List.length_cons, Nat.add_mul, Nat.one_mul]
  omega
theorem NF (aus : List Au) (hl : aus.length ≤ 2) (hm : ∀ a ∈ aus, a.moves.length ≤ 1000) (hf : ∀ a ∈ aus, ∀ m ∈ a.moves, m.frm.length < 100) : Ac Try.prog 32 [NP aus] (Gc (C_ aus)) := by
 refine Gj.ac fun C hC => ?_
 unfold D3
 repeat' with_reducible first | refine W ?_ | refine Z0 ?_ | ((first | refine Wo fun K hK => ?_ | refine Wp ?_ | refine Wq ?_ | refine Wr ?_); (try simp only [go_sem, fN, seval, eT, iR, dT, dF, nL]); (repeat refine Ai ?_); (try (refine hK _ ?_; clear hK K)); try refine iC ?_)
 refine IWP.loopD [5] (fun q s => ∃ k, k ≤ aus.length ∧ q = aus.length - k ∧ s.env 3 = .one (.mptr 10) ∧ s.S 10 = some (QR (CT [] (aus.take k))) ∧ s.env 11 = NP aus ∧ s.env 12 = AR aus.length ∧ s.env 13 = AR k ∧ s.S 5 = none ∧ s.S 7 = none ∧ s.S 34 = none ∧ s.S 9 = none ∧ s.S 502 = none) aus.length
  ⟨0, Nat.zero_le _, rfl, rfl, rfl, rfl, by simp only [go_sem, fN, seval, eT, iR], rfl, rfl, rfl, rfl, rfl, rfl⟩ ?_
 rintro q ⟨env, S⟩ ⟨k, hk, rfl, e3, s10, e11, e12, e13, s5, s7, s34, s9, s502⟩
 simp only at e3 s10 e11 e12 e13 s5 s7 s34 s9 s502
 by_cases hlt : (k : Int) < aus.length
 ·obtain ⟨a, hak⟩ := Ap (show k < aus.length by omega)
  have ham := AT hak
  have h1 := hm a ham
  have hsn := KI (l := []) hak
  obtain ⟨L0, hL⟩ : ∃ L0, CT [] (aus.take k) = L0 := ⟨_, rfl⟩
  rw [hL] at s10 hsn
  repeat' with_reducible first | refine W ?_ | refine Z0 ?_ | ((first | refine Wo fun K hK => ?_ | refine Wp ?_ | refine Wq ?_ | refine Wr ?_); (try simp only [go_sem, fN, seval, eT, iR, e3, s10, e11, e12, e13, s5, s7, s34, s9, s502, hlt, hak, KJ, dT, dF, nL]); (repeat refine Ai ?_); (try (refine hK _ ?_; clear hK K)); try refine iC ?_)
  refine IWP.loopD [7] (fun q s => ∃ i, i ≤ a.moves.length ∧ q = a.moves.length - i ∧ s.env 3 = .one (.mptr 10) ∧ s.S 10 = some (QR (CD L0 (a.moves.take i))) ∧ s.env 11 = NP aus ∧ s.env 12 = AR aus.length ∧ s.env 13 = AR k ∧ s.env 18 = .one (.st (.list (a.moves.map Ab))) ∧ s.env 19 = AR a.moves.length ∧ s.env 20 = AR i ∧ s.S 7 = none ∧ s.S 34 = none ∧ s.S 9 = none ∧ s.S 502 = none) a.moves.length
   ⟨0, Nat.zero_le _, rfl, by simp only [go_sem, fN, seval, eT, iR, e3], by (simp only [go_sem, fN, seval, eT, iR, s10]; rfl), by simp only [go_sem, fN, seval, eT, iR, e11], by simp only [go_sem, fN, seval, eT, iR, e12], by simp only [go_sem, fN, seval, eT, iR, e13], by simp only [go_sem, fN, seval, eT, iR], by simp only [go_sem, fN, seval, eT, iR], by simp only [go_sem, fN, seval, eT, iR], by simp only [go_sem, fN, seval, eT, iR, s7], by simp only [go_sem, fN, seval, eT, iR, s34], by simp only [go_sem, fN, seval, eT, iR, s9], by simp only [go_sem, fN, seval, eT, iR, s502]⟩ ?_
  clear e3 e11 e12 e13 s5 s7 s34 s9 s502 s10
  rintro q ⟨env, S⟩ ⟨i, hi, rfl, e3, s10, e11, e12, e13, e18, e19, e20, s7, s34, s9, s502⟩
  simp only at e3 s10 e11 e12 e13 e18 e19 e20 s7 s34 s9 s502
  by_cases hil : (i : Int) < a.moves.length
  ·obtain ⟨m, hmi⟩ := Ap (show i < a.moves.length by omega)
   have hmm := AT hmi
   have hfm := hf a ham m hmm
   have hys := Lf (l := L0) hmi
   have hput : GE ((CD L0 (a.moves.take i)).map Hv) (.p (.s m.name) (.i (m.frm.length : Int))) (BJ true) = (CD L0 (a.moves.take (i + 1))).map Hv := by
    rw [hys]
    exact NV _ m.sym
   obtain ⟨L1, hL1⟩ : ∃ L1, CD L0 (a.moves.take i) = L1 := ⟨_, rfl⟩
   rw [hL1] at s10 hput
   repeat' with_reducible first | refine W ?_ | refine Z0 ?_ | ((first | refine Wo fun K hK => ?_ | refine Wp ?_ | refine Wq ?_ | refine Wr ?_); (try simp only [go_sem, fN, seval, eT, iR, e3, s10, e11, e12, e13, e18, e19, e20, s7, s34, s9, s502, hil, hmi, Ab, CP, Gd, KV.of2, KV.of1, hput, dT, dF, nL]); (repeat refine Ai ?_); (try (refine hK _ ?_; clear hK K)); try refine iC ?_)
   refine AH ⟨a.moves.length - (i + 1), by omega, i + 1, by omega, rfl, ?_⟩
   simp only [go_sem, fN, seval, AS.drop, As, AC.clears, AC.clear, AC.highs, AC.high, Bool.not_false, Bool.true_and, Bool.and_self, AV.purge, AV.purges, AC.purge, AJ.purge, List.contains_cons, List.contains_nil, Nat.reduceBEq, Bool.or_self, Bool.or_false, Bool.false_or, Bool.or_true, eT, iR, e3, s10, e11, e12, e13, e18, e19, e20, s7, s34, s9, s502]
   rfl
  ·have hie : i = a.moves.length := by omega
   rw [hie, List.take_length] at s10
   repeat' with_reducible first | refine W ?_ | refine Z0 ?_ | ((first | refine Wo fun K hK => ?_ | refine Wp ?_ | refine Wq ?_ | refine Wr ?_); (try simp only [go_sem, fN, seval, eT, iR, e3, s10, e11, e12, e13, e18, e19, e20, s7, s34, s9, s502, hil, dT, dF, nL]); (repeat refine Ai ?_); (try (refine hK _ ?_; clear hK K)); try refine iC ?_)
   refine AH ⟨aus.length - (k + 1), by omega, k + 1, by omega, rfl, ?_⟩
   rw [hsn]
   simp only [go_sem, fN, seval, AS.drop, As, AC.clears, AC.clear, AC.highs, AC.high, Bool.not_false, Bool.true_and, Bool.and_self, AV.purge, AV.purges, AC.purge, AJ.purge, List.contains_cons, List.contains_nil, Nat.reduceBEq, Bool.or_self, Bool.or_false, Bool.false_or, Bool.or_true, eT, iR, e3, s10, e11, e12, e13, e18, e19, e20, s7, s34, s9, s502]
   rfl
 ·have hke : k = aus.length := by omega
  rw [hke, List.take_length] at s10
  have hnod := Fo (aus := aus) (l := []) List.nodup_nil
  have hlen := HH (aus := aus) (l := []) hm
  have hmem := fun x => HJ (aus := aus) (l := []) (x := x)
  obtain ⟨L, hL⟩ : ∃ L, CT [] aus = L := ⟨_, rfl⟩
  rw [hL] at s10 hnod hlen
  simp only [hL] at hmem
  have hsy : C_ aus = BQ L := He fun x => by
   rw [hmem, List.mem_flatMap]
   simp [eq_comm]
  have hlL : L.length ≤ 2000 := by
   have : aus.length * 1000 ≤ 2 * 1000 := Nat.mul_le_mul_right _ hl
   simp only [List.length_nil] at hlen
   omega
  have hbL : ∀ s ∈ L, s.2 < 100 := fun s hs => by
   rcases (hmem s).1 hs with h | ⟨a, ha, m, hmm, rfl⟩
   ·cases h
   ·exact hf a ha m hmm
  rw [hsy]
  repeat' with_reducible first | refine W ?_ | refine Z0 ?_ | ((first | refine Wo fun K hK => ?_ | refine Wp ?_ | refine Wq ?_ | refine Wr ?_); (try simp only [go_sem, fN, seval, eT, iR, e3, s10, e11, e12, e13, s5, s7, s34, s9, s502, hlt, CP, dT, dF, nL]); (repeat refine Ai ?_); (try (refine hK _ ?_; clear hK K)); try refine iC ?_)
  refine IWP.ghost (Aa.ownM 8 502 72 2 (by rfl) (by simp only [go_sem, fN, seval, eT, iR, s502]) (by rw [hC]; decide)) ?_
  refine IWP.loopD [9] (fun m x => ∃ seen : List Nat, seen.Nodup ∧ (∀ j ∈ seen, j < L.length) ∧ m = L.length - seen.length ∧ x.env 8 = .one (.row 502 seen.length) ∧ x.env 34 = .one (.ptr 34 1 0 0) ∧ x.S 10 = some (QR L) ∧ x.S 34 = some (.iter (.mptr 10) L.length seen) ∧ x.S 502 = some (Nr (met L seen)) ∧ x.S 9 = none) L.length ⟨[], List.nodup_nil, by simp, rfl, rfl, rfl, by simp only [go_sem, fN, seval, eT, iR, s10], by simp only [go_sem, fN, seval, eT, iR], by (simp only [go_sem, fN, seval, eT, iR]; rfl), by simp only [go_sem, fN, seval, eT, iR, s9]⟩ ?_
  rintro m ⟨env, S⟩ ⟨seen, hnd, hls, rfl, e8, e34, s10, s34, s502, s9⟩
  simp only at e8 e34 s10 s34 s502 s9
  have hsl := HL hnd hls
  have hmt := MY hls
  repeat' with_reducible first | refine W ?_ | refine Z0 ?_ | ((first | refine Wo fun K hK => ?_ | refine Wp ?_ | refine Wq ?_ | refine Wr ?_); (try simp only [go_sem, fN, seval, eT, iR, e8, e34, s10, s34, DM, dT, dF, nL]); (repeat refine Ai ?_); (try (refine hK _ ?_; clear hK K)); try refine iC ?_)
  refine ⟨fun hall => ?_, fun j x c hx hj hkv => ?_⟩
  ·have hall : ∀ j, j < L.length → j ∈ seen := fun j hj => hall j (by simpa using hj)
   have hmp := O2 hnd hls hall
   have hl' : seen.length = L.length := by rw [← hmt]; exact hmp.length_eq
   refine hK _ ?_
   clear hK K
   refine Wb ?_
   refine Wa ?_
   with_reducible refine Wp ?_
   simp only [go_sem, fN, seval, true_implies, false_implies, implies_true, dT, dF, nL]
   (try with_reducible refine iC ?_)
   repeat' (with_reducible first | refine Wb ?_ | refine Wc ?_ | refine Wd ?_ | refine We ?_ | refine Wg ?_ | refine Wh ?_ | refine Wi ?_ | refine Wj ?_ | refine Wk (by decide) ?_ | refine Wl ?_ | refine Wm ?_ | refine Wn ?_)
   refine IWP.mid (fun x => x.env 8 = .one (.row 502 L.length) ∧ x.S 502 = some (Nr (BQ L))) ?_ ?_
   ·have hs := KX (met L seen) (hmp.nodup_iff.2 hnod) (fun s hs => hbL s (hmp.mem_iff.1 hs)) (by omega) (up1 502) (BY 502) (upS S) (by rw [CR, s502]; rfl)
    have hse : BQ (met L seen) = BQ L := He fun x => hmp.mem_iff
    rw [hmt, hl', hse] at hs
    rw [hl'] at e8
    repeat' with_reducible first | refine W ?_ | refine Z0 ?_ | ((first | refine Wo fun K hK => ?_ | refine Wq ?_ | refine Wr ?_); (try simp only [go_sem, fN, seval, eT, iR, e8]); (repeat refine Ai ?_); (try (refine hK _ ?_; clear hK K)))
    refine ⟨_, _, hs, ?_⟩
    repeat' with_reducible first | refine W ?_ | refine Z0 ?_ | ((first | refine Wo fun K hK => ?_ | refine Wq ?_ | refine Wr ?_); (try simp only [go_sem, fN, seval, eT, iR, e8]); (repeat refine Ai ?_); (try (refine hK _ ?_; clear hK K)))
    refine ⟨rfl, e8, ?_⟩
    simp only [go_sem, fN, seval, eT, iR]
   rintro ⟨env, S⟩ ⟨e8, s502⟩
   simp only at e8 s502
   have hsl2 := Bp hnod
   refine IWP.ghost (Aa.share (id := 502) s502) ?_
   repeat' with_reducible first | refine W ?_ | refine Z0 ?_ | ((first | refine Wo fun K hK => ?_ | refine Wq ?_ | refine Wr ?_); (try simp only [go_sem, fN, seval, eT, iR, e8, hsl2]); (repeat refine Ai ?_); (try (refine hK _ ?_; clear hK K)))
   simp only [go_sem, fN, seval, Ae, AS.result, AK, AL, AZ, hsl2]
  ·rw [Option.map_eq_some_iff] at hx
   obtain ⟨b, hb, rfl⟩ := hx
   have hjl : j < L.length := (List.getElem?_eq_some_iff.1 hb).1
   have hcv : c = Qh b := by
    have : some (Qh b) = some c := hkv
    cases this
    rfl
   subst hcv
   have hnd' : (seen ++ [j]).Nodup := by
    rw [List.nodup_append]
    exact ⟨hnd, by simp, fun a ha b hb e => hj (by rw [List.mem_singleton.1 hb] at e; rw [← e]; exact ha)⟩
   have hlt' : ∀ i ∈ seen ++ [j], i < L.length := fun i hi => by
    rcases List.mem_append.1 hi with h | h
    ·exact hls i h
    ·rw [List.mem_singleton.1 h]; exact hjl
   have hsl' := HL hnd' hlt'
   rw [List.length_append, List.length_singleton] at hsl'
   refine hK _ ?_
   clear hK K
   refine Wb ?_
   repeat' with_reducible first | refine W ?_ | refine Z0 ?_ | ((first | refine Wo fun K hK => ?_ | refine Wp ?_ | refine Wq ?_ | refine Wr ?_); (try simp only [go_sem, fN, seval, eT, iR, e8, e34, s10, s34, s502, s9, DM, List.getLast?_concat, hb, KV.sv, KV.sv1, hmt, Hv, NR, dT, dF, nL]); (repeat refine Ai ?_); (try (refine hK _ ?_; clear hK K)); try refine iC ?_)
   refine AH ⟨L.length - (seen.length + 1), by omega, seen ++ [j], hnd', hlt', by rw [List.length_append, List.length_singleton], ?_⟩
   rw [Od hb]
   simp only [go_sem, fN, seval, AS.drop, As, AC.clears, AC.clear, AC.highs, AC.high, Bool.not_false, Bool.true_and, Bool.and_self, AV.purge, AV.purges, AC.purge, AJ.purge, List.contains_cons, List.contains_nil, Nat.reduceBEq, Bool.or_self, Bool.or_false, Bool.false_or, Bool.or_true, eT, iR, e8, e34, s10, s34, s502, s9]
   rw [Nr, List.map_append]
   rfl

def Ex : IR :=
 (.seq (.ops [.i 3 (.box 25 (.t 0)), .i 6 (.mov (.c (.one (.st (.int .u64 0)))))]) (.seq (.ops [.i 7 (.mov (.c (.one (.st (.int .u64 0)))))]) (.seq (.seq (.ops [.f 13 1 3, .l 14 13, .i 15 (.len false (.t 14)), .i 16 (.mov (.n 0))]) (.block 0 (.loop (.seq (.ops [.i 17 (.bin .lss (.t 16) (.t 15))]) (.seq (.cond (.t 17) .skip (.exit 0)) (.seq (.block 1 (.seq (.ops [.i 18 (.indexAddr 3 (.t 14) (.t 16)), .L 19 3 18, .i 9 (.alloc 46 [.st (.str (ByteArray.mk (#[]))), .full [], .st (.int .i64 0)]), .s 3 9 19]) (.seq (.seq (.ops [.f 20 0 9, .l 21 20, .m 22 1, .i 23 (.bin .neq (.t 21) (.t 22)), .m 24 23, .mk (some 25) (some (24, false)) (.fieldAddr 1 (.t 9)) .no, .mk (some 26) (some (24, false)) (.load false 1 (.t 25)) .no, .mk (some 27) (some (24, false)) (.len false (.t 26)) .no, .mk (some 28) (some (24, false)) (.mov (.t 2)) .no, .mk (some 29) (some (24, false)) (.len false (.t 28)) .no, .mk (some 30) (some (24, false)) (.bin .neq (.t 27) (.t 29)) .no, .i 31 (.pick (.t 24) (.c (.one (.st (.bool true)))) (.t 30))]) (.cond (.t 31) (.exit 1) .skip)) (.seq (.ops [.i 10 (.mov (.c (.one (.st (.bool true)))))]) (.seq (.seq (.ops [.f 32 1 9, .l 33 32, .i 34 (.len false (.t 33)), .i 35 (.mov (.n 0))]) (.block 2 (.loop (.seq (.ops [.i 36 (.bin .lss (.t 35) (.t 34))]) (.seq (.cond (.t 36) .skip (.exit 2)) (.seq (.block 3 (.seq (.ops [.m 37 35, .i 38 (.indexAddr 1 (.t 33) (.t 35)), .l 39 38, .m 11 37, .m 12 39]) (.ops [.m 40 10, .m 41 40, .mk (some 42) (some (41, true)) (.mov (.t 2)) .no, .mk (some 43) (some (41, true)) (.mov (.t 11)) .no, .mk (some 44) (some (41, true)) (.indexAddr 1 (.t 42) (.t 43)) .no, .mk (some 45) (some (41, true)) (.load false 1 (.t 44)) .no, .mk (some 46) (some (41, true)) (.mov (.t 12)) .no, .mk (some 47) (some (41, true)) (.bits .shr (.t 45) (.t 46)) .no, .mk (some 48) (some (41, true)) (.bits .and (.t 47) (.c (.one (.st (.int .u64 1))))) .no, .mk (some 49) (some (41, true)) (.bin .eql (.t 48) (.c (.one (.st (.int .u64 1))))) .no, .i 50 (.pick (.t 41) (.t 49) (.c (.one (.st (.bool false))))), .m 10 50]))) (.ops [.i 51 (.bin .add (.t 35) (.n 1)), .m 35 51]))))))) (.seq (.ops [.m 52 10]) (.cond (.t 52) (.ops [.m 53 7, .f 54 2 9, .l 55 54, .i 56 (.bits .shl (.c (.one (.st (.int .u64 1)))) (.t 55)), .i 57 (.bits .or (.t 53) (.t 56)), .m 7 57]) .skip))))))) (.ops [.i 58 (.bin .add (.t 16) (.n 1)), .m 16 58]))))))) (.seq (.ops [.m 59 7, .m 6 59]) .ret))))
theorem Hz : OkF Try.prog 36 60 [90000047] Ex [.t 6] := .of Try.func36 rfl rfl (by kernel_rfl) rfl
def Gf : IR :=
 (.seq (.ops [.i 2 (.box 25 (.t 0)), .i 3 (.box 39 (.t 1)), .i 4 (.mov (.c (.one (.st (.int .u64 0)))))]) (.seq (.ops [.i 5 (.mov (.c (.one (.full []))))]) (.seq (.seq (.ops [.f 8 1 3, .l 9 8, .i 10 (.len false (.t 9)), .i 11 (.mov (.n 0))]) (.block 0 (.loop (.seq (.ops [.i 12 (.bin .lss (.t 11) (.t 10))]) (.seq (.cond (.t 12) .skip (.exit 0)) (.seq (.block 1 (.seq (.ops [.i 13 (.indexAddr 2 (.t 9) (.t 11)), .L 14 2 13, .i 7 (.alloc 39 [.st (.str (ByteArray.mk (#[]))), .full []]), .s 2 7 14]) (.ops [.m 15 5, .L 16 3 2, .L 17 2 7, .i 18 (.call 48 [.t 16, .t 17]), .i 19 (.buildFlat [.t 18]), .i 20 (.append false 65 1 8 (.t 15) (.t 19)), .m 5 20]))) (.ops [.i 21 (.bin .add (.t 11) (.n 1)), .m 11 21]))))))) (.seq (.ops [.L 22 3 2, .f 23 0 3, .l 24 23, .m 25 5, .i 26 (.call 36 [.t 22, .t 24, .t 25]), .m 4 26]) .ret))))
theorem Ko : OkF Try.prog 48 27 [] Gf [.t 4] := .of Try.func48 rfl rfl (by kernel_rfl) rfl
def E3 : IR :=
 (.seq (.ops [.i 1 (.box 25 (.t 0)), .i 2 (.mov (.c (.one (.st (.int .u64 0)))))]) (.seq (.ops [.i 3 (.mov (.c (.one (.st (.int .u64 0)))))]) (.seq (.seq (.ops [.f 6 2 1, .l 7 6, .i 8 (.len false (.t 7)), .i 9 (.mov (.n 0))]) (.block 0 (.loop (.seq (.ops [.i 10 (.bin .lss (.t 9) (.t 8))]) (.seq (.cond (.t 10) .skip (.exit 0)) (.seq (.block 1 (.seq (.ops [.i 11 (.indexAddr 1 (.t 7) (.t 9)), .l 12 11, .m 5 12]) (.ops [.m 13 3, .m 14 5, .i 15 (.bits .shl (.c (.one (.st (.int .u64 1)))) (.t 14)), .i 16 (.bits .or (.t 13) (.t 15)), .m 3 16]))) (.ops [.i 17 (.bin .add (.t 9) (.n 1)), .m 9 17]))))))) (.seq (.ops [.m 18 3, .m 2 18]) .ret))))
theorem Hy : OkF Try.prog 33 19 [] E3 [.t 2] := .of Try.func33 rfl rfl (by kernel_rfl) rfl
def BP : IR :=
 (.seq (.ops [.i 2 (.box 25 (.t 0)), .i 3 (.box 39 (.t 1)), .i 4 (.mov (.c (.one (.st (.bool false))))), .i 5 (.mov (.n 0))]) (.seq (.ops [.L 7 3 2, .i 8 (.call 34 [.t 7]), .m 6 8]) (.seq (.seq (.ops [.m 9 6, .i 10 (.bin .eql (.t 9) (.n 0))]) (.cond (.t 10) (.ops [.L 11 2 3, .i 12 (.call 46 [.t 11]), .m 6 12]) .skip)) (.seq (.seq (.ops [.m 13 6, .i 14 (.bin .eql (.t 13) (.n 0)), .m 15 14, .mk (some 16) (some (15, true)) (.load true 2 (.t 3)) .no, .mk (some 17) (some (15, true)) (.call 47 [.t 16]) .no, .mk (some 18) (some (15, true)) (.len false (.t 17)) .no, .mk (some 19) (some (15, true)) (.bin .gtr (.t 18) (.n 0)) .no, .i 20 (.pick (.t 15) (.t 19) (.c (.one (.st (.bool false)))))]) (.cond (.t 20) (.ops [.i 6 (.mov (.n 15))]) .skip)) (.seq (.seq (.ops [.m 21 6, .i 22 (.bin .neq (.t 21) (.n 0))]) (.cond (.t 22) (.seq (.ops [.m 23 6, .i 4 (.mov (.c (.one (.st (.bool false))))), .m 5 23]) .ret) .skip)) (.seq (.ops [.L 24 3 2, .L 25 2 3, .i 26 (.call 48 [.t 24, .t 25]), .L 27 3 2, .i 28 (.call 33 [.t 27]), .i 29 (.bits .and (.t 26) (.t 28)), .i 30 (.bin .neq (.t 29) (.c (.one (.st (.int .u64 0))))), .m 4 30, .i 5 (.mov (.n 0))]) .ret))))))
theorem Be : OkF Try.prog 19 31 [] BP [.t 4, .t 5] := .of Try.func19 rfl rfl (by kernel_rfl) rfl

def bN : List Bool → Nat
 | [] => 0
 | b :: bs => b.toNat + 2 * bN bs
theorem Pz (b : Bool) (bs : List Bool) : (b.toNat + 2 * bN bs) / 2 = bN bs := by cases b <;> simp [Bool.toNat] <;> omega
theorem BA : ∀ (l : List Bool) (i : Nat), (bN l).testBit i = l.getD i false
 | [], i => by simp [bN]
 | b :: bs, 0 => by
  rw [bN, Nat.testBit_zero]
  cases b <;> simp [Bool.toNat] <;> omega
 | b :: bs, i + 1 => by
  rw [bN, Nat.testBit_succ, Pz, BA bs i]
  simp
theorem Ob : ∀ l : List Bool, bN l < 2 ^ l.length
 | [] => by simp [bN]
 | b :: bs => by
  have h := Ob bs
  rw [bN, List.length_cons, Nat.pow_succ]
  cases b <;> simp [Bool.toNat] <;> omega
theorem MT (n : Nat) : bN (List.replicate n false) = 0 := by
 induction n with
 | zero => rfl
 | succ n ih => rw [List.replicate_succ, bN, ih]; rfl
theorem Ov {l : List Bool} {i : Nat} (h : i < l.length) : bN l ||| 2 ^ i = bN (l.set i true) := by
 refine Nat.eq_of_testBit_eq fun j => ?_
 rw [Nat.testBit_or, BA, BA, Nat.testBit_two_pow]
 by_cases hj : i = j
 ·subst hj
  simp [List.getD_eq_getElem?_getD, h]
 ·simp [List.getD_eq_getElem?_getD, List.getElem?_set_ne hj, hj]
theorem QH (l : List Bool) (s : Nat) : bN l / 2 ^ s % 2 = (l.getD s false).toNat := by
 rw [← BA, Nat.testBit_eq_decide_div_mod_eq]
 have : bN l / 2 ^ s % 2 < 2 := Nat.mod_lt _ (by omega)
 by_cases h : bN l / 2 ^ s % 2 = 1
 ·simp [h]
 ·simp [h]; omega
theorem Pq (x : Nat) : x &&& 1 = x % 2 := Nat.and_one_is_mod x
theorem HC {l : List Bool} (h : l.length ≤ 64) : bN l ≤ 18446744073709551615 := by
 have h1 := Ob l
 have h2 : 2 ^ l.length ≤ 2 ^ 64 := Nat.pow_le_pow_right (by omega) h
 have h3 : (2 : Nat) ^ 64 = 18446744073709551616 := by decide
 omega
def Au.lastB (a : Au) : List Bool := a.last.foldl (fun l s => l.set s.toNat true) (List.replicate a.states.toNat false)
theorem Cl : ∀ (ss : List Int) (l : List Bool), (ss.foldl (fun l s => l.set s.toNat true) l).length = l.length
 | [], _ => rfl
 | s :: ss, l => by rw [List.foldl_cons, Cl ss]; simp
theorem Fg (i : Nat) : ∀ (ss : List Int) (l : List Bool), i < l.length → (ss.foldl (fun l s => l.set s.toNat true) l).getD i false = (l.getD i false || ss.any fun s => decide (s.toNat = i))
 | [], l, h => by simp
 | s :: ss, l, h => by
  rw [List.foldl_cons, Fg i ss _ (by simpa using h), List.any_cons, ← Bool.or_assoc]
  congr 1
  by_cases he : s.toNat = i
  ·subst he
   simp [List.getD_eq_getElem?_getD, h]
  ·simp [List.getD_eq_getElem?_getD, List.getElem?_set_ne he, he]
theorem Au.lastB_length (a : Au) : a.lastB.length = a.states.toNat := by
 unfold Au.lastB
 rw [Cl]
 simp
theorem Au.lastB_get (a : Au) (i : Nat) (h : i < a.states.toNat) : a.lastB.getD i false = a.last.any fun s => decide (s.toNat = i) := by
 unfold Au.lastB
 rw [Fg _ _ _ (by simpa using h)]
 simp [List.getD_eq_getElem?_getD, h]
theorem PX {a : Au} (ga : a.Good) (t : Tm) : (bN (a.ends t) &&& bN a.lastB ≠ 0) ↔ a.acc t = true := by
 unfold Au.acc
 rw [List.any_eq_true]
 constructor
 ·intro h
  obtain ⟨i, hi⟩ := Nat.exists_testBit_of_ne_zero h
  rw [Nat.testBit_and, BA, BA, Bool.and_eq_true] at hi
  have hl : i < a.states.toNat := by
   rcases Nat.lt_or_ge i a.lastB.length with q | q
   ·rwa [← a.lastB_length]
   ·have h2 := hi.2
    rw [List.getD_eq_getElem?_getD, List.getElem?_eq_none q] at h2
    cases h2
  rw [a.lastB_get i hl, List.any_eq_true] at hi
  obtain ⟨h1, s, hs, he⟩ := hi
  exact ⟨s, hs, by rw [of_decide_eq_true he]; exact h1⟩
 ·rintro ⟨s, hs, h⟩ h0
  have hb := ga.last s hs
  have := congrArg (fun n => Nat.testBit n s.toNat) h0
  simp only [Nat.testBit_and, BA, Nat.zero_testBit] at this
  rw [h, a.lastB_get _ (by omega), Bool.true_and, List.any_eq_false] at this
  exact this s hs (by simp)

set_option maxHeartbeats 2000000
def Gh (l : List Bool) : List SV := [.int .u64 (bN l)]
abbrev aU (l : List Bool) : AV := .one (.st (.int .u64 (bN l)))
abbrev aUs (l : List (List Bool)) : AV := .one (.st (.list (l.map Gh)))
theorem OW (n k : Nat) : ((n : Int)).fdiv (2 ^ k) = ((n / 2 ^ k : Nat) : Int) := by
 rw [show ((2 : Int) ^ k) = ((2 ^ k : Nat) : Int) by simp, Int.fdiv_eq_ediv_of_nonneg _ (Int.natCast_nonneg _)]
 exact (Int.natCast_ediv _ _).symm
theorem Ou (k : Nat) : (1 : Int) * 2 ^ k = ((2 ^ k : Nat) : Int) := by simp
theorem Me {k : Nat} (h : k < 64) : inR .u64 ((2 ^ k : Nat) : Int) := by
 rw [Dr]
 have h2 : 2 ^ k ≤ 2 ^ 63 := Nat.pow_le_pow_right (by omega) (by omega)
 have h3 : (2 : Nat) ^ 63 = 9223372036854775808 := by decide
 generalize 2 ^ k = p at *
 omega
theorem PC {l : List Bool} (h : l.length ≤ 64) : inR .u64 (bN l) := by
 rw [Dr]
 have := HC h
 omega
theorem QI {l : List Bool} (h : l.length ≤ 64) (k : Nat) : inR .u64 ((bN l / 2 ^ k : Nat) : Int) := by
 rw [Dr]
 have := HC h
 have h2 := Nat.div_le_self (bN l) (2 ^ k)
 generalize bN l / 2 ^ k = p at *
 omega
theorem QB : (1 : Int).toNat = 1 := rfl
theorem NJ {ts : List (List Bool)} : ∀ x ∈ ts.map Gh, x.length = 1 := by
 intro x hx
 obtain ⟨a, _, rfl⟩ := List.mem_map.1 hx
 rfl
theorem I9 (a : Au) (ga : a.Good) (hs64 : a.states ≤ 64) (hm : a.moves.length ≤ 100000) (n : ByteArray) (below : List (List Bool)) (hb : ∀ l ∈ below, l.length = a.states.toNat) (hbl : below.length ≤ 1000000) :
  Ac Try.prog 36 [aAu a, HE n, aUs below] (aU (a.ending n below)) := by
 have hst := ga.states
 have h0 : bN (List.replicate a.states.toNat false) = 0 := MT _
 refine Hz.ac fun C hC => ?_
 unfold Ex
 repeat' with_reducible first | refine W ?_ | refine Z0 ?_ | ((first | refine Wo fun K hK => ?_ | refine Wp ?_ | refine Wq ?_ | refine Wr ?_); (try simp only [go_sem, fN, seval, eT, iR, dT, dF, nL]); (repeat refine Ai ?_); (try (refine hK _ ?_; clear hK K)); try refine iC ?_)
 refine IWP.loopD [9] (fun q s => ∃ k, k ≤ a.moves.length ∧ q = a.moves.length - k ∧ s.env 1 = HE n ∧ s.env 2 = aUs below ∧ s.env 3 = .one (.ptr 3 1 0 0) ∧ s.S 3 = some (AF a) ∧ s.env 7 = aU ((a.moves.take k).foldl (Cn n below) (List.replicate a.states.toNat false)) ∧ s.env 14 = .one (.st (.list (a.moves.map Ab))) ∧ s.env 15 = AR a.moves.length ∧ s.env 16 = AR k ∧ s.S 9 = none) a.moves.length
  ⟨0, Nat.zero_le _, rfl, rfl, rfl, rfl, rfl, by simp [AB, h0], by simp [AB], by simp [AB], rfl, rfl⟩ ?_
 rintro q ⟨env, St⟩ ⟨k, hk, rfl, e1, e2, e3, s3, e7, e14, e15, e16, s9⟩
 simp only at e1 e2 e3 s3 e7 e14 e15 e16 s9
 unfold AF at s3
 by_cases hlt : (k : Int) < a.moves.length
 ·obtain ⟨m, hmk⟩ := Ap (show k < a.moves.length by omega)
  have hmm := AT hmk
  have hto := ga.to_ m hmm
  have hfold : (a.moves.take (k + 1)).foldl (Cn n below) (List.replicate a.states.toNat false) = Cn n below ((a.moves.take k).foldl (Cn n below) (List.replicate a.states.toNat false)) m := by
   rw [Aj hmk, List.foldl_append]
   rfl
  have hfl := ED n below (a.moves.take k) (List.replicate a.states.toNat false)
  rw [List.length_replicate] at hfl
  generalize (a.moves.take k).foldl (Cn n below) (List.replicate a.states.toNat false) = L at *
  by_cases g1 : m.name = n
  case neg =>
   have hf : m.fits n below = false := by simp [Mv.fits, g1]
   repeat' with_reducible first | refine W ?_ | refine Z0 ?_ | ((first | refine Wo fun K hK => ?_ | refine Wp ?_ | refine Wq ?_ | refine Wr ?_); (try simp only [go_sem, fN, seval, eT, iR, e1, e2, e3, s3, e7, e14, e15, e16, s9, hlt, hmk, Ab, g1, dT, dF, nL]); (repeat refine Ai ?_); (try (refine hK _ ?_; clear hK K)); try refine iC ?_)
   refine AH ⟨a.moves.length - (k + 1), by omega, k + 1, by omega, rfl, ?_⟩
   simp only [go_sem, fN, seval, AS.drop, As, AC.clears, AC.clear, AC.highs, AC.high, Bool.not_false, Bool.true_and, Bool.and_self, AV.purge, AV.purges, AC.purge, AJ.purge, List.contains_cons, List.contains_nil, Nat.reduceBEq, Bool.or_self, Bool.or_false, Bool.false_or, Bool.or_true, eT, iR, e1, e2, e3, s3, e7, e14, e15, e16, s9, AF]
   simp [hfold, Cn, hf]
  case pos =>
  by_cases g2 : (m.frm.length : Int) = below.length
  case neg =>
   have hf : m.fits n below = false := by
    unfold Mv.fits
    rw [IM (by omega)]
    simp
   repeat' with_reducible first | refine W ?_ | refine Z0 ?_ | ((first | refine Wo fun K hK => ?_ | refine Wp ?_ | refine Wq ?_ | refine Wr ?_); (try simp only [go_sem, fN, seval, eT, iR, e1, e2, e3, s3, e7, e14, e15, e16, s9, hlt, hmk, Ab, g1, g2, dT, dF, nL]); (repeat refine Ai ?_); (try (refine hK _ ?_; clear hK K)); try refine iC ?_)
   refine AH ⟨a.moves.length - (k + 1), by omega, k + 1, by omega, rfl, ?_⟩
   simp only [go_sem, fN, seval, AS.drop, As, AC.clears, AC.clear, AC.highs, AC.high, Bool.not_false, Bool.true_and, Bool.and_self, AV.purge, AV.purges, AC.purge, AJ.purge, List.contains_cons, List.contains_nil, Nat.reduceBEq, Bool.or_self, Bool.or_false, Bool.false_or, Bool.or_true, eT, iR, e1, e2, e3, s3, e7, e14, e15, e16, s9, AF]
   simp [hfold, Cn, hf]
  case pos =>
  have g2' : m.frm.length = below.length := by omega
  repeat' with_reducible first | refine W ?_ | refine Z0 ?_ | ((first | refine Wo fun K hK => ?_ | refine Wp ?_ | refine Wq ?_ | refine Wr ?_); (try simp only [go_sem, fN, seval, eT, iR, e1, e2, e3, s3, e7, e14, e15, e16, s9, hlt, hmk, Ab, g1, g2, dT, dF, nL]); (repeat refine Ai ?_); (try (refine hK _ ?_; clear hK K)); try refine iC ?_)
  refine IWP.loop (fun q s => ∃ j, j ≤ below.length ∧ q = below.length - j ∧ s.env 1 = HE n ∧ s.env 2 = aUs below ∧ s.env 3 = .one (.ptr 3 1 0 0) ∧ s.S 3 = some (AF a) ∧ s.env 7 = aU L ∧ s.env 14 = .one (.st (.list (a.moves.map Ab))) ∧ s.env 15 = AR a.moves.length ∧ s.env 16 = AR k ∧ s.env 9 = .one (.ptr 9 1 0 0) ∧ s.S 9 = some (.box 46 [.st (.str m.name), .st (.list (m.frm.map BE)), .st (.int .i64 m.to_)]) ∧ s.env 10 = BJ (Az (below.take j) (m.frm.take j)) ∧ s.env 33 = .one (.st (.list (m.frm.map BE))) ∧ s.env 34 = AR below.length ∧ s.env 35 = AR j) below.length
   ⟨0, Nat.zero_le _, rfl, by simp [AB, e1], by simp [AB, e2], by simp [AB, e3], by simp [AB, AF, s3], by simp [AB, e7], by simp [AB, e14], by simp [AB, e15], by simp [AB, e16], by simp [AB], by simp [AB, g1], by simp [AB, Az], by simp [AB], by simp [AB, g2], by simp [AB]⟩ ?_
  rintro q ⟨env2, S2⟩ ⟨j, hj, rfl, f1, f2, f3, t3, f7, f14, f15, f16, f9, t9, f10, f33, f34, f35⟩
  simp only at f1 f2 f3 t3 f7 f14 f15 f16 f9 t9 f10 f33 f34 f35
  unfold AF at t3
  by_cases hjl : (j : Int) < below.length
  ·obtain ⟨bl, hbj⟩ := Ap (show j < below.length by omega)
   obtain ⟨x, hx⟩ := Ap (show j < m.frm.length by omega)
   have qx := ga.frm m hmm x (AT hx)
   have hbll := hb bl (AT hbj)
   have hst2 := HS hbj hx
   have hsh := QI (l := bl) (by omega) x.toNat
   have hbit := QH bl x.toNat
   rw [← Pq] at hbit
   have q64 : 0 ≤ x ∧ x.toNat ≤ 64 := by omega
   generalize bl.getD x.toNat false = y at hbit hst2
   generalize Az (below.take j) (m.frm.take j) = ok at f10 hst2
   cases ok with
   | true =>
    cases y <;> simp only [Bool.toNat_true, Bool.toNat_false] at hbit
    all_goals
     repeat' with_reducible first | refine W ?_ | refine Z0 ?_ | ((first | refine Wo fun K hK => ?_ | refine Wp ?_ | refine Wq ?_ | refine Wr ?_); (try simp only [go_sem, fN, seval, eT, iR, f1, f2, f3, t3, f7, f14, f15, f16, f9, t9, f10, f33, f34, f35, hjl, hbj, hx, Gh, OW, hsh, hbit, q64, QB, Int.toNat_natCast, F8, IntKind.bits, dT, dF, nL]); (repeat refine Ai ?_); (try (refine hK _ ?_; clear hK K)); try refine iC ?_)
     refine AH ⟨below.length - (j + 1), by omega, j + 1, by omega, rfl, ?_⟩
     simp only [go_sem, fN, seval, eT, iR, f1, f2, f3, t3, f7, f14, f15, f16, f9, t9, f10, f33, f34, f35, AF]
     simp [hst2]
   | false =>
    repeat' with_reducible first | refine W ?_ | refine Z0 ?_ | ((first | refine Wo fun K hK => ?_ | refine Wp ?_ | refine Wq ?_ | refine Wr ?_); (try simp only [go_sem, fN, seval, eT, iR, f1, f2, f3, t3, f7, f14, f15, f16, f9, t9, f10, f33, f34, f35, hjl, hbj, hx, dT, dF, nL]); (repeat refine Ai ?_); (try (refine hK _ ?_; clear hK K)); try refine iC ?_)
    refine AH ⟨below.length - (j + 1), by omega, j + 1, by omega, rfl, ?_⟩
    simp only [go_sem, fN, seval, eT, iR, f1, f2, f3, t3, f7, f14, f15, f16, f9, t9, f10, f33, f34, f35, AF]
    simp [hst2]
  ·rw [List.take_of_length_le (l := below) (i := j) (by omega), List.take_of_length_le (l := m.frm) (i := j) (by omega)] at f10
   have hf : m.fits n below = Az below m.frm := by simp [Mv.fits, g1]
   have hor := Ov (l := L) (i := m.to_.toNat) (by omega)
   have hip := Me (k := m.to_.toNat) (by omega)
   have q64 : 0 ≤ m.to_ ∧ m.to_.toNat ≤ 64 := by omega
   by_cases g3 : Az below m.frm = true
   ·rw [g3] at f10 hf
    repeat' with_reducible first | refine W ?_ | refine Z0 ?_ | ((first | refine Wo fun K hK => ?_ | refine Wp ?_ | refine Wq ?_ | refine Wr ?_); (try simp only [go_sem, fN, seval, eT, iR, f1, f2, f3, t3, f7, f14, f15, f16, f9, t9, f10, f33, f34, f35, hjl, Ou, hip, q64, Int.toNat_natCast, F8, IntKind.bits, hor, dT, dF, nL]); (repeat refine Ai ?_); (try (refine hK _ ?_; clear hK K)); try refine iC ?_)
    refine AH ⟨a.moves.length - (k + 1), by omega, k + 1, by omega, rfl, ?_⟩
    simp only [go_sem, fN, seval, AS.drop, As, AC.clears, AC.clear, AC.highs, AC.high, Bool.not_false, Bool.true_and, Bool.and_self, AV.purge, AV.purges, AC.purge, AJ.purge, List.contains_cons, List.contains_nil, Nat.reduceBEq, Bool.or_self, Bool.or_false, Bool.false_or, Bool.or_true, eT, iR, f1, f2, f3, t3, f7, f14, f15, f16, f9, t9, f10, AF]
    simp [hfold, Cn, hf]
   ·have g3' : Az below m.frm = false := by simpa using g3
    rw [g3'] at f10 hf
    repeat' with_reducible first | refine W ?_ | refine Z0 ?_ | ((first | refine Wo fun K hK => ?_ | refine Wp ?_ | refine Wq ?_ | refine Wr ?_); (try simp only [go_sem, fN, seval, eT, iR, f1, f2, f3, t3, f7, f14, f15, f16, f9, t9, f10, f33, f34, f35, hjl, dT, dF, nL]); (repeat refine Ai ?_); (try (refine hK _ ?_; clear hK K)); try refine iC ?_)
    refine AH ⟨a.moves.length - (k + 1), by omega, k + 1, by omega, rfl, ?_⟩
    simp only [go_sem, fN, seval, AS.drop, As, AC.clears, AC.clear, AC.highs, AC.high, Bool.not_false, Bool.true_and, Bool.and_self, AV.purge, AV.purges, AC.purge, AJ.purge, List.contains_cons, List.contains_nil, Nat.reduceBEq, Bool.or_self, Bool.or_false, Bool.false_or, Bool.or_true, eT, iR, f1, f2, f3, t3, f7, f14, f15, f16, f9, t9, f10, AF]
    simp [hfold, Cn, hf]
 ·rw [List.take_of_length_le (l := a.moves) (i := k) (by omega)] at e7
  have hle : a.ending n below = a.moves.foldl (Cn n below) (List.replicate a.states.toNat false) := rfl
  rw [← hle] at e7
  repeat' with_reducible first | refine W ?_ | refine Z0 ?_ | ((first | refine Wo fun K hK => ?_ | refine Wp ?_ | refine Wq ?_ | refine Wr ?_); (try simp only [go_sem, fN, seval, eT, iR, e1, e2, e3, s3, e7, e14, e15, e16, hlt, dT, dF, nL]); (repeat refine Ai ?_); (try (refine hK _ ?_; clear hK K)); try refine iC ?_)
  simp only [go_sem, fN, seval, Ae, AS.result, AK, AL, AZ, e7]
theorem Qf (a : Au) (ga : a.Good) (hs64 : a.states ≤ 64) (hm : a.moves.length ≤ 100000) (t : Tm) (hz : t.size ≤ 1000000) : Ac Try.prog 48 [aAu a, aTm t] (aU (a.ends t)) := by
 induction h : SizeOf.sizeOf t using Nat.strongRecOn generalizing t with
 | _ N ih =>
 subst h
 have hs := Tm.size_eq t
 have hkn := Tm.length_le t.args
 refine Ko.ac fun C hC => ?_
 unfold Gf
 repeat' with_reducible first | refine W ?_ | refine Z0 ?_ | ((first | refine Wo fun K hK => ?_ | refine Wp ?_ | refine Wq ?_ | refine Wr ?_); (try simp only [go_sem, fN, seval, eT, iR, dT, dF, nL]); (repeat refine Ai ?_); (try (refine hK _ ?_; clear hK K)); try refine iC ?_)
 refine IWP.ghost (Aa.own (C := C) 5 50 65 1 (xs := ([] : List (List Bool)).map Gh) rfl rfl NJ (by omega)) ?_
 refine IWP.loopD [7] (fun q s => ∃ k, k ≤ t.args.length ∧ q = t.args.length - k ∧ s.env 2 = .one (.ptr 2 1 0 0) ∧ s.S 2 = some (AF a) ∧ s.env 3 = .one (.ptr 3 1 0 0) ∧ s.S 3 = some (.box 39 [.st (.str t.name), .st (.list (t.args.map EM))]) ∧ s.env 5 = .one (.row 50 k) ∧ s.S 50 = some (.arow 65 1 (((t.args.take k).map a.ends).map Gh)) ∧ s.env 9 = Qk t.args ∧ s.env 10 = AR t.args.length ∧ s.env 11 = AR k ∧ s.S 7 = none) t.args.length
  ⟨0, Nat.zero_le _, rfl, rfl, rfl, rfl, rfl, rfl, rfl, rfl, rfl, rfl, rfl⟩ ?_
 rintro q ⟨env, St⟩ ⟨k, hk, rfl, e2, s2, e3, s3, e5, s50, e9, e10, e11, s7⟩
 simp only at e2 s2 e3 s3 e5 s50 e9 e10 e11 s7
 unfold AF at s2
 by_cases hlt : (k : Int) < t.args.length
 ·obtain ⟨x, hx⟩ := Ap (show k < t.args.length by omega)
  have hxm := AT hx
  have hsz := Tm.size_mem hxm
  have hkl : ((t.args.take k).map a.ends).length = k := by
   rw [List.length_map, List.length_take]
   omega
  repeat' (first | (with_reducible first | refine W ?_ | refine Z0 ?_ | ((first | refine Wo fun K hK => ?_ | refine Wp ?_ | refine Wq ?_ | refine Wr ?_); (try simp only [go_sem, fN, seval, eT, iR, e2, s2, e3, s3, e5, s50, e9, e10, e11, s7, hlt, hx, hkl, dT, dF, nL]); (repeat refine Ai ?_); (try (refine hK _ ?_; clear hK K)); try refine iC ?_)) | refine Cg _ (ih _ (Tm.lt_of_arg hxm) x (by omega) rfl) ?_)
  refine AH ⟨t.args.length - (k + 1), by omega, k + 1, by omega, rfl, ?_⟩
  simp only [go_sem, fN, seval, AS.drop, As, AC.clears, AC.clear, AC.highs, AC.high, Bool.not_false, Bool.true_and, Bool.and_self, AV.purge, AV.purges, AC.purge, AJ.purge, List.contains_cons, List.contains_nil, Nat.reduceBEq, Bool.or_self, Bool.or_false, Bool.false_or, Bool.or_true, eT, iR, e2, s2, e3, s3, e5, s50, e9, e10, e11, s7, AF]
  rw [Aj hx]
  simp [Gh]
  try omega
 ·rw [List.take_of_length_le (l := t.args) (i := k) (by omega)] at s50
  have hkl : (t.args.map a.ends).length = t.args.length := List.length_map _
  have hke : k = t.args.length := by omega
  have hE := I9 a ga hs64 hm t.name (t.args.map a.ends) (fun l hl => by
   obtain ⟨y, _, rfl⟩ := List.mem_map.1 hl
   exact a.ends_length y) (by omega)
  repeat' (first | (with_reducible first | refine W ?_ | refine Z0 ?_ | ((first | refine Wo fun K hK => ?_ | refine Wp ?_ | refine Wq ?_ | refine Wr ?_); (try simp only [go_sem, fN, seval, eT, iR, e2, s2, e3, s3, e5, s50, e9, e10, e11, hlt, hke, hkl, Nat.lt_irrefl, dT, dF, nL]); (repeat refine Ai ?_); (try (refine hK _ ?_; clear hK K)); try refine iC ?_)) | refine Cg _ (hE) ?_)
  simp only [go_sem, fN, seval, Ae, AS.result, AK, AL, AZ]
  rw [Au.ends_eq, Au.endsL_eq]
theorem G7 (a : Au) (ga : a.Good) (hs64 : a.states ≤ 64) (hl : a.last.length ≤ 100000) : Ac Try.prog 33 [aAu a] (aU a.lastB) := by
 have hst := ga.states
 have h0 : bN (List.replicate a.states.toNat false) = 0 := MT _
 refine Hy.ac fun C hC => ?_
 unfold E3
 repeat' with_reducible first | refine W ?_ | refine Z0 ?_ | ((first | refine Wo fun K hK => ?_ | refine Wp ?_ | refine Wq ?_ | refine Wr ?_); (try simp only [go_sem, fN, seval, eT, iR, dT, dF, nL]); (repeat refine Ai ?_); (try (refine hK _ ?_; clear hK K)); try refine iC ?_)
 refine IWP.loop (fun q s => ∃ k, k ≤ a.last.length ∧ q = a.last.length - k ∧ s.env 3 = aU ((a.last.take k).foldl (fun l s => l.set s.toNat true) (List.replicate a.states.toNat false)) ∧ s.env 7 = .one (.st (.list (a.last.map BE))) ∧ s.env 8 = AR a.last.length ∧ s.env 9 = AR k) a.last.length ⟨0, Nat.zero_le _, rfl, by simp [AB, h0], rfl, rfl, rfl⟩ ?_
 rintro q ⟨env, St⟩ ⟨k, hk, rfl, e3, e7, e8, e9⟩
 simp only at e3 e7 e8 e9
 by_cases hlt : (k : Int) < a.last.length
 ·obtain ⟨x, hx⟩ := Ap (show k < a.last.length by omega)
  have qx := ga.last x (AT hx)
  have hfold : (a.last.take (k + 1)).foldl (fun l s => l.set s.toNat true) (List.replicate a.states.toNat false) = ((a.last.take k).foldl (fun l s => l.set s.toNat true) (List.replicate a.states.toNat false)).set x.toNat true := by
   rw [Aj hx, List.foldl_append]
   rfl
  have hfl := Cl (a.last.take k) (List.replicate a.states.toNat false)
  rw [List.length_replicate] at hfl
  generalize (a.last.take k).foldl (fun l s => l.set s.toNat true) (List.replicate a.states.toNat false) = L at *
  have hor := Ov (l := L) (i := x.toNat) (by omega)
  have hip := Me (k := x.toNat) (by omega)
  have q64 : 0 ≤ x ∧ x.toNat ≤ 64 := by omega
  repeat' with_reducible first | refine W ?_ | refine Z0 ?_ | ((first | refine Wo fun K hK => ?_ | refine Wp ?_ | refine Wq ?_ | refine Wr ?_); (try simp only [go_sem, fN, seval, eT, iR, e3, e7, e8, e9, hlt, hx, Ou, hip, q64, Int.toNat_natCast, F8, IntKind.bits, hor, dT, dF, nL]); (repeat refine Ai ?_); (try (refine hK _ ?_; clear hK K)); try refine iC ?_)
  refine AH ⟨a.last.length - (k + 1), by omega, k + 1, by omega, rfl, ?_⟩
  simp only [go_sem, fN, seval, eT, iR, e3, e7, e8, e9]
  simp [hfold]
 ·rw [List.take_of_length_le (l := a.last) (i := k) (by omega)] at e3
  have hle : a.lastB = a.last.foldl (fun l s => l.set s.toNat true) (List.replicate a.states.toNat false) := rfl
  rw [← hle] at e3
  repeat' with_reducible first | refine W ?_ | refine Z0 ?_ | ((first | refine Wo fun K hK => ?_ | refine Wp ?_ | refine Wq ?_ | refine Wr ?_); (try simp only [go_sem, fN, seval, eT, iR, e3, e7, e8, e9, hlt, dT, dF, nL]); (repeat refine Ai ?_); (try (refine hK _ ?_; clear hK K)); try refine iC ?_)
  simp only [go_sem, fN, seval, Ae, AS.result, AK, AL, AZ, e3]

theorem IWP.at_ {P : Program} {C : Ctx} {mu : List Nat} {x : IR} {Q : AX → AS → Prop} {env0 : Nat → AV} {S0 : AA} (M : (Nat → AV) → AA → Prop) (hM : M env0 S0) (h : ∀ env S, M env S → IWP P C mu x Q ⟨env, S⟩) : IWP P C mu x Q ⟨env0, S0⟩ := h _ _ hM
section
variable {C : Ctx} {s : AS}
end
theorem J3 {S U : AA} (hU : Ad U) (h : ∀ i, 1000 ≤ i → S i = U i) : Bv S = U := by
 funext i
 show (if i < 1000 then none else S i) = U i
 by_cases hi : i < 1000
 ·rw [if_pos hi, B5 hU hi]
 ·rw [if_neg hi, h i (by omega)]
theorem IH {C : Ctx} {y : Nat} {b : AJ} {N : AA → Prop} {Jx : AX → AA → Prop} {env : Nat → AV} {S : AA} (U : AA) (hU : Ad (AB U y (some b))) (hy : U y = none) (hS : ∀ i, 1000 ≤ i → S i = AB U y (some b) i) (hN : N U) : JE C y b N Jx .normal ⟨env, S⟩ :=
 ⟨⟨fun i => (env i).low, Bv S⟩, U, Aa.low (s := ⟨env, S⟩) (fun i b' hi h => by
  have h : S i = some b' := h
  rw [hS i hi] at h
  exact (hU i b' h).2), J3 hU hS, by
  show Ad (Bv S)
  rw [J3 hU hS]
  exact hU, hy, hN⟩
theorem Aa.ownCellA {C : Ctx} {s : AS} {id r : Nat} {e e' : TypeId} {cs : List AC} (j wd : Nat) (hS : s.S id = some (.box e cs)) (hj : cs[j]? = some (.full [])) (hr : s.S r = none) (hne : id ≠ r) :
  Aa C s ((s.set r (.arow e' wd [])).set id (.box e (cs.set j (.row r 0)))) := fun a w ⟨σ, ι, R⟩ => by
 have hb := R.blk _ _ hS
 cases hb with
 | @box _ _ g vs k1 k2 k3 k4 k5 =>
  obtain ⟨v, hv, hvr⟩ := k4.get hj
  cases hvr with
  | @full p len xs hs =>
   have hl : len = 0 := by
    obtain ⟨p', cap', e1, _⟩ := B7 hs
    cases e1
    rfl
   subst hl
   obtain ⟨hu, R'⟩ := R.fresh (w' := w) hr (.arow e' wd []) ⟨p, 0, none⟩ (Ext.refl _ _) R.fit (Below.refl _ _) (by simp) (fun S' ι' hu => .afull rfl rfl (by simp) hs)
   have hS' : (s.set r (.arow e' wd [])).S id = some (.box e cs) := by simp [AS.set, AE _ hne, hS]
   have hι : AB ι r ⟨p, 0, none⟩ id = ι id := AE _ hne _
   obtain ⟨hu2, R2⟩ := R'.turn (w' := w) hS' (.box e (cs.set j (.row r 0))) (AB ι r ⟨p, 0, none⟩ id) (σ' := σ) (fun _ _ h => h) (fun _ _ _ => rfl) R.fit (by simp [AJ.len]) (fun _ => ⟨rfl, rfl⟩) ⟨rfl, rfl, rfl⟩ (Nat.le_refl _) (fun _ _ _ => rfl) (fun g h => .inl h)
    (fun hu2 => by
     rw [hι] at hu2 ⊢
     refine .box k1 k2 k3 (AU.of_get (by rw [List.length_set]; exact k4.len) fun q u c hu3 hc => ?_) k5
     by_cases e2 : q = j
     ·subst e2
      rw [hv] at hu3
      cases hu3
      rw [List.getElem?_set_self (List.getElem?_eq_some_iff.1 hj).1] at hc
      cases hc
      refine .row (b := .arow e' wd []) (by simp [AS.set, AB, Ne.symm hne]) (Nat.le_refl _) rfl fun _ => ?_
      simp [AB, Ne.symm hne]
     ·rw [List.getElem?_set_ne (fun e => e2 e.symm)] at hc
      obtain ⟨u', hu', hr'⟩ := k4.get hc
      rw [hu3] at hu'
      cases hu'
      exact (hr'.mono (fun _ _ h => h) hu).mono (fun _ _ h => h) hu2)
   exact ⟨σ, _, R2⟩

abbrev J := List Bool × List Bool
def nxt (a b : Au) (n : ByteArray) (l : List J) : J := (a.ending n (l.map Prod.fst), b.ending n (l.map Prod.snd))
def BD (out : List J) (l : List Nat) : List J := l.map fun i => out.getD i ([], [])
open Classical in
noncomputable def Gw (out : List J) (j : J) : List J := if j ∈ out then out else out ++ [j]
noncomputable def Co (a b : Au) (n : ByteArray) (out : List J) (l : List Nat) : List J := Gw out (nxt a b n (BD out l))
noncomputable def Dx (a b : Au) (out : List J) (s : Sym) : List J := (F2 out.length s.2).foldl (Co a b s.1) out
noncomputable def GQ (a b : Au) (syms : List Sym) (out : List J) : List J := syms.foldl (Dx a b) out
noncomputable def itJ (a b : Au) (syms : List Sym) : Nat → List J
 | 0 => []
 | k + 1 => GQ a b syms (itJ a b syms k)
theorem Pg (out : List J) (j : J) : out <+: Gw out j := by
 unfold Gw
 split
 ·exact List.prefix_refl _
 ·exact List.prefix_append _ _
theorem DY {α : Type} {f : List J → α → List J} (h : ∀ out x, out <+: f out x) : ∀ (l : List α) (out : List J), out <+: l.foldl f out
 | [], out => List.prefix_refl _
 | x :: l, out => (h out x).trans (DY h l (f out x))
theorem Em {a b : Au} {n : ByteArray} (out : List J) (l : List Nat) : out <+: Co a b n out l := Pg _ _
theorem HX {a b : Au} (out : List J) (s : Sym) : out <+: Dx a b out s := DY (fun out l => Em out l) _ _
theorem I1 {a b : Au} {syms : List Sym} (out : List J) : out <+: GQ a b syms out := DY (fun out s => HX out s) _ _
inductive Gen (a b : Au) (syms : List Sym) : J → Prop
 | mk {s : Sym} {l : List J} : s ∈ syms → l.length = s.2 → (∀ x ∈ l, Gen a b syms x) → Gen a b syms (nxt a b s.1 l)
theorem Gen.len {a b : Au} {syms : List Sym} {j : J} (h : Gen a b syms j) : j.1.length = a.states.toNat ∧ j.2.length = b.states.toNat := by
 cases h
 exact ⟨Au.ending_length _ _ _, Au.ending_length _ _ _⟩
structure OkJ (a b : Au) (syms : List Sym) (out : List J) : Prop where
 nod : out.Nodup
 gen : ∀ j ∈ out, Gen a b syms j
section
variable {a b : Au} {syms : List Sym}
theorem OkJ.nil : OkJ a b syms [] := ⟨List.nodup_nil, by simp⟩
theorem OkJ.add {out : List J} {j : J} (h : OkJ a b syms out) (hj : Gen a b syms j) : OkJ a b syms (Gw out j) := by
 unfold Gw
 split
 ·exact h
 ·rename_i hm
  refine ⟨?_, fun x hx => ?_⟩
  ·rw [List.nodup_append]
   exact ⟨h.nod, by simp, fun x hx y hy e => hm (by rw [← List.mem_singleton.1 hy, ← e]; exact hx)⟩
  ·rcases List.mem_append.1 hx with hx | hx
   ·exact h.gen x hx
   ·rw [List.mem_singleton.1 hx]; exact hj
theorem IN {out : List J} {l : List Nat} (hl : ∀ i ∈ l, i < out.length) : ∀ x ∈ BD out l, x ∈ out := fun x hx => by
 unfold BD at hx
 obtain ⟨i, hi, rfl⟩ := List.mem_map.1 hx
 have := hl i hi
 rw [List.getD_eq_getElem?_getD, List.getElem?_eq_getElem this]
 exact List.getElem_mem this
theorem Df (out : List J) (l : List Nat) : (BD out l).length = l.length := by simp [BD]
theorem OkJ.step {out : List J} {s : Sym} {l : List Nat} (h : OkJ a b syms out) (hs : s ∈ syms) (hl : l.length = s.2) (hi : ∀ i ∈ l, i < out.length) : OkJ a b syms (Co a b s.1 out l) :=
 h.add (.mk hs (by rw [Df, hl]) fun x hx => h.gen x (IN hi x hx))
theorem OkJ.steps {s : Sym} (hs : s ∈ syms) {n : Nat} : ∀ {ls : List (List Nat)} {out : List J}, OkJ a b syms out → n ≤ out.length → (∀ l ∈ ls, l.length = s.2 ∧ ∀ i ∈ l, i < n) → OkJ a b syms (ls.foldl (Co a b s.1) out)
 | [], out, h, hn, hl => h
 | l :: ls, out, h, hn, hl => by
  obtain ⟨h1, h2⟩ := hl l (by simp)
  show OkJ a b syms (ls.foldl (Co a b s.1) (Co a b s.1 out l))
  exact OkJ.steps hs (h.step hs h1 fun i hi => Nat.lt_of_lt_of_le (h2 i hi) hn) (Nat.le_trans hn (Em out l).length_le) fun l' hl' => hl l' (by simp [hl'])
theorem OkJ.sym {out : List J} {s : Sym} (h : OkJ a b syms out) (hs : s ∈ syms) (h2 : s.2 ≤ 2) : OkJ a b syms (Dx a b out s) :=
 OkJ.steps hs h (Nat.le_refl _) fun l hl => (Fs h2).1 hl
theorem OkJ.symsF (h2 : ∀ s ∈ syms, s.2 ≤ 2) : ∀ {ss : List Sym} {out : List J}, (∀ s ∈ ss, s ∈ syms) → OkJ a b syms out → OkJ a b syms (ss.foldl (Dx a b) out)
 | [], out, hs, h => h
 | s :: ss, out, hs, h => by
  show OkJ a b syms (ss.foldl (Dx a b) (Dx a b out s))
  exact OkJ.symsF h2 (fun x hx => hs x (by simp [hx])) (h.sym (hs s (by simp)) (h2 s (hs s (by simp))))
theorem OkJ.pass (h2 : ∀ s ∈ syms, s.2 ≤ 2) {out : List J} (h : OkJ a b syms out) : OkJ a b syms (GQ a b syms out) := OkJ.symsF h2 (fun s hs => hs) h
theorem Jm (h2 : ∀ s ∈ syms, s.2 ≤ 2) : ∀ k, OkJ a b syms (itJ a b syms k)
 | 0 => .nil
 | k + 1 => (Jm h2 k).pass h2
theorem JA : ∀ {l m : List Bool}, l.length = m.length → bN l = bN m → l = m := fun {l m} hl h => by
 refine List.ext_getElem hl fun i h1 h2 => ?_
 have e1 := BA l i
 have e2 := BA m i
 rw [h, e2] at e1
 simpa [List.getD_eq_getElem?_getD, h1, h2] using e1.symm
theorem OkJ.len {out : List J} (h : OkJ a b syms out) (ha : a.states ≤ 3) (hb : b.states ≤ 3) : out.length ≤ 64 := by
 have hlt : ∀ {l : List Bool}, l.length ≤ 3 → bN l < 8 := fun {l} hl => Nat.lt_of_lt_of_le (Ob l) (Nat.pow_le_pow_right (by omega) hl)
 have hc : (out.map fun j => bN j.1 * 8 + bN j.2).Nodup := by
  rw [List.nodup_iff_pairwise_ne, List.pairwise_map]
  have := h.nod
  rw [List.nodup_iff_pairwise_ne, List.pairwise_iff_getElem] at this
  rw [List.pairwise_iff_getElem]
  intro i j hi hj hij e
  refine this i j hi hj hij ?_
  obtain ⟨q1, q2⟩ := (h.gen _ (List.getElem_mem hi)).len
  obtain ⟨r1, r2⟩ := (h.gen _ (List.getElem_mem hj)).len
  have p1 := hlt (l := out[i].2) (by omega)
  have p2 := hlt (l := out[j].2) (by omega)
  exact Prod.ext (JA (by omega) (by omega)) (JA (by omega) (by omega))
 have := HL hc (n := 64) fun x hx => by
  obtain ⟨j, hj, rfl⟩ := List.mem_map.1 hx
  obtain ⟨q1, q2⟩ := (h.gen j hj).len
  have p1 := hlt (l := j.1) (by omega)
  have p2 := hlt (l := j.2) (by omega)
  omega
 simpa using this
theorem FM (h2 : ∀ s ∈ syms, s.2 ≤ 2) (ha : a.states ≤ 3) (hb : b.states ≤ 3) : ∃ k, k ≤ 64 ∧ itJ a b syms (k + 1) = itJ a b syms k := by
 by_cases h : ∃ k, k ≤ 64 ∧ itJ a b syms (k + 1) = itJ a b syms k
 ·exact h
 ·exfalso
  have hgrow : ∀ k, k ≤ 65 → k ≤ (itJ a b syms k).length := fun k => by
   induction k with
   | zero => intro _; omega
   | succ k ih =>
    intro hk
    have h1 := ih (by omega)
    have hp := I1 (a := a) (b := b) (syms := syms) (itJ a b syms k)
    have hne : ¬ itJ a b syms (k + 1) = itJ a b syms k := fun e => h ⟨k, by omega, e⟩
    have hl := hp.length_le
    have : (itJ a b syms k).length ≠ (GQ a b syms (itJ a b syms k)).length := fun e => hne (hp.eq_of_length e).symm
    show k + 1 ≤ (GQ a b syms (itJ a b syms k)).length
    omega
  have h1 := hgrow 65 (Nat.le_refl _)
  have h2 := (Jm (a := a) (b := b) h2 65).len ha hb
  omega
theorem FR {k : Nat} (h : itJ a b syms (k + 1) = itJ a b syms k) : ∀ d, itJ a b syms (k + d) = itJ a b syms k
 | 0 => rfl
 | d + 1 => by
  show GQ a b syms (itJ a b syms (k + d)) = _
  rw [FR h d]
  exact h
noncomputable def Bu (a b : Au) (syms : List Sym) : List J := itJ a b syms 64
theorem IP {k : Nat} (h2 : ∀ s ∈ syms, s.2 ≤ 2) (ha : a.states ≤ 3) (hb : b.states ≤ 3) (h : itJ a b syms (k + 1) = itJ a b syms k) : itJ a b syms k = Bu a b syms := by
 obtain ⟨k0, h0, hs⟩ := FM (a := a) (b := b) h2 ha hb
 have e1 := FR hs (64 - k0)
 rw [show k0 + (64 - k0) = 64 by omega] at e1
 unfold Bu
 rw [e1]
 rcases Nat.le_total k k0 with hk | hk
 ·have := FR h (k0 - k)
  rw [show k + (k0 - k) = k0 by omega] at this
  exact this.symm
 ·have := FR hs (k - k0)
  rw [show k0 + (k - k0) = k by omega] at this
  exact this
theorem Ik (h2 : ∀ s ∈ syms, s.2 ≤ 2) : OkJ a b syms (Bu a b syms) := Jm h2 64
theorem LR (h2 : ∀ s ∈ syms, s.2 ≤ 2) (ha : a.states ≤ 3) (hb : b.states ≤ 3) : GQ a b syms (Bu a b syms) = Bu a b syms := by
 obtain ⟨k0, h0, hs⟩ := FM (a := a) (b := b) h2 ha hb
 rw [← IP h2 ha hb hs]
 exact hs
theorem Gx {α : Type} {f : List J → α → List J} (hp : ∀ out x, out <+: f out x) : ∀ {l : List α} {out : List J}, l.foldl f out = out → ∀ x ∈ l, f out x = out
 | [], out, h, x, hx => by cases hx
 | y :: l, out, h, x, hx => by
  have h1 : f out y = out := by
   have p1 := hp out y
   have p2 := DY hp l (f out y)
   have hl : (l.foldl f (f out y)).length = out.length := congrArg List.length h
   exact (p1.eq_of_length (by have := p1.length_le; have := p2.length_le; omega)).symm
  rcases List.mem_cons.1 hx with rfl | hx
  ·exact h1
  ·refine Gx hp (l := l) ?_ x hx
   have h : l.foldl f (f out y) = out := h
   rw [h1] at h
   exact h
theorem IE (h2 : ∀ s ∈ syms, s.2 ≤ 2) (ha : a.states ≤ 3) (hb : b.states ≤ 3) {s : Sym} (hs : s ∈ syms) {l : List J} (hl : l.length = s.2) (hm : ∀ x ∈ l, x ∈ Bu a b syms) : nxt a b s.1 l ∈ Bu a b syms := by
 have h1 := Gx (fun out s => HX out s) (LR (a := a) (b := b) h2 ha hb) s hs
 have hidx : ∀ {l : List J}, (∀ x ∈ l, x ∈ Bu a b syms) → ∃ is : List Nat, is.length = l.length ∧ (∀ i ∈ is, i < (Bu a b syms).length) ∧ BD (Bu a b syms) is = l := fun {l} => by
  induction l with
  | nil => intro _; exact ⟨[], rfl, by simp, rfl⟩
  | cons x l ih =>
   intro hm
   obtain ⟨is, q1, q2, q3⟩ := ih fun y hy => hm y (by simp [hy])
   obtain ⟨i, hi⟩ := List.getElem?_of_mem (hm x (by simp))
   refine ⟨i :: is, by simp [q1], fun j hj => ?_, ?_⟩
   ·rcases List.mem_cons.1 hj with rfl | hj
    ·exact (List.getElem?_eq_some_iff.1 hi).1
    ·exact q2 j hj
   ·show (Bu a b syms).getD i ([], []) :: BD _ is = _
    rw [q3, List.getD_eq_getElem?_getD, hi]
    rfl
 obtain ⟨is, q1, q2, q3⟩ := hidx hm
 have h3 := Gx (fun out l => Em out l) h1 is ((Fs (h2 s hs)).2 ⟨by omega, q2⟩)
 unfold Co at h3
 rw [q3] at h3
 unfold Gw at h3
 split at h3
 ·assumption
 ·exact absurd (congrArg List.length h3) (by simp)
theorem LK (h2 : ∀ s ∈ syms, s.2 ≤ 2) (ha : a.states ≤ 3) (hb : b.states ≤ 3) {j : J} (h : Gen a b syms j) : j ∈ Bu a b syms := by
 induction h with
 | mk hs hl _ ih => exact IE h2 ha hb hs hl ih
theorem Hl (h2 : ∀ s ∈ syms, s.2 ≤ 2) (ha : a.states ≤ 3) (hb : b.states ≤ 3) {j : J} : j ∈ Bu a b syms ↔ Gen a b syms j :=
 ⟨(Ik h2).gen j, LK h2 ha hb⟩
end

def JQ (j : J) : List SV := [.int .u64 (bN j.1 : Int), .int .u64 (bN j.2 : Int)]
instance lensEncJ : Lg JQ 2 := ⟨fun _ => rfl⟩
abbrev aJs (l : List J) : AV := .one (.st (.list (l.map JQ)))
def Kl (j : J) : KV := .p (.i (bN j.1 : Int)) (.i (bN j.2 : Int))
def My (j : J) : KV × AV := (Kl j, BJ true)
abbrev I_ (l : List J) : AJ := .map (some (.two (some .u64) (some .u64))) (l.map My)
abbrev H5 (l : List J) : AJ := .arow 67 2 (l.map JQ)
theorem On {i j : J} (h1 : i.1.length = j.1.length) (h2 : i.2.length = j.2.length) : Kl i = Kl j ↔ i = j := by
 constructor
 ·intro h
  simp only [Kl, KV.p.injEq, KV.i.injEq] at h
  exact Prod.ext (JA h1 (by omega)) (JA h2 (by omega))
 ·rintro rfl; rfl
section
variable {a b : Au} {syms : List Sym}
theorem IX {l : List J} {j : J} (h : ∀ i ∈ l, i.1.length = j.1.length ∧ i.2.length = j.2.length) : (j ∈ l → Ci (l.map My) (Kl j) = some (BJ true)) ∧ (¬ j ∈ l → Ci (l.map My) (Kl j) = none) := by
 induction l with
 | nil => exact ⟨fun h => (by cases h), fun _ => rfl⟩
 | cons x l ih =>
  obtain ⟨i1, i2⟩ := ih fun i hi => h i (by simp [hi])
  obtain ⟨e1, e2⟩ := h x (by simp)
  simp only [List.map_cons, Ci, My, On e1 e2]
  by_cases e : x = j
  ·subst e
   exact ⟨fun _ => by rw [if_pos rfl], fun h => absurd (by simp) h⟩
  ·rw [if_neg e]
   refine ⟨fun h => i1 ?_, fun h => i2 fun h' => h (by simp [h'])⟩
   rcases List.mem_cons.1 h with h | h
   ·exact absurd h.symm e
   ·exact h
theorem NB {l : List J} {j : J} (h : ∀ i ∈ l, i.1.length = j.1.length ∧ i.2.length = j.2.length) (hm : ¬ j ∈ l) : GE (l.map My) (Kl j) (BJ true) = (l ++ [j]).map My := by
 rw [In ((IX h).2 hm), List.map_append]
 rfl
end
def CX (S : AA) (base : Nat) (out : List J) : AA := AB (AB (AB (AB (upS S) 1500 (some (H5 out))) 1007 (some (.box 61 [.row 1500 out.length]))) 1018 (some (I_ out))) 1009 (some (.box 4 [.st (.bool (decide (base < out.length)))]))
theorem Bg {S : AA} {base : Nat} {out : List J} {i : Nat} (h1 : i ≠ 1500) (h2 : i ≠ 1007) (h3 : i ≠ 1018) (h4 : i ≠ 1009) : CX S base out i = upS S i := by
 unfold CX
 rw [AE _ h4, AE _ h3, AE _ h2, AE _ h1]
theorem Fb {S : AA} {base : Nat} {out : List J} : Ad (CX S base out) :=
 A2 (A2 (A2 (A2 (En S) (by decide) rfl) (by decide) rfl) (by decide) rfl) (by decide) rfl
theorem MI {S : AA} {base : Nat} {out : List J} : dnS (CX S base out) = AB (AB (AB (AB S 500 (some (H5 out))) 7 (some (.box 61 [.row 500 out.length]))) 18 (some (I_ out))) 9 (some (.box 4 [.st (.bool (decide (base < out.length)))])) := by
 unfold CX
 rw [show (1009 : Nat) = up1 9 from rfl, Fx, show (1018 : Nat) = up1 18 from rfl, Fx, show (1007 : Nat) = up1 7 from rfl, Fx, show (1500 : Nat) = up1 500 from rfl, Fx, Jn]
 rfl
theorem Fw {S : AA} {r : Nat} {b : AJ} (h : S r = some b) : AB S r (some b) = S := by
 funext k
 unfold AB
 split
 ·rename_i e; rw [e, h]
 ·rfl
theorem LM {S : AA} {base : Nat} {out : List J} (h1 : S 500 = some (H5 out)) (h2 : S 7 = some (.box 61 [.row 500 out.length])) (h3 : S 18 = some (I_ out)) (h4 : S 9 = some (.box 4 [.st (.bool (decide (base < out.length)))])) : upS S = CX S base out := by
 unfold CX
 have k1 : upS S 1500 = some (H5 out) := B1 h1
 have k2 : upS S 1007 = some (.box 61 [.row 1500 out.length]) := B1 h2
 have k3 : upS S 1018 = some (I_ out) := B1 h3
 have k4 : upS S 1009 = some (.box 4 [.st (.bool (decide (base < out.length)))]) := B1 h4
 rw [Fw k1, Fw k2, Fw k3, Fw k4]
theorem QA (a b : Au) (ga : a.Good) (gb : b.Good) (ha : a.states ≤ 3) (hb : b.states ≤ 3) (hma : a.moves.length ≤ 100000) (hmb : b.moves.length ≤ 100000) (syms : List Sym) (h2 : ∀ s ∈ syms, s.2 ≤ 2) (hsl : syms.length ≤ 100000) :
  Ac Try.prog 31 [aAu a, aAu b, Gc syms] (aJs (Bu a b syms)) := by
 obtain ⟨k0, hk0, hst⟩ := FM (a := a) (b := b) h2 ha hb
 refine H4.acT fun C hC htop => ?_
 unfold E0
 repeat' with_reducible first | refine W ?_ | refine Z0 ?_ | ((first | refine Wo fun K hK => ?_ | refine Wp ?_ | refine Wq ?_ | refine Wr ?_); (try simp only [go_sem, fN, seval, eT, iR, dT, dF, nL]); (repeat refine Ai ?_); (try (refine hK _ ?_; clear hK K)); try refine iC ?_)
 refine IWP.ghost (Aa.ownCellA (e' := 67) (id := 7) (r := 500) 0 2 rfl rfl rfl (by decide)) ?_
 refine IWP.loop (fun q s => ∃ i, i ≤ k0 + 1 ∧ q = k0 + 2 - i ∧ s.env 2 = Gc syms ∧ s.env 3 = .one (.ptr 3 1 0 0) ∧ s.env 4 = .one (.ptr 4 1 0 0) ∧ s.env 7 = .one (.ptr 7 1 0 0) ∧ s.env 8 = .one (.ptr 8 1 0 0) ∧ s.env 9 = .one (.ptr 9 1 0 0) ∧ s.S 3 = some (AF a) ∧ s.S 4 = some (AF b) ∧
  s.S 7 = some (.box 61 [.row 500 (itJ a b syms i).length]) ∧ s.S 500 = some (H5 (itJ a b syms i)) ∧ s.S 8 = some (.box 97 [.mptr 18]) ∧ s.S 18 = some (I_ (itJ a b syms i)) ∧ (∃ m, s.S 9 = some (.box 4 [.st (.bool m)]) ∧ (m = false → ∃ j, i = j + 1 ∧ itJ a b syms (j + 1) = itJ a b syms j) ∧ (m = true → i ≤ k0)) ∧ s.S 11 = none ∧ s.S 501 = none ∧ s.S 502 = none) (k0 + 2)
  ⟨0, Nat.zero_le _, rfl, rfl, rfl, rfl, rfl, rfl, rfl, rfl, rfl, rfl, rfl, rfl, rfl, ⟨true, rfl, by simp, fun _ => Nat.zero_le _⟩, rfl, rfl, rfl⟩ ?_
 rintro q ⟨env, S⟩ ⟨i, hi, rfl, e2, e3, e4, e7, e8, e9, s3, s4, s7, s500, s8, s18, ⟨mo, s9, hm1, hm2⟩, s11, s501, s502⟩
 simp only at e2 e3 e4 e7 e8 e9 s3 s4 s7 s500 s8 s18 s9 s11 s501 s502
 cases mo with
 | false =>
  obtain ⟨j, rfl, hj⟩ := hm1 rfl
  have hR := IP h2 ha hb hj
  rw [← hj] at hR
  rw [hR] at s7 s500
  repeat' with_reducible first | refine W ?_ | refine Z0 ?_ | ((first | refine Wo fun K hK => ?_ | refine Wp ?_ | refine Wq ?_ | refine Wr ?_); (try simp only [go_sem, fN, seval, eT, iR, e2, e3, e4, e7, e8, e9, s7, s500, s9, dT, dF, nL]); (repeat refine Ai ?_); (try (refine hK _ ?_; clear hK K)); try refine iC ?_)
  simp only [go_sem, fN, seval, Ae, AS.result, AK, AL, AZ, s500]
 | true =>
  have hik := hm2 rfl
  repeat' with_reducible first | refine W ?_ | refine Z0 ?_ | ((first | refine Wo fun K hK => ?_ | refine Wp ?_ | refine Wq ?_ | refine Wr ?_); (try simp only [go_sem, fN, seval, eT, iR, e2, e3, e4, e7, e8, e9, s7, s500, s9, dT, dF, nL]); (repeat refine Ai ?_); (try (refine hK _ ?_; clear hK K)); try refine iC ?_)
  obtain ⟨o0, ho0⟩ : ∃ o0, itJ a b syms i = o0 := ⟨_, rfl⟩
  have hok0 := Jm (a := a) (b := b) h2 i
  rw [ho0] at s7 s500 s18 hok0
  refine IWP.loopD [11, 501, 502] (fun q s => ∃ k, k ≤ syms.length ∧ q = syms.length - k ∧ s.env 2 = Gc syms ∧ s.env 3 = .one (.ptr 3 1 0 0) ∧ s.env 4 = .one (.ptr 4 1 0 0) ∧ s.env 7 = .one (.ptr 7 1 0 0) ∧ s.env 8 = .one (.ptr 8 1 0 0) ∧ s.env 9 = .one (.ptr 9 1 0 0) ∧ s.env 20 = Gc syms ∧ s.env 21 = AR syms.length ∧ s.env 22 = AR k ∧ s.S 3 = some (AF a) ∧ s.S 4 = some (AF b) ∧
   s.S 7 = some (.box 61 [.row 500 ((syms.take k).foldl (Dx a b) o0).length]) ∧ s.S 500 = some (H5 ((syms.take k).foldl (Dx a b) o0)) ∧ s.S 8 = some (.box 97 [.mptr 18]) ∧ s.S 18 = some (I_ ((syms.take k).foldl (Dx a b) o0)) ∧ s.S 9 = some (.box 4 [.st (.bool (decide (o0.length < ((syms.take k).foldl (Dx a b) o0).length)))]) ∧ s.S 11 = none ∧ s.S 501 = none ∧ s.S 502 = none) syms.length
   ⟨0, Nat.zero_le _, rfl, e2, e3, e4, e7, e8, e9, by simp only [go_sem, fN, seval, eT, iR, e2], by simp only [go_sem, fN, seval, eT, iR], rfl, by simp only [go_sem, fN, seval, eT, iR, s3], by simp only [go_sem, fN, seval, eT, iR, s4], by simp only [go_sem, fN, seval, eT, iR, s7]; rfl, by simp only [go_sem, fN, seval, eT, iR, s500]; rfl, by simp only [go_sem, fN, seval, eT, iR, s8], by simp only [go_sem, fN, seval, eT, iR, s18]; rfl, by simp only [go_sem, fN, seval, eT, iR]; simp, by simp only [go_sem, fN, seval, eT, iR, s11], by simp only [go_sem, fN, seval, eT, iR, s501], by simp only [go_sem, fN, seval, eT, iR, s502]⟩ ?_
  clear e2 e3 e4 e7 e8 e9 s3 s4 s7 s500 s8 s18 s9 s11 s501 s502
  rintro q ⟨env, S⟩ ⟨k, hk, rfl, e2, e3, e4, e7, e8, e9, e20, e21, e22, s3, s4, s7, s500, s8, s18, s9, s11, s501, s502⟩
  simp only at e2 e3 e4 e7 e8 e9 e20 e21 e22 s3 s4 s7 s500 s8 s18 s9 s11 s501 s502
  by_cases hlt : (k : Int) < syms.length
  ·obtain ⟨sy, hsk⟩ := Ap (show k < syms.length by omega)
   have hsm := AT hsk
   have hs2 := h2 sy hsm
   have hfold : (syms.take (k + 1)).foldl (Dx a b) o0 = Dx a b ((syms.take k).foldl (Dx a b) o0) sy := by
    rw [Aj hsk, List.foldl_append]
    rfl
   have hoko : OkJ a b syms ((syms.take k).foldl (Dx a b) o0) := OkJ.symsF h2 (fun s hs => List.mem_of_mem_take hs) hok0
   have hbase := (DY (f := Dx a b) (fun out s => HX out s) (syms.take k) o0).length_le
   obtain ⟨o, ho⟩ : ∃ o, (syms.take k).foldl (Dx a b) o0 = o := ⟨_, rfl⟩
   rw [ho] at s7 s500 s18 s9 hfold hoko hbase
   have holen := hoko.len ha hb
   have hol : (o.map JQ).length = o.length := by simp
   repeat' (first | (with_reducible first | refine W ?_ | refine Z0 ?_ | ((first | refine Wo fun K hK => ?_ | refine Wp ?_ | refine Wq ?_ | refine Wr ?_); (try simp only [go_sem, fN, seval, eT, iR, e2, e3, e4, e7, e8, e9, e20, e21, e22, s3, s4, s7, s500, s8, s18, s9, s11, s501, s502, hlt, hsk, Gi, hol, dT, dF, nL]); (repeat refine Ai ?_); (try (refine hK _ ?_; clear hK K)); try refine iC ?_)) | refine Cg _ (OX o.length sy.2) ?_)
   refine IWP.at_ (fun env S => env 2 = Gc syms ∧ env 3 = .one (.ptr 3 1 0 0) ∧ env 4 = .one (.ptr 4 1 0 0) ∧ env 7 = .one (.ptr 7 1 0 0) ∧ env 8 = .one (.ptr 8 1 0 0) ∧ env 9 = .one (.ptr 9 1 0 0) ∧ env 11 = .one (.ptr 11 1 0 0) ∧ env 20 = Gc syms ∧ env 21 = AR syms.length ∧ env 22 = AR k ∧ env 30 = .one (.fn 57 [.eptr [.int .i64 sy.2], .eptr [.int .i64 o.length]]) ∧ S 3 = some (AF a) ∧ S 4 = some (AF b) ∧
    S 7 = some (.box 61 [.row 500 o.length]) ∧ S 500 = some (H5 o) ∧ S 8 = some (.box 97 [.mptr 18]) ∧ S 18 = some (I_ o) ∧ S 9 = some (.box 4 [.st (.bool (decide (o0.length < o.length)))]) ∧ S 11 = some (.box 72 [.st (.str sy.1), .st (.int .i64 (sy.2 : Int))]) ∧ S 501 = none ∧ S 502 = none)
    ⟨e2, e3, e4, e7, e8, e9, rfl, e20, e21, e22, rfl, by simp only [go_sem, fN, seval, eT, iR, s3], by simp only [go_sem, fN, seval, eT, iR, s4], by simp only [go_sem, fN, seval, eT, iR, s7], by simp only [go_sem, fN, seval, eT, iR, s500], by simp only [go_sem, fN, seval, eT, iR, s8], by simp only [go_sem, fN, seval, eT, iR, s18], by simp only [go_sem, fN, seval, eT, iR, s9], by simp only [go_sem, fN, seval, eT, iR], by simp only [go_sem, fN, seval, eT, iR, s501], by simp only [go_sem, fN, seval, eT, iR, s502]⟩ ?_
   clear e2 e3 e4 e7 e8 e9 e20 e21 e22 s3 s4 s7 s500 s8 s18 s9 s11 s501 s502
   rintro env S ⟨e2, e3, e4, e7, e8, e9, e11, e20, e21, e22, e30, s3, s4, s7, s500, s8, s18, s9, s11, s501, s502⟩
   refine IWP.rangeW htop 501 (by decide) s501 (show AS.ev _ (.t 30) = _ from e30) (by kernel_rfl) 502 (by decide) (JX o.length sy.2 hs2 (by omega)) rfl (fun pre U => U = CX S o0.length (pre.foldl (Co a b sy.1) o)) (fun _ _ => False) ?_ ?_ (fun _ _ _ _ _ => trivial) ?_ ?_ (fun _ _ _ h => h.elim)
   ·exact LM s500 s7 s18 s9
   ·rintro pre U rfl
    rw [Bg (by decide) (by decide) (by decide) (by decide), show up1 502 = up1 502 from rfl, CR, s502]
    rfl
   ·rintro C' b0 b1 pre v U hC' hpre rfl hU hcl hb1
    obtain ⟨tl, htl⟩ := hpre
    have hvm : v ∈ F2 o.length sy.2 := by rw [← htl]; simp
    obtain ⟨hvl, hvi⟩ := (Fs hs2).1 hvm
    have hpm : ∀ l ∈ pre, l.length = sy.2 ∧ ∀ i ∈ l, i < o.length := fun l hl => (Fs hs2).1 (by rw [← htl]; simp [hl])
    have hok1 : OkJ a b syms (pre.foldl (Co a b sy.1) o) := OkJ.steps hsm hoko (Nat.le_refl _) hpm
    have hpre1 := DY (f := Co a b sy.1) (fun out l => Em out l) pre o
    have hsnoc : (pre ++ [v]).foldl (Co a b sy.1) o = Co a b sy.1 (pre.foldl (Co a b sy.1) o) v := by rw [List.foldl_append]; rfl
    obtain ⟨o1, ho1⟩ : ∃ o1, pre.foldl (Co a b sy.1) o = o1 := ⟨_, rfl⟩
    rw [ho1] at hok1 hpre1 hsnoc hcl hU ⊢
    have h1len := hok1.len ha hb
    have hvi1 : ∀ i ∈ v, i < o1.length := fun i hi => Nat.lt_of_lt_of_le (hvi i hi) hpre1.length_le
    have low : ∀ {i : Nat}, i < 1000 → CX S o0.length o1 i = none := fun hi => B5 hcl hi
    have n13 := low (i := 45) (by decide)
    have n14 := low (i := 53) (by decide)
    have n17 := low (i := 17) (by decide)
    have w3 : Cm C.n env 3 = .one (.ptr 1003 1 0 0) := by rw [Cm, if_pos (by rw [hC]; decide), e3]; rfl
    have w4 : Cm C.n env 4 = .one (.ptr 1004 1 0 0) := by rw [Cm, if_pos (by rw [hC]; decide), e4]; rfl
    have w7 : Cm C.n env 7 = .one (.ptr 1007 1 0 0) := by rw [Cm, if_pos (by rw [hC]; decide), e7]; rfl
    have w8 : Cm C.n env 8 = .one (.ptr 1008 1 0 0) := by rw [Cm, if_pos (by rw [hC]; decide), e8]; rfl
    have w9 : Cm C.n env 9 = .one (.ptr 1009 1 0 0) := by rw [Cm, if_pos (by rw [hC]; decide), e9]; rfl
    have w11 : Cm C.n env 11 = .one (.ptr 1011 1 0 0) := by rw [Cm, if_pos (by rw [hC]; decide), e11]; rfl
    have u501 : up1 501 = 1501 := rfl
    have u502 : up1 502 = 1502 := rfl
    have hel := Ed v
    obtain ⟨W, hW⟩ : ∃ W, AB (AB (CX S o0.length o1) 1502 (some (.mrow 3 1 (A6 v)))) 1501 (some b1) = W := ⟨_, rfl⟩
    rw [u501, u502, hel, hvl]
    repeat' with_reducible first | refine W ?_ | refine Z0 ?_ | ((first | refine Wo fun K hK => ?_ | refine Wp ?_ | refine Wq ?_ | refine Wr ?_); (try simp only [go_sem, fN, seval, eT, iR, G5, u501, u502, dT, dF, nL]); (repeat refine Ai ?_); (try (refine hK _ ?_; clear hK K)); try refine iC ?_)
    refine AH ⟨by simp only [go_sem, fN, seval, eT, iR, u501, u502], ?_⟩
    refine IWP.at_ (fun env1 S1 => env1 3 = .one (.ptr 1003 1 0 0) ∧ env1 4 = .one (.ptr 1004 1 0 0) ∧ env1 7 = .one (.ptr 1007 1 0 0) ∧ env1 8 = .one (.ptr 1008 1 0 0) ∧ env1 9 = .one (.ptr 1009 1 0 0) ∧ env1 11 = .one (.ptr 1011 1 0 0) ∧ env1 12 = .one (.row 1502 sy.2) ∧ S1 = W) ⟨w3, w4, w7, w8, w9, w11, rfl, by rw [← hW]; exact IZ⟩ ?_
    rintro env1 S1 ⟨x3, x4, x7, x8, x9, x11, x12, rfl⟩
    have hWat : ∀ i, i ≠ 1501 → i ≠ 1502 → S1 i = CX S o0.length o1 i := fun i p q => by rw [← hW, AE _ p, AE _ q]
    have q45 : S1 45 = none := by rw [hWat 45 (by decide) (by decide)]; exact n13
    have q53 : S1 53 = none := by rw [hWat 53 (by decide) (by decide)]; exact n14
    have q17 : S1 17 = none := by rw [hWat 17 (by decide) (by decide)]; exact n17
    have q3 : S1 1003 = some (AF a) := by rw [hWat 1003 (by decide) (by decide), Bg (by decide) (by decide) (by decide) (by decide)]; exact B1 s3
    have q4 : S1 1004 = some (AF b) := by rw [hWat 1004 (by decide) (by decide), Bg (by decide) (by decide) (by decide) (by decide)]; exact B1 s4
    have q8 : S1 1008 = some (.box 97 [.mptr 1018]) := by rw [hWat 1008 (by decide) (by decide), Bg (by decide) (by decide) (by decide) (by decide)]; exact B1 s8
    have q11 : S1 1011 = some (.box 72 [.st (.str sy.1), .st (.int .i64 (sy.2 : Int))]) := by rw [hWat 1011 (by decide) (by decide), Bg (by decide) (by decide) (by decide) (by decide)]; exact B1 s11
    have q7 : S1 1007 = some (.box 61 [.row 1500 o1.length]) := by rw [hWat 1007 (by decide) (by decide)]; rfl
    have q500 : S1 1500 = some (H5 o1) := by rw [hWat 1500 (by decide) (by decide)]; rfl
    have q18 : S1 1018 = some (I_ o1) := by rw [hWat 1018 (by decide) (by decide)]; rfl
    have q9 : S1 1009 = some (.box 4 [.st (.bool (decide (o0.length < o1.length)))]) := by rw [hWat 1009 (by decide) (by decide)]; rfl
    have q502 : S1 1502 = some (.mrow 3 1 (A6 v)) := by rw [← hW, AE _ (by decide), AD]
    have hWc : Ad S1 := by rw [← hW]; exact A2 (A2 Fb (by decide) rfl) (by decide) hb1
    repeat' with_reducible first | refine W ?_ | refine Z0 ?_ | ((first | refine Wo fun K hK => ?_ | refine Wp ?_ | refine Wq ?_ | refine Wr ?_); (try simp only [go_sem, fN, seval, eT, iR, x12, q502, hel, hvl, dT, dF, nL]); (repeat refine Ai ?_); (try (refine hK _ ?_; clear hK K)); try refine iC ?_)
    refine IWP.ghost (Aa.own 13 45 65 1 rfl q45 (by simp) (by rw [hC', hC]; decide)) ?_
    refine IWP.ghost (Aa.own 14 53 65 1 rfl (by simp only [go_sem, fN, seval, eT, iR, q53]) (by simp) (by rw [hC', hC]; decide)) ?_
    refine IWP.loop (fun q s => ∃ t, t ≤ sy.2 ∧ q = sy.2 - t ∧ s.env 3 = .one (.ptr 1003 1 0 0) ∧ s.env 4 = .one (.ptr 1004 1 0 0) ∧ s.env 7 = .one (.ptr 1007 1 0 0) ∧ s.env 8 = .one (.ptr 1008 1 0 0) ∧ s.env 9 = .one (.ptr 1009 1 0 0) ∧ s.env 11 = .one (.ptr 1011 1 0 0) ∧ s.env 13 = .one (.row 45 t) ∧ s.env 14 = .one (.row 53 t) ∧ s.env 32 = .one (.row 1502 sy.2) ∧ s.env 33 = AR sy.2 ∧ s.env 34 = AR t ∧
     s.S 45 = some (.arow 65 1 (((BD o1 (v.take t)).map Prod.fst).map Gh)) ∧ s.S 53 = some (.arow 65 1 (((BD o1 (v.take t)).map Prod.snd).map Gh)) ∧ s.S 17 = none ∧ ∀ i, 1000 ≤ i → s.S i = S1 i) sy.2
     ⟨0, Nat.zero_le _, rfl, x3, x4, x7, x8, x9, x11, rfl, rfl, by simp only [go_sem, fN, seval, eT, iR, x12], by simp only [go_sem, fN, seval, eT, iR], rfl, by simp only [go_sem, fN, seval, eT, iR]; rfl, by simp only [go_sem, fN, seval, eT, iR]; rfl, by simp only [go_sem, fN, seval, eT, iR, q17], fun i hi => (AE _ (by omega) _).trans (AE _ (by omega) _)⟩ ?_
    rintro q ⟨env2, S2⟩ ⟨t, ht, rfl, y3, y4, y7, y8, y9, y11, y13, y14, y32, y33, y34, z45, z53, z17, hS2⟩
    simp only at y3 y4 y7 y8 y9 y11 y13 y14 y32 y33 y34 z45 z53 z17 hS2
    have r3 := (hS2 1003 (by decide)).trans q3
    have r4 := (hS2 1004 (by decide)).trans q4
    have r7 := (hS2 1007 (by decide)).trans q7
    have r8 := (hS2 1008 (by decide)).trans q8
    have r9 := (hS2 1009 (by decide)).trans q9
    have r11 := (hS2 1011 (by decide)).trans q11
    have r500 := (hS2 1500 (by decide)).trans q500
    have r18 := (hS2 1018 (by decide)).trans q18
    have r502 := (hS2 1502 (by decide)).trans q502
    have hl45 : (((BD o1 (v.take t)).map Prod.fst).map Gh).length = t := by rw [List.length_map, List.length_map, Df, List.length_take]; omega
    have hl53 : (((BD o1 (v.take t)).map Prod.snd).map Gh).length = t := by rw [List.length_map, List.length_map, Df, List.length_take]; omega
    have hol1 : (o1.map JQ).length = o1.length := by simp
    by_cases htl2 : t < sy.2
    ·obtain ⟨x, hx⟩ := Ap (show t < v.length by omega)
     have hxo := hvi1 x (AT hx)
     have hx' := GH hx
     obtain ⟨jx, hjx⟩ := Ap hxo
     have hpt : BD o1 (v.take (t + 1)) = BD o1 (v.take t) ++ [jx] := by
      rw [Aj hx]
      unfold BD
      rw [List.map_append, List.map_cons, List.map_nil, List.getD_eq_getElem?_getD, hjx]
      rfl
     have hjm := hok1.gen jx (AT hjx)
     repeat' with_reducible first | refine W ?_ | refine Z0 ?_ | ((first | refine Wo fun K hK => ?_ | refine Wp ?_ | refine Wq ?_ | refine Wr ?_); (try simp only [go_sem, fN, seval, eT, iR, y3, y4, y7, y8, y9, y11, y13, y14, y32, y33, y34, z45, z53, r7, r500, r502, htl2, hx', hjx, hl45, hl53, hol1, hel, hvl, JQ, Fu, dT, dF, nL]); (repeat refine Ai ?_); (try (refine hK _ ?_; clear hK K)); try refine iC ?_)
     refine AH ⟨sy.2 - (t + 1), by omega, t + 1, by omega, rfl, y3, y4, y7, y8, y9, y11, ?_, ?_, ?_, ?_, rfl, ?_, ?_, ?_, fun i hi => ?_⟩
     ·simp only [go_sem, fN, seval, eT, iR]
     ·simp only [go_sem, fN, seval, eT, iR]
     ·simp only [go_sem, fN, seval, eT, iR, y32]
     ·simp only [go_sem, fN, seval, eT, iR, y33]
     ·rw [hpt]
      simp only [go_sem, fN, seval, eT, iR]
      simp [Gh]
     ·rw [hpt]
      simp only [go_sem, fN, seval, eT, iR]
      simp [Gh]
     ·simp only [go_sem, fN, seval, eT, iR, z17]
     ·show AB (AB S2 45 _) 53 _ i = _
      rw [AE _ (by omega), AE _ (by omega)]
      exact hS2 i hi
    ·have hte : t = sy.2 := by omega
     have htk : v.take t = v := by rw [hte, ← hvl]; exact List.take_length
     rw [htk] at z45 z53 hl45 hl53
     have hbelow : ∀ x ∈ BD o1 v, x.1.length = a.states.toNat ∧ x.2.length = b.states.toNat := fun x hx => (hok1.gen x (IN hvi1 x hx)).len
     have hfa := I9 a ga (by omega) hma sy.1 ((BD o1 v).map Prod.fst) (fun l hl => by
      obtain ⟨x, hx, rfl⟩ := List.mem_map.1 hl
      exact (hbelow x hx).1) (by rw [List.length_map, Df]; omega)
     have hfb := I9 b gb (by omega) hmb sy.1 ((BD o1 v).map Prod.snd) (fun l hl => by
      obtain ⟨x, hx, rfl⟩ := List.mem_map.1 hl
      exact (hbelow x hx).2) (by rw [List.length_map, Df]; omega)
     have hnx : nxt a b sy.1 (BD o1 v) = (a.ending sy.1 ((BD o1 v).map Prod.fst), b.ending sy.1 ((BD o1 v).map Prod.snd)) := rfl
     have hnl : ∀ i ∈ o1, i.1.length = (nxt a b sy.1 (BD o1 v)).1.length ∧ i.2.length = (nxt a b sy.1 (BD o1 v)).2.length := fun i hi => by
      obtain ⟨p, q⟩ := (hok1.gen i hi).len
      rw [hnx]
      exact ⟨by rw [p, Au.ending_length], by rw [q, Au.ending_length]⟩
     obtain ⟨g1, g2⟩ := IX hnl
     have g3 := NB hnl
     have hyes : nxt a b sy.1 (BD o1 v) ∈ o1 → Gw o1 (nxt a b sy.1 (BD o1 v)) = o1 := fun h => by unfold Gw; exact if_pos h
     have hno : ¬ nxt a b sy.1 (BD o1 v) ∈ o1 → Gw o1 (nxt a b sy.1 (BD o1 v)) = o1 ++ [nxt a b sy.1 (BD o1 v)] := fun h => by unfold Gw; exact if_neg h
     have hsnoc : (pre ++ [v]).foldl (Co a b sy.1) o = Gw o1 (nxt a b sy.1 (BD o1 v)) := hsnoc
     obtain ⟨jn, hjn⟩ : ∃ jn, nxt a b sy.1 (BD o1 v) = jn := ⟨_, rfl⟩
     rw [hjn] at g1 g2 g3 hsnoc hnx hyes hno
     have hk1 : KV.p (.i (bN jn.1 : Int)) (.i (bN jn.2 : Int)) = Kl jn := rfl
     obtain ⟨j1, j2⟩ := jn
     obtain ⟨rfl, rfl⟩ : j1 = _ ∧ j2 = _ := Prod.mk.injEq .. ▸ hnx
     by_cases hin : (a.ending sy.1 ((BD o1 v).map Prod.fst), b.ending sy.1 ((BD o1 v).map Prod.snd)) ∈ o1
     ·rw [hyes hin] at hsnoc
      have g := g1 hin
      repeat' (first | (with_reducible first | refine W ?_ | refine Z0 ?_ | ((first | refine Wo fun K hK => ?_ | refine Wp ?_ | refine Wq ?_ | refine Wr ?_); (try simp only [go_sem, fN, seval, eT, iR, y3, y4, y7, y8, y9, y11, y13, y14, y32, y33, y34, z45, z53, z17, r3, r4, r7, r8, r9, r11, r18, htl2, hl45, hl53, AF, CP, Gd, KV.of2, KV.of1, hk1, g, Jr, dT, dF, nL]); (repeat refine Ai ?_); (try (refine hK _ ?_; clear hK K)); try refine iC ?_)) | refine Cg _ (hfa) ?_ | refine Cg _ (hfb) ?_)
      refine IH (AB (CX S o0.length o1) 1502 (some (.mrow 3 1 (A6 v)))) (by rw [hW]; exact hWc) (by rw [AE _ (by decide)]; exact hU) (fun i hi => ?_) ⟨_, rfl, ?_, by rw [hsnoc]⟩
      ·rw [hW]
       show AB (AB S2 17 _) 17 _ i = S1 i
       rw [AE _ (by omega), AE _ (by omega)]
       exact hS2 i hi
      ·rw [Bg (by decide) (by decide) (by decide) (by decide)]
       show upS S (up1 502) = none
       rw [CR, s502]
       rfl
     ·rw [hno hin] at hsnoc
      have g := g2 hin
      have g4 := g3 hin
      repeat' (first | (with_reducible first | refine W ?_ | refine Z0 ?_ | ((first | refine Wo fun K hK => ?_ | refine Wp ?_ | refine Wq ?_ | refine Wr ?_); (try simp only [go_sem, fN, seval, eT, iR, y3, y4, y7, y8, y9, y11, y13, y14, y32, y33, y34, z45, z53, z17, r3, r4, r7, r8, r9, r11, r18, r500, htl2, hl45, hl53, hol1, AF, CP, Gd, KV.of2, KV.of1, hk1, g, g4, Jr, dT, dF, nL]); (repeat refine Ai ?_); (try (refine hK _ ?_; clear hK K)); try refine iC ?_)) | refine Cg _ (hfa) ?_ | refine Cg _ (hfb) ?_)
      obtain ⟨jn, hjn⟩ : ∃ jn : J, (a.ending sy.1 ((BD o1 v).map Prod.fst), b.ending sy.1 ((BD o1 v).map Prod.snd)) = jn := ⟨_, rfl⟩
      refine IH (AB (CX S o0.length (o1 ++ [jn])) 1502 (some (.mrow 3 1 (A6 v)))) (A2 (A2 Fb (by decide) rfl) (by decide) hb1) (by rw [AE _ (by decide), Bg (by decide) (by decide) (by decide) (by decide)]; show upS S (up1 501) = none; rw [CR, s501]; rfl) (fun i hi => ?_) ⟨_, rfl, ?_, by rw [hsnoc, hjn]⟩
      ·show AB (AB (AB (AB (AB (AB S2 17 _) 17 _) 1018 _) 1500 _) 1007 _) 1009 _ i = _
       by_cases c1 : i = 1009
       ·subst c1
        rw [AD, AE _ (by decide), AE _ (by decide)]
        show _ = AB _ 1009 _ 1009
        rw [AD]
        have hle := hpre1.length_le
        have hle := hpre1.length_le
        have hle := hpre1.length_le
        have hle := hpre1.length_le
        simp
        omega
       by_cases c2 : i = 1007
       ·subst c2
        rw [AE _ (by decide), AD, AE _ (by decide), AE _ (by decide)]
        show _ = AB (AB (AB _ 1007 _) 1018 _) 1009 _ 1007
        rw [AE _ (by decide), AE _ (by decide), AD]
        simp
       by_cases c3 : i = 1500
       ·subst c3
        rw [AE _ (by decide), AE _ (by decide), AD, AE _ (by decide), AE _ (by decide)]
        show _ = AB (AB (AB (AB _ 1500 _) 1007 _) 1018 _) 1009 _ 1500
        rw [AE _ (by decide), AE _ (by decide), AE _ (by decide), AD, ← hjn, H5, List.map_append]
        rfl
       by_cases c4 : i = 1018
       ·subst c4
        rw [AE _ (by decide), AE _ (by decide), AE _ (by decide), AD, AE _ (by decide), AE _ (by decide)]
        show _ = AB (AB _ 1018 _) 1009 _ 1018
        rw [AE _ (by decide), AD, hjn]
       rw [AE _ c1, AE _ c2, AE _ c3, AE _ c4, AE _ (by omega), AE _ (by omega), hS2 i hi, ← hW]
       by_cases c5 : i = 1501
       ·subst c5
        rw [AD, AD]
       by_cases c6 : i = 1502
       ·subst c6
        rw [AE _ c5, AD, AE _ c5, AD]
       rw [AE _ c5, AE _ c6, AE _ c5, AE _ c6, Bg c3 c2 c4 c1, Bg c3 c2 c4 c1]
      ·rw [Bg (by decide) (by decide) (by decide) (by decide)]
       show upS S (up1 502) = none
       rw [CR, s502]
       rfl
   ·rintro U bb rfl
    rw [MI]
    have hsy : (F2 o.length sy.2).foldl (Co a b sy.1) o = Dx a b o sy := rfl
    rw [hsy]
    obtain ⟨o3, ho3⟩ : ∃ o3, Dx a b o sy = o3 := ⟨_, rfl⟩
    rw [ho3] at hfold ⊢
    repeat' with_reducible first | refine W ?_ | refine Z0 ?_ | ((first | refine Wo fun K hK => ?_ | refine Wp ?_ | refine Wq ?_ | refine Wr ?_); (try simp only [go_sem, fN, seval, eT, iR, e22, dT, dF, nL]); (repeat refine Ai ?_); (try (refine hK _ ?_; clear hK K)); try refine iC ?_)
    refine AH ⟨syms.length - (k + 1), by omega, k + 1, by omega, rfl, ?_⟩
    rw [hfold]
    simp only [go_sem, fN, seval, AS.drop, As, AC.clears, AC.clear, AC.highs, AC.high, Bool.not_false, Bool.true_and, Bool.and_self, AV.purge, AV.purges, AC.purge, AJ.purge, List.contains_cons, List.contains_nil, Nat.reduceBEq, Bool.or_self, Bool.or_false, Bool.false_or, Bool.or_true, eT, iR, e2, e3, e4, e7, e8, e9, e20, e21, e22, s3, s4, s8, AF]
    rfl
  ·have hke : k = syms.length := by omega
   have hit : itJ a b syms (i + 1) = syms.foldl (Dx a b) o0 := by rw [← ho0]; rfl
   rw [hke, List.take_length, ← hit] at s7 s500 s18 s9
   have hpp := I1 (a := a) (b := b) (syms := syms) o0
   have hit2 : itJ a b syms (i + 1) = GQ a b syms o0 := by rw [← ho0]; rfl
   iterate 11 with_reducible first | refine W ?_ | refine Z0 ?_ | ((first | refine Wo fun K hK => ?_ | refine Wp ?_ | refine Wq ?_ | refine Wr ?_); (try simp only [go_sem, fN, seval, eT, iR, e2, e3, e4, e7, e8, e9, e22, e21, s9, hlt, dT, dF, nL]); (repeat refine Ai ?_); (try (refine hK _ ?_; clear hK K)); try refine iC ?_)
   refine W ?_
   refine Wo (fun K hK => ?_)
   (try simp only [go_sem, fN, seval, eT, iR, e9, s9])
   (repeat with_reducible refine Ai ?_)
   refine hK _ ?_
   clear hK K
   refine W ?_
   refine IWP.ghost (Aa.drop [9] _ (by decide)) ?_
   refine IWP.at_ (fun env1 S1 => env1 2 = Gc syms ∧ env1 3 = .one (.ptr 3 1 0 0) ∧ env1 4 = .one (.ptr 4 1 0 0) ∧ env1 7 = .one (.ptr 7 1 0 0) ∧ env1 8 = .one (.ptr 8 1 0 0) ∧ env1 77 = BJ (decide (o0.length < (itJ a b syms (i + 1)).length)) ∧ S1 3 = some (AF a) ∧ S1 4 = some (AF b) ∧
    S1 7 = some (.box 61 [.row 500 (itJ a b syms (i + 1)).length]) ∧ S1 500 = some (H5 (itJ a b syms (i + 1))) ∧ S1 8 = some (.box 97 [.mptr 18]) ∧ S1 18 = some (I_ (itJ a b syms (i + 1))) ∧ S1 9 = none ∧ S1 11 = none ∧ S1 501 = none ∧ S1 502 = none)
    (by simp only [go_sem, fN, seval, AS.drop, As, AC.clears, AC.clear, AC.highs, AC.high, Bool.not_false, Bool.true_and, Bool.and_self, AV.purge, AV.purges, AC.purge, AJ.purge, List.contains_cons, List.contains_nil, Nat.reduceBEq, Bool.or_self, Bool.or_false, Bool.false_or, Bool.or_true, eT, iR, e2, e3, e4, e7, e8, s3, s4, s7, s500, s8, s18, s11, s501, s502, AF]) ?_
   clear e2 e3 e4 e7 e8 e9 e20 e21 e22 s3 s4 s7 s500 s8 s18 s9 s11 s501 s502
   rintro env1 S1 ⟨e2, e3, e4, e7, e8, e77, s3, s4, s7, s500, s8, s18, s9, s11, s501, s502⟩
   repeat' with_reducible first | refine W ?_ | refine Z0 ?_ | ((first | refine Wo fun K hK => ?_ | refine Wp ?_ | refine Wq ?_ | refine Wr ?_); (try simp only [go_sem, fN, seval, eT, iR, e77, s9, dT, dF, nL]); (repeat refine Ai ?_); (try (refine hK _ ?_; clear hK K)); try refine iC ?_)
   refine AH ⟨k0 + 2 - (i + 1), by omega, i + 1, by omega, rfl, e2, e3, e4, e7, e8, rfl, by simp only [go_sem, fN, seval, eT, iR, s3], by simp only [go_sem, fN, seval, eT, iR, s4], by simp only [go_sem, fN, seval, eT, iR, s7], by simp only [go_sem, fN, seval, eT, iR, s500], by simp only [go_sem, fN, seval, eT, iR, s8], by simp only [go_sem, fN, seval, eT, iR, s18], ⟨decide (o0.length < (itJ a b syms (i + 1)).length), by simp only [go_sem, fN, seval, eT, iR], fun h => ⟨i, rfl, ?_⟩, fun h => ?_⟩, by simp only [go_sem, fN, seval, eT, iR, s11], by simp only [go_sem, fN, seval, eT, iR, s501], by simp only [go_sem, fN, seval, eT, iR, s502]⟩
   ·have h : ¬ o0.length < (itJ a b syms (i + 1)).length := by simpa using h
    rw [hit2] at h ⊢
    have := hpp.eq_of_length (by have := hpp.length_le; omega)
    rw [ho0]
    exact this.symm
   ·have h : o0.length < (itJ a b syms (i + 1)).length := by simpa using h
    rcases Nat.lt_or_ge i k0 with hlt | hge
    ·exact hlt
    ·exfalso
     have hik2 : i = k0 := by omega
     subst hik2
     rw [hst, ho0] at h
     omega

def Al (a : Au) : Bool := decide (a.states ≤ 3) && a.moves.all fun m => decide (m.frm.length ≤ 2)
def Dl (l : List Au) : Int := if l.all Al = true then 0 else 3
def Au.fin (a : Au) (x : List Bool) : Bool := a.last.any fun s => x.getD s.toNat false
theorem Jk (a : Au) (t : Tm) : a.acc t = a.fin (a.ends t) := rfl
theorem Kh {a : Au} (ga : a.Good) (x : List Bool) : (bN x &&& bN a.lastB ≠ 0) ↔ a.fin x = true := by
 unfold Au.fin
 rw [List.any_eq_true]
 constructor
 ·intro h
  obtain ⟨i, hi⟩ := Nat.exists_testBit_of_ne_zero h
  rw [Nat.testBit_and, BA, BA, Bool.and_eq_true] at hi
  have hl : i < a.states.toNat := by
   rcases Nat.lt_or_ge i a.lastB.length with q | q
   ·rwa [← a.lastB_length]
   ·have h2 := hi.2
    rw [List.getD_eq_getElem?_getD, List.getElem?_eq_none q] at h2
    cases h2
  rw [a.lastB_get i hl, List.any_eq_true] at hi
  obtain ⟨h1, s, hs, he⟩ := hi
  exact ⟨s, hs, by rw [of_decide_eq_true he]; exact h1⟩
 ·rintro ⟨s, hs, h⟩ h0
  have hb := ga.last s hs
  have := congrArg (fun n => Nat.testBit n s.toNat) h0
  simp only [Nat.testBit_and, BA, Nat.zero_testBit] at this
  rw [h, a.lastB_get _ (by omega), Bool.true_and, List.any_eq_false] at this
  exact this s hs (by simp)
inductive Jb (syms : List Sym) : Tm → Prop
 | mk {n : ByteArray} {ts : List Tm} : (n, ts.length) ∈ syms → (∀ t ∈ ts, Jb syms t) → Jb syms (.mk n ts)
section
variable {a b : Au} {syms : List Sym}
theorem QO {t : Tm} (h : Jb syms t) : Gen a b syms (a.ends t, b.ends t) := by
 induction h with
 | @mk n ts hs _ ih =>
  have := Gen.mk (a := a) (b := b) (s := (n, ts.length)) (l := ts.map fun t => (a.ends t, b.ends t)) hs (by simp) fun x hx => by
   obtain ⟨t, ht, rfl⟩ := List.mem_map.1 hx
   exact ih t ht
  have e : nxt a b n (ts.map fun t => (a.ends t, b.ends t)) = (a.ends (.mk n ts), b.ends (.mk n ts)) := by
   unfold nxt
   rw [Au.ends_eq, Au.ends_eq, Au.endsL_eq, Au.endsL_eq, List.map_map, List.map_map]
   rfl
  rw [e] at this
  exact this
theorem OJ {j : J} (h : Gen a b syms j) : ∃ t, Jb syms t ∧ j = (a.ends t, b.ends t) := by
 induction h with
 | @mk s l hs hl _ ih =>
  have : ∀ {l : List J}, (∀ x ∈ l, ∃ t, Jb syms t ∧ x = (a.ends t, b.ends t)) → ∃ ts : List Tm, ts.length = l.length ∧ (∀ t ∈ ts, Jb syms t) ∧ l = ts.map fun t => (a.ends t, b.ends t) := fun {l} => by
   induction l with
   | nil => intro _; exact ⟨[], rfl, by simp, rfl⟩
   | cons x l ih =>
    intro h
    obtain ⟨t, t1, t2⟩ := h x (by simp)
    obtain ⟨ts, q1, q2, q3⟩ := ih fun y hy => h y (by simp [hy])
    refine ⟨t :: ts, by simp [q1], fun u hu => ?_, by rw [t2, q3]; rfl⟩
    rcases List.mem_cons.1 hu with rfl | hu
    ·exact t1
    ·exact q2 u hu
  obtain ⟨ts, q1, q2, q3⟩ := this ih
  refine ⟨.mk s.1 ts, .mk (by rw [q1, hl]; exact hs) q2, ?_⟩
  unfold nxt
  rw [q3, Au.ends_eq, Au.ends_eq, Au.endsL_eq, Au.endsL_eq, List.map_map, List.map_map]
  rfl
theorem MD {bs : List (List Bool)} : ∀ {ss : List Int}, Az bs ss = true → ∀ x ∈ bs, ∃ i : Nat, x.getD i false = true := by
 induction bs with
 | nil => intro ss _ x hx; cases hx
 | cons c bs ih =>
  intro ss h x hx
  cases ss with
  | nil => simp [Az] at h
  | cons s ss =>
   simp only [Az, Bool.and_eq_true] at h
   rcases List.mem_cons.1 hx with rfl | hx
   ·exact ⟨s.toNat, h.1⟩
   ·exact ih h.2 x hx
theorem Ij (hs : ∀ m ∈ a.moves, m.sym ∈ syms) : ∀ (N : Nat) (t : Tm), SizeOf.sizeOf t < N → ∀ i, (a.ends t).getD i false = true → Jb syms t
 | 0, _, h, _, _ => by omega
 | N + 1, .mk n ts, hN, i, hi => by
  have hl : i < a.states.toNat := by
   rcases Nat.lt_or_ge i (a.ends (.mk n ts)).length with q | q
   ·rwa [← a.ends_length (.mk n ts)]
   ·rw [List.getD_eq_getElem?_getD, List.getElem?_eq_none q] at hi
    cases hi
  rw [Au.ends_get a _ i hl, List.any_eq_true] at hi
  obtain ⟨m, hm, h⟩ := hi
  simp only [Bool.and_eq_true] at h
  have hf := h.1
  unfold Mv.fits at hf
  simp only [Bool.and_eq_true, decide_eq_true_eq] at hf
  obtain ⟨rfl, hall⟩ := hf
  have hlen := Cr hall
  rw [Au.endsL_eq] at hall hlen
  refine .mk ?_ fun t ht => ?_
  ·have := hs m hm
   unfold Mv.sym at this
   rw [hlen, List.length_map] at this
   exact this
  ·obtain ⟨k, hk⟩ := MD hall (a.ends t) (List.mem_map.2 ⟨t, ht, rfl⟩)
   exact Ij hs N t (by have := Tm.lt_of_mem (n := m.name) ht; omega) k hk
theorem Oh (hs : ∀ m ∈ a.moves, m.sym ∈ syms) {t : Tm} (h : a.acc t = true) : Jb syms t := by
 unfold Au.acc at h
 obtain ⟨s, _, h⟩ := List.any_eq_true.1 h
 exact Ij hs _ t (Nat.lt_succ_self _) _ h
end
noncomputable def Cw (a b : Au) : Bool := (Bu a b (C_ [a, b])).all fun j => !(a.fin j.1 && !b.fin j.2)
theorem HD {a b : Au} (ha : Al a = true) (hb : Al b = true) : ∀ s ∈ C_ [a, b], s.2 ≤ 2 := fun s hs => by
 obtain ⟨c, hc, m, hm, rfl⟩ := HB.1 hs
 unfold Al at ha hb
 simp only [Bool.and_eq_true, List.all_eq_true, decide_eq_true_eq] at ha hb
 simp only [List.mem_cons, List.not_mem_nil, or_false] at hc
 rcases hc with rfl | rfl
 ·exact ha.2 m hm
 ·exact hb.2 m hm
theorem A0 {a : Au} (ha : Al a = true) : a.states ≤ 3 := by
 unfold Al at ha
 simp only [Bool.and_eq_true, decide_eq_true_eq] at ha
 exact ha.1
theorem CW {a b : Au} (ha : Al a = true) (hb : Al b = true) : Cw a b = true ↔ ∀ t, a.acc t = true → b.acc t = true := by
 have h2 := HD ha hb
 unfold Cw
 rw [List.all_eq_true]
 constructor
 ·intro h t ht
  have ho : Jb (C_ [a, b]) t := Oh (fun m hm => HB.2 ⟨a, by simp, m, hm, rfl⟩) ht
  have := h _ ((Hl h2 (A0 ha) (A0 hb)).2 (QO ho))
  rw [Jk] at ht ⊢
  simpa [ht] using this
 ·intro h j hj
  obtain ⟨t, _, rfl⟩ := OJ ((Hl h2 (A0 ha) (A0 hb)).1 hj)
  have := h t
  rw [Jk, Jk] at this
  cases hx : a.fin (a.ends t)
  ·simp
  ·simp [this hx]

end Go.Proofs.Ytkegjgodjigjfaa
